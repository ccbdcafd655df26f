/- AirTables: for every input the law returns true, and each argument reads afterwards as it read before. No condition. -/
import Derived.Test.YtlddakefmfcblaaGreatDoorEc4
set_option linter.unusedVariables false
set_option linter.unusedSimpArgs false
set_option linter.unusedSectionVars false
namespace Go.Proofs.YtlddakefmfcblaaGreatDoor
open Go.Proofs
def law01_awake (N : Nat)  : Option Bool :=
 ((air_Split N ([71, 51, 47, 77, 48, 65, 66, 47, 80] : List UInt8)).bind fun r1 => ((air_PrefixOf N ([87, 49, 65, 87, 47, 52] : List UInt8)).bind fun r14 => ((air_PrintTime N 1505).bind fun r22 => ((air_ParseTime N ([50, 32, 48, 49, 48, 53] : List UInt8)).bind fun r30 => ((air_Nearest N ([({ ID := 1, Lo := 1800, Hi := 2000 } : Band), ({ ID := 2, Lo := 3500, Hi := 3800 } : Band)]) 2750).bind fun r47 => ((bif (r1.2 == 0) then (bif ((r1.1.Area == ([71, 51] : List UInt8)) && ((r1.1.Prefix == ([77, 48] : List UInt8)) && ((r1.1.Suffix == ([65, 66] : List UInt8)) && ((r1.1.Stroke == ([80] : List UInt8)) && true)))) then (bif (r14.2 == 0) then (bif (r14.1 == ([87, 52] : List UInt8)) then (bif (r22.2 == 0) then (bif (r22.1 == ([50, 32, 48, 49, 48, 53] : List UInt8)) then (bif (r30.2 == 0) then (bif (r30.1 == 1505) then (bif (r47.2.2 == 0) then (bif (r47.1 == 1) then (bif (r47.2.1 == 750) then ((air_ValidCall N ([68, 76, 49, 65, 47, 87, 49, 65] : List UInt8)).bind fun r85 => some (!r85)) else some false) else some false) else some false) else some false) else some false) else some false) else some false) else some false) else some false) else some false) else some false).bind fun j58 => some j58))))))
theorem co_law01_awake : CallOk Tryz.prog 17 := fun _ _ => by kernel_rfl
set_option maxHeartbeats 4000000 in
set_option maxRecDepth 100000 in
theorem c_law01_awake (N : Nat) (w0 : World) (F0 : Mem) (hF : ∀ b o, F0 b = some o → w0.heap[b]? = some o) (hG : Glob F0)  (r : Bool) (h : law01_awake N  = some r) :
  Calls Tryz.prog 17 ([] : List Value).toArray w0 (FRet w0 F0 fun F' v => v = (.bool r)) := by
 have hs0 := HS.start hF
 refine calls_of (n := 85) (c := bodyOf Tryz.f17) Tryz.func17 (by kernel_rfl) (by kernel_rfl) (by kernel_rfl) ?_
 refine Sq (Rg [0] ?_)
 refine V 0 4 (mc (.bool false) (.bool false)) ?_
 refine Nss (Rg [0, 1, 2, 3, 4, 5, 6] ?_)
 obtain ⟨r1, hr2, h3⟩ := bind_some h
 refine Cl 14 28 19 #[(.const (.string ⟨([71, 51, 47, 77, 48, 65, 66, 47, 80] : List UInt8).toArray⟩))] #[9] co_air_Split hs0 (c_air_Split N w0 F0 hs0.pers hG (([71, 51, 47, 77, 48, 65, 66, 47, 80] : List UInt8)) _ hr2) ?_
 intro v4 F1 w5 hs6 le7 hp8
 obtain rfl := hp8
 refine V 13 28 (mv 14 (.tuple #[(.agg #[(.string ⟨(r1.1.Area).toArray⟩), (.string ⟨(r1.1.Prefix).toArray⟩), (.string ⟨(r1.1.Suffix).toArray⟩), (.string ⟨(r1.1.Stroke).toArray⟩)]), (vi r1.2)])) ?_
 refine V 15 27 (ex 13 0 (.agg #[(.string ⟨(r1.1.Area).toArray⟩), (.string ⟨(r1.1.Prefix).toArray⟩), (.string ⟨(r1.1.Suffix).toArray⟩), (.string ⟨(r1.1.Stroke).toArray⟩)]) (vs := #[(.agg #[(.string ⟨(r1.1.Area).toArray⟩), (.string ⟨(r1.1.Prefix).toArray⟩), (.string ⟨(r1.1.Suffix).toArray⟩), (.string ⟨(r1.1.Stroke).toArray⟩)]), (vi r1.2)])) ?_
 refine V 16 23 (ex 13 1 (vi r1.2) (vs := #[(.agg #[(.string ⟨(r1.1.Area).toArray⟩), (.string ⟨(r1.1.Prefix).toArray⟩), (.string ⟨(r1.1.Suffix).toArray⟩), (.string ⟨(r1.1.Stroke).toArray⟩)]), (vi r1.2)])) ?_
 refine Al 1 0 27 #[(.string ⟨(([] : List UInt8)).toArray⟩), (.string ⟨(([] : List UInt8)).toArray⟩), (.string ⟨(([] : List UInt8)).toArray⟩), (.string ⟨(([] : List UInt8)).toArray⟩)] hs6 (fun b9 w10 (hs11 : HS w0 F0 w10 F1 [(sb b9 #[(.string ⟨(([] : List UInt8)).toArray⟩), (.string ⟨(([] : List UInt8)).toArray⟩), (.string ⟨(([] : List UInt8)).toArray⟩), (.string ⟨(([] : List UInt8)).toArray⟩)] 27)]) => ?_)
 refine RWP.store (ty := 0) (g := none) (by kernel_rfl) rfl (x := (.tmp 1)) (y := (.tmp 15)) (t := 27) (gg := true) (s := 4) (v := (.agg #[(.string ⟨(r1.1.Area).toArray⟩), (.string ⟨(r1.1.Prefix).toArray⟩), (.string ⟨(r1.1.Suffix).toArray⟩), (.string ⟨(r1.1.Stroke).toArray⟩)])) (b := b9) (o := 0) (C := #[(.string ⟨(([] : List UInt8)).toArray⟩), (.string ⟨(([] : List UInt8)).toArray⟩), (.string ⟨(([] : List UInt8)).toArray⟩), (.string ⟨(([] : List UInt8)).toArray⟩)]) rfl rfl (by kernel_rfl) hs11 (k := 0) rfl rfl rfl rfl (C' := #[(.string ⟨(r1.1.Area).toArray⟩), (.string ⟨(r1.1.Prefix).toArray⟩), (.string ⟨(r1.1.Suffix).toArray⟩), (.string ⟨(r1.1.Stroke).toArray⟩)]) rfl (fun w12 (hs13 : HS w0 F0 w12 F1 [(sb b9 #[(.string ⟨(r1.1.Area).toArray⟩), (.string ⟨(r1.1.Prefix).toArray⟩), (.string ⟨(r1.1.Suffix).toArray⟩), (.string ⟨(r1.1.Stroke).toArray⟩)] 27)]) => ?_)
 refine V 2 23 (ma 16 (vi r1.2)) ?_
 refine Nss (Rg [0, 1, 2, 3, 4, 5] ?_)
 obtain ⟨r14, hr15, h16⟩ := bind_some h3
 refine Cl 18 24 18 #[(.const (.string ⟨([87, 49, 65, 87, 47, 52] : List UInt8).toArray⟩))] #[9] co_air_PrefixOf hs13 (c_air_PrefixOf N w12 F1 hs13.pers (hG.mono le7) (([87, 49, 65, 87, 47, 52] : List UInt8)) _ hr15) ?_
 intro v17 F2 w18 hs19 le20 hp21
 obtain rfl := hp21
 refine V 17 24 (mv 18 (.tuple #[(.string ⟨(r14.1).toArray⟩), (vi r14.2)])) ?_
 refine V 19 9 (ex 17 0 (.string ⟨(r14.1).toArray⟩) (vs := #[(.string ⟨(r14.1).toArray⟩), (vi r14.2)])) ?_
 refine V 20 23 (ex 17 1 (vi r14.2) (vs := #[(.string ⟨(r14.1).toArray⟩), (vi r14.2)])) ?_
 refine V 3 9 (ma 19 (.string ⟨(r14.1).toArray⟩)) ?_
 refine V 4 23 (ma 20 (vi r14.2)) ?_
 refine Nss (Rg [0, 1, 2, 3, 4, 5] ?_)
 obtain ⟨r22, hr23, h24⟩ := bind_some h16
 refine Cl 22 24 28 #[(.const (vi 1505))] #[3] co_air_PrintTime hs19 (c_air_PrintTime N w18 F2 hs19.pers (hG.mono (le7.trans le20)) (1505) _ hr23) ?_
 intro v25 F3 w26 hs27 le28 hp29
 obtain rfl := hp29
 refine V 21 24 (mv 22 (.tuple #[(.string ⟨(r22.1).toArray⟩), (vi r22.2)])) ?_
 refine V 23 9 (ex 21 0 (.string ⟨(r22.1).toArray⟩) (vs := #[(.string ⟨(r22.1).toArray⟩), (vi r22.2)])) ?_
 refine V 24 23 (ex 21 1 (vi r22.2) (vs := #[(.string ⟨(r22.1).toArray⟩), (vi r22.2)])) ?_
 refine V 5 9 (ma 23 (.string ⟨(r22.1).toArray⟩)) ?_
 refine V 6 23 (ma 24 (vi r22.2)) ?_
 refine Nss (Rg [0, 1, 2, 3, 4, 5] ?_)
 obtain ⟨r30, hr31, h32⟩ := bind_some h24
 refine Cl 26 33 30 #[(.const (.string ⟨([50, 32, 48, 49, 48, 53] : List UInt8).toArray⟩))] #[9] co_air_ParseTime hs27 (c_air_ParseTime N w26 F3 hs27.pers (hG.mono ((le7.trans le20).trans le28)) (([50, 32, 48, 49, 48, 53] : List UInt8)) _ hr31) ?_
 intro v33 F4 w34 hs35 le36 hp37
 obtain rfl := hp37
 refine V 25 33 (mv 26 (.tuple #[(vi r30.1), (vi r30.2)])) ?_
 refine V 27 3 (ex 25 0 (vi r30.1) (vs := #[(vi r30.1), (vi r30.2)])) ?_
 refine V 28 23 (ex 25 1 (vi r30.2) (vs := #[(vi r30.1), (vi r30.2)])) ?_
 refine V 7 3 (ma 27 (vi r30.1)) ?_
 refine V 8 23 (ma 28 (vi r30.2)) ?_
 refine Nss (Rg [0, 1, 2, 3] ?_)
 refine V 29 40 (run_build2 (t := 40) (parts := #[(0, (.const (vi 1))), (1, (.const (vi 1800))), (2, (.const (vi 2000)))]) (vs := [(0, (vi 1)), (1, (vi 1800)), (2, (vi 2000))]) (rfl) (cs := [(vi 1), (vi 1800), (vi 2000)]) (by kernel_rfl)) ?_
 refine V 30 40 (run_build2 (t := 40) (parts := #[(0, (.const (vi 2))), (1, (.const (vi 3500))), (2, (.const (vi 3800)))]) (vs := [(0, (vi 2)), (1, (vi 3500)), (2, (vi 3800))]) (rfl) (cs := [(vi 2), (vi 3500), (vi 3800)]) (by kernel_rfl)) ?_
 refine RWP.buildSlice (dst := (some 31)) (ty := 32) (g := none) (by kernel_rfl) rfl (t := 32) (len := 2) (parts := #[(0, (.tmp 29)), (1, (.tmp 30))]) (vs := [(0, (.agg #[(vi 1), (vi 1800), (vi 2000)])), (1, (.agg #[(vi 2), (vi 3500), (vi 3800)]))]) (rfl) (E := 40) (cs := [(vi 1), (vi 1800), (vi 2000), (vi 2), (vi 3500), (vi 3800)]) (by kernel_rfl) hs35 (fun b38 w39 (hs40 : HS w0 F0 w39 F4 [(some b38, .cells ([(vi 1), (vi 1800), (vi 2000), (vi 2), (vi 3500), (vi 3800)] : List Value).toArray 40 (0, 0)), (sb b9 #[(.string ⟨(r1.1.Area).toArray⟩), (.string ⟨(r1.1.Prefix).toArray⟩), (.string ⟨(r1.1.Suffix).toArray⟩), (.string ⟨(r1.1.Stroke).toArray⟩)] 27)]) => ?_)
 have hr42 : RowR tBand 40 F4 (some ⟨b38, 0, none⟩) 2 [({ ID := 1, Lo := 1800, Hi := 2000 } : Band), ({ ID := 2, Lo := 3500, Hi := 3800 } : Band)] (some b38, .cells ([(vi 1), (vi 1800), (vi 2000), (vi 2), (vi 3500), (vi 3800)] : List Value).toArray 40 (0, 0)) := RowR.lit ⟨rfl, ⟨rfl, rfl⟩⟩ (by simp)
 refine V 9 32 (ma 31 (.slice (some ⟨b38, 0, none⟩) [({ ID := 1, Lo := 1800, Hi := 2000 } : Band), ({ ID := 2, Lo := 3500, Hi := 3800 } : Band)].length 2)) ?_
 refine Nss (Rg [0, 1, 2, 3, 4, 5, 6, 7, 8] ?_)
 refine V 33 32 (mv 9 (.slice (some ⟨b38, 0, none⟩) [({ ID := 1, Lo := 1800, Hi := 2000 } : Band), ({ ID := 2, Lo := 3500, Hi := 3800 } : Band)].length 2)) ?_
 have hb46 := RowR.bound hr42
 obtain ⟨F5, hs43, le44, hs45⟩ : ∃ Fq, HS w0 F0 w39 Fq [(sb b9 #[(.string ⟨(r1.1.Area).toArray⟩), (.string ⟨(r1.1.Prefix).toArray⟩), (.string ⟨(r1.1.Suffix).toArray⟩), (.string ⟨(r1.1.Stroke).toArray⟩)] 27)] ∧ Mem.le F4 Fq ∧ SlA tBand Fq (some ⟨b38, 0, none⟩) [({ ID := 1, Lo := 1800, Hi := 2000 } : Band), ({ ID := 2, Lo := 3500, Hi := 3800 } : Band)] := HS.freezeRow hs40 (k := 0) rfl hr42
 obtain ⟨r47, hr48, h49⟩ := bind_some h32
 refine Cl 34 35 24 #[(.tmp 33), (.const (vi 2750))] #[32, 3] co_air_Nearest hs43 (c_air_Nearest N w39 F5 hs43.pers ([({ ID := 1, Lo := 1800, Hi := 2000 } : Band), ({ ID := 2, Lo := 3500, Hi := 3800 } : Band)]) (some ⟨b38, 0, none⟩) 2 hb46 hs45 (2750) _ hr48) ?_
 intro v50 F6 w51 hs52 le53 hp54
 obtain rfl := hp54
 refine V 32 35 (mv 34 (.tuple #[(vi r47.1), (vi r47.2.1), (vi r47.2.2)])) ?_
 refine V 35 3 (ex 32 0 (vi r47.1) (vs := #[(vi r47.1), (vi r47.2.1), (vi r47.2.2)])) ?_
 refine V 36 3 (ex 32 1 (vi r47.2.1) (vs := #[(vi r47.1), (vi r47.2.1), (vi r47.2.2)])) ?_
 refine V 37 23 (ex 32 2 (vi r47.2.2) (vs := #[(vi r47.1), (vi r47.2.1), (vi r47.2.2)])) ?_
 refine V 10 3 (ma 35 (vi r47.1)) ?_
 refine V 11 3 (ma 36 (vi r47.2.1)) ?_
 refine V 12 23 (ma 37 (vi r47.2.2)) ?_
 refine Nss (Rg [0, 1, 2, 3, 4, 5, 6, 7, 8, 9, 10, 11, 12, 13, 14, 15, 16, 17, 18, 19, 20, 21, 22, 23, 24, 25, 26, 27, 28, 29, 30, 31, 32, 33, 34, 35, 36, 37, 38, 39, 40, 41, 42, 43, 44, 45, 46, 47] ?_)
 obtain ⟨j58, hj61, h62⟩ := bind_some h49
 refine RWP.cut (fun f w => ∃ (F7 : Mem), HS w0 F0 w F7 [] ∧ Mem.le F6 F7 ∧ f.d = [] ∧ f 0 = (.bool j58)) ?_ ?_
 ·refine V 38 23 (mv 2 (vi r1.2)) ?_
  refine V 39 4 (run_eql (t := 23) (t' := 23) (x := (.tmp 38)) (y := (.const (vi 0))) (k := .i64) (a := r1.2) (b := 0) rfl rfl) ?_
  refine V 40 4 (mv 39 (.bool (r1.2 == 0))) ?_
  refine RWP.split (r1.2 == 0) (fun hb63 => ?_) (fun hb63 => ?_)
  ·have h64 := cond_t hj61 hb63
   refine Vg 41 27 2 true 40 hb63 (ld 27 1 b9 0 true 4 (.agg #[(.string ⟨(r1.1.Area).toArray⟩), (.string ⟨(r1.1.Prefix).toArray⟩), (.string ⟨(r1.1.Suffix).toArray⟩), (.string ⟨(r1.1.Stroke).toArray⟩)]) (hs52.ownAt (k := 0) rfl)) ?_
   refine Vg 42 27 2 true 40 hb63 (run_build2 (t := 27) (parts := #[(0, (.const (.string ⟨([71, 51] : List UInt8).toArray⟩))), (1, (.const (.string ⟨([77, 48] : List UInt8).toArray⟩))), (2, (.const (.string ⟨([65, 66] : List UInt8).toArray⟩))), (3, (.const (.string ⟨([80] : List UInt8).toArray⟩)))]) (vs := [(0, (.string ⟨(([71, 51] : List UInt8)).toArray⟩)), (1, (.string ⟨(([77, 48] : List UInt8)).toArray⟩)), (2, (.string ⟨(([65, 66] : List UInt8)).toArray⟩)), (3, (.string ⟨(([80] : List UInt8)).toArray⟩))]) (rfl) (cs := [(.string ⟨(([71, 51] : List UInt8)).toArray⟩), (.string ⟨(([77, 48] : List UInt8)).toArray⟩), (.string ⟨(([65, 66] : List UInt8)).toArray⟩), (.string ⟨(([80] : List UInt8)).toArray⟩)]) (by kernel_rfl)) ?_
   refine Vg 43 4 2 true 40 hb63 (run_eqs (t := 27) (t' := 27) (x := (.tmp 41)) (y := (.tmp 42)) (xs := #[(.string ⟨(r1.1.Area).toArray⟩), (.string ⟨(r1.1.Prefix).toArray⟩), (.string ⟨(r1.1.Suffix).toArray⟩), (.string ⟨(r1.1.Stroke).toArray⟩)]) (ys := #[(.string ⟨(([71, 51] : List UInt8)).toArray⟩), (.string ⟨(([77, 48] : List UInt8)).toArray⟩), (.string ⟨(([65, 66] : List UInt8)).toArray⟩), (.string ⟨(([80] : List UInt8)).toArray⟩)]) (b := ((r1.1.Area == ([71, 51] : List UInt8)) && ((r1.1.Prefix == ([77, 48] : List UInt8)) && ((r1.1.Suffix == ([65, 66] : List UInt8)) && ((r1.1.Stroke == ([80] : List UInt8)) && true))))) rfl rfl (by kernel_rfl) (by kernel_rfl)) ?_
   refine V 44 4 (p1 40 (.tmp 43) (.const (.bool false)) (.bool ((r1.1.Area == ([71, 51] : List UInt8)) && ((r1.1.Prefix == ([77, 48] : List UInt8)) && ((r1.1.Suffix == ([65, 66] : List UInt8)) && ((r1.1.Stroke == ([80] : List UInt8)) && true))))) hb63) ?_
   refine V 45 4 (mv 44 (.bool ((r1.1.Area == ([71, 51] : List UInt8)) && ((r1.1.Prefix == ([77, 48] : List UInt8)) && ((r1.1.Suffix == ([65, 66] : List UInt8)) && ((r1.1.Stroke == ([80] : List UInt8)) && true)))))) ?_
   refine RWP.split ((r1.1.Area == ([71, 51] : List UInt8)) && ((r1.1.Prefix == ([77, 48] : List UInt8)) && ((r1.1.Suffix == ([65, 66] : List UInt8)) && ((r1.1.Stroke == ([80] : List UInt8)) && true)))) (fun hb65 => ?_) (fun hb65 => ?_)
   ·have h66 := cond_t h64 hb65
    refine Vg 46 23 7 true 45 hb65 (mv 4 (vi r14.2)) ?_
    refine Vg 47 4 7 true 45 hb65 (run_eql (t := 23) (t' := 23) (x := (.tmp 46)) (y := (.const (vi 0))) (k := .i64) (a := r14.2) (b := 0) rfl rfl) ?_
    refine V 48 4 (p1 45 (.tmp 47) (.const (.bool false)) (.bool (r14.2 == 0)) hb65) ?_
    refine V 49 4 (mv 48 (.bool (r14.2 == 0))) ?_
    refine RWP.split (r14.2 == 0) (fun hb67 => ?_) (fun hb67 => ?_)
    ·have h68 := cond_t h66 hb67
     refine Vg 50 9 11 true 49 hb67 (mv 3 (.string ⟨(r14.1).toArray⟩)) ?_
     refine Vg 51 4 11 true 49 hb67 (run_scmp (t := 9) (t' := 9) (x := (.tmp 50)) (y := (.const (.string ⟨([87, 52] : List UInt8).toArray⟩))) (op := .eql) (a := r14.1) (b := ([87, 52] : List UInt8)) (v := (r14.1 == ([87, 52] : List UInt8))) rfl rfl rfl) ?_
     refine V 52 4 (p1 49 (.tmp 51) (.const (.bool false)) (.bool (r14.1 == ([87, 52] : List UInt8))) hb67) ?_
     refine V 53 4 (mv 52 (.bool (r14.1 == ([87, 52] : List UInt8)))) ?_
     refine RWP.split (r14.1 == ([87, 52] : List UInt8)) (fun hb69 => ?_) (fun hb69 => ?_)
     ·have h70 := cond_t h68 hb69
      refine Vg 54 23 15 true 53 hb69 (mv 6 (vi r22.2)) ?_
      refine Vg 55 4 15 true 53 hb69 (run_eql (t := 23) (t' := 23) (x := (.tmp 54)) (y := (.const (vi 0))) (k := .i64) (a := r22.2) (b := 0) rfl rfl) ?_
      refine V 56 4 (p1 53 (.tmp 55) (.const (.bool false)) (.bool (r22.2 == 0)) hb69) ?_
      refine V 57 4 (mv 56 (.bool (r22.2 == 0))) ?_
      refine RWP.split (r22.2 == 0) (fun hb71 => ?_) (fun hb71 => ?_)
      ·have h72 := cond_t h70 hb71
       refine Vg 58 9 19 true 57 hb71 (mv 5 (.string ⟨(r22.1).toArray⟩)) ?_
       refine Vg 59 4 19 true 57 hb71 (run_scmp (t := 9) (t' := 9) (x := (.tmp 58)) (y := (.const (.string ⟨([50, 32, 48, 49, 48, 53] : List UInt8).toArray⟩))) (op := .eql) (a := r22.1) (b := ([50, 32, 48, 49, 48, 53] : List UInt8)) (v := (r22.1 == ([50, 32, 48, 49, 48, 53] : List UInt8))) rfl rfl rfl) ?_
       refine V 60 4 (p1 57 (.tmp 59) (.const (.bool false)) (.bool (r22.1 == ([50, 32, 48, 49, 48, 53] : List UInt8))) hb71) ?_
       refine V 61 4 (mv 60 (.bool (r22.1 == ([50, 32, 48, 49, 48, 53] : List UInt8)))) ?_
       refine RWP.split (r22.1 == ([50, 32, 48, 49, 48, 53] : List UInt8)) (fun hb73 => ?_) (fun hb73 => ?_)
       ·have h74 := cond_t h72 hb73
        refine Vg 62 23 23 true 61 hb73 (mv 8 (vi r30.2)) ?_
        refine Vg 63 4 23 true 61 hb73 (run_eql (t := 23) (t' := 23) (x := (.tmp 62)) (y := (.const (vi 0))) (k := .i64) (a := r30.2) (b := 0) rfl rfl) ?_
        refine V 64 4 (p1 61 (.tmp 63) (.const (.bool false)) (.bool (r30.2 == 0)) hb73) ?_
        refine V 65 4 (mv 64 (.bool (r30.2 == 0))) ?_
        refine RWP.split (r30.2 == 0) (fun hb75 => ?_) (fun hb75 => ?_)
        ·have h76 := cond_t h74 hb75
         refine Vg 66 3 27 true 65 hb75 (mv 7 (vi r30.1)) ?_
         refine Vg 67 4 27 true 65 hb75 (run_eql (t := 3) (t' := 3) (x := (.tmp 66)) (y := (.const (vi 1505))) (k := .i64) (a := r30.1) (b := 1505) rfl rfl) ?_
         refine V 68 4 (p1 65 (.tmp 67) (.const (.bool false)) (.bool (r30.1 == 1505)) hb75) ?_
         refine V 69 4 (mv 68 (.bool (r30.1 == 1505))) ?_
         refine RWP.split (r30.1 == 1505) (fun hb77 => ?_) (fun hb77 => ?_)
         ·have h78 := cond_t h76 hb77
          refine Vg 70 23 31 true 69 hb77 (mv 12 (vi r47.2.2)) ?_
          refine Vg 71 4 31 true 69 hb77 (run_eql (t := 23) (t' := 23) (x := (.tmp 70)) (y := (.const (vi 0))) (k := .i64) (a := r47.2.2) (b := 0) rfl rfl) ?_
          refine V 72 4 (p1 69 (.tmp 71) (.const (.bool false)) (.bool (r47.2.2 == 0)) hb77) ?_
          refine V 73 4 (mv 72 (.bool (r47.2.2 == 0))) ?_
          refine RWP.split (r47.2.2 == 0) (fun hb79 => ?_) (fun hb79 => ?_)
          ·have h80 := cond_t h78 hb79
           refine Vg 74 3 35 true 73 hb79 (mv 10 (vi r47.1)) ?_
           refine Vg 75 4 35 true 73 hb79 (run_eql (t := 3) (t' := 3) (x := (.tmp 74)) (y := (.const (vi 1))) (k := .i64) (a := r47.1) (b := 1) rfl rfl) ?_
           refine V 76 4 (p1 73 (.tmp 75) (.const (.bool false)) (.bool (r47.1 == 1)) hb79) ?_
           refine V 77 4 (mv 76 (.bool (r47.1 == 1))) ?_
           refine RWP.split (r47.1 == 1) (fun hb81 => ?_) (fun hb81 => ?_)
           ·have h82 := cond_t h80 hb81
            refine Vg 78 3 39 true 77 hb81 (mv 11 (vi r47.2.1)) ?_
            refine Vg 79 4 39 true 77 hb81 (run_eql (t := 3) (t' := 3) (x := (.tmp 78)) (y := (.const (vi 750))) (k := .i64) (a := r47.2.1) (b := 750) rfl rfl) ?_
            refine V 80 4 (p1 77 (.tmp 79) (.const (.bool false)) (.bool (r47.2.1 == 750)) hb81) ?_
            refine V 81 4 (mv 80 (.bool (r47.2.1 == 750))) ?_
            refine RWP.split (r47.2.1 == 750) (fun hb83 => ?_) (fun hb83 => ?_)
            ·have h84 := cond_t h82 hb83
             obtain ⟨r85, hr86, h87⟩ := bind_some h84
             refine RWP.call (dst := (some 82)) (ty := 4) (g := (some (43, true))) (by kernel_rfl) (gd_y (d := 81) (by kernel_rfl) rfl hb83) (f0 := (.func 37)) (aos := #[(.const (.string ⟨([68, 76, 49, 65, 47, 87, 49, 65] : List UInt8).toArray⟩))]) (ats := #[9]) (fid := 37) (first := #[]) (cap := #[]) (args := [(.string ⟨(([68, 76, 49, 65, 47, 87, 49, 65] : List UInt8)).toArray⟩)]) rfl co_air_ValidCall (rfl) hs52 (c_air_ValidCall N w51 F6 hs52.pers (hG.mono (((((le7.trans le20).trans le28).trans le36).trans le44).trans le53)) (([68, 76, 49, 65, 47, 87, 49, 65] : List UInt8)) _ hr86) ?_
             intro v88 F8 w89 hs90 le91 hp92
             obtain rfl := hp92
             refine Vg 83 4 43 true 81 hb83 (run_not (t := 4) (x := (.tmp 82)) (a := r85) rfl) ?_
             refine V 84 4 (p1 81 (.tmp 83) (.const (.bool false)) (.bool (!r85)) hb83) ?_
             refine V 0 4 (ma 84 (.bool (!r85))) ?_
             obtain rfl := some_inj h87
             have hs93 : HS w0 F0 w89 F8 [] := hs90.drop 0
             exact RWP.nil ⟨rfl, F8, hs93, le91, rfl, rfl⟩
            ·have h94 := cond_f h82 hb83
             refine Sk [82, 83] 43 true 81 hb83 ?_
             refine V 84 4 (p0 81 (.tmp 83) (.const (.bool false)) (.bool false) hb83) ?_
             refine V 0 4 (ma 84 (.bool false)) ?_
             obtain rfl := some_inj h94
             have hs95 : HS w0 F0 w51 F6 [] := hs52.drop 0
             exact RWP.nil ⟨rfl, F6, hs95, (Mem.le.refl _), rfl, rfl⟩
           ·have h96 := cond_f h80 hb81
            refine Sk [78, 79] 39 true 77 hb81 ?_
            refine V 80 4 (p0 77 (.tmp 79) (.const (.bool false)) (.bool false) hb81) ?_
            refine V 81 4 (mv 80 (.bool false)) ?_
            refine Sk [82, 83] 43 true 81 rfl ?_
            refine V 84 4 (p0 81 (.tmp 83) (.const (.bool false)) (.bool false) rfl) ?_
            refine V 0 4 (ma 84 (.bool false)) ?_
            obtain rfl := some_inj h96
            have hs97 : HS w0 F0 w51 F6 [] := hs52.drop 0
            exact RWP.nil ⟨rfl, F6, hs97, (Mem.le.refl _), rfl, rfl⟩
          ·have h98 := cond_f h78 hb79
           refine Sk [74, 75] 35 true 73 hb79 ?_
           refine V 76 4 (p0 73 (.tmp 75) (.const (.bool false)) (.bool false) hb79) ?_
           refine V 77 4 (mv 76 (.bool false)) ?_
           refine Sk [78, 79] 39 true 77 rfl ?_
           refine V 80 4 (p0 77 (.tmp 79) (.const (.bool false)) (.bool false) rfl) ?_
           refine V 81 4 (mv 80 (.bool false)) ?_
           refine Sk [82, 83] 43 true 81 rfl ?_
           refine V 84 4 (p0 81 (.tmp 83) (.const (.bool false)) (.bool false) rfl) ?_
           refine V 0 4 (ma 84 (.bool false)) ?_
           obtain rfl := some_inj h98
           have hs99 : HS w0 F0 w51 F6 [] := hs52.drop 0
           exact RWP.nil ⟨rfl, F6, hs99, (Mem.le.refl _), rfl, rfl⟩
         ·have h100 := cond_f h76 hb77
          refine Sk [70, 71] 31 true 69 hb77 ?_
          refine V 72 4 (p0 69 (.tmp 71) (.const (.bool false)) (.bool false) hb77) ?_
          refine V 73 4 (mv 72 (.bool false)) ?_
          refine Sk [74, 75] 35 true 73 rfl ?_
          refine V 76 4 (p0 73 (.tmp 75) (.const (.bool false)) (.bool false) rfl) ?_
          refine V 77 4 (mv 76 (.bool false)) ?_
          refine Sk [78, 79] 39 true 77 rfl ?_
          refine V 80 4 (p0 77 (.tmp 79) (.const (.bool false)) (.bool false) rfl) ?_
          refine V 81 4 (mv 80 (.bool false)) ?_
          refine Sk [82, 83] 43 true 81 rfl ?_
          refine V 84 4 (p0 81 (.tmp 83) (.const (.bool false)) (.bool false) rfl) ?_
          refine V 0 4 (ma 84 (.bool false)) ?_
          obtain rfl := some_inj h100
          have hs101 : HS w0 F0 w51 F6 [] := hs52.drop 0
          exact RWP.nil ⟨rfl, F6, hs101, (Mem.le.refl _), rfl, rfl⟩
        ·have h102 := cond_f h74 hb75
         refine Sk [66, 67] 27 true 65 hb75 ?_
         refine V 68 4 (p0 65 (.tmp 67) (.const (.bool false)) (.bool false) hb75) ?_
         refine V 69 4 (mv 68 (.bool false)) ?_
         refine Sk [70, 71] 31 true 69 rfl ?_
         refine V 72 4 (p0 69 (.tmp 71) (.const (.bool false)) (.bool false) rfl) ?_
         refine V 73 4 (mv 72 (.bool false)) ?_
         refine Sk [74, 75] 35 true 73 rfl ?_
         refine V 76 4 (p0 73 (.tmp 75) (.const (.bool false)) (.bool false) rfl) ?_
         refine V 77 4 (mv 76 (.bool false)) ?_
         refine Sk [78, 79] 39 true 77 rfl ?_
         refine V 80 4 (p0 77 (.tmp 79) (.const (.bool false)) (.bool false) rfl) ?_
         refine V 81 4 (mv 80 (.bool false)) ?_
         refine Sk [82, 83] 43 true 81 rfl ?_
         refine V 84 4 (p0 81 (.tmp 83) (.const (.bool false)) (.bool false) rfl) ?_
         refine V 0 4 (ma 84 (.bool false)) ?_
         obtain rfl := some_inj h102
         have hs103 : HS w0 F0 w51 F6 [] := hs52.drop 0
         exact RWP.nil ⟨rfl, F6, hs103, (Mem.le.refl _), rfl, rfl⟩
       ·have h104 := cond_f h72 hb73
        refine Sk [62, 63] 23 true 61 hb73 ?_
        refine V 64 4 (p0 61 (.tmp 63) (.const (.bool false)) (.bool false) hb73) ?_
        refine V 65 4 (mv 64 (.bool false)) ?_
        refine Sk [66, 67] 27 true 65 rfl ?_
        refine V 68 4 (p0 65 (.tmp 67) (.const (.bool false)) (.bool false) rfl) ?_
        refine V 69 4 (mv 68 (.bool false)) ?_
        refine Sk [70, 71] 31 true 69 rfl ?_
        refine V 72 4 (p0 69 (.tmp 71) (.const (.bool false)) (.bool false) rfl) ?_
        refine V 73 4 (mv 72 (.bool false)) ?_
        refine Sk [74, 75] 35 true 73 rfl ?_
        refine V 76 4 (p0 73 (.tmp 75) (.const (.bool false)) (.bool false) rfl) ?_
        refine V 77 4 (mv 76 (.bool false)) ?_
        refine Sk [78, 79] 39 true 77 rfl ?_
        refine V 80 4 (p0 77 (.tmp 79) (.const (.bool false)) (.bool false) rfl) ?_
        refine V 81 4 (mv 80 (.bool false)) ?_
        refine Sk [82, 83] 43 true 81 rfl ?_
        refine V 84 4 (p0 81 (.tmp 83) (.const (.bool false)) (.bool false) rfl) ?_
        refine V 0 4 (ma 84 (.bool false)) ?_
        obtain rfl := some_inj h104
        have hs105 : HS w0 F0 w51 F6 [] := hs52.drop 0
        exact RWP.nil ⟨rfl, F6, hs105, (Mem.le.refl _), rfl, rfl⟩
      ·have h106 := cond_f h70 hb71
       refine Sk [58, 59] 19 true 57 hb71 ?_
       refine V 60 4 (p0 57 (.tmp 59) (.const (.bool false)) (.bool false) hb71) ?_
       refine V 61 4 (mv 60 (.bool false)) ?_
       refine Sk [62, 63] 23 true 61 rfl ?_
       refine V 64 4 (p0 61 (.tmp 63) (.const (.bool false)) (.bool false) rfl) ?_
       refine V 65 4 (mv 64 (.bool false)) ?_
       refine Sk [66, 67] 27 true 65 rfl ?_
       refine V 68 4 (p0 65 (.tmp 67) (.const (.bool false)) (.bool false) rfl) ?_
       refine V 69 4 (mv 68 (.bool false)) ?_
       refine Sk [70, 71] 31 true 69 rfl ?_
       refine V 72 4 (p0 69 (.tmp 71) (.const (.bool false)) (.bool false) rfl) ?_
       refine V 73 4 (mv 72 (.bool false)) ?_
       refine Sk [74, 75] 35 true 73 rfl ?_
       refine V 76 4 (p0 73 (.tmp 75) (.const (.bool false)) (.bool false) rfl) ?_
       refine V 77 4 (mv 76 (.bool false)) ?_
       refine Sk [78, 79] 39 true 77 rfl ?_
       refine V 80 4 (p0 77 (.tmp 79) (.const (.bool false)) (.bool false) rfl) ?_
       refine V 81 4 (mv 80 (.bool false)) ?_
       refine Sk [82, 83] 43 true 81 rfl ?_
       refine V 84 4 (p0 81 (.tmp 83) (.const (.bool false)) (.bool false) rfl) ?_
       refine V 0 4 (ma 84 (.bool false)) ?_
       obtain rfl := some_inj h106
       have hs107 : HS w0 F0 w51 F6 [] := hs52.drop 0
       exact RWP.nil ⟨rfl, F6, hs107, (Mem.le.refl _), rfl, rfl⟩
     ·have h108 := cond_f h68 hb69
      refine Sk [54, 55] 15 true 53 hb69 ?_
      refine V 56 4 (p0 53 (.tmp 55) (.const (.bool false)) (.bool false) hb69) ?_
      refine V 57 4 (mv 56 (.bool false)) ?_
      refine Sk [58, 59] 19 true 57 rfl ?_
      refine V 60 4 (p0 57 (.tmp 59) (.const (.bool false)) (.bool false) rfl) ?_
      refine V 61 4 (mv 60 (.bool false)) ?_
      refine Sk [62, 63] 23 true 61 rfl ?_
      refine V 64 4 (p0 61 (.tmp 63) (.const (.bool false)) (.bool false) rfl) ?_
      refine V 65 4 (mv 64 (.bool false)) ?_
      refine Sk [66, 67] 27 true 65 rfl ?_
      refine V 68 4 (p0 65 (.tmp 67) (.const (.bool false)) (.bool false) rfl) ?_
      refine V 69 4 (mv 68 (.bool false)) ?_
      refine Sk [70, 71] 31 true 69 rfl ?_
      refine V 72 4 (p0 69 (.tmp 71) (.const (.bool false)) (.bool false) rfl) ?_
      refine V 73 4 (mv 72 (.bool false)) ?_
      refine Sk [74, 75] 35 true 73 rfl ?_
      refine V 76 4 (p0 73 (.tmp 75) (.const (.bool false)) (.bool false) rfl) ?_
      refine V 77 4 (mv 76 (.bool false)) ?_
      refine Sk [78, 79] 39 true 77 rfl ?_
      refine V 80 4 (p0 77 (.tmp 79) (.const (.bool false)) (.bool false) rfl) ?_
      refine V 81 4 (mv 80 (.bool false)) ?_
      refine Sk [82, 83] 43 true 81 rfl ?_
      refine V 84 4 (p0 81 (.tmp 83) (.const (.bool false)) (.bool false) rfl) ?_
      refine V 0 4 (ma 84 (.bool false)) ?_
      obtain rfl := some_inj h108
      have hs109 : HS w0 F0 w51 F6 [] := hs52.drop 0
      exact RWP.nil ⟨rfl, F6, hs109, (Mem.le.refl _), rfl, rfl⟩
    ·have h110 := cond_f h66 hb67
     refine Sk [50, 51] 11 true 49 hb67 ?_
     refine V 52 4 (p0 49 (.tmp 51) (.const (.bool false)) (.bool false) hb67) ?_
     refine V 53 4 (mv 52 (.bool false)) ?_
     refine Sk [54, 55] 15 true 53 rfl ?_
     refine V 56 4 (p0 53 (.tmp 55) (.const (.bool false)) (.bool false) rfl) ?_
     refine V 57 4 (mv 56 (.bool false)) ?_
     refine Sk [58, 59] 19 true 57 rfl ?_
     refine V 60 4 (p0 57 (.tmp 59) (.const (.bool false)) (.bool false) rfl) ?_
     refine V 61 4 (mv 60 (.bool false)) ?_
     refine Sk [62, 63] 23 true 61 rfl ?_
     refine V 64 4 (p0 61 (.tmp 63) (.const (.bool false)) (.bool false) rfl) ?_
     refine V 65 4 (mv 64 (.bool false)) ?_
     refine Sk [66, 67] 27 true 65 rfl ?_
     refine V 68 4 (p0 65 (.tmp 67) (.const (.bool false)) (.bool false) rfl) ?_
     refine V 69 4 (mv 68 (.bool false)) ?_
     refine Sk [70, 71] 31 true 69 rfl ?_
     refine V 72 4 (p0 69 (.tmp 71) (.const (.bool false)) (.bool false) rfl) ?_
     refine V 73 4 (mv 72 (.bool false)) ?_
     refine Sk [74, 75] 35 true 73 rfl ?_
     refine V 76 4 (p0 73 (.tmp 75) (.const (.bool false)) (.bool false) rfl) ?_
     refine V 77 4 (mv 76 (.bool false)) ?_
     refine Sk [78, 79] 39 true 77 rfl ?_
     refine V 80 4 (p0 77 (.tmp 79) (.const (.bool false)) (.bool false) rfl) ?_
     refine V 81 4 (mv 80 (.bool false)) ?_
     refine Sk [82, 83] 43 true 81 rfl ?_
     refine V 84 4 (p0 81 (.tmp 83) (.const (.bool false)) (.bool false) rfl) ?_
     refine V 0 4 (ma 84 (.bool false)) ?_
     obtain rfl := some_inj h110
     have hs111 : HS w0 F0 w51 F6 [] := hs52.drop 0
     exact RWP.nil ⟨rfl, F6, hs111, (Mem.le.refl _), rfl, rfl⟩
   ·have h112 := cond_f h64 hb65
    refine Sk [46, 47] 7 true 45 hb65 ?_
    refine V 48 4 (p0 45 (.tmp 47) (.const (.bool false)) (.bool false) hb65) ?_
    refine V 49 4 (mv 48 (.bool false)) ?_
    refine Sk [50, 51] 11 true 49 rfl ?_
    refine V 52 4 (p0 49 (.tmp 51) (.const (.bool false)) (.bool false) rfl) ?_
    refine V 53 4 (mv 52 (.bool false)) ?_
    refine Sk [54, 55] 15 true 53 rfl ?_
    refine V 56 4 (p0 53 (.tmp 55) (.const (.bool false)) (.bool false) rfl) ?_
    refine V 57 4 (mv 56 (.bool false)) ?_
    refine Sk [58, 59] 19 true 57 rfl ?_
    refine V 60 4 (p0 57 (.tmp 59) (.const (.bool false)) (.bool false) rfl) ?_
    refine V 61 4 (mv 60 (.bool false)) ?_
    refine Sk [62, 63] 23 true 61 rfl ?_
    refine V 64 4 (p0 61 (.tmp 63) (.const (.bool false)) (.bool false) rfl) ?_
    refine V 65 4 (mv 64 (.bool false)) ?_
    refine Sk [66, 67] 27 true 65 rfl ?_
    refine V 68 4 (p0 65 (.tmp 67) (.const (.bool false)) (.bool false) rfl) ?_
    refine V 69 4 (mv 68 (.bool false)) ?_
    refine Sk [70, 71] 31 true 69 rfl ?_
    refine V 72 4 (p0 69 (.tmp 71) (.const (.bool false)) (.bool false) rfl) ?_
    refine V 73 4 (mv 72 (.bool false)) ?_
    refine Sk [74, 75] 35 true 73 rfl ?_
    refine V 76 4 (p0 73 (.tmp 75) (.const (.bool false)) (.bool false) rfl) ?_
    refine V 77 4 (mv 76 (.bool false)) ?_
    refine Sk [78, 79] 39 true 77 rfl ?_
    refine V 80 4 (p0 77 (.tmp 79) (.const (.bool false)) (.bool false) rfl) ?_
    refine V 81 4 (mv 80 (.bool false)) ?_
    refine Sk [82, 83] 43 true 81 rfl ?_
    refine V 84 4 (p0 81 (.tmp 83) (.const (.bool false)) (.bool false) rfl) ?_
    refine V 0 4 (ma 84 (.bool false)) ?_
    obtain rfl := some_inj h112
    have hs113 : HS w0 F0 w51 F6 [] := hs52.drop 0
    exact RWP.nil ⟨rfl, F6, hs113, (Mem.le.refl _), rfl, rfl⟩
  ·have h114 := cond_f hj61 hb63
   refine Sk [41, 42, 43] 2 true 40 hb63 ?_
   refine V 44 4 (p0 40 (.tmp 43) (.const (.bool false)) (.bool false) hb63) ?_
   refine V 45 4 (mv 44 (.bool false)) ?_
   refine Sk [46, 47] 7 true 45 rfl ?_
   refine V 48 4 (p0 45 (.tmp 47) (.const (.bool false)) (.bool false) rfl) ?_
   refine V 49 4 (mv 48 (.bool false)) ?_
   refine Sk [50, 51] 11 true 49 rfl ?_
   refine V 52 4 (p0 49 (.tmp 51) (.const (.bool false)) (.bool false) rfl) ?_
   refine V 53 4 (mv 52 (.bool false)) ?_
   refine Sk [54, 55] 15 true 53 rfl ?_
   refine V 56 4 (p0 53 (.tmp 55) (.const (.bool false)) (.bool false) rfl) ?_
   refine V 57 4 (mv 56 (.bool false)) ?_
   refine Sk [58, 59] 19 true 57 rfl ?_
   refine V 60 4 (p0 57 (.tmp 59) (.const (.bool false)) (.bool false) rfl) ?_
   refine V 61 4 (mv 60 (.bool false)) ?_
   refine Sk [62, 63] 23 true 61 rfl ?_
   refine V 64 4 (p0 61 (.tmp 63) (.const (.bool false)) (.bool false) rfl) ?_
   refine V 65 4 (mv 64 (.bool false)) ?_
   refine Sk [66, 67] 27 true 65 rfl ?_
   refine V 68 4 (p0 65 (.tmp 67) (.const (.bool false)) (.bool false) rfl) ?_
   refine V 69 4 (mv 68 (.bool false)) ?_
   refine Sk [70, 71] 31 true 69 rfl ?_
   refine V 72 4 (p0 69 (.tmp 71) (.const (.bool false)) (.bool false) rfl) ?_
   refine V 73 4 (mv 72 (.bool false)) ?_
   refine Sk [74, 75] 35 true 73 rfl ?_
   refine V 76 4 (p0 73 (.tmp 75) (.const (.bool false)) (.bool false) rfl) ?_
   refine V 77 4 (mv 76 (.bool false)) ?_
   refine Sk [78, 79] 39 true 77 rfl ?_
   refine V 80 4 (p0 77 (.tmp 79) (.const (.bool false)) (.bool false) rfl) ?_
   refine V 81 4 (mv 80 (.bool false)) ?_
   refine Sk [82, 83] 43 true 81 rfl ?_
   refine V 84 4 (p0 81 (.tmp 83) (.const (.bool false)) (.bool false) rfl) ?_
   refine V 0 4 (ma 84 (.bool false)) ?_
   obtain rfl := some_inj h114
   have hs115 : HS w0 F0 w51 F6 [] := hs52.drop 0
   exact RWP.nil ⟨rfl, F6, hs115, (Mem.le.refl _), rfl, rfl⟩
 ·rintro f w55 ⟨F7, hs56, le57, e59, e60⟩
  refine thenQ_nrm ?_
  refine CWP.ret (by kernel_rfl) ?_
  have hfin := some_inj h62
  subst hfin
  exact ⟨e59, (.bool j58), res_of (l := [.tmp 0]) (by kernel_rfl) (vs := [(.bool j58)]) ⟨e60, trivial⟩, (.bool j58), F7, rfl, hs56.clear, rfl⟩
end Go.Proofs.YtlddakefmfcblaaGreatDoor
namespace Go.Proofs.YtlddakefmfcblaaGreatDoor
open Go.Lib (decDigits)
theorem aw1 : splitS [71, 51, 47, 77, 48, 65, 66, 47, 80] = ({ Area := [71, 51], Prefix := [77, 48], Suffix := [65, 66], Stroke := [80] }, 0) := by rfl
theorem aw2 : prefixS [87, 49, 65, 87, 47, 52] = ([87, 52], 0) := by rfl
theorem aw3 : tText 1505 = [50, 32, 48, 49, 48, 53] := by
 unfold tText dP
 rw [show 1505 / 1440 + 1 = 2 from rfl, show 1505 / 60 % 24 = 1 from rfl, show 1505 % 60 = 5 from rfl, dd_small (by decide), dd_small (by decide), dd_small (by decide)]
 rfl
theorem aw4 : printT 1505 = ([50, 32, 48, 49, 48, 53], 0) := by
 unfold printT
 rw [if_pos (by decide)]
 show (tText 1505, (0 : Int)) = _
 rw [aw3]
theorem aw5 : parseT [50, 32, 48, 49, 48, 53] = (1505, 0) := by
 rw [← aw3, parse_text (by decide)]; rfl
theorem aw6 : validS [68, 76, 49, 65, 47, 87, 49, 65] = false := by rfl
theorem aw7 : nearestS [{ ID := 1, Lo := 1800, Hi := 2000 }, { ID := 2, Lo := 3500, Hi := 3800 }] 2750 = (1, 750, 0) := by decide
theorem awake_true {N : Nat} (hN : 4294967300 < N) : law01_awake N = some true := by
 unfold law01_awake
 rw [s_Split _ hN, aw1, Option.bind_some, s_PrefixOf _ hN, aw2, Option.bind_some, s_PrintTime, aw4, Option.bind_some, s_ParseTime _ (by simp) hN, aw5, Option.bind_some, s_Nearest (by simp) hN, aw7, Option.bind_some]
 simp only [s_Valid _ hN, aw6]
 rfl
end Go.Proofs.YtlddakefmfcblaaGreatDoor
namespace Go.Proofs.YtlddakefmfcblaaGreatDoor
open Go.Proofs
def law01_AirTables (N : Nat) (x0 : (List Prefix)) (x1 : (List UInt8)) (x2 : Int) : Option Bool :=
 ((law01_awake N ).bind fun r1 => (bif (bif (decide ((x0.length : Int) > 50)) then ((decide ((x0.length : Int) ≤ 400)) || ((decide ((x0.length : Int) > 500)) || (decide ((x1.length : Int) > 1000)))) else ((decide ((x0.length : Int) > 500)) || (decide ((x1.length : Int) > 1000)))) then some r1 else ((air_Overlap N x0).bind fun r25 => ((ref01_Overlap N x0).bind fun r33 => ((air_RowOf N x0 x1 x2).bind fun r41 => ((ref01_RowOf N x0 x1 x2).bind fun r49 => ((air_PlaceOf N x0 x1 x2).bind fun r57 => ((ref01_PlaceOf N x0 x1 x2).bind fun r70 => ((bif r1 then ((air_ValidTable N x0).bind fun r93 => ((ref01_ValidTable N x0).bind fun r101 => (bif (r93 == r101) then (bif (r25.1 == r33.1) then (bif (r25.2.1 == r33.2.1) then (bif (r25.2.2 == r33.2.2) then (bif (r41.1 == r49.1) then (bif (r41.2 == r49.2) then (bif ((r57.1.Country == r70.1.Country) && ((r57.1.Zone == r70.1.Zone) && ((r57.1.Continent == r70.1.Continent) && true))) then some (r57.2 == r70.2) else some false) else some false) else some false) else some false) else some false) else some false) else some false))) else some false).bind fun j86 => some j86)))))))))
set_option maxHeartbeats 4000000 in
set_option maxRecDepth 100000 in
theorem c_law01_AirTables (N : Nat) (w0 : World) (F0 : Mem) (hF : ∀ b o, F0 b = some o → w0.heap[b]? = some o) (hG : Glob F0) (x0 : (List Prefix)) (a0_0 : Option Addr) (n0_0 : Nat) (hb0_0 : LC x0.length n0_0) (hs0_0 : SlA tPrefix F0 a0_0 x0) (x1 : (List UInt8)) (x2 : Int) (r : Bool) (h : law01_AirTables N x0 x1 x2 = some r) :
  Calls Tryz.prog 12 ([(.slice a0_0 x0.length n0_0), (.string ⟨(x1).toArray⟩), (vi x2)] : List Value).toArray w0 (FRet w0 F0 fun F' v => v = (.bool r)) := by
 have hs0 := HS.start hF
 refine calls_of (n := 125) (c := bodyOf Tryz.f12) Tryz.func12 (by kernel_rfl) (by kernel_rfl) (by kernel_rfl) ?_
 refine Sq (Rg [0] ?_)
 refine V 6 4 (mc (.bool false) (.bool false)) ?_
 refine Nss (Rg [0, 1] ?_)
 obtain ⟨r1, hr2, h3⟩ := bind_some h
 refine Cl 22 4 17 #[] #[] co_law01_awake hs0 (c_law01_awake N w0 F0 hs0.pers hG  _ hr2) ?_
 intro v4 F1 w5 hs6 le7 hp8
 obtain rfl := hp8
 refine V 7 4 (ma 22 (.bool r1)) ?_
 refine Nss ?_
 refine Sq (Rg [0, 1, 2, 3, 4, 5, 6, 7, 8, 9, 10, 11, 12, 13, 14, 15, 16, 17] ?_)
 refine RWP.cut (fun f w => ∃ (F2 : Mem), HS w0 F0 w F2 [] ∧ Mem.le F1 F2 ∧ f.d = [] ∧ f 0 = (.slice a0_0 x0.length n0_0) ∧ f 1 = (.string ⟨(x1).toArray⟩) ∧ f 2 = (vi x2) ∧ f 7 = (.bool r1) ∧ f 40 = (.bool (bif (decide ((x0.length : Int) > 50)) then ((decide ((x0.length : Int) ≤ 400)) || ((decide ((x0.length : Int) > 500)) || (decide ((x1.length : Int) > 1000)))) else ((decide ((x0.length : Int) > 500)) || (decide ((x1.length : Int) > 1000)))))) ?_ ?_
 ·refine V 23 61 (mv 0 (.slice a0_0 x0.length n0_0)) ?_
  refine V 24 3 (ln 23 61 a0_0 x0.length n0_0 71 7 64) ?_
  refine V 25 4 (run_gtr (t := 3) (t' := 3) (x := (.tmp 24)) (y := (.const (vi 50))) (k := .i64) (a := (x0.length : Int)) (b := 50) rfl rfl) ?_
  refine V 26 4 (mv 25 (.bool (decide ((x0.length : Int) > 50)))) ?_
  refine RWP.split (decide ((x0.length : Int) > 50)) (fun hb18 => ?_) (fun hb18 => ?_)
  ·refine Vg 27 61 3 true 26 hb18 (mv 0 (.slice a0_0 x0.length n0_0)) ?_
   refine Vg 28 3 3 true 26 hb18 (ln 27 61 a0_0 x0.length n0_0 71 7 64) ?_
   refine Vg 29 4 3 true 26 hb18 (run_leq (t := 3) (t' := 3) (x := (.tmp 28)) (y := (.const (vi 400))) (k := .i64) (a := (x0.length : Int)) (b := 400) rfl rfl) ?_
   refine V 30 4 (p1 26 (.tmp 29) (.const (.bool false)) (.bool (decide ((x0.length : Int) ≤ 400))) hb18) ?_
   refine V 31 4 (mv 30 (.bool (decide ((x0.length : Int) ≤ 400)))) ?_
   refine RWP.split (decide ((x0.length : Int) ≤ 400)) (fun hb19 => ?_) (fun hb19 => ?_)
   ·refine Sk [32, 33, 34] 8 false 31 hb19 ?_
    refine V 35 4 (p1 31 (.const (.bool true)) (.tmp 34) (.bool true) hb19) ?_
    refine V 36 4 (mv 35 (.bool true)) ?_
    refine Sk [37, 38, 39] 13 false 36 rfl ?_
    refine V 40 4 (p1 36 (.const (.bool true)) (.tmp 39) (.bool true) rfl) ?_
    exact RWP.nil ⟨rfl, F1, hs6, (Mem.le.refl _), rfl, rfl, rfl, rfl, rfl, (congrArg Value.bool (bif_t hb18 (or_t hb19 (rfl))))⟩
   ·refine Vg 32 61 8 false 31 hb19 (mv 0 (.slice a0_0 x0.length n0_0)) ?_
    refine Vg 33 3 8 false 31 hb19 (ln 32 61 a0_0 x0.length n0_0 71 7 64) ?_
    refine Vg 34 4 8 false 31 hb19 (run_gtr (t := 3) (t' := 3) (x := (.tmp 33)) (y := (.const (vi 500))) (k := .i64) (a := (x0.length : Int)) (b := 500) rfl rfl) ?_
    refine V 35 4 (p0 31 (.const (.bool true)) (.tmp 34) (.bool (decide ((x0.length : Int) > 500))) hb19) ?_
    refine V 36 4 (mv 35 (.bool (decide ((x0.length : Int) > 500)))) ?_
    refine RWP.split (decide ((x0.length : Int) > 500)) (fun hb20 => ?_) (fun hb20 => ?_)
    ·refine Sk [37, 38, 39] 13 false 36 hb20 ?_
     refine V 40 4 (p1 36 (.const (.bool true)) (.tmp 39) (.bool true) hb20) ?_
     exact RWP.nil ⟨rfl, F1, hs6, (Mem.le.refl _), rfl, rfl, rfl, rfl, rfl, (congrArg Value.bool (bif_t hb18 (or_f hb19 (or_t hb20 (rfl)))))⟩
    ·refine Vg 37 9 13 false 36 hb20 (mv 1 (.string ⟨(x1).toArray⟩)) ?_
     refine Vg 38 3 13 false 36 hb20 (run_slen (x := (.tmp 37)) (ats := #[9]) (t := 9) (a := x1) rfl rfl (by kernel_rfl)) ?_
     refine Vg 39 4 13 false 36 hb20 (run_gtr (t := 3) (t' := 3) (x := (.tmp 38)) (y := (.const (vi 1000))) (k := .i64) (a := (x1.length : Int)) (b := 1000) rfl rfl) ?_
     refine V 40 4 (p0 36 (.const (.bool true)) (.tmp 39) (.bool (decide ((x1.length : Int) > 1000))) hb20) ?_
     exact RWP.nil ⟨rfl, F1, hs6, (Mem.le.refl _), rfl, rfl, rfl, rfl, rfl, (congrArg Value.bool (bif_t hb18 (or_f hb19 (or_f hb20 (rfl)))))⟩
  ·refine Sk [27, 28, 29] 3 true 26 hb18 ?_
   refine V 30 4 (p0 26 (.tmp 29) (.const (.bool false)) (.bool false) hb18) ?_
   refine V 31 4 (mv 30 (.bool false)) ?_
   refine Vg 32 61 8 false 31 rfl (mv 0 (.slice a0_0 x0.length n0_0)) ?_
   refine Vg 33 3 8 false 31 rfl (ln 32 61 a0_0 x0.length n0_0 71 7 64) ?_
   refine Vg 34 4 8 false 31 rfl (run_gtr (t := 3) (t' := 3) (x := (.tmp 33)) (y := (.const (vi 500))) (k := .i64) (a := (x0.length : Int)) (b := 500) rfl rfl) ?_
   refine V 35 4 (p0 31 (.const (.bool true)) (.tmp 34) (.bool (decide ((x0.length : Int) > 500))) rfl) ?_
   refine V 36 4 (mv 35 (.bool (decide ((x0.length : Int) > 500)))) ?_
   refine RWP.split (decide ((x0.length : Int) > 500)) (fun hb21 => ?_) (fun hb21 => ?_)
   ·refine Sk [37, 38, 39] 13 false 36 hb21 ?_
    refine V 40 4 (p1 36 (.const (.bool true)) (.tmp 39) (.bool true) hb21) ?_
    exact RWP.nil ⟨rfl, F1, hs6, (Mem.le.refl _), rfl, rfl, rfl, rfl, rfl, (congrArg Value.bool (bif_f hb18 (or_t hb21 (rfl))))⟩
   ·refine Vg 37 9 13 false 36 hb21 (mv 1 (.string ⟨(x1).toArray⟩)) ?_
    refine Vg 38 3 13 false 36 hb21 (run_slen (x := (.tmp 37)) (ats := #[9]) (t := 9) (a := x1) rfl rfl (by kernel_rfl)) ?_
    refine Vg 39 4 13 false 36 hb21 (run_gtr (t := 3) (t' := 3) (x := (.tmp 38)) (y := (.const (vi 1000))) (k := .i64) (a := (x1.length : Int)) (b := 1000) rfl rfl) ?_
    refine V 40 4 (p0 36 (.const (.bool true)) (.tmp 39) (.bool (decide ((x1.length : Int) > 1000))) hb21) ?_
    exact RWP.nil ⟨rfl, F1, hs6, (Mem.le.refl _), rfl, rfl, rfl, rfl, rfl, (congrArg Value.bool (bif_f hb18 (or_f hb21 (rfl))))⟩
 ·rintro f w9 ⟨F2, hs10, le11, e12, e13, e14, e15, e16, e17⟩
  refine thenQ_nrm ?_
  refine CWP.cond (t := (bif (decide ((x0.length : Int) > 50)) then ((decide ((x0.length : Int) ≤ 400)) || ((decide ((x0.length : Int) > 500)) || (decide ((x1.length : Int) > 1000)))) else ((decide ((x0.length : Int) > 500)) || (decide ((x1.length : Int) > 1000))))) (by kernel_rfl) e17 (fun hb22 => ?_) (fun hb22 => ?_)
  ·have h23 := cond_t h3 hb22
   refine Sq (Rg [0, 1] ?_)
   refine V 41 4 (mv 7 (.bool r1) e16) ?_
   refine V 6 4 (ma 41 (.bool r1)) ?_
   refine Nt ?_
   refine CWP.ret (by kernel_rfl) ?_
   refine thenQ_ret ?_
   have hfin := some_inj h23
   subst hfin
   exact ⟨e12, (.bool r1), res_of (l := [.tmp 6]) (by kernel_rfl) (vs := [(.bool r1)]) ⟨rfl, trivial⟩, (.bool r1), F2, rfl, hs10.clear, rfl⟩
  ·have h24 := cond_f h3 hb22
   refine Sc ?_
   refine thenQ_nrm ?_
   refine Sq (Rg [0, 1, 2, 3, 4, 5, 6, 7, 8] ?_)
   refine V 43 61 (mv 0 (.slice a0_0 x0.length n0_0) e13) ?_
   obtain ⟨r25, hr26, h27⟩ := bind_some h24
   refine Cl 44 35 50 #[(.tmp 43)] #[61] co_air_Overlap hs10 (c_air_Overlap N w9 F2 hs10.pers (x0) a0_0 n0_0 hb0_0 (SlA.mono hs0_0 (le7.trans le11)) _ hr26) ?_
   intro v28 F3 w29 hs30 le31 hp32
   obtain rfl := hp32
   refine V 42 35 (mv 44 (.tuple #[(vi r25.1), (vi r25.2.1), (vi r25.2.2)])) ?_
   refine V 45 3 (ex 42 0 (vi r25.1) (vs := #[(vi r25.1), (vi r25.2.1), (vi r25.2.2)])) ?_
   refine V 46 3 (ex 42 1 (vi r25.2.1) (vs := #[(vi r25.1), (vi r25.2.1), (vi r25.2.2)])) ?_
   refine V 47 23 (ex 42 2 (vi r25.2.2) (vs := #[(vi r25.1), (vi r25.2.1), (vi r25.2.2)])) ?_
   refine V 8 3 (ma 45 (vi r25.1)) ?_
   refine V 9 3 (ma 46 (vi r25.2.1)) ?_
   refine V 10 23 (ma 47 (vi r25.2.2)) ?_
   refine Nss (Rg [0, 1, 2, 3, 4, 5, 6, 7, 8] ?_)
   refine V 49 61 (mv 0 (.slice a0_0 x0.length n0_0) e13) ?_
   obtain ⟨r33, hr34, h35⟩ := bind_some h27
   refine Cl 50 35 51 #[(.tmp 49)] #[61] co_ref01_Overlap hs30 (c_ref01_Overlap N w29 F3 hs30.pers (x0) a0_0 n0_0 hb0_0 (SlA.mono hs0_0 ((le7.trans le11).trans le31)) _ hr34) ?_
   intro v36 F4 w37 hs38 le39 hp40
   obtain rfl := hp40
   refine V 48 35 (mv 50 (.tuple #[(vi r33.1), (vi r33.2.1), (vi r33.2.2)])) ?_
   refine V 51 3 (ex 48 0 (vi r33.1) (vs := #[(vi r33.1), (vi r33.2.1), (vi r33.2.2)])) ?_
   refine V 52 3 (ex 48 1 (vi r33.2.1) (vs := #[(vi r33.1), (vi r33.2.1), (vi r33.2.2)])) ?_
   refine V 53 23 (ex 48 2 (vi r33.2.2) (vs := #[(vi r33.1), (vi r33.2.1), (vi r33.2.2)])) ?_
   refine V 11 3 (ma 51 (vi r33.1)) ?_
   refine V 12 3 (ma 52 (vi r33.2.1)) ?_
   refine V 13 23 (ma 53 (vi r33.2.2)) ?_
   refine Nss (Rg [0, 1, 2, 3, 4, 5, 6, 7, 8] ?_)
   refine V 55 61 (mv 0 (.slice a0_0 x0.length n0_0) e13) ?_
   refine V 56 9 (mv 1 (.string ⟨(x1).toArray⟩) e14) ?_
   refine V 57 3 (mv 2 (vi x2) e15) ?_
   obtain ⟨r41, hr42, h43⟩ := bind_some h35
   refine Cl 58 33 52 #[(.tmp 55), (.tmp 56), (.tmp 57)] #[61, 9, 3] co_air_RowOf hs38 (c_air_RowOf N w37 F4 hs38.pers (hG.mono (((le7.trans le11).trans le31).trans le39)) (x0) a0_0 n0_0 hb0_0 (SlA.mono hs0_0 (((le7.trans le11).trans le31).trans le39)) (x1) (x2) _ hr42) ?_
   intro v44 F5 w45 hs46 le47 hp48
   obtain rfl := hp48
   refine V 54 33 (mv 58 (.tuple #[(vi r41.1), (vi r41.2)])) ?_
   refine V 59 3 (ex 54 0 (vi r41.1) (vs := #[(vi r41.1), (vi r41.2)])) ?_
   refine V 60 23 (ex 54 1 (vi r41.2) (vs := #[(vi r41.1), (vi r41.2)])) ?_
   refine V 14 3 (ma 59 (vi r41.1)) ?_
   refine V 15 23 (ma 60 (vi r41.2)) ?_
   refine Nss (Rg [0, 1, 2, 3, 4, 5, 6, 7, 8] ?_)
   refine V 62 61 (mv 0 (.slice a0_0 x0.length n0_0) e13) ?_
   refine V 63 9 (mv 1 (.string ⟨(x1).toArray⟩) e14) ?_
   refine V 64 3 (mv 2 (vi x2) e15) ?_
   obtain ⟨r49, hr50, h51⟩ := bind_some h43
   refine Cl 65 33 53 #[(.tmp 62), (.tmp 63), (.tmp 64)] #[61, 9, 3] co_ref01_RowOf hs46 (c_ref01_RowOf N w45 F5 hs46.pers (x0) a0_0 n0_0 hb0_0 (SlA.mono hs0_0 ((((le7.trans le11).trans le31).trans le39).trans le47)) (x1) (x2) _ hr50) ?_
   intro v52 F6 w53 hs54 le55 hp56
   obtain rfl := hp56
   refine V 61 33 (mv 65 (.tuple #[(vi r49.1), (vi r49.2)])) ?_
   refine V 66 3 (ex 61 0 (vi r49.1) (vs := #[(vi r49.1), (vi r49.2)])) ?_
   refine V 67 23 (ex 61 1 (vi r49.2) (vs := #[(vi r49.1), (vi r49.2)])) ?_
   refine V 16 3 (ma 66 (vi r49.1)) ?_
   refine V 17 23 (ma 67 (vi r49.2)) ?_
   refine Nss (Rg [0, 1, 2, 3, 4, 5, 6, 7, 8, 9] ?_)
   refine V 69 61 (mv 0 (.slice a0_0 x0.length n0_0) e13) ?_
   refine V 70 9 (mv 1 (.string ⟨(x1).toArray⟩) e14) ?_
   refine V 71 3 (mv 2 (vi x2) e15) ?_
   obtain ⟨r57, hr58, h59⟩ := bind_some h51
   refine Cl 72 66 54 #[(.tmp 69), (.tmp 70), (.tmp 71)] #[61, 9, 3] co_air_PlaceOf hs54 (c_air_PlaceOf N w53 F6 hs54.pers (hG.mono (((((le7.trans le11).trans le31).trans le39).trans le47).trans le55)) (x0) a0_0 n0_0 hb0_0 (SlA.mono hs0_0 (((((le7.trans le11).trans le31).trans le39).trans le47).trans le55)) (x1) (x2) _ hr58) ?_
   intro v60 F7 w61 hs62 le63 hp64
   obtain rfl := hp64
   refine V 68 66 (mv 72 (.tuple #[(.agg #[(vi r57.1.Country), (vi r57.1.Zone), (vi r57.1.Continent)]), (vi r57.2)])) ?_
   refine V 73 65 (ex 68 0 (.agg #[(vi r57.1.Country), (vi r57.1.Zone), (vi r57.1.Continent)]) (vs := #[(.agg #[(vi r57.1.Country), (vi r57.1.Zone), (vi r57.1.Continent)]), (vi r57.2)])) ?_
   refine V 74 23 (ex 68 1 (vi r57.2) (vs := #[(.agg #[(vi r57.1.Country), (vi r57.1.Zone), (vi r57.1.Continent)]), (vi r57.2)])) ?_
   refine Al 18 0 65 #[(vi 0), (vi 0), (vi 0)] hs62 (fun b65 w66 (hs67 : HS w0 F0 w66 F7 [(sb b65 #[(vi 0), (vi 0), (vi 0)] 65)]) => ?_)
   refine RWP.store (ty := 0) (g := none) (by kernel_rfl) rfl (x := (.tmp 18)) (y := (.tmp 73)) (t := 65) (gg := true) (s := 3) (v := (.agg #[(vi r57.1.Country), (vi r57.1.Zone), (vi r57.1.Continent)])) (b := b65) (o := 0) (C := #[(vi 0), (vi 0), (vi 0)]) rfl rfl (by kernel_rfl) hs67 (k := 0) rfl rfl rfl rfl (C' := #[(vi r57.1.Country), (vi r57.1.Zone), (vi r57.1.Continent)]) rfl (fun w68 (hs69 : HS w0 F0 w68 F7 [(sb b65 #[(vi r57.1.Country), (vi r57.1.Zone), (vi r57.1.Continent)] 65)]) => ?_)
   refine V 19 23 (ma 74 (vi r57.2)) ?_
   refine Nss (Rg [0, 1, 2, 3, 4, 5, 6, 7, 8, 9] ?_)
   refine V 76 61 (mv 0 (.slice a0_0 x0.length n0_0) e13) ?_
   refine V 77 9 (mv 1 (.string ⟨(x1).toArray⟩) e14) ?_
   refine V 78 3 (mv 2 (vi x2) e15) ?_
   obtain ⟨r70, hr71, h72⟩ := bind_some h59
   refine Cl 79 66 55 #[(.tmp 76), (.tmp 77), (.tmp 78)] #[61, 9, 3] co_ref01_PlaceOf hs69 (c_ref01_PlaceOf N w68 F7 hs69.pers (x0) a0_0 n0_0 hb0_0 (SlA.mono hs0_0 ((((((le7.trans le11).trans le31).trans le39).trans le47).trans le55).trans le63)) (x1) (x2) _ hr71) ?_
   intro v73 F8 w74 hs75 le76 hp77
   obtain rfl := hp77
   refine V 75 66 (mv 79 (.tuple #[(.agg #[(vi r70.1.Country), (vi r70.1.Zone), (vi r70.1.Continent)]), (vi r70.2)])) ?_
   refine V 80 65 (ex 75 0 (.agg #[(vi r70.1.Country), (vi r70.1.Zone), (vi r70.1.Continent)]) (vs := #[(.agg #[(vi r70.1.Country), (vi r70.1.Zone), (vi r70.1.Continent)]), (vi r70.2)])) ?_
   refine V 81 23 (ex 75 1 (vi r70.2) (vs := #[(.agg #[(vi r70.1.Country), (vi r70.1.Zone), (vi r70.1.Continent)]), (vi r70.2)])) ?_
   refine Al 20 0 65 #[(vi 0), (vi 0), (vi 0)] hs75 (fun b78 w79 (hs80 : HS w0 F0 w79 F8 [(sb b78 #[(vi 0), (vi 0), (vi 0)] 65), (sb b65 #[(vi r57.1.Country), (vi r57.1.Zone), (vi r57.1.Continent)] 65)]) => ?_)
   refine RWP.store (ty := 0) (g := none) (by kernel_rfl) rfl (x := (.tmp 20)) (y := (.tmp 80)) (t := 65) (gg := true) (s := 3) (v := (.agg #[(vi r70.1.Country), (vi r70.1.Zone), (vi r70.1.Continent)])) (b := b78) (o := 0) (C := #[(vi 0), (vi 0), (vi 0)]) rfl rfl (by kernel_rfl) hs80 (k := 0) rfl rfl rfl rfl (C' := #[(vi r70.1.Country), (vi r70.1.Zone), (vi r70.1.Continent)]) rfl (fun w81 (hs82 : HS w0 F0 w81 F8 [(sb b78 #[(vi r70.1.Country), (vi r70.1.Zone), (vi r70.1.Continent)] 65), (sb b65 #[(vi r57.1.Country), (vi r57.1.Zone), (vi r57.1.Continent)] 65)]) => ?_)
   refine V 21 23 (ma 81 (vi r70.2)) ?_
   refine Nss (Rg [0, 1, 2, 3, 4, 5, 6, 7, 8, 9, 10, 11, 12, 13, 14, 15, 16, 17, 18, 19, 20, 21, 22, 23, 24, 25, 26, 27, 28, 29, 30, 31, 32, 33, 34, 35, 36, 37, 38, 39, 40, 41, 42, 43] ?_)
   obtain ⟨j86, hj89, h90⟩ := bind_some h72
   refine RWP.cut (fun f w => ∃ (F9 : Mem), HS w0 F0 w F9 [] ∧ Mem.le F8 F9 ∧ f.d = [] ∧ f 6 = (.bool j86)) ?_ ?_
   ·refine V 82 4 (mv 7 (.bool r1) e16) ?_
    refine V 83 4 (mv 82 (.bool r1)) ?_
    refine RWP.split r1 (fun hb91 => ?_) (fun hb91 => ?_)
    ·have h92 := cond_t hj89 hb91
     refine Vg 84 61 1 true 83 hb91 (mv 0 (.slice a0_0 x0.length n0_0) e13) ?_
     obtain ⟨r93, hr94, h95⟩ := bind_some h92
     refine RWP.call (dst := (some 85)) (ty := 4) (g := (some (1, true))) (by kernel_rfl) (gd_y (d := 83) (by kernel_rfl) rfl hb91) (f0 := (.func 56)) (aos := #[(.tmp 84)]) (ats := #[61]) (fid := 56) (first := #[]) (cap := #[]) (args := [(.slice a0_0 x0.length n0_0)]) rfl co_air_ValidTable (rfl) hs82 (c_air_ValidTable N w81 F8 hs82.pers (x0) a0_0 n0_0 hb0_0 (SlA.mono hs0_0 (((((((le7.trans le11).trans le31).trans le39).trans le47).trans le55).trans le63).trans le76)) _ hr94) ?_
     intro v96 F10 w97 hs98 le99 hp100
     obtain rfl := hp100
     refine Vg 86 61 1 true 83 hb91 (mv 0 (.slice a0_0 x0.length n0_0) e13) ?_
     obtain ⟨r101, hr102, h103⟩ := bind_some h95
     refine RWP.call (dst := (some 87)) (ty := 4) (g := (some (1, true))) (by kernel_rfl) (gd_y (d := 83) (by kernel_rfl) rfl hb91) (f0 := (.func 57)) (aos := #[(.tmp 86)]) (ats := #[61]) (fid := 57) (first := #[]) (cap := #[]) (args := [(.slice a0_0 x0.length n0_0)]) rfl co_ref01_ValidTable (rfl) hs98 (c_ref01_ValidTable N w97 F10 hs98.pers (x0) a0_0 n0_0 hb0_0 (SlA.mono hs0_0 ((((((((le7.trans le11).trans le31).trans le39).trans le47).trans le55).trans le63).trans le76).trans le99)) _ hr102) ?_
     intro v104 F11 w105 hs106 le107 hp108
     obtain rfl := hp108
     refine Vg 88 4 1 true 83 hb91 (run_eqb (t := 4) (t' := 4) (x := (.tmp 85)) (y := (.tmp 87)) (a := r93) (b := r101) rfl rfl (by kernel_rfl)) ?_
     refine V 89 4 (p1 83 (.tmp 88) (.const (.bool false)) (.bool (r93 == r101)) hb91) ?_
     refine V 90 4 (mv 89 (.bool (r93 == r101))) ?_
     refine RWP.split (r93 == r101) (fun hb109 => ?_) (fun hb109 => ?_)
     ·have h110 := cond_t h103 hb109
      refine Vg 91 3 8 true 90 hb109 (mv 8 (vi r25.1)) ?_
      refine Vg 92 3 8 true 90 hb109 (mv 11 (vi r33.1)) ?_
      refine Vg 93 4 8 true 90 hb109 (run_eql (t := 3) (t' := 3) (x := (.tmp 91)) (y := (.tmp 92)) (k := .i64) (a := r25.1) (b := r33.1) rfl rfl) ?_
      refine V 94 4 (p1 90 (.tmp 93) (.const (.bool false)) (.bool (r25.1 == r33.1)) hb109) ?_
      refine V 95 4 (mv 94 (.bool (r25.1 == r33.1))) ?_
      refine RWP.split (r25.1 == r33.1) (fun hb111 => ?_) (fun hb111 => ?_)
      ·have h112 := cond_t h110 hb111
       refine Vg 96 3 13 true 95 hb111 (mv 9 (vi r25.2.1)) ?_
       refine Vg 97 3 13 true 95 hb111 (mv 12 (vi r33.2.1)) ?_
       refine Vg 98 4 13 true 95 hb111 (run_eql (t := 3) (t' := 3) (x := (.tmp 96)) (y := (.tmp 97)) (k := .i64) (a := r25.2.1) (b := r33.2.1) rfl rfl) ?_
       refine V 99 4 (p1 95 (.tmp 98) (.const (.bool false)) (.bool (r25.2.1 == r33.2.1)) hb111) ?_
       refine V 100 4 (mv 99 (.bool (r25.2.1 == r33.2.1))) ?_
       refine RWP.split (r25.2.1 == r33.2.1) (fun hb113 => ?_) (fun hb113 => ?_)
       ·have h114 := cond_t h112 hb113
        refine Vg 101 23 18 true 100 hb113 (mv 10 (vi r25.2.2)) ?_
        refine Vg 102 23 18 true 100 hb113 (mv 13 (vi r33.2.2)) ?_
        refine Vg 103 4 18 true 100 hb113 (run_eql (t := 23) (t' := 23) (x := (.tmp 101)) (y := (.tmp 102)) (k := .i64) (a := r25.2.2) (b := r33.2.2) rfl rfl) ?_
        refine V 104 4 (p1 100 (.tmp 103) (.const (.bool false)) (.bool (r25.2.2 == r33.2.2)) hb113) ?_
        refine V 105 4 (mv 104 (.bool (r25.2.2 == r33.2.2))) ?_
        refine RWP.split (r25.2.2 == r33.2.2) (fun hb115 => ?_) (fun hb115 => ?_)
        ·have h116 := cond_t h114 hb115
         refine Vg 106 3 23 true 105 hb115 (mv 14 (vi r41.1)) ?_
         refine Vg 107 3 23 true 105 hb115 (mv 16 (vi r49.1)) ?_
         refine Vg 108 4 23 true 105 hb115 (run_eql (t := 3) (t' := 3) (x := (.tmp 106)) (y := (.tmp 107)) (k := .i64) (a := r41.1) (b := r49.1) rfl rfl) ?_
         refine V 109 4 (p1 105 (.tmp 108) (.const (.bool false)) (.bool (r41.1 == r49.1)) hb115) ?_
         refine V 110 4 (mv 109 (.bool (r41.1 == r49.1))) ?_
         refine RWP.split (r41.1 == r49.1) (fun hb117 => ?_) (fun hb117 => ?_)
         ·have h118 := cond_t h116 hb117
          refine Vg 111 23 28 true 110 hb117 (mv 15 (vi r41.2)) ?_
          refine Vg 112 23 28 true 110 hb117 (mv 17 (vi r49.2)) ?_
          refine Vg 113 4 28 true 110 hb117 (run_eql (t := 23) (t' := 23) (x := (.tmp 111)) (y := (.tmp 112)) (k := .i64) (a := r41.2) (b := r49.2) rfl rfl) ?_
          refine V 114 4 (p1 110 (.tmp 113) (.const (.bool false)) (.bool (r41.2 == r49.2)) hb117) ?_
          refine V 115 4 (mv 114 (.bool (r41.2 == r49.2))) ?_
          refine RWP.split (r41.2 == r49.2) (fun hb119 => ?_) (fun hb119 => ?_)
          ·have h120 := cond_t h118 hb119
           refine Vg 116 65 33 true 115 hb119 (ld 65 18 b65 0 true 3 (.agg #[(vi r57.1.Country), (vi r57.1.Zone), (vi r57.1.Continent)]) (hs106.ownAt (k := 1) rfl)) ?_
           refine Vg 117 65 33 true 115 hb119 (ld 65 20 b78 0 true 3 (.agg #[(vi r70.1.Country), (vi r70.1.Zone), (vi r70.1.Continent)]) (hs106.ownAt (k := 0) rfl)) ?_
           refine Vg 118 4 33 true 115 hb119 (run_eqs (t := 65) (t' := 65) (x := (.tmp 116)) (y := (.tmp 117)) (xs := #[(vi r57.1.Country), (vi r57.1.Zone), (vi r57.1.Continent)]) (ys := #[(vi r70.1.Country), (vi r70.1.Zone), (vi r70.1.Continent)]) (b := ((r57.1.Country == r70.1.Country) && ((r57.1.Zone == r70.1.Zone) && ((r57.1.Continent == r70.1.Continent) && true)))) rfl rfl (by kernel_rfl) (by kernel_rfl)) ?_
           refine V 119 4 (p1 115 (.tmp 118) (.const (.bool false)) (.bool ((r57.1.Country == r70.1.Country) && ((r57.1.Zone == r70.1.Zone) && ((r57.1.Continent == r70.1.Continent) && true)))) hb119) ?_
           refine V 120 4 (mv 119 (.bool ((r57.1.Country == r70.1.Country) && ((r57.1.Zone == r70.1.Zone) && ((r57.1.Continent == r70.1.Continent) && true))))) ?_
           refine RWP.split ((r57.1.Country == r70.1.Country) && ((r57.1.Zone == r70.1.Zone) && ((r57.1.Continent == r70.1.Continent) && true))) (fun hb121 => ?_) (fun hb121 => ?_)
           ·have h122 := cond_t h120 hb121
            refine Vg 121 23 38 true 120 hb121 (mv 19 (vi r57.2)) ?_
            refine Vg 122 23 38 true 120 hb121 (mv 21 (vi r70.2)) ?_
            refine Vg 123 4 38 true 120 hb121 (run_eql (t := 23) (t' := 23) (x := (.tmp 121)) (y := (.tmp 122)) (k := .i64) (a := r57.2) (b := r70.2) rfl rfl) ?_
            refine V 124 4 (p1 120 (.tmp 123) (.const (.bool false)) (.bool (r57.2 == r70.2)) hb121) ?_
            refine V 6 4 (ma 124 (.bool (r57.2 == r70.2))) ?_
            obtain rfl := some_inj h122
            have hs123 : HS w0 F0 w105 F11 [(sb b65 #[(vi r57.1.Country), (vi r57.1.Zone), (vi r57.1.Continent)] 65)] := hs106.drop 0
            have hs124 : HS w0 F0 w105 F11 [] := hs123.drop 0
            exact RWP.nil ⟨rfl, F11, hs124, (le99.trans le107), e12, rfl⟩
           ·have h125 := cond_f h120 hb121
            refine Sk [121, 122, 123] 38 true 120 hb121 ?_
            refine V 124 4 (p0 120 (.tmp 123) (.const (.bool false)) (.bool false) hb121) ?_
            refine V 6 4 (ma 124 (.bool false)) ?_
            obtain rfl := some_inj h125
            have hs126 : HS w0 F0 w105 F11 [(sb b65 #[(vi r57.1.Country), (vi r57.1.Zone), (vi r57.1.Continent)] 65)] := hs106.drop 0
            have hs127 : HS w0 F0 w105 F11 [] := hs126.drop 0
            exact RWP.nil ⟨rfl, F11, hs127, (le99.trans le107), e12, rfl⟩
          ·have h128 := cond_f h118 hb119
           refine Sk [116, 117, 118] 33 true 115 hb119 ?_
           refine V 119 4 (p0 115 (.tmp 118) (.const (.bool false)) (.bool false) hb119) ?_
           refine V 120 4 (mv 119 (.bool false)) ?_
           refine Sk [121, 122, 123] 38 true 120 rfl ?_
           refine V 124 4 (p0 120 (.tmp 123) (.const (.bool false)) (.bool false) rfl) ?_
           refine V 6 4 (ma 124 (.bool false)) ?_
           obtain rfl := some_inj h128
           have hs129 : HS w0 F0 w105 F11 [(sb b65 #[(vi r57.1.Country), (vi r57.1.Zone), (vi r57.1.Continent)] 65)] := hs106.drop 0
           have hs130 : HS w0 F0 w105 F11 [] := hs129.drop 0
           exact RWP.nil ⟨rfl, F11, hs130, (le99.trans le107), e12, rfl⟩
         ·have h131 := cond_f h116 hb117
          refine Sk [111, 112, 113] 28 true 110 hb117 ?_
          refine V 114 4 (p0 110 (.tmp 113) (.const (.bool false)) (.bool false) hb117) ?_
          refine V 115 4 (mv 114 (.bool false)) ?_
          refine Sk [116, 117, 118] 33 true 115 rfl ?_
          refine V 119 4 (p0 115 (.tmp 118) (.const (.bool false)) (.bool false) rfl) ?_
          refine V 120 4 (mv 119 (.bool false)) ?_
          refine Sk [121, 122, 123] 38 true 120 rfl ?_
          refine V 124 4 (p0 120 (.tmp 123) (.const (.bool false)) (.bool false) rfl) ?_
          refine V 6 4 (ma 124 (.bool false)) ?_
          obtain rfl := some_inj h131
          have hs132 : HS w0 F0 w105 F11 [(sb b65 #[(vi r57.1.Country), (vi r57.1.Zone), (vi r57.1.Continent)] 65)] := hs106.drop 0
          have hs133 : HS w0 F0 w105 F11 [] := hs132.drop 0
          exact RWP.nil ⟨rfl, F11, hs133, (le99.trans le107), e12, rfl⟩
        ·have h134 := cond_f h114 hb115
         refine Sk [106, 107, 108] 23 true 105 hb115 ?_
         refine V 109 4 (p0 105 (.tmp 108) (.const (.bool false)) (.bool false) hb115) ?_
         refine V 110 4 (mv 109 (.bool false)) ?_
         refine Sk [111, 112, 113] 28 true 110 rfl ?_
         refine V 114 4 (p0 110 (.tmp 113) (.const (.bool false)) (.bool false) rfl) ?_
         refine V 115 4 (mv 114 (.bool false)) ?_
         refine Sk [116, 117, 118] 33 true 115 rfl ?_
         refine V 119 4 (p0 115 (.tmp 118) (.const (.bool false)) (.bool false) rfl) ?_
         refine V 120 4 (mv 119 (.bool false)) ?_
         refine Sk [121, 122, 123] 38 true 120 rfl ?_
         refine V 124 4 (p0 120 (.tmp 123) (.const (.bool false)) (.bool false) rfl) ?_
         refine V 6 4 (ma 124 (.bool false)) ?_
         obtain rfl := some_inj h134
         have hs135 : HS w0 F0 w105 F11 [(sb b65 #[(vi r57.1.Country), (vi r57.1.Zone), (vi r57.1.Continent)] 65)] := hs106.drop 0
         have hs136 : HS w0 F0 w105 F11 [] := hs135.drop 0
         exact RWP.nil ⟨rfl, F11, hs136, (le99.trans le107), e12, rfl⟩
       ·have h137 := cond_f h112 hb113
        refine Sk [101, 102, 103] 18 true 100 hb113 ?_
        refine V 104 4 (p0 100 (.tmp 103) (.const (.bool false)) (.bool false) hb113) ?_
        refine V 105 4 (mv 104 (.bool false)) ?_
        refine Sk [106, 107, 108] 23 true 105 rfl ?_
        refine V 109 4 (p0 105 (.tmp 108) (.const (.bool false)) (.bool false) rfl) ?_
        refine V 110 4 (mv 109 (.bool false)) ?_
        refine Sk [111, 112, 113] 28 true 110 rfl ?_
        refine V 114 4 (p0 110 (.tmp 113) (.const (.bool false)) (.bool false) rfl) ?_
        refine V 115 4 (mv 114 (.bool false)) ?_
        refine Sk [116, 117, 118] 33 true 115 rfl ?_
        refine V 119 4 (p0 115 (.tmp 118) (.const (.bool false)) (.bool false) rfl) ?_
        refine V 120 4 (mv 119 (.bool false)) ?_
        refine Sk [121, 122, 123] 38 true 120 rfl ?_
        refine V 124 4 (p0 120 (.tmp 123) (.const (.bool false)) (.bool false) rfl) ?_
        refine V 6 4 (ma 124 (.bool false)) ?_
        obtain rfl := some_inj h137
        have hs138 : HS w0 F0 w105 F11 [(sb b65 #[(vi r57.1.Country), (vi r57.1.Zone), (vi r57.1.Continent)] 65)] := hs106.drop 0
        have hs139 : HS w0 F0 w105 F11 [] := hs138.drop 0
        exact RWP.nil ⟨rfl, F11, hs139, (le99.trans le107), e12, rfl⟩
      ·have h140 := cond_f h110 hb111
       refine Sk [96, 97, 98] 13 true 95 hb111 ?_
       refine V 99 4 (p0 95 (.tmp 98) (.const (.bool false)) (.bool false) hb111) ?_
       refine V 100 4 (mv 99 (.bool false)) ?_
       refine Sk [101, 102, 103] 18 true 100 rfl ?_
       refine V 104 4 (p0 100 (.tmp 103) (.const (.bool false)) (.bool false) rfl) ?_
       refine V 105 4 (mv 104 (.bool false)) ?_
       refine Sk [106, 107, 108] 23 true 105 rfl ?_
       refine V 109 4 (p0 105 (.tmp 108) (.const (.bool false)) (.bool false) rfl) ?_
       refine V 110 4 (mv 109 (.bool false)) ?_
       refine Sk [111, 112, 113] 28 true 110 rfl ?_
       refine V 114 4 (p0 110 (.tmp 113) (.const (.bool false)) (.bool false) rfl) ?_
       refine V 115 4 (mv 114 (.bool false)) ?_
       refine Sk [116, 117, 118] 33 true 115 rfl ?_
       refine V 119 4 (p0 115 (.tmp 118) (.const (.bool false)) (.bool false) rfl) ?_
       refine V 120 4 (mv 119 (.bool false)) ?_
       refine Sk [121, 122, 123] 38 true 120 rfl ?_
       refine V 124 4 (p0 120 (.tmp 123) (.const (.bool false)) (.bool false) rfl) ?_
       refine V 6 4 (ma 124 (.bool false)) ?_
       obtain rfl := some_inj h140
       have hs141 : HS w0 F0 w105 F11 [(sb b65 #[(vi r57.1.Country), (vi r57.1.Zone), (vi r57.1.Continent)] 65)] := hs106.drop 0
       have hs142 : HS w0 F0 w105 F11 [] := hs141.drop 0
       exact RWP.nil ⟨rfl, F11, hs142, (le99.trans le107), e12, rfl⟩
     ·have h143 := cond_f h103 hb109
      refine Sk [91, 92, 93] 8 true 90 hb109 ?_
      refine V 94 4 (p0 90 (.tmp 93) (.const (.bool false)) (.bool false) hb109) ?_
      refine V 95 4 (mv 94 (.bool false)) ?_
      refine Sk [96, 97, 98] 13 true 95 rfl ?_
      refine V 99 4 (p0 95 (.tmp 98) (.const (.bool false)) (.bool false) rfl) ?_
      refine V 100 4 (mv 99 (.bool false)) ?_
      refine Sk [101, 102, 103] 18 true 100 rfl ?_
      refine V 104 4 (p0 100 (.tmp 103) (.const (.bool false)) (.bool false) rfl) ?_
      refine V 105 4 (mv 104 (.bool false)) ?_
      refine Sk [106, 107, 108] 23 true 105 rfl ?_
      refine V 109 4 (p0 105 (.tmp 108) (.const (.bool false)) (.bool false) rfl) ?_
      refine V 110 4 (mv 109 (.bool false)) ?_
      refine Sk [111, 112, 113] 28 true 110 rfl ?_
      refine V 114 4 (p0 110 (.tmp 113) (.const (.bool false)) (.bool false) rfl) ?_
      refine V 115 4 (mv 114 (.bool false)) ?_
      refine Sk [116, 117, 118] 33 true 115 rfl ?_
      refine V 119 4 (p0 115 (.tmp 118) (.const (.bool false)) (.bool false) rfl) ?_
      refine V 120 4 (mv 119 (.bool false)) ?_
      refine Sk [121, 122, 123] 38 true 120 rfl ?_
      refine V 124 4 (p0 120 (.tmp 123) (.const (.bool false)) (.bool false) rfl) ?_
      refine V 6 4 (ma 124 (.bool false)) ?_
      obtain rfl := some_inj h143
      have hs144 : HS w0 F0 w105 F11 [(sb b65 #[(vi r57.1.Country), (vi r57.1.Zone), (vi r57.1.Continent)] 65)] := hs106.drop 0
      have hs145 : HS w0 F0 w105 F11 [] := hs144.drop 0
      exact RWP.nil ⟨rfl, F11, hs145, (le99.trans le107), e12, rfl⟩
    ·have h146 := cond_f hj89 hb91
     refine Sk [84, 85, 86, 87, 88] 1 true 83 hb91 ?_
     refine V 89 4 (p0 83 (.tmp 88) (.const (.bool false)) (.bool false) hb91) ?_
     refine V 90 4 (mv 89 (.bool false)) ?_
     refine Sk [91, 92, 93] 8 true 90 rfl ?_
     refine V 94 4 (p0 90 (.tmp 93) (.const (.bool false)) (.bool false) rfl) ?_
     refine V 95 4 (mv 94 (.bool false)) ?_
     refine Sk [96, 97, 98] 13 true 95 rfl ?_
     refine V 99 4 (p0 95 (.tmp 98) (.const (.bool false)) (.bool false) rfl) ?_
     refine V 100 4 (mv 99 (.bool false)) ?_
     refine Sk [101, 102, 103] 18 true 100 rfl ?_
     refine V 104 4 (p0 100 (.tmp 103) (.const (.bool false)) (.bool false) rfl) ?_
     refine V 105 4 (mv 104 (.bool false)) ?_
     refine Sk [106, 107, 108] 23 true 105 rfl ?_
     refine V 109 4 (p0 105 (.tmp 108) (.const (.bool false)) (.bool false) rfl) ?_
     refine V 110 4 (mv 109 (.bool false)) ?_
     refine Sk [111, 112, 113] 28 true 110 rfl ?_
     refine V 114 4 (p0 110 (.tmp 113) (.const (.bool false)) (.bool false) rfl) ?_
     refine V 115 4 (mv 114 (.bool false)) ?_
     refine Sk [116, 117, 118] 33 true 115 rfl ?_
     refine V 119 4 (p0 115 (.tmp 118) (.const (.bool false)) (.bool false) rfl) ?_
     refine V 120 4 (mv 119 (.bool false)) ?_
     refine Sk [121, 122, 123] 38 true 120 rfl ?_
     refine V 124 4 (p0 120 (.tmp 123) (.const (.bool false)) (.bool false) rfl) ?_
     refine V 6 4 (ma 124 (.bool false)) ?_
     obtain rfl := some_inj h146
     have hs147 : HS w0 F0 w81 F8 [(sb b65 #[(vi r57.1.Country), (vi r57.1.Zone), (vi r57.1.Continent)] 65)] := hs82.drop 0
     have hs148 : HS w0 F0 w81 F8 [] := hs147.drop 0
     exact RWP.nil ⟨rfl, F8, hs148, (Mem.le.refl _), e12, rfl⟩
   ·rintro f w83 ⟨F9, hs84, le85, e87, e88⟩
    refine thenQ_nrm ?_
    refine CWP.ret (by kernel_rfl) ?_
    have hfin := some_inj h90
    subst hfin
    exact ⟨e87, (.bool j86), res_of (l := [.tmp 6]) (by kernel_rfl) (vs := [(.bool j86)]) ⟨e88, trivial⟩, (.bool j86), F9, rfl, hs84.clear, rfl⟩
end Go.Proofs.YtlddakefmfcblaaGreatDoor
namespace Go.Proofs.YtlddakefmfcblaaGreatDoor
def beginsB (b t : List UInt8) : Bool := decide (t.length ≤ b.length) && (b.take t.length == t)
def whB (T : List Prefix) (c : List UInt8) (d : Int) (i : Nat) : Bool := dayIn (pAt T i) d && ((pAt T i).Whole && ((pAt T i).Text == c))
def phB (T : List Prefix) (b : List UInt8) (d : Int) (i : Nat) : Bool := dayIn (pAt T i) d && (!(pAt T i).Whole && beginsB b (pAt T i).Text)
def bestU (T : List Prefix) (b : List UInt8) (d : Int) : Nat → Option Nat
 | 0 => none
 | i + 1 => if (phB T b d i && ((bestU T b d i).elim true fun m => decide ((pAt T m).Text.length < (pAt T i).Text.length))) = true then some i else bestU T b d i
theorem begins_iff {b t : List UInt8} : beginsB b t = true ↔ t.length ≤ b.length ∧ b.take t.length = t := by
 unfold beginsB
 rw [Bool.and_eq_true, decide_eq_true_eq, beq_iff_eq]
section
variable {N : Nat} {T : List Prefix}
theorem bestU_spec (b : List UInt8) (d : Int) : ∀ i, (bestU T b d i = none → ∀ j, j < i → phB T b d j = false) ∧ ∀ m, bestU T b d i = some m → m < i ∧ phB T b d m = true ∧ ∀ j, j < i → phB T b d j = true → (pAt T j).Text.length ≤ (pAt T m).Text.length ∧ (j < m → (pAt T j).Text.length < (pAt T m).Text.length) := by
 intro i
 induction i with
 | zero => exact ⟨fun _ j hj => by omega, fun m h => by cases h⟩
 | succ i ih =>
  unfold bestU
  cases hp : phB T b d i with
  | false =>
   simp only [Bool.false_and, Bool.false_eq_true, if_false]
   refine ⟨fun h j hj => ?_, fun m h => ?_⟩
   ·by_cases hji : j = i
    ·subst hji; exact hp
    ·exact ih.1 h j (by omega)
   ·obtain ⟨h1, h2, h3⟩ := ih.2 m h
    refine ⟨by omega, h2, fun j hj hpj => ?_⟩
    by_cases hji : j = i
    ·subst hji; rw [hp] at hpj; cases hpj
    ·exact h3 j (by omega) hpj
  | true =>
   rw [Bool.true_and]
   cases hb : bestU T b d i with
   | none =>
    simp only [Option.elim_none, if_true]
    refine ⟨fun h => (by cases h), fun m h => ?_⟩
    injection h with h
    subst h
    refine ⟨by omega, hp, fun j hj hpj => ?_⟩
    by_cases hji : j = i
    ·subst hji; exact ⟨Nat.le_refl _, fun h => by omega⟩
    ·have := ih.1 hb j (by omega)
     rw [this] at hpj; cases hpj
   | some m' =>
    obtain ⟨h1, h2, h3⟩ := ih.2 m' hb
    simp only [Option.elim_some, decide_eq_true_eq]
    by_cases hlt : (pAt T m').Text.length < (pAt T i).Text.length
    ·rw [if_pos hlt]
     refine ⟨fun h => (by cases h), fun m h => ?_⟩
     injection h with h
     subst h
     refine ⟨by omega, hp, fun j hj hpj => ?_⟩
     by_cases hji : j = i
     ·subst hji; exact ⟨Nat.le_refl _, fun h => by omega⟩
     ·have := (h3 j (by omega) hpj).1
      exact ⟨by omega, fun _ => by omega⟩
    ·rw [if_neg hlt]
     refine ⟨fun h => (by cases h), fun m h => ?_⟩
     injection h with h
     subst h
     refine ⟨by omega, h2, fun j hj hpj => ?_⟩
     by_cases hji : j = i
     ·subst hji; exact ⟨by omega, fun h => by omega⟩
     ·exact h3 j (by omega) hpj
theorem atK_some {k : air_key} {d : Int} {i : Nat} : atK T k d = some i ↔ i < T.length ∧ keyP (pAt T i) = k ∧ dayIn (pAt T i) d = true ∧ ∀ j, j < i → ¬ (keyP (pAt T j) = k ∧ dayIn (pAt T j) d = true) := by
 unfold atK
 rw [firstN_some (m := T.length) (by omega)]
 constructor
 ·rintro ⟨j, _, h2, h3, h4⟩
  split at h3
  ·rename_i hc
   injection h3 with h3
   subst h3
   simp only [Bool.and_eq_true, decide_eq_true_eq] at hc
   refine ⟨h2, hc.1, hc.2, fun q hq hh => ?_⟩
   have := h4 q (by omega) hq
   rw [if_pos (by simp only [Bool.and_eq_true, decide_eq_true_eq]; exact hh)] at this
   cases this
  ·cases h3
 ·rintro ⟨h1, h2, h3, h4⟩
  refine ⟨i, by omega, h1, if_pos (by simp only [Bool.and_eq_true, decide_eq_true_eq]; exact ⟨h2, h3⟩), fun j _ hj => ?_⟩
  rw [if_neg (by simp only [Bool.and_eq_true, decide_eq_true_eq]; exact h4 j hj)]
theorem atK_none {k : air_key} {d : Int} : atK T k d = none ↔ ∀ i, i < T.length → ¬ (keyP (pAt T i) = k ∧ dayIn (pAt T i) d = true) := by
 unfold atK
 rw [firstN_none (by omega)]
 constructor
 ·intro h i hi hh
  have := h i (by omega) hi
  rw [if_pos (by simp only [Bool.and_eq_true, decide_eq_true_eq]; exact hh)] at this
  cases this
 ·intro h i _ hi
  rw [if_neg (by simp only [Bool.and_eq_true, decide_eq_true_eq]; exact h i hi)]
theorem ph_iff {b : List UInt8} {d : Int} {i : Nat} : phB T b d i = true ↔ dayIn (pAt T i) d = true ∧ (pAt T i).Text.length ≤ b.length ∧ keyP (pAt T i) = { text_ := b.take (pAt T i).Text.length, whole_ := false } := by
 unfold phB keyP
 rw [Bool.and_eq_true, Bool.and_eq_true, begins_iff]
 constructor
 ·rintro ⟨h1, h2, h3, h4⟩
  refine ⟨h1, h3, ?_⟩
  rw [h4]
  simp at h2
  rw [h2]
 ·rintro ⟨h1, h2, h3⟩
  injection h3 with h3 h4
  exact ⟨h1, by rw [h4]; rfl, h2, h3.symm⟩
theorem wh_iff {c : List UInt8} {d : Int} {i : Nat} : whB T c d i = true ↔ dayIn (pAt T i) d = true ∧ keyP (pAt T i) = { text_ := c, whole_ := true } := by
 unfold whB keyP
 rw [Bool.and_eq_true, Bool.and_eq_true, beq_iff_eq]
 constructor
 ·rintro ⟨h1, h2, h3⟩
  exact ⟨h1, by rw [h2, h3]⟩
 ·rintro ⟨h1, h2⟩
  injection h2 with h2 h3
  exact ⟨h1, h3, h2⟩
theorem downF_spec (b : List UInt8) (d : Int) : ∀ k, (downF T b d k = none → ∀ l, 1 ≤ l → l ≤ k → atK T { text_ := b.take l, whole_ := false } d = none) ∧ ∀ m, downF T b d k = some m → ∃ l, 1 ≤ l ∧ l ≤ k ∧ atK T { text_ := b.take l, whole_ := false } d = some m ∧ ∀ q, l < q → q ≤ k → atK T { text_ := b.take q, whole_ := false } d = none := by
 intro k
 induction k with
 | zero => exact ⟨fun _ l h1 h2 => by omega, fun m h => by cases h⟩
 | succ k ih =>
  unfold downF
  cases ha : atK T { text_ := b.take (k + 1), whole_ := false } d with
  | some i =>
   refine ⟨fun h => (by cases h), fun m h => ?_⟩
   injection h with h
   subst h
   exact ⟨k + 1, by omega, Nat.le_refl _, ha, fun q h1 h2 => by omega⟩
  | none =>
   refine ⟨fun h l h1 h2 => ?_, fun m h => ?_⟩
   ·by_cases hl : l = k + 1
    ·subst hl; exact ha
    ·exact ih.1 h l h1 (by omega)
   ·obtain ⟨l, h1, h2, h3, h4⟩ := ih.2 m h
    refine ⟨l, h1, by omega, h3, fun q h5 h6 => ?_⟩
    by_cases hq : q = k + 1
    ·subst hq; exact ha
    ·exact h4 q h5 (by omega)
theorem best_down (hR : ∀ p, p ∈ T → PreR p) (b : List UInt8) (d : Int) : bestU T b d T.length = downF T b d b.length := by
 obtain ⟨u1, u2⟩ := bestU_spec (T := T) b d T.length
 obtain ⟨v1, v2⟩ := downF_spec (T := T) b d b.length
 cases hu : bestU T b d T.length with
 | none =>
  cases hv : downF T b d b.length with
  | none => rfl
  | some m =>
   exfalso
   obtain ⟨l, h1, h2, h3, _⟩ := v2 m hv
   obtain ⟨g1, g2, g3, _⟩ := atK_some.1 h3
   have hl : (pAt T m).Text.length = l := by
    have := congrArg air_key.text_ g2
    unfold keyP at this
    simp only at this
    rw [this, List.length_take]; omega
   have := u1 hu m g1
   rw [ph_iff.2 ⟨g3, by omega, by rw [hl]; exact g2⟩] at this
   cases this
 | some m' =>
  obtain ⟨p1, p2, p3⟩ := u2 m' hu
  obtain ⟨q1, q2, q3⟩ := ph_iff.1 p2
  have h1' := (hR _ (pAt_mem p1)).l1
  cases hv : downF T b d b.length with
  | none =>
   exfalso
   have := v1 hv _ h1' q2
   exact atK_none.1 this m' p1 ⟨q3, q1⟩
  | some m =>
   obtain ⟨l, h1, h2, h3, h4⟩ := v2 m hv
   obtain ⟨g1, g2, g3, g4⟩ := atK_some.1 h3
   have hl : (pAt T m).Text.length = l := by
    have := congrArg air_key.text_ g2
    unfold keyP at this
    simp only at this
    rw [this, List.length_take]; omega
   have hpm : phB T b d m = true := ph_iff.2 ⟨g3, by omega, by rw [hl]; exact g2⟩
   obtain ⟨r1, r2⟩ := p3 m g1 hpm
   have hle : (pAt T m').Text.length ≤ l := by
    rcases Nat.lt_or_ge l (pAt T m').Text.length with h | h
    ·exact absurd ⟨q3, q1⟩ (atK_none.1 (h4 _ h q2) m' p1)
    ·exact h
   have heq : (pAt T m').Text.length = l := by omega
   have hmm : ¬ m' < m := fun hlt => g4 m' hlt ⟨by rw [← heq]; exact q3, q1⟩
   have hmm2 : ¬ m < m' := fun hlt => by have := r2 hlt; omega
   have : m = m' := by omega
   rw [this]
theorem s_find (hR : ∀ p, p ∈ T → PreR p) (h400 : T.length ≤ 400) (hN : 4294967300 < N) (c : List UInt8) (d : Int) : ref01_find N T c d = some (toI (findS T c d)) := by
 unfold ref01_find
 rw [m_rparts c hN, Option.bind_some]
 have e1 : (bif ((triR c).1 == ([] : List UInt8)) then some (triR c).2.1 else some (triR c).1) = some (bC c) := by
  unfold triR bC
  cases callB c with
  | none => rfl
  | some t =>
   simp only
   rw [eq_dec]
   by_cases ht : t.1 = []
   ·rw [decide_eq_true ht, if_pos ht]; rfl
   ·rw [decide_eq_false ht, if_neg ht]; rfl
 rw [e1, Option.bind_some]
 obtain ⟨o, ho, hO⟩ := iter_ex (body := ref01_find_L0 N T c d (triR c) (bC c)) T.length (fun i s => s = (toI (bestU T (bC c) d i), (i : Int)) ∧ ∀ j, j < i → whB T c d j = false)
  (fun o => ((∀ j, j < T.length → whB T c d j = false) ∧ ∃ j, o = .done (toI (bestU T (bC c) d T.length), j)) ∨ ∃ i, i < T.length ∧ whB T c d i = true ∧ (∀ j, j < i → whB T c d j = false) ∧ o = .ret (i : Int)) (by
  rintro i s hi ⟨rfl, hk⟩
  by_cases h : i < T.length
  ·have hb : ref01_find_L0 N T c d (triR c) (bC c) (toI (bestU T (bC c) d i), (i : Int)) = some (bif whB T c d i then .ret (i : Int) else .next (toI (bestU T (bC c) d (i + 1)), ((i + 1 : Nat) : Int))) := by
    unfold ref01_find_L0
    simp only
    rw [lt_dec h, cond_true, idx_p h, w64s i (by omega)]
    simp only [Option.bind_some, m_rwithin]
    have ed : (decide ((pAt T i).From ≤ d) && decide (d ≤ (pAt T i).To)) = dayIn (pAt T i) d := rfl
    rw [ed]
    have eb : ref01_begins N (bC c) (pAt T i).Text = some (beginsB (bC c) (pAt T i).Text) := by
     unfold ref01_begins beginsB
     have : decide (((pAt T i).Text.length : Int) ≤ ((bC c).length : Int)) = decide ((pAt T i).Text.length ≤ (bC c).length) := by rw [decide_eq_decide]; omega
     rw [this]
     by_cases hl : (pAt T i).Text.length ≤ (bC c).length
     ·rw [decide_eq_true hl, cond_true, ssub0 hl]; rfl
     ·rw [decide_eq_false hl]; rfl
    rw [eb]
    have ex : (bif (decide (toI (bestU T (bC c) d i) < 0)) then some true else ((idx T (toI (bestU T (bC c) d i))).bind fun x196 => some (decide (((pAt T i).Text.length : Int) > (x196.Text.length : Int))))) = some ((bestU T (bC c) d i).elim true fun m => decide ((pAt T m).Text.length < (pAt T i).Text.length)) := by
     cases hu : bestU T (bC c) d i with
     | none => rfl
     | some m =>
      have hm := ((bestU_spec (T := T) (bC c) d i).2 m hu).1
      rw [toI_neg]
      show (idx T (m : Int)).bind _ = _
      rw [idx_p (by omega), Option.bind_some]
      simp only [Option.elim_some]
      congr 1
      rw [decide_eq_decide]; omega
    simp only [Option.bind_some]
    rw [ex]
    have eu : bestU T (bC c) d (i + 1) = if (phB T (bC c) d i && ((bestU T (bC c) d i).elim true fun m => decide ((pAt T m).Text.length < (pAt T i).Text.length))) = true then some i else bestU T (bC c) d i := rfl
    rw [eu]
    unfold whB phB
    generalize (bestU T (bC c) d i).elim true (fun m => decide ((pAt T m).Text.length < (pAt T i).Text.length)) = E
    generalize bestU T (bC c) d i = U
    cases dayIn (pAt T i) d <;> cases (pAt T i).Whole <;> cases ((pAt T i).Text == c) <;> cases beginsB (bC c) (pAt T i).Text <;> cases E <;> rfl
   rw [hb]
   cases hw : whB T c d i with
   | true => exact .inr ⟨_, rfl, (fun _ h => by cases h), .inr ⟨i, h, hw, hk, rfl⟩⟩
   | false =>
    refine .inl ⟨_, rfl, ⟨rfl, fun j hj => ?_⟩, h⟩
    by_cases hji : j = i
    ·subst hji; exact hw
    ·exact hk j (by omega)
  ·have : i = T.length := by omega
   subst this
   refine .inr ⟨_, ?_, (fun _ h => by cases h), .inl ⟨hk, (T.length : Int), rfl⟩⟩
   unfold ref01_find_L0
   simp only [lt_dec', cond_false]) T.length N 0 (-1, 0) (by omega) ⟨rfl, fun j hj => by omega⟩ (by omega)
 rw [ho]
 unfold findS
 rcases hO with ⟨h1, j, rfl⟩ | ⟨i, h1, h2, h3, rfl⟩
 ·have : atK T { text_ := c, whole_ := true } d = none := atK_none.2 fun i hi hh => by
   have := h1 i hi
   rw [wh_iff.2 ⟨hh.2, hh.1⟩] at this; cases this
  rw [this]
  simp only [Option.bind_some, Flow.k]
  rw [best_down hR]
 ·have : atK T { text_ := c, whole_ := true } d = some i := atK_some.2 ⟨h1, (wh_iff.1 h2).2, (wh_iff.1 h2).1, fun j hj hh => by
   have := h3 j hj
   rw [wh_iff.2 ⟨hh.2, hh.1⟩] at this; cases this⟩
  rw [this]; rfl
theorem s_rRowOf (hT : fitT N T) (hN : 4294967300 < N) (c : List UInt8) (d : Int) : ref01_RowOf N T c d = some (rowOfS T c d) := by
 unfold ref01_RowOf rowOfS
 rw [s_asked hT hN, Option.bind_some]
 by_cases hw : wrongT T c d = 0
 ·rw [if_pos hw, hw, show ((0 : Int) != 0) = false from rfl, cond_false]
  have hr := (validT_iff.1 (wrongT_ok hw).1).1
  obtain ⟨h400, hR⟩ := rowsB_ok hr
  rw [s_find hR h400 hN, Option.bind_some, toI_neg]
  cases findS T c d <;> rfl
 ·rw [if_neg hw, show (wrongT T c d != 0) = true by simpa using hw, cond_true]
theorem downF_lt {b : List UInt8} {d : Int} {k i : Nat} (h : downF T b d k = some i) : i < T.length ∧ dayIn (pAt T i) d = true := by
 obtain ⟨l, _, _, h3, _⟩ := (downF_spec (T := T) b d k).2 i h
 exact ⟨(atK_some.1 h3).1, (atK_some.1 h3).2.2.1⟩
theorem findS_lt {c : List UInt8} {d : Int} {i : Nat} (h : findS T c d = some i) : i < T.length ∧ dayIn (pAt T i) d = true := by
 unfold findS at h
 cases ha : atK T { text_ := c, whole_ := true } d with
 | some j =>
  rw [ha] at h
  injection h with h
  subst h
  exact ⟨(atK_some.1 ha).1, (atK_some.1 ha).2.2.1⟩
 | none =>
  rw [ha] at h
  exact downF_lt h
def plOf (p : Prefix) : Place := { Country := p.Country, Zone := p.Zone, Continent := p.Continent }
def zPl : Place := { Country := 0, Zone := 0, Continent := 0 }
def placeS (T : List Prefix) (c : List UInt8) (d : Int) : Place × Int := if wrongT T c d = 0 then (match findS T c d with | some i => (plOf (pAt T i), 0) | none => (zPl, 3)) else (zPl, wrongT T c d)
theorem s_PlaceOf (hT : fitT N T) (hN : 4294967300 < N) (c : List UInt8) (d : Int) : air_PlaceOf N T c d = some (placeS T c d) := by
 unfold air_PlaceOf placeS
 rw [s_RowOf hT hN, Option.bind_some]
 unfold rowOfS
 by_cases hw : wrongT T c d = 0
 ·rw [if_pos hw, if_pos hw]
  cases hf : findS T c d with
  | none => rfl
  | some i =>
   simp only
   rw [show ((0 : Int) != 0) = false from rfl, cond_false, idx_p (findS_lt hf).1]
   rfl
 ·rw [if_neg hw, if_neg hw, show ((((0 : Int), wrongT T c d).2) != 0) = true by simpa using hw, cond_true]
  rfl
def refPl (T : List Prefix) (c : List UInt8) (d : Int) : Place := match findS T c d with | some i => plOf (pAt T i) | none => zPl
theorem s_rplace (hR : ∀ p, p ∈ T → PreR p) (h400 : T.length ≤ 400) (hN : 4294967300 < N) (c : List UInt8) (d : Int) : ref01_place N T c d = some (refPl T c d) := by
 unfold ref01_place refPl
 rw [s_find hR h400 hN, Option.bind_some, toI_neg]
 cases hf : findS T c d with
 | none => rfl
 | some i =>
  simp only [Option.isNone_some, cond_false]
  rw [show toI (some i) = (i : Int) from rfl, idx_p (findS_lt hf).1]
  rfl
theorem plOf_ne {p : Prefix} (h : PreR p) : ((plOf p).Country == 0) = false := by
 rw [beq_eq_false_iff_ne]
 have := h.c1
 unfold plOf
 simp only
 omega
theorem s_rPlaceOf (hT : fitT N T) (hN : 4294967300 < N) (c : List UInt8) (d : Int) : ref01_PlaceOf N T c d = some (placeS T c d) := by
 unfold ref01_PlaceOf placeS
 rw [s_asked hT hN, Option.bind_some]
 by_cases hw : wrongT T c d = 0
 ·rw [if_pos hw, hw, show ((0 : Int) != 0) = false from rfl, cond_false]
  have hr := (validT_iff.1 (wrongT_ok hw).1).1
  obtain ⟨h400, hR⟩ := rowsB_ok hr
  rw [s_rplace hR h400 hN, Option.bind_some]
  unfold refPl
  cases hf : findS T c d with
  | none => rfl
  | some i =>
   simp only
   rw [plOf_ne (hR _ (pAt_mem (findS_lt hf).1))]
   rfl
 ·rw [if_neg hw, show (wrongT T c d != 0) = true by simpa using hw, cond_true]
  rfl
theorem tables_eqs (c : List UInt8) (d : Int) (hT : fitT N T) (hN : 4294967300 < N) : law01_AirTables N T c d = some true := by
 unfold law01_AirTables
 rw [awake_true hN, Option.bind_some]
 generalize (bif (decide ((T.length : Int) > 50)) then ((decide ((T.length : Int) ≤ 400)) || ((decide ((T.length : Int) > 500)) || (decide ((c.length : Int) > 1000)))) else ((decide ((T.length : Int) > 500)) || (decide ((c.length : Int) > 1000)))) = g
 cases g with
 | true => rfl
 | false =>
  rw [cond_false]
  simp only [s_Overlap hT hN, s_rOverlap hT hN, s_RowOf hT hN, s_rRowOf hT hN, s_PlaceOf hT hN, s_rPlaceOf hT hN, s_ValidT hT hN, s_rValidT hT hN, Option.bind_some]
  simp
end
theorem fitT_q {T : List Prefix} (q : T.length < 9223372036854775808 ∧ ∀ x, x ∈ T → qPrefix x) (h : T.length < 4000000000) : fitT 9223372036854775808 T := ⟨h, fun p hp => by
 have := (q.2 p hp).1
 unfold rS at this
 omega⟩
theorem airTables_row (x0 : List Prefix) (x1 : List UInt8) (x2 : Int) (q : x0.length < 9223372036854775808 ∧ ∀ x, x ∈ x0 → qPrefix x) (_ : rS x1) (_ : rI x2) : law01_AirTables 9223372036854775808 x0 x1 x2 = some true := by
 by_cases h : x0.length < 4000000000
 ·exact tables_eqs x1 x2 (fitT_q q h) (by omega)
 ·unfold law01_AirTables
  rw [awake_true (by omega), Option.bind_some, decide_eq_true (show (x0.length : Int) > 50 by omega), decide_eq_true (show (x0.length : Int) > 500 by omega), Bool.true_or, Bool.or_true]
  rfl
end Go.Proofs.YtlddakefmfcblaaGreatDoor
namespace Go.Proofs.YtlddakefmfcblaaGreatDoor
open Go.ChangeShapes Go.WideShapes Go.ChangeAt Go.RowKit
set_option maxRecDepth 100000 in
theorem lifted_airTables (os : Os) (started : os.Started) (H : Type) (enc : TypeId × Value → H) :
  ReturnsInHanded {} Tryz.checked os 12 .any (fun w args => (Rows.airTablesSpec.pre enc Tryz.prog Tryz.f12 Rows.airTablesRow.domain false w args ∧ laidMetH Tryz.prog Rows.airTablesRow.laid w) ∧ sizedMet enc Tryz.prog Tryz.f12 (OpenSpec.ofChange Rows.airTablesSpec) false w args) (Rows.airTablesSpec.post enc Tryz.prog Tryz.f12 false true false false) := by
 refine handed_laid (C := Tryz.checked) (X := fun w _ => laidMetH Tryz.prog laid7 w) (fun _ _ _ hh h => h.of_heap hh) own_knob started (by kernel_rfl) Tryz.func12
  (ChangeSpec.witness_shaped (enc := enc) (C := Tryz.checked) (os := os) (X := fun w _ => laidMetH Tryz.prog laid7 w) false (World.laidAll Tryz.prog os laid7) #[.slice none 0 0, .string ByteArray.empty, .int .i64 0] 8 (World.laidAll_os _ _ _)
   (World.shaped_of_ZipB (by kernel_rfl) (by kernel_rfl)) (by kernel_rfl) (by kernel_rfl) (by kernel_rfl) (door_met7 os _)) ?_
 intro W base args ds gs before hval0 hW hsz hL hsh
 have hval : ∀ (j : Nat) t v, Tryz.f12.params[j]? = some t → args[j]? = some v → Value.okWide Tryz.prog W .any base t v := hval0
 have hW' := hW
 obtain ⟨p, q, hA0, hV, rfl, hfz, hnd⟩ := hW
 have hA : DataW.TrodAll enc Tryz.prog W 0 (fun _ => true) true Tryz.f12.params.toList args.toList ds p := hA0
 rw [Tryz.params12] at hA hval
 obtain ⟨v0, vs0, d0, ds0, p0, q0, hargs, rfl, rfl, h0, r0⟩ := trodAll_cons hA
 obtain ⟨v1, vs1, d1, ds1, p1, q1, rfl, rfl, rfl, h1, r1⟩ := trodAll_cons r0
 obtain ⟨v2, vs2, d2, ds2, p2, q2, rfl, rfl, rfl, h2, r2⟩ := trodAll_cons r1
 obtain ⟨rfl, rfl, rfl⟩ := trodAll_nil r2
 obtain rfl : args = #[v0, v1, v2] := by cases args; simp_all
 have z0 : SzW Tryz.prog 61 d0 := SzW.each hsz (j := 0) (by kernel_rfl) rfl
 obtain ⟨x0, R0, Q0⟩ := Opens.one (opens_slice (t := 61) opens_Prefix_71 (by decide) (by kernel_rfl) (by kernel_rfl) : Opens Tryz.prog 61 (tSl tPrefix) _) (by kernel_rfl) (hval 0 61 v0 rfl rfl) h0 z0
 obtain ⟨a0_0, n0_0, e0, hb0_0, hs0_0⟩ := R0
 obtain rfl : v0 = .slice a0_0 x0.length n0_0 := by cases e0; rfl
 have z1 : SzW Tryz.prog 9 d1 := SzW.each hsz (j := 1) (by kernel_rfl) rfl
 obtain ⟨x1, R1, Q1⟩ := Opens.one (opens_str (t := 9) (by kernel_rfl) (by kernel_rfl) : Opens Tryz.prog 9 tStr rS) (by kernel_rfl) (hval 1 9 v1 rfl rfl) h1 z1
 have e1 : [v1] = [.string ⟨x1.toArray⟩] := R1
 cases e1
 have z2 : SzW Tryz.prog 3 d2 := SzW.each hsz (j := 2) (by kernel_rfl) rfl
 obtain ⟨x2, R2, Q2⟩ := Opens.one (opens_int (t := 3) (by kernel_rfl) (by kernel_rfl) : Opens Tryz.prog 3 tInt rI) (by kernel_rfl) (hval 2 3 v2 rfl rfl) h2 z2
 have e2 : [v2] = [.int .i64 x2] := R2
 cases e2
 refine (c_law01_AirTables 9223372036854775808 W (memOf W) (fun _ _ h => h) (glob_of hL hsh) x0 a0_0 n0_0 hb0_0 hs0_0 x1 x2 true (airTables_row x0 x1 x2 Q0 Q1 Q2)).mono fun e W' he => ?_
 obtain ⟨r, F', rfl, hs, rfl⟩ := he
 refine ⟨_, rfl, post_grown (by kernel_rfl) (tb := 4) ?_ rfl hW' (by kernel_rfl) (by kernel_rfl) ?_ hs⟩
 ·intro t ht
  rw [Tryz.params12] at ht
  simp only [List.mem_cons, List.not_mem_nil, or_false] at ht
  rcases ht with rfl | rfl | rfl <;> exact ⟨by kernel_rfl, by decide +kernel⟩
 ·intro _; rfl
theorem airTables_row_holds : Rows.AirTablesSaid :=
 OpenClaim.holds_of_wide 12 Tryz.f12 rfl rfl rfl rfl rfl rfl rfl ⟨rfl, rfl, rfl, rfl, rfl⟩ rfl rfl rfl rfl rfl (by kernel_rfl) Tryz.func12 (by kernel_rfl)
  (of_decide_eq_true (by kernel_rfl)) (by unfold Func.isWrapper; first | (rw [if_pos (by decide +kernel)]; kernel_rfl) | (rw [if_neg (by decide +kernel)]; exact ⟨rfl, rfl⟩))
  (fun os started H enc _ => lifted_airTables os started H enc)
theorem airTables_proved : Rows.AirTablesCardSaid :=
 Claim7.holds_tied_plain_at .later [] [.data, .data, .data, .data, .sentinel, .sentinel, .pinned] true (true, "e13dca8d4619a64a69fa99222db8f18b16b74485258a6a257541940742401f67") true airTables_row_holds (fun _ h => by cases h) (by kernel_rfl) (fun _ h => by cases h) airTables_row_tie rfl ⟨rfl, rfl⟩ (by kernel_rfl) rfl
  (fun f fn hf hfn => by
   obtain rfl : f = 12 := Option.some.inj ((show Tryz.prog.funcNamed Tryz.f12.name = some 12 by kernel_rfl).symm.trans hf) |>.symm
   obtain rfl : fn = Tryz.f12 := (Option.some.inj (Tryz.func12.symm.trans hfn)).symm
   exact ⟨by kernel_rfl, fun j t ht => by
    rw [Tryz.params12] at ht
    have hm : t ∈ [61, 9, 3] := by simpa using Array.mem_of_getElem? ht
    have hall : ([61, 9, 3].all fun u => !Tryz.prog.wantsStandIn u) = true := by kernel_rfl
    exact (show Tryz.prog.wantsStandIn t = false by simpa using List.all_eq_true.1 hall t hm)⟩)
  (by kernel_rfl)
end Go.Proofs.YtlddakefmfcblaaGreatDoor
