/- ClocksTimes: for every input the law returns true, and each argument reads afterwards as it read before. No condition. -/
import Derived.Test.YthbcnabeabcmlaaA5
set_option linter.unusedVariables false
set_option linter.unusedSimpArgs false
set_option linter.unusedSectionVars false
namespace Go.Proofs.Ythbcnabeabcmlaa
open Go.Proofs
def law03_awake (N : Nat)  : Option Bool :=
 ((law03_pair N true).bind fun r1 => ((clocks_Times N r1).bind fun r9 => ((law03_pair N true).bind fun r17 => ((clocks_Offset N r17 ({ Log := 0, Line := 0 } : Ref)).bind fun r25 => ((law03_pair N false).bind fun r38 => ((clocks_Accept N r38 ([({ A := ({ Log := 0, Line := 0 } : Ref), B := ({ Log := 1, Line := 1 } : Ref) } : Tie), ({ A := ({ Log := 0, Line := 0 } : Ref), B := ({ Log := 1, Line := 0 } : Ref) } : Tie)])).bind fun r55 => ((law03_pair N false).bind fun r63 => ((clocks_Before N r63 ({ Log := 1, Line := 0 } : Ref) ({ Log := 0, Line := 1 } : Ref)).bind fun r71 => ((bif (r9.2 != 0) then some true else (bif ((r9.1.length : Int) != 2) then some true else ((idx r9.1 0).bind fun x99 => (bif ((x99.length : Int) != 2) then some true else ((idx r9.1 0).bind fun x116 => ((idx x116 0).bind fun x122 => (bif (!((x122.Lo == 90) && ((x122.Hi == 100) && true))) then some true else ((idx r9.1 0).bind fun x139 => ((idx x139 1).bind fun x145 => some (!((x145.Lo == 150) && ((x145.Hi == 161) && true)))))))))))).bind fun j82 => (bif j82 then some false else ((bif (r25.2 == 0) then (bif ((r25.1.Lo == 0) && ((r25.1.Hi == 10) && true)) then (bif (r55.2 == 0) then (bif ((r55.1.length : Int) == 2) then ((idx r55.1 0).bind fun x178 => (bif (!x178) then ((idx r55.1 1).bind fun x194 => (bif x194 then (bif r71.1 then some (r71.2 == 0) else some false) else some false)) else some false)) else some false) else some false) else some false) else some false).bind fun j165 => some j165)))))))))))
theorem co_law03_awake : CallOk Try.prog 15 := fun _ _ => by kernel_rfl
set_option maxHeartbeats 4000000 in
set_option maxRecDepth 100000 in
theorem c_law03_awake (N : Nat) (w0 : World) (F0 : Mem) (hF : ∀ b o, F0 b = some o → w0.heap[b]? = some o)  (r : Bool) (h : law03_awake N  = some r) :
  Calls Try.prog 15 ([] : List Value).toArray w0 (FRet w0 F0 fun F' v => v = (.bool r)) := by
 have hs0 := HS.start hF
 refine calls_of (n := 105) (c := bodyOf Try.f15) Try.func15 (by kernel_rfl) (by kernel_rfl) (by kernel_rfl) ?_
 refine Sq (Rg [0] ?_)
 refine V 0 4 (mc (.bool false) (.bool false)) ?_
 refine Nss (Rg [0, 1, 2, 3, 4, 5, 6] ?_)
 obtain ⟨r1, hr2, h3⟩ := bind_some h
 refine Cl 10 25 64 #[(.const (.bool true))] #[4] co_law03_pair hs0 (c_law03_pair N w0 F0 hs0.pers (true) _ hr2) ?_
 intro v4 F1 w5 hs6 le7 hp8
 obtain ⟨ar1_0_0, nr1_0_0, ar1_0_1, nr1_0_1, rfl, hbr1_0_0, hsr1_0_0, hbr1_0_1, hsr1_0_1⟩ := hp8
 obtain ⟨r9, hr10, h11⟩ := bind_some h3
 refine Cl 11 34 19 #[(.tmp 10)] #[25] co_clocks_Times hs6 (c_clocks_Times N w5 F1 hs6.pers (r1) ar1_0_0 nr1_0_0 hbr1_0_0 hsr1_0_0 ar1_0_1 nr1_0_1 hbr1_0_1 hsr1_0_1 _ hr10) ?_
 intro v12 F2 w13 hs14 le15 hp16
 obtain ⟨ar9_0_0, nr9_0_0, rfl, hbr9_0_0, hsr9_0_0⟩ := hp16
 refine V 9 34 (mv 11 (.tuple #[(.slice ar9_0_0 r9.1.length nr9_0_0), (vi r9.2)])) ?_
 refine V 12 33 (ex 9 0 (.slice ar9_0_0 r9.1.length nr9_0_0) (vs := #[(.slice ar9_0_0 r9.1.length nr9_0_0), (vi r9.2)])) ?_
 refine V 13 30 (ex 9 1 (vi r9.2) (vs := #[(.slice ar9_0_0 r9.1.length nr9_0_0), (vi r9.2)])) ?_
 refine V 1 33 (ma 12 (.slice ar9_0_0 r9.1.length nr9_0_0)) ?_
 refine V 2 30 (ma 13 (vi r9.2)) ?_
 refine Nss (Rg [0, 1, 2, 3, 4, 5, 6, 7, 8] ?_)
 obtain ⟨r17, hr18, h19⟩ := bind_some h11
 refine Cl 15 25 64 #[(.const (.bool true))] #[4] co_law03_pair hs14 (c_law03_pair N w13 F2 hs14.pers (true) _ hr18) ?_
 intro v20 F3 w21 hs22 le23 hp24
 obtain ⟨ar17_0_0, nr17_0_0, ar17_0_1, nr17_0_1, rfl, hbr17_0_0, hsr17_0_0, hbr17_0_1, hsr17_0_1⟩ := hp24
 refine V 16 27 (run_build2 (t := 27) (parts := #[]) (vs := []) (rfl) (cs := [(vi 0), (vi 0)]) (by kernel_rfl)) ?_
 obtain ⟨r25, hr26, h27⟩ := bind_some h19
 refine Cl 17 39 24 #[(.tmp 15), (.tmp 16)] #[25, 27] co_clocks_Offset hs22 (c_clocks_Offset N w21 F3 hs22.pers (r17) ar17_0_0 nr17_0_0 hbr17_0_0 hsr17_0_0 ar17_0_1 nr17_0_1 hbr17_0_1 hsr17_0_1 (({ Log := 0, Line := 0 } : Ref)) _ hr26) ?_
 intro v28 F4 w29 hs30 le31 hp32
 obtain rfl := hp32
 refine V 14 39 (mv 17 (.tuple #[(.agg (kSpan r25.1)), (vi r25.2)])) ?_
 refine V 18 38 (ex 14 0 (.agg (kSpan r25.1)) (vs := #[(.agg (kSpan r25.1)), (vi r25.2)])) ?_
 refine V 19 30 (ex 14 1 (vi r25.2) (vs := #[(.agg (kSpan r25.1)), (vi r25.2)])) ?_
 refine Al 3 0 38 #[(vi 0), (vi 0)] hs30 (fun b33 w34 (hs35 : HS w0 F0 w34 F4 [(sb b33 #[(vi 0), (vi 0)] 38)]) => ?_)
 refine RWP.store (ty := 0) (g := none) (by kernel_rfl) rfl (x := (.tmp 3)) (y := (.tmp 18)) (t := 38) (gg := true) (s := 2) (v := (.agg (kSpan r25.1))) (b := b33) (o := 0) (C := #[(vi 0), (vi 0)]) rfl rfl (by kernel_rfl) hs35 (k := 0) rfl rfl rfl rfl (C' := (kSpan r25.1)) rfl (fun w36 (hs37 : HS w0 F0 w36 F4 [(sb b33 (kSpan r25.1) 38)]) => ?_)
 refine V 4 30 (ma 19 (vi r25.2)) ?_
 refine Nss (Rg [0, 1, 2, 3, 4, 5, 6, 7, 8, 9, 10, 11, 12, 13] ?_)
 obtain ⟨r38, hr39, h40⟩ := bind_some h27
 refine Cl 21 25 64 #[(.const (.bool false))] #[4] co_law03_pair hs37 (c_law03_pair N w36 F4 hs37.pers (false) _ hr39) ?_
 intro v41 F5 w42 hs43 le44 hp45
 obtain ⟨ar38_0_0, nr38_0_0, ar38_0_1, nr38_0_1, rfl, hbr38_0_0, hsr38_0_0, hbr38_0_1, hsr38_0_1⟩ := hp45
 refine V 22 27 (run_build2 (t := 27) (parts := #[]) (vs := []) (rfl) (cs := [(vi 0), (vi 0)]) (by kernel_rfl)) ?_
 refine V 23 27 (run_build2 (t := 27) (parts := #[(0, (.const (vi 1))), (1, (.const (vi 1)))]) (vs := [(0, (vi 1)), (1, (vi 1))]) (rfl) (cs := [(vi 1), (vi 1)]) (by kernel_rfl)) ?_
 refine V 24 46 (run_build2 (t := 46) (parts := #[(0, (.tmp 22)), (1, (.tmp 23))]) (vs := [(0, (.agg #[(vi 0), (vi 0)])), (1, (.agg #[(vi 1), (vi 1)]))]) (rfl) (cs := [(vi 0), (vi 0), (vi 1), (vi 1)]) (by kernel_rfl)) ?_
 refine V 25 27 (run_build2 (t := 27) (parts := #[]) (vs := []) (rfl) (cs := [(vi 0), (vi 0)]) (by kernel_rfl)) ?_
 refine V 26 27 (run_build2 (t := 27) (parts := #[(0, (.const (vi 1)))]) (vs := [(0, (vi 1))]) (rfl) (cs := [(vi 1), (vi 0)]) (by kernel_rfl)) ?_
 refine V 27 46 (run_build2 (t := 46) (parts := #[(0, (.tmp 25)), (1, (.tmp 26))]) (vs := [(0, (.agg #[(vi 0), (vi 0)])), (1, (.agg #[(vi 1), (vi 0)]))]) (rfl) (cs := [(vi 0), (vi 0), (vi 1), (vi 0)]) (by kernel_rfl)) ?_
 refine RWP.buildSlice (dst := (some 28)) (ty := 23) (g := none) (by kernel_rfl) rfl (t := 23) (len := 2) (parts := #[(0, (.tmp 24)), (1, (.tmp 27))]) (vs := [(0, (.agg #[(vi 0), (vi 0), (vi 1), (vi 1)])), (1, (.agg #[(vi 0), (vi 0), (vi 1), (vi 0)]))]) (rfl) (E := 46) (cs := [(vi 0), (vi 0), (vi 1), (vi 1), (vi 0), (vi 0), (vi 1), (vi 0)]) (by kernel_rfl) hs43 (fun b46 w47 (hs48 : HS w0 F0 w47 F5 [(some b46, .cells ([(vi 0), (vi 0), (vi 1), (vi 1), (vi 0), (vi 0), (vi 1), (vi 0)] : List Value).toArray 46 (0, 0)), (sb b33 (kSpan r25.1) 38)]) => ?_)
 have hr50 : RowR tTie 46 F5 (some ⟨b46, 0, none⟩) 2 [({ A := ({ Log := 0, Line := 0 } : Ref), B := ({ Log := 1, Line := 1 } : Ref) } : Tie), ({ A := ({ Log := 0, Line := 0 } : Ref), B := ({ Log := 1, Line := 0 } : Ref) } : Tie)] (some b46, .cells ([(vi 0), (vi 0), (vi 1), (vi 1), (vi 0), (vi 0), (vi 1), (vi 0)] : List Value).toArray 46 (0, 0)) := RowR.lit ⟨rfl, ⟨rfl, rfl⟩⟩ (by simp)
 have hb54 := RowR.bound hr50
 obtain ⟨F6, hs51, le52, hs53⟩ : ∃ Fq, HS w0 F0 w47 Fq [(sb b33 (kSpan r25.1) 38)] ∧ Mem.le F5 Fq ∧ SlA tTie Fq (some ⟨b46, 0, none⟩) [({ A := ({ Log := 0, Line := 0 } : Ref), B := ({ Log := 1, Line := 1 } : Ref) } : Tie), ({ A := ({ Log := 0, Line := 0 } : Ref), B := ({ Log := 1, Line := 0 } : Ref) } : Tie)] := HS.freezeRow hs48 (k := 0) rfl hr50
 obtain ⟨r55, hr56, h57⟩ := bind_some h40
 refine Cl 29 65 42 #[(.tmp 21), (.tmp 28)] #[25, 23] co_clocks_Accept hs51 (c_clocks_Accept N w47 F6 hs51.pers (r38) ar38_0_0 nr38_0_0 hbr38_0_0 (SlA.mono hsr38_0_0 le52) ar38_0_1 nr38_0_1 hbr38_0_1 (SlA.mono hsr38_0_1 le52) ([({ A := ({ Log := 0, Line := 0 } : Ref), B := ({ Log := 1, Line := 1 } : Ref) } : Tie), ({ A := ({ Log := 0, Line := 0 } : Ref), B := ({ Log := 1, Line := 0 } : Ref) } : Tie)]) (some ⟨b46, 0, none⟩) 2 hb54 hs53 _ hr56) ?_
 intro v58 F7 w59 hs60 le61 hp62
 obtain ⟨ar55_0_0, nr55_0_0, rfl, hbr55_0_0, hsr55_0_0⟩ := hp62
 refine V 20 65 (mv 29 (.tuple #[(.slice ar55_0_0 r55.1.length nr55_0_0), (vi r55.2)])) ?_
 refine V 30 64 (ex 20 0 (.slice ar55_0_0 r55.1.length nr55_0_0) (vs := #[(.slice ar55_0_0 r55.1.length nr55_0_0), (vi r55.2)])) ?_
 refine V 31 30 (ex 20 1 (vi r55.2) (vs := #[(.slice ar55_0_0 r55.1.length nr55_0_0), (vi r55.2)])) ?_
 refine V 5 64 (ma 30 (.slice ar55_0_0 r55.1.length nr55_0_0)) ?_
 refine V 6 30 (ma 31 (vi r55.2)) ?_
 refine Nss (Rg [0, 1, 2, 3, 4, 5, 6, 7, 8] ?_)
 obtain ⟨r63, hr64, h65⟩ := bind_some h57
 refine Cl 33 25 64 #[(.const (.bool false))] #[4] co_law03_pair hs60 (c_law03_pair N w59 F7 hs60.pers (false) _ hr64) ?_
 intro v66 F8 w67 hs68 le69 hp70
 obtain ⟨ar63_0_0, nr63_0_0, ar63_0_1, nr63_0_1, rfl, hbr63_0_0, hsr63_0_0, hbr63_0_1, hsr63_0_1⟩ := hp70
 refine V 34 27 (run_build2 (t := 27) (parts := #[(0, (.const (vi 1)))]) (vs := [(0, (vi 1))]) (rfl) (cs := [(vi 1), (vi 0)]) (by kernel_rfl)) ?_
 refine V 35 27 (run_build2 (t := 27) (parts := #[(1, (.const (vi 1)))]) (vs := [(1, (vi 1))]) (rfl) (cs := [(vi 0), (vi 1)]) (by kernel_rfl)) ?_
 obtain ⟨r71, hr72, h73⟩ := bind_some h65
 refine Cl 36 43 30 #[(.tmp 33), (.tmp 34), (.tmp 35)] #[25, 27, 27] co_clocks_Before hs68 (c_clocks_Before N w67 F8 hs68.pers (r63) ar63_0_0 nr63_0_0 hbr63_0_0 hsr63_0_0 ar63_0_1 nr63_0_1 hbr63_0_1 hsr63_0_1 (({ Log := 1, Line := 0 } : Ref)) (({ Log := 0, Line := 1 } : Ref)) _ hr72) ?_
 intro v74 F9 w75 hs76 le77 hp78
 obtain rfl := hp78
 refine V 32 43 (mv 36 (.tuple #[(.bool r71.1), (vi r71.2)])) ?_
 refine V 37 4 (ex 32 0 (.bool r71.1) (vs := #[(.bool r71.1), (vi r71.2)])) ?_
 refine V 38 30 (ex 32 1 (vi r71.2) (vs := #[(.bool r71.1), (vi r71.2)])) ?_
 refine V 7 4 (ma 37 (.bool r71.1)) ?_
 refine V 8 30 (ma 38 (vi r71.2)) ?_
 refine Nss ?_
 refine Sq (Rg [0, 1, 2, 3, 4, 5, 6, 7, 8, 9, 10, 11, 12, 13, 14, 15, 16, 17, 18, 19, 20, 21, 22, 23, 24, 25, 26, 27, 28, 29, 30, 31] ?_)
 obtain ⟨j82, hj91, h92⟩ := bind_some h73
 refine RWP.cut (fun f w => ∃ (F10 : Mem), HS w0 F0 w F10 [(sb b33 (kSpan r25.1) 38)] ∧ Mem.le F9 F10 ∧ f.d = [] ∧ f 3 = (.pointer (some ⟨b33, 0, none⟩)) ∧ f 4 = (vi r25.2) ∧ f 5 = (.slice ar55_0_0 r55.1.length nr55_0_0) ∧ f 6 = (vi r55.2) ∧ f 7 = (.bool r71.1) ∧ f 8 = (vi r71.2) ∧ f 70 = (.bool j82)) ?_ ?_
 ·refine V 39 30 (mv 2 (vi r9.2)) ?_
  refine V 40 4 (run_neq (t := 30) (t' := 30) (x := (.tmp 39)) (y := (.const (vi 0))) (k := .i64) (a := r9.2) (b := 0) rfl rfl) ?_
  refine V 41 4 (mv 40 (.bool (r9.2 != 0))) ?_
  refine RWP.split (r9.2 != 0) (fun hb93 => ?_) (fun hb93 => ?_)
  ·have h94 := cond_t hj91 hb93
   refine Sk [42, 43, 44] 2 false 41 hb93 ?_
   refine V 45 4 (p1 41 (.const (.bool true)) (.tmp 44) (.bool true) hb93) ?_
   refine V 46 4 (mv 45 (.bool true)) ?_
   refine Sk [47, 48, 49, 50, 51] 7 false 46 rfl ?_
   refine V 52 4 (p1 46 (.const (.bool true)) (.tmp 51) (.bool true) rfl) ?_
   refine V 53 4 (mv 52 (.bool true)) ?_
   refine Sk [54, 55, 56, 57, 58, 59, 60] 14 false 53 rfl ?_
   refine V 61 4 (p1 53 (.const (.bool true)) (.tmp 60) (.bool true) rfl) ?_
   refine V 62 4 (mv 61 (.bool true)) ?_
   refine Sk [63, 64, 65, 66, 67, 68, 69] 23 false 62 rfl ?_
   refine V 70 4 (p1 62 (.const (.bool true)) (.tmp 69) (.bool true) rfl) ?_
   obtain rfl := some_inj h94
   exact RWP.nil ⟨rfl, F9, hs76, (Mem.le.refl _), rfl, rfl, rfl, rfl, rfl, rfl, rfl, rfl⟩
  ·have h95 := cond_f hj91 hb93
   refine Vg 42 33 2 false 41 hb93 (mv 1 (.slice ar9_0_0 r9.1.length nr9_0_0)) ?_
   refine Vg 43 3 2 false 41 hb93 (ln 42 33 ar9_0_0 r9.1.length nr9_0_0 36 1 24) ?_
   refine Vg 44 4 2 false 41 hb93 (run_neq (t := 3) (t' := 3) (x := (.tmp 43)) (y := (.const (vi 2))) (k := .i64) (a := (r9.1.length : Int)) (b := 2) rfl rfl) ?_
   refine V 45 4 (p0 41 (.const (.bool true)) (.tmp 44) (.bool ((r9.1.length : Int) != 2)) hb93) ?_
   refine V 46 4 (mv 45 (.bool ((r9.1.length : Int) != 2))) ?_
   refine RWP.split ((r9.1.length : Int) != 2) (fun hb96 => ?_) (fun hb96 => ?_)
   ·have h97 := cond_t h95 hb96
    refine Sk [47, 48, 49, 50, 51] 7 false 46 hb96 ?_
    refine V 52 4 (p1 46 (.const (.bool true)) (.tmp 51) (.bool true) hb96) ?_
    refine V 53 4 (mv 52 (.bool true)) ?_
    refine Sk [54, 55, 56, 57, 58, 59, 60] 14 false 53 rfl ?_
    refine V 61 4 (p1 53 (.const (.bool true)) (.tmp 60) (.bool true) rfl) ?_
    refine V 62 4 (mv 61 (.bool true)) ?_
    refine Sk [63, 64, 65, 66, 67, 68, 69] 23 false 62 rfl ?_
    refine V 70 4 (p1 62 (.const (.bool true)) (.tmp 69) (.bool true) rfl) ?_
    obtain rfl := some_inj h97
    exact RWP.nil ⟨rfl, F9, hs76, (Mem.le.refl _), rfl, rfl, rfl, rfl, rfl, rfl, rfl, rfl⟩
   ·have h98 := cond_f h95 hb96
    refine Vg 47 33 7 false 46 hb96 (mv 1 (.slice ar9_0_0 r9.1.length nr9_0_0)) ?_
    obtain ⟨x99, hx100, h102⟩ := bind_some h98
    obtain ⟨hi101, hx100'⟩ := idx_spec hx100
    obtain ⟨b103, o104, C105, E106, fz107, rfl, hF109, hE110⟩ := SlA.open (SlA.mono hsr9_0_0 ((((((le23.trans le31).trans le44).trans le52).trans le61).trans le69).trans le77)) hx100'
    obtain ⟨ae111_0, ne111_0, hc112, hbe111_0, hse111_0⟩ := hE110 _ _ hx100'
    refine Vg 48 0 7 false 46 hb96 (run_index (t := 33) (x := (.tmp 47)) (y := (.const (vi 0))) (b := b103) (o := o104) (E := 36) (s := 1) (by_ := 24) rfl rfl (by kernel_rfl) hi101) ?_
    refine Vg 49 36 7 false 46 hb96 (lx 36 48 0 1 false 1 (.slice ae111_0 x99.length ne111_0) (hs76.pers _ _ hF109) hc112) ?_
    refine Vg 50 3 7 false 46 hb96 (ln 49 36 ae111_0 x99.length ne111_0 38 2 16) ?_
    refine Vg 51 4 7 false 46 hb96 (run_neq (t := 3) (t' := 3) (x := (.tmp 50)) (y := (.const (vi 2))) (k := .i64) (a := (x99.length : Int)) (b := 2) rfl rfl) ?_
    refine V 52 4 (p0 46 (.const (.bool true)) (.tmp 51) (.bool ((x99.length : Int) != 2)) hb96) ?_
    refine V 53 4 (mv 52 (.bool ((x99.length : Int) != 2))) ?_
    refine RWP.split ((x99.length : Int) != 2) (fun hb113 => ?_) (fun hb113 => ?_)
    ·have h114 := cond_t h102 hb113
     refine Sk [54, 55, 56, 57, 58, 59, 60] 14 false 53 hb113 ?_
     refine V 61 4 (p1 53 (.const (.bool true)) (.tmp 60) (.bool true) hb113) ?_
     refine V 62 4 (mv 61 (.bool true)) ?_
     refine Sk [63, 64, 65, 66, 67, 68, 69] 23 false 62 rfl ?_
     refine V 70 4 (p1 62 (.const (.bool true)) (.tmp 69) (.bool true) rfl) ?_
     obtain rfl := some_inj h114
     exact RWP.nil ⟨rfl, F9, hs76, (Mem.le.refl _), rfl, rfl, rfl, rfl, rfl, rfl, rfl, rfl⟩
    ·have h115 := cond_f h102 hb113
     refine Vg 54 33 14 false 53 hb113 (mv 1 (.slice (some ⟨b103, o104, none⟩) r9.1.length nr9_0_0)) ?_
     obtain ⟨x116, hx117, h119⟩ := bind_some h115
     obtain ⟨hi118, hx117'⟩ := idx_spec hx117
     obtain ⟨ae120_0, ne120_0, hc121, hbe120_0, hse120_0⟩ := hE110 _ _ hx117'
     refine Vg 55 0 14 false 53 hb113 (run_index (t := 33) (x := (.tmp 54)) (y := (.const (vi 0))) (b := b103) (o := o104) (E := 36) (s := 1) (by_ := 24) rfl rfl (by kernel_rfl) hi118) ?_
     refine Vg 56 36 14 false 53 hb113 (lx 36 55 0 1 false 1 (.slice ae120_0 x116.length ne120_0) (hs76.pers _ _ hF109) hc121) ?_
     obtain ⟨x122, hx123, h125⟩ := bind_some h119
     obtain ⟨hi124, hx123'⟩ := idx_spec hx123
     obtain ⟨b126, o127, C128, E129, fz130, rfl, hF132, hE133⟩ := SlA.open hse120_0 hx123'
     have hc135 := hE133 _ _ hx123'
     refine Vg 57 0 14 false 53 hb113 (run_index (t := 36) (x := (.tmp 56)) (y := (.const (vi 0))) (b := b126) (o := o127) (E := 38) (s := 2) (by_ := 16) rfl rfl (by kernel_rfl) hi124) ?_
     refine Vg 58 38 14 false 53 hb113 (lx 38 57 0 2 true 2 (.agg (kSpan x122)) (hs76.pers _ _ hF132) hc135) ?_
     refine Vg 59 38 14 false 53 hb113 (run_build2 (t := 38) (parts := #[(0, (.const (vi 90))), (1, (.const (vi 100)))]) (vs := [(0, (vi 90)), (1, (vi 100))]) (rfl) (cs := [(vi 90), (vi 100)]) (by kernel_rfl)) ?_
     refine Vg 60 4 14 false 53 hb113 (run_nes (t := 38) (t' := 38) (x := (.tmp 58)) (y := (.tmp 59)) (xs := (kSpan x122)) (ys := #[(vi 90), (vi 100)]) (b := ((x122.Lo == 90) && ((x122.Hi == 100) && true))) rfl rfl (by kernel_rfl) (by kernel_rfl)) ?_
     refine V 61 4 (p0 53 (.const (.bool true)) (.tmp 60) (.bool (!((x122.Lo == 90) && ((x122.Hi == 100) && true)))) hb113) ?_
     refine V 62 4 (mv 61 (.bool (!((x122.Lo == 90) && ((x122.Hi == 100) && true))))) ?_
     refine RWP.split (!((x122.Lo == 90) && ((x122.Hi == 100) && true))) (fun hb136 => ?_) (fun hb136 => ?_)
     ·have h137 := cond_t h125 hb136
      refine Sk [63, 64, 65, 66, 67, 68, 69] 23 false 62 hb136 ?_
      refine V 70 4 (p1 62 (.const (.bool true)) (.tmp 69) (.bool true) hb136) ?_
      obtain rfl := some_inj h137
      exact RWP.nil ⟨rfl, F9, hs76, (Mem.le.refl _), rfl, rfl, rfl, rfl, rfl, rfl, rfl, rfl⟩
     ·have h138 := cond_f h125 hb136
      refine Vg 63 33 23 false 62 hb136 (mv 1 (.slice (some ⟨b103, o104, none⟩) r9.1.length nr9_0_0)) ?_
      obtain ⟨x139, hx140, h142⟩ := bind_some h138
      obtain ⟨hi141, hx140'⟩ := idx_spec hx140
      obtain ⟨ae143_0, ne143_0, hc144, hbe143_0, hse143_0⟩ := hE110 _ _ hx140'
      refine Vg 64 0 23 false 62 hb136 (run_index (t := 33) (x := (.tmp 63)) (y := (.const (vi 0))) (b := b103) (o := o104) (E := 36) (s := 1) (by_ := 24) rfl rfl (by kernel_rfl) hi141) ?_
      refine Vg 65 36 23 false 62 hb136 (lx 36 64 0 1 false 1 (.slice ae143_0 x139.length ne143_0) (hs76.pers _ _ hF109) hc144) ?_
      obtain ⟨x145, hx146, h148⟩ := bind_some h142
      obtain ⟨hi147, hx146'⟩ := idx_spec hx146
      obtain ⟨b149, o150, C151, E152, fz153, rfl, hF155, hE156⟩ := SlA.open hse143_0 hx146'
      have hc158 := hE156 _ _ hx146'
      refine Vg 66 0 23 false 62 hb136 (run_index (t := 36) (x := (.tmp 65)) (y := (.const (vi 1))) (b := b149) (o := o150) (E := 38) (s := 2) (by_ := 16) rfl rfl (by kernel_rfl) hi147) ?_
      refine Vg 67 38 23 false 62 hb136 (lx 38 66 0 2 true 2 (.agg (kSpan x145)) (hs76.pers _ _ hF155) hc158) ?_
      refine Vg 68 38 23 false 62 hb136 (run_build2 (t := 38) (parts := #[(0, (.const (vi 150))), (1, (.const (vi 161)))]) (vs := [(0, (vi 150)), (1, (vi 161))]) (rfl) (cs := [(vi 150), (vi 161)]) (by kernel_rfl)) ?_
      refine Vg 69 4 23 false 62 hb136 (run_nes (t := 38) (t' := 38) (x := (.tmp 67)) (y := (.tmp 68)) (xs := (kSpan x145)) (ys := #[(vi 150), (vi 161)]) (b := ((x145.Lo == 150) && ((x145.Hi == 161) && true))) rfl rfl (by kernel_rfl) (by kernel_rfl)) ?_
      refine V 70 4 (p0 62 (.const (.bool true)) (.tmp 69) (.bool (!((x145.Lo == 150) && ((x145.Hi == 161) && true)))) hb136) ?_
      obtain rfl := some_inj h148
      exact RWP.nil ⟨rfl, F9, hs76, (Mem.le.refl _), rfl, rfl, rfl, rfl, rfl, rfl, rfl, rfl⟩
 ·rintro f w79 ⟨F10, hs80, le81, e83, e84, e85, e86, e87, e88, e89, e90⟩
  refine thenQ_nrm ?_
  refine CWP.cond (t := j82) (by kernel_rfl) e90 (fun hb159 => ?_) (fun hb159 => ?_)
  ·have h160 := cond_t h92 hb159
   refine Sq (Rg [0] ?_)
   refine V 0 4 (mc (.bool false) (.bool false)) ?_
   refine Nt ?_
   refine CWP.ret (by kernel_rfl) ?_
   refine thenQ_ret ?_
   have hfin := some_inj h160
   subst hfin
   exact ⟨e83, (.bool false), res_of (l := [.tmp 0]) (by kernel_rfl) (vs := [(.bool false)]) ⟨rfl, trivial⟩, (.bool false), F10, rfl, hs80.clear, rfl⟩
  ·have h161 := cond_f h92 hb159
   refine Sc ?_
   refine thenQ_nrm ?_
   refine Sq (Rg [0, 1, 2, 3, 4, 5, 6, 7, 8, 9, 10, 11, 12, 13, 14, 15, 16, 17, 18, 19, 20, 21, 22, 23, 24, 25, 26, 27, 28, 29, 30, 31, 32, 33, 34] ?_)
   obtain ⟨j165, hj168, h169⟩ := bind_some h161
   refine RWP.cut (fun f w => ∃ (F11 : Mem), HS w0 F0 w F11 [] ∧ Mem.le F10 F11 ∧ f.d = [] ∧ f 0 = (.bool j165)) ?_ ?_
   ·refine V 71 30 (mv 4 (vi r25.2) e85) ?_
    refine V 72 4 (run_eql (t := 30) (t' := 30) (x := (.tmp 71)) (y := (.const (vi 0))) (k := .i64) (a := r25.2) (b := 0) rfl rfl) ?_
    refine V 73 4 (mv 72 (.bool (r25.2 == 0))) ?_
    refine RWP.split (r25.2 == 0) (fun hb170 => ?_) (fun hb170 => ?_)
    ·have h171 := cond_t hj168 hb170
     refine Vg 74 38 2 true 73 hb170 (ld 38 3 b33 0 true 2 (.agg (kSpan r25.1)) (hs80.ownAt (k := 0) rfl) e84) ?_
     refine Vg 75 38 2 true 73 hb170 (run_build2 (t := 38) (parts := #[(0, (.const (vi 0))), (1, (.const (vi 10)))]) (vs := [(0, (vi 0)), (1, (vi 10))]) (rfl) (cs := [(vi 0), (vi 10)]) (by kernel_rfl)) ?_
     refine Vg 76 4 2 true 73 hb170 (run_eqs (t := 38) (t' := 38) (x := (.tmp 74)) (y := (.tmp 75)) (xs := (kSpan r25.1)) (ys := #[(vi 0), (vi 10)]) (b := ((r25.1.Lo == 0) && ((r25.1.Hi == 10) && true))) rfl rfl (by kernel_rfl) (by kernel_rfl)) ?_
     refine V 77 4 (p1 73 (.tmp 76) (.const (.bool false)) (.bool ((r25.1.Lo == 0) && ((r25.1.Hi == 10) && true))) hb170) ?_
     refine V 78 4 (mv 77 (.bool ((r25.1.Lo == 0) && ((r25.1.Hi == 10) && true)))) ?_
     refine RWP.split ((r25.1.Lo == 0) && ((r25.1.Hi == 10) && true)) (fun hb172 => ?_) (fun hb172 => ?_)
     ·have h173 := cond_t h171 hb172
      refine Vg 79 30 7 true 78 hb172 (mv 6 (vi r55.2) e87) ?_
      refine Vg 80 4 7 true 78 hb172 (run_eql (t := 30) (t' := 30) (x := (.tmp 79)) (y := (.const (vi 0))) (k := .i64) (a := r55.2) (b := 0) rfl rfl) ?_
      refine V 81 4 (p1 78 (.tmp 80) (.const (.bool false)) (.bool (r55.2 == 0)) hb172) ?_
      refine V 82 4 (mv 81 (.bool (r55.2 == 0))) ?_
      refine RWP.split (r55.2 == 0) (fun hb174 => ?_) (fun hb174 => ?_)
      ·have h175 := cond_t h173 hb174
       refine Vg 83 64 11 true 82 hb174 (mv 5 (.slice ar55_0_0 r55.1.length nr55_0_0) e86) ?_
       refine Vg 84 3 11 true 82 hb174 (ln 83 64 ar55_0_0 r55.1.length nr55_0_0 4 1 1) ?_
       refine Vg 85 4 11 true 82 hb174 (run_eql (t := 3) (t' := 3) (x := (.tmp 84)) (y := (.const (vi 2))) (k := .i64) (a := (r55.1.length : Int)) (b := 2) rfl rfl) ?_
       refine V 86 4 (p1 82 (.tmp 85) (.const (.bool false)) (.bool ((r55.1.length : Int) == 2)) hb174) ?_
       refine V 87 4 (mv 86 (.bool ((r55.1.length : Int) == 2))) ?_
       refine RWP.split ((r55.1.length : Int) == 2) (fun hb176 => ?_) (fun hb176 => ?_)
       ·have h177 := cond_t h175 hb176
        refine Vg 88 64 16 true 87 hb176 (mv 5 (.slice ar55_0_0 r55.1.length nr55_0_0) e86) ?_
        obtain ⟨x178, hx179, h181⟩ := bind_some h177
        obtain ⟨hi180, hx179'⟩ := idx_spec hx179
        obtain ⟨b182, o183, C184, E185, fz186, rfl, hF188, hE189⟩ := SlA.open (SlA.mono hsr55_0_0 ((le69.trans le77).trans le81)) hx179'
        have hc191 := hE189 _ _ hx179'
        refine Vg 89 0 16 true 87 hb176 (run_index (t := 64) (x := (.tmp 88)) (y := (.const (vi 0))) (b := b182) (o := o183) (E := 4) (s := 1) (by_ := 1) rfl rfl (by kernel_rfl) hi180) ?_
        refine Vg 90 4 16 true 87 hb176 (lx 4 89 0 1 false 1 (.bool x178) (hs80.pers _ _ hF188) hc191) ?_
        refine Vg 91 4 16 true 87 hb176 (run_not (t := 4) (x := (.tmp 90)) (a := x178) rfl) ?_
        refine V 92 4 (p1 87 (.tmp 91) (.const (.bool false)) (.bool (!x178)) hb176) ?_
        refine V 93 4 (mv 92 (.bool (!x178))) ?_
        refine RWP.split (!x178) (fun hb192 => ?_) (fun hb192 => ?_)
        ·have h193 := cond_t h181 hb192
         refine Vg 94 64 22 true 93 hb192 (mv 5 (.slice (some ⟨b182, o183, none⟩) r55.1.length nr55_0_0) e86) ?_
         obtain ⟨x194, hx195, h197⟩ := bind_some h193
         obtain ⟨hi196, hx195'⟩ := idx_spec hx195
         have hc199 := hE189 _ _ hx195'
         refine Vg 95 0 22 true 93 hb192 (run_index (t := 64) (x := (.tmp 94)) (y := (.const (vi 1))) (b := b182) (o := o183) (E := 4) (s := 1) (by_ := 1) rfl rfl (by kernel_rfl) hi196) ?_
         refine Vg 96 4 22 true 93 hb192 (lx 4 95 0 1 false 1 (.bool x194) (hs80.pers _ _ hF188) hc199) ?_
         refine V 97 4 (p1 93 (.tmp 96) (.const (.bool false)) (.bool x194) hb192) ?_
         refine V 98 4 (mv 97 (.bool x194)) ?_
         refine RWP.split x194 (fun hb200 => ?_) (fun hb200 => ?_)
         ·have h201 := cond_t h197 hb200
          refine Vg 99 4 27 true 98 hb200 (mv 7 (.bool r71.1) e88) ?_
          refine V 100 4 (p1 98 (.tmp 99) (.const (.bool false)) (.bool r71.1) hb200) ?_
          refine V 101 4 (mv 100 (.bool r71.1)) ?_
          refine RWP.split r71.1 (fun hb202 => ?_) (fun hb202 => ?_)
          ·have h203 := cond_t h201 hb202
           refine Vg 102 30 30 true 101 hb202 (mv 8 (vi r71.2) e89) ?_
           refine Vg 103 4 30 true 101 hb202 (run_eql (t := 30) (t' := 30) (x := (.tmp 102)) (y := (.const (vi 0))) (k := .i64) (a := r71.2) (b := 0) rfl rfl) ?_
           refine V 104 4 (p1 101 (.tmp 103) (.const (.bool false)) (.bool (r71.2 == 0)) hb202) ?_
           refine V 0 4 (ma 104 (.bool (r71.2 == 0))) ?_
           obtain rfl := some_inj h203
           have hs204 : HS w0 F0 w79 F10 [] := hs80.drop 0
           exact RWP.nil ⟨rfl, F10, hs204, (Mem.le.refl _), e83, rfl⟩
          ·have h205 := cond_f h201 hb202
           refine Sk [102, 103] 30 true 101 hb202 ?_
           refine V 104 4 (p0 101 (.tmp 103) (.const (.bool false)) (.bool false) hb202) ?_
           refine V 0 4 (ma 104 (.bool false)) ?_
           obtain rfl := some_inj h205
           have hs206 : HS w0 F0 w79 F10 [] := hs80.drop 0
           exact RWP.nil ⟨rfl, F10, hs206, (Mem.le.refl _), e83, rfl⟩
         ·have h207 := cond_f h197 hb200
          refine Sk [99] 27 true 98 hb200 ?_
          refine V 100 4 (p0 98 (.tmp 99) (.const (.bool false)) (.bool false) hb200) ?_
          refine V 101 4 (mv 100 (.bool false)) ?_
          refine Sk [102, 103] 30 true 101 rfl ?_
          refine V 104 4 (p0 101 (.tmp 103) (.const (.bool false)) (.bool false) rfl) ?_
          refine V 0 4 (ma 104 (.bool false)) ?_
          obtain rfl := some_inj h207
          have hs208 : HS w0 F0 w79 F10 [] := hs80.drop 0
          exact RWP.nil ⟨rfl, F10, hs208, (Mem.le.refl _), e83, rfl⟩
        ·have h209 := cond_f h181 hb192
         refine Sk [94, 95, 96] 22 true 93 hb192 ?_
         refine V 97 4 (p0 93 (.tmp 96) (.const (.bool false)) (.bool false) hb192) ?_
         refine V 98 4 (mv 97 (.bool false)) ?_
         refine Sk [99] 27 true 98 rfl ?_
         refine V 100 4 (p0 98 (.tmp 99) (.const (.bool false)) (.bool false) rfl) ?_
         refine V 101 4 (mv 100 (.bool false)) ?_
         refine Sk [102, 103] 30 true 101 rfl ?_
         refine V 104 4 (p0 101 (.tmp 103) (.const (.bool false)) (.bool false) rfl) ?_
         refine V 0 4 (ma 104 (.bool false)) ?_
         obtain rfl := some_inj h209
         have hs210 : HS w0 F0 w79 F10 [] := hs80.drop 0
         exact RWP.nil ⟨rfl, F10, hs210, (Mem.le.refl _), e83, rfl⟩
       ·have h211 := cond_f h175 hb176
        refine Sk [88, 89, 90, 91] 16 true 87 hb176 ?_
        refine V 92 4 (p0 87 (.tmp 91) (.const (.bool false)) (.bool false) hb176) ?_
        refine V 93 4 (mv 92 (.bool false)) ?_
        refine Sk [94, 95, 96] 22 true 93 rfl ?_
        refine V 97 4 (p0 93 (.tmp 96) (.const (.bool false)) (.bool false) rfl) ?_
        refine V 98 4 (mv 97 (.bool false)) ?_
        refine Sk [99] 27 true 98 rfl ?_
        refine V 100 4 (p0 98 (.tmp 99) (.const (.bool false)) (.bool false) rfl) ?_
        refine V 101 4 (mv 100 (.bool false)) ?_
        refine Sk [102, 103] 30 true 101 rfl ?_
        refine V 104 4 (p0 101 (.tmp 103) (.const (.bool false)) (.bool false) rfl) ?_
        refine V 0 4 (ma 104 (.bool false)) ?_
        obtain rfl := some_inj h211
        have hs212 : HS w0 F0 w79 F10 [] := hs80.drop 0
        exact RWP.nil ⟨rfl, F10, hs212, (Mem.le.refl _), e83, rfl⟩
      ·have h213 := cond_f h173 hb174
       refine Sk [83, 84, 85] 11 true 82 hb174 ?_
       refine V 86 4 (p0 82 (.tmp 85) (.const (.bool false)) (.bool false) hb174) ?_
       refine V 87 4 (mv 86 (.bool false)) ?_
       refine Sk [88, 89, 90, 91] 16 true 87 rfl ?_
       refine V 92 4 (p0 87 (.tmp 91) (.const (.bool false)) (.bool false) rfl) ?_
       refine V 93 4 (mv 92 (.bool false)) ?_
       refine Sk [94, 95, 96] 22 true 93 rfl ?_
       refine V 97 4 (p0 93 (.tmp 96) (.const (.bool false)) (.bool false) rfl) ?_
       refine V 98 4 (mv 97 (.bool false)) ?_
       refine Sk [99] 27 true 98 rfl ?_
       refine V 100 4 (p0 98 (.tmp 99) (.const (.bool false)) (.bool false) rfl) ?_
       refine V 101 4 (mv 100 (.bool false)) ?_
       refine Sk [102, 103] 30 true 101 rfl ?_
       refine V 104 4 (p0 101 (.tmp 103) (.const (.bool false)) (.bool false) rfl) ?_
       refine V 0 4 (ma 104 (.bool false)) ?_
       obtain rfl := some_inj h213
       have hs214 : HS w0 F0 w79 F10 [] := hs80.drop 0
       exact RWP.nil ⟨rfl, F10, hs214, (Mem.le.refl _), e83, rfl⟩
     ·have h215 := cond_f h171 hb172
      refine Sk [79, 80] 7 true 78 hb172 ?_
      refine V 81 4 (p0 78 (.tmp 80) (.const (.bool false)) (.bool false) hb172) ?_
      refine V 82 4 (mv 81 (.bool false)) ?_
      refine Sk [83, 84, 85] 11 true 82 rfl ?_
      refine V 86 4 (p0 82 (.tmp 85) (.const (.bool false)) (.bool false) rfl) ?_
      refine V 87 4 (mv 86 (.bool false)) ?_
      refine Sk [88, 89, 90, 91] 16 true 87 rfl ?_
      refine V 92 4 (p0 87 (.tmp 91) (.const (.bool false)) (.bool false) rfl) ?_
      refine V 93 4 (mv 92 (.bool false)) ?_
      refine Sk [94, 95, 96] 22 true 93 rfl ?_
      refine V 97 4 (p0 93 (.tmp 96) (.const (.bool false)) (.bool false) rfl) ?_
      refine V 98 4 (mv 97 (.bool false)) ?_
      refine Sk [99] 27 true 98 rfl ?_
      refine V 100 4 (p0 98 (.tmp 99) (.const (.bool false)) (.bool false) rfl) ?_
      refine V 101 4 (mv 100 (.bool false)) ?_
      refine Sk [102, 103] 30 true 101 rfl ?_
      refine V 104 4 (p0 101 (.tmp 103) (.const (.bool false)) (.bool false) rfl) ?_
      refine V 0 4 (ma 104 (.bool false)) ?_
      obtain rfl := some_inj h215
      have hs216 : HS w0 F0 w79 F10 [] := hs80.drop 0
      exact RWP.nil ⟨rfl, F10, hs216, (Mem.le.refl _), e83, rfl⟩
    ·have h217 := cond_f hj168 hb170
     refine Sk [74, 75, 76] 2 true 73 hb170 ?_
     refine V 77 4 (p0 73 (.tmp 76) (.const (.bool false)) (.bool false) hb170) ?_
     refine V 78 4 (mv 77 (.bool false)) ?_
     refine Sk [79, 80] 7 true 78 rfl ?_
     refine V 81 4 (p0 78 (.tmp 80) (.const (.bool false)) (.bool false) rfl) ?_
     refine V 82 4 (mv 81 (.bool false)) ?_
     refine Sk [83, 84, 85] 11 true 82 rfl ?_
     refine V 86 4 (p0 82 (.tmp 85) (.const (.bool false)) (.bool false) rfl) ?_
     refine V 87 4 (mv 86 (.bool false)) ?_
     refine Sk [88, 89, 90, 91] 16 true 87 rfl ?_
     refine V 92 4 (p0 87 (.tmp 91) (.const (.bool false)) (.bool false) rfl) ?_
     refine V 93 4 (mv 92 (.bool false)) ?_
     refine Sk [94, 95, 96] 22 true 93 rfl ?_
     refine V 97 4 (p0 93 (.tmp 96) (.const (.bool false)) (.bool false) rfl) ?_
     refine V 98 4 (mv 97 (.bool false)) ?_
     refine Sk [99] 27 true 98 rfl ?_
     refine V 100 4 (p0 98 (.tmp 99) (.const (.bool false)) (.bool false) rfl) ?_
     refine V 101 4 (mv 100 (.bool false)) ?_
     refine Sk [102, 103] 30 true 101 rfl ?_
     refine V 104 4 (p0 101 (.tmp 103) (.const (.bool false)) (.bool false) rfl) ?_
     refine V 0 4 (ma 104 (.bool false)) ?_
     obtain rfl := some_inj h217
     have hs218 : HS w0 F0 w79 F10 [] := hs80.drop 0
     exact RWP.nil ⟨rfl, F10, hs218, (Mem.le.refl _), e83, rfl⟩
   ·rintro f w162 ⟨F11, hs163, le164, e166, e167⟩
    refine thenQ_nrm ?_
    refine CWP.ret (by kernel_rfl) ?_
    have hfin := some_inj h169
    subst hfin
    exact ⟨e166, (.bool j165), res_of (l := [.tmp 0]) (by kernel_rfl) (vs := [(.bool j165)]) ⟨e167, trivial⟩, (.bool j165), F11, rfl, hs163.clear, rfl⟩
end Go.Proofs.Ythbcnabeabcmlaa
namespace Go.Proofs.Ythbcnabeabcmlaa
open Go.Proofs
def law03_few_L0 (N : Nat) (x0 : System) : (Int × Int) → Option (Flow Bool (Int × Int)) := fun s7 =>
 (bif (decide (s7.2 < (x0.Tracks.length : Int))) then ((idx x0.Tracks s7.2).bind fun x30 => ((idx x0.Tracks s7.2).bind fun x44 => (bif (decide ((x44.Clock.Jumps.length : Int) > 40)) then some (.ret false) else some (.next ((W64 (s7.1 + (x30.Times.length : Int))), (W64 (s7.2 + 1))))))) else some (.done (s7.1, s7.2)))
def law03_few (N : Nat) (x0 : System) : Option Bool :=
 ((iter (law03_few_L0 N x0) N (0, 0)).bind fun o => o.k (fun r => some r) (fun s15 => some ((decide (s15.1 ≤ 40)) && ((decide ((x0.Tracks.length : Int) ≤ 100)) && ((decide ((x0.Ties.length : Int) ≤ 30)) || ((decide ((x0.Ties.length : Int) > 400)) && (decide ((x0.Ties.length : Int) ≤ 500))))))))
theorem co_law03_few : CallOk Try.prog 16 := fun _ _ => by kernel_rfl
set_option maxHeartbeats 4000000 in
set_option maxRecDepth 100000 in
theorem c_law03_few (N : Nat) (w0 : World) (F0 : Mem) (hF : ∀ b o, F0 b = some o → w0.heap[b]? = some o) (x0 : System) (a0_0 : Option Addr) (n0_0 : Nat) (hb0_0 : LC x0.Tracks.length n0_0) (hs0_0 : SlA tTrack F0 a0_0 x0.Tracks) (a0_1 : Option Addr) (n0_1 : Nat) (hb0_1 : LC x0.Ties.length n0_1) (hs0_1 : SlA tTie F0 a0_1 x0.Ties) (r : Bool) (h : law03_few N x0 = some r) :
  Calls Try.prog 16 ([(.agg (kSystem x0 a0_0 n0_0 a0_1 n0_1))] : List Value).toArray w0 (FRet w0 F0 fun F' v => v = (.bool r)) := by
 have hs0 := HS.start hF
 refine calls_of (n := 56) (c := bodyOf Try.f16) Try.func16 (by kernel_rfl) (by kernel_rfl) (by kernel_rfl) ?_
 refine Sq (Rg [0, 1] ?_)
 refine Bx 1 0 0 25 (kSystem x0 a0_0 n0_0 a0_1 n0_1) hs0 (fun b1 w2 (hs3 : HS w0 F0 w2 F0 [(sb b1 (kSystem x0 a0_0 n0_0 a0_1 n0_1) 25)]) => ?_)
 refine V 2 4 (mc (.bool false) (.bool false)) ?_
 refine Nss (Rg [0] ?_)
 refine V 3 3 (mc (vi 0) (vi 0)) ?_
 refine Nss ?_
 refine Sq (Rg [0] ?_)
 refine V 4 3 (mc (vi 0) (vi 0)) ?_
 refine Nt ?_
 obtain ⟨o4, ho5, h6⟩ := bind_some h
 refine CWP.cut (fun f w => ∃ (s15 : (Int × Int)) (F2 : Mem), o4 = .done s15 ∧ HS w0 F0 w F2 [(sb b1 (kSystem x0 a0_0 n0_0 a0_1 n0_1) 25)] ∧ Mem.le F0 F2 ∧ f.d = [] ∧ f 1 = (.pointer (some ⟨b1, 0, none⟩)) ∧ f 3 = (vi s15.1)) ?_ ?_
 ·refine Bk ?_
  refine CWP.loop (by kernel_rfl) (fun m f w => ∃ (s7 : (Int × Int)) (F1 : Mem), iter (law03_few_L0 N x0) m s7 = some o4 ∧ HS w0 F0 w F1 [(sb b1 (kSystem x0 a0_0 n0_0 a0_1 n0_1) 25)] ∧ Mem.le F0 F1 ∧ f.d = [] ∧ f 1 = (.pointer (some ⟨b1, 0, none⟩)) ∧ f 3 = (vi s7.1) ∧ f 4 = (vi s7.2)) N ⟨(0, 0), F0, ho5, hs3, (Mem.le.refl _), rfl, rfl, rfl, rfl⟩ ?_
  rintro m22 f w8 ⟨s7, F1, hit23, hs9, le10, e11, e12, e13, e14⟩
  obtain ⟨m24, fl25, rfl, hb26, hnx27⟩ := iter_step hit23
  refine Sq ?_
  refine Sq (Rg [0, 1, 2, 3, 4] ?_)
  refine V 5 3 (mv 4 (vi s7.2) e14) ?_
  refine V 6 0 (fa 25 1 0 0 1 b1 0 0 e12) ?_
  refine V 7 22 (ld 22 6 b1 0 false 1 (.slice a0_0 x0.Tracks.length n0_0) (hs9.ownAt (k := 0) rfl)) ?_
  refine V 8 3 (ln 7 22 a0_0 x0.Tracks.length n0_0 54 4 64) ?_
  refine V 9 4 (run_lss (t := 3) (t' := 3) (x := (.tmp 5)) (y := (.tmp 8)) (k := .i64) (a := s7.2) (b := (x0.Tracks.length : Int)) rfl rfl) ?_
  refine Nt ?_
  refine CWP.cond (t := (decide (s7.2 < (x0.Tracks.length : Int)))) (by kernel_rfl) rfl (fun hb28 => ?_) (fun hb28 => ?_)
  ·have h29 := cond_t hb26 hb28
   refine Sc ?_
   refine thenQ_nrm ?_
   refine Sq ?_
   refine Bk ?_
   refine Sq (Rg [0, 1, 2, 3, 4, 5, 6, 7, 8, 9] ?_)
   refine V 12 3 (mv 3 (vi s7.1) e13) ?_
   refine V 13 0 (fa 25 1 0 0 1 b1 0 0 e12) ?_
   refine V 14 22 (ld 22 13 b1 0 false 1 (.slice a0_0 x0.Tracks.length n0_0) (hs9.ownAt (k := 0) rfl)) ?_
   refine V 15 3 (mv 4 (vi s7.2) e14) ?_
   obtain ⟨x30, hx31, h33⟩ := bind_some h29
   obtain ⟨hi32, hx31'⟩ := idx_spec hx31
   obtain ⟨b34, o35, C36, E37, fz38, rfl, hF40, hE41⟩ := SlA.open (SlA.mono hs0_0 le10) hx31'
   obtain ⟨ae42_2, ne42_2, ae42_3, ne42_3, hc43, hbe42_2, hse42_2, hbe42_3, hse42_3⟩ := hE41 _ _ hx31'
   refine V 16 0 (ix 22 14 15 b34 o35 54 4 64 hi32) ?_
   refine V 17 0 (fa 54 16 1 3 1 b34 (o35 + (s7.2 : Int).toNat * 4) ((o35 + (s7.2 : Int).toNat * 4) + 3)) ?_
   refine V 18 50 (lx 50 17 3 4 false 1 (.slice ae42_3 x30.Times.length ne42_3) (hs9.pers _ _ hF40) hc43) ?_
   refine V 19 3 (ln 18 50 ae42_3 x30.Times.length ne42_3 3 1 8) ?_
   refine V 20 3 (run_add (t := 3) (t' := 3) (x := (.tmp 12)) (y := (.tmp 19)) (k := .i64) (a := s7.1) (b := (x30.Times.length : Int)) rfl rfl) ?_
   refine V 3 3 (ma 20 (vi (W64 (s7.1 + (x30.Times.length : Int))))) ?_
   refine Nss (Rg [0, 1, 2, 3, 4, 5, 6, 7, 8] ?_)
   refine V 21 0 (fa 25 1 0 0 1 b1 0 0 e12) ?_
   refine V 22 22 (ld 22 21 b1 0 false 1 (.slice (some ⟨b34, o35, none⟩) x0.Tracks.length n0_0) (hs9.ownAt (k := 0) rfl)) ?_
   refine V 23 3 (mv 4 (vi s7.2) e14) ?_
   obtain ⟨x44, hx45, h47⟩ := bind_some h33
   obtain ⟨hi46, hx45'⟩ := idx_spec hx45
   obtain ⟨ae48_2, ne48_2, ae48_3, ne48_3, hc49, hbe48_2, hse48_2, hbe48_3, hse48_3⟩ := hE41 _ _ hx45'
   refine V 24 0 (ix 22 22 23 b34 o35 54 4 64 hi46) ?_
   refine V 25 0 (fa 54 24 0 0 3 b34 (o35 + (s7.2 : Int).toNat * 4) (o35 + (s7.2 : Int).toNat * 4)) ?_
   refine V 26 0 (fa 52 25 2 2 1 b34 (o35 + (s7.2 : Int).toNat * 4) ((o35 + (s7.2 : Int).toNat * 4) + 2)) ?_
   refine V 27 50 (lx 50 26 2 4 false 1 (.slice ae48_2 x44.Clock.Jumps.length ne48_2) (hs9.pers _ _ hF40) hc49) ?_
   refine V 28 3 (ln 27 50 ae48_2 x44.Clock.Jumps.length ne48_2 3 1 8) ?_
   refine V 29 4 (run_gtr (t := 3) (t' := 3) (x := (.tmp 28)) (y := (.const (vi 40))) (k := .i64) (a := (x44.Clock.Jumps.length : Int)) (b := 40) rfl rfl) ?_
   refine Nt ?_
   refine CWP.cond (t := (decide ((x44.Clock.Jumps.length : Int) > 40))) (by kernel_rfl) rfl (fun hb50 => ?_) (fun hb50 => ?_)
   ·have h51 := cond_t h47 hb50
    refine Sq (Rg [0] ?_)
    refine V 2 4 (mc (.bool false) (.bool false)) ?_
    refine Nt ?_
    refine CWP.ret (by kernel_rfl) ?_
    refine blockQ_ret ?_
    refine thenQ_ret ?_
    refine thenQ_ret ?_
    refine blockQ_ret ?_
    have hret := iter_ret h51 hnx27
    subst hret
    refine .inr ?_
    refine thenQ_ret ?_
    have hfin := some_inj h6
    subst hfin
    exact ⟨e11, (.bool false), res_of (l := [.tmp 2]) (by kernel_rfl) (vs := [(.bool false)]) ⟨rfl, trivial⟩, (.bool false), F1, rfl, hs9.clear, rfl⟩
   ·have h52 := cond_f h47 hb50
    refine Sc ?_
    refine blockQ_nrm ?_
    refine thenQ_nrm ?_
    refine Rg [0, 1, 2] ?_
    refine V 10 3 (mv 4 (vi s7.2) e14) ?_
    refine V 11 3 (run_add (t := 3) (t' := 3) (x := (.tmp 10)) (y := (.const (vi 1))) (k := .i64) (a := s7.2) (b := 1) rfl rfl) ?_
    refine V 4 3 (ma 11 (vi (W64 (s7.2 + 1)))) ?_
    refine RWP.nil ?_
    have hn53 := iter_next h52 hnx27
    exact ⟨m24, Nat.lt_succ_self _, ((W64 (s7.1 + (x30.Times.length : Int))), (W64 (s7.2 + 1))), F1, hn53, hs9, le10, e11, e12, rfl, rfl⟩
  ·have h54 := cond_f hb26 hb28
   refine CWP.exit (by kernel_rfl) ?_
   refine thenQ_ex ?_
   refine thenQ_ex ?_
   refine blockQ_hit rfl ?_
   have ho55 := iter_done h54 hnx27
   exact .inl ⟨rfl, (s7.1, s7.2), F1, ho55, hs9, le10, e11, e12, e13⟩
 ·rintro f w16 ⟨s15, F2, rfl, hs17, le18, e19, e20, e21⟩
  have h56 := k_done h6
  refine thenQ_nrm ?_
  refine Sq (Rg [0, 1, 2, 3, 4, 5, 6, 7, 8, 9, 10, 11, 12, 13, 14, 15, 16, 17, 18, 19, 20, 21, 22, 23, 24, 25, 26] ?_)
  refine RWP.cut (fun f w => ∃ (F3 : Mem), HS w0 F0 w F3 [] ∧ Mem.le F2 F3 ∧ f.d = [] ∧ f 2 = (.bool ((decide (s15.1 ≤ 40)) && ((decide ((x0.Tracks.length : Int) ≤ 100)) && ((decide ((x0.Ties.length : Int) ≤ 30)) || ((decide ((x0.Ties.length : Int) > 400)) && (decide ((x0.Ties.length : Int) ≤ 500)))))))) ?_ ?_
  ·refine V 30 3 (mv 3 (vi s15.1) e21) ?_
   refine V 31 4 (run_leq (t := 3) (t' := 3) (x := (.tmp 30)) (y := (.const (vi 40))) (k := .i64) (a := s15.1) (b := 40) rfl rfl) ?_
   refine V 32 4 (mv 31 (.bool (decide (s15.1 ≤ 40)))) ?_
   refine RWP.split (decide (s15.1 ≤ 40)) (fun hb62 => ?_) (fun hb62 => ?_)
   ·refine Vg 33 0 2 true 32 hb62 (fa 25 1 0 0 1 b1 0 0 e20) ?_
    refine Vg 34 22 2 true 32 hb62 (ld 22 33 b1 0 false 1 (.slice a0_0 x0.Tracks.length n0_0) (hs17.ownAt (k := 0) rfl)) ?_
    refine Vg 35 3 2 true 32 hb62 (ln 34 22 a0_0 x0.Tracks.length n0_0 54 4 64) ?_
    refine Vg 36 4 2 true 32 hb62 (run_leq (t := 3) (t' := 3) (x := (.tmp 35)) (y := (.const (vi 100))) (k := .i64) (a := (x0.Tracks.length : Int)) (b := 100) rfl rfl) ?_
    refine V 37 4 (p1 32 (.tmp 36) (.const (.bool false)) (.bool (decide ((x0.Tracks.length : Int) ≤ 100))) hb62) ?_
    refine V 38 4 (mv 37 (.bool (decide ((x0.Tracks.length : Int) ≤ 100)))) ?_
    refine RWP.split (decide ((x0.Tracks.length : Int) ≤ 100)) (fun hb63 => ?_) (fun hb63 => ?_)
    ·refine Vg 39 0 8 true 38 hb63 (fa 25 1 1 1 1 b1 0 1 e20) ?_
     refine Vg 40 23 8 true 38 hb63 (ld 23 39 b1 1 false 1 (.slice a0_1 x0.Ties.length n0_1) (hs17.ownAt (k := 0) rfl)) ?_
     refine Vg 41 3 8 true 38 hb63 (ln 40 23 a0_1 x0.Ties.length n0_1 46 4 32) ?_
     refine Vg 42 4 8 true 38 hb63 (run_leq (t := 3) (t' := 3) (x := (.tmp 41)) (y := (.const (vi 30))) (k := .i64) (a := (x0.Ties.length : Int)) (b := 30) rfl rfl) ?_
     refine Vg 43 4 8 true 38 hb63 (mv 42 (.bool (decide ((x0.Ties.length : Int) ≤ 30)))) ?_
     refine RWP.split (decide ((x0.Ties.length : Int) ≤ 30)) (fun hb64 => ?_) (fun hb64 => ?_)
     ·refine Sk [44, 45, 46, 47, 48] 13 false 43 hb64 ?_
      refine Su [49, 50, 51, 52] 18 true 48 ?_
      refine Sk [53] 13 false 43 hb64 ?_
      refine Vg 54 4 8 true 38 hb63 (p1 43 (.const (.bool true)) (.tmp 53) (.bool true) hb64) ?_
      refine V 55 4 (p1 38 (.tmp 54) (.const (.bool false)) (.bool true) hb63) ?_
      refine V 2 4 (ma 55 (.bool true)) ?_
      have hs65 : HS w0 F0 w16 F2 [] := hs17.drop 0
      exact RWP.nil ⟨rfl, F2, hs65, (Mem.le.refl _), e19, (congrArg Value.bool (and_t hb62 (and_t hb63 (or_t hb64 (rfl)))))⟩
     ·refine Vg 44 0 13 false 43 hb64 (fa 25 1 1 1 1 b1 0 1 e20) ?_
      refine Vg 45 23 13 false 43 hb64 (ld 23 44 b1 1 false 1 (.slice a0_1 x0.Ties.length n0_1) (hs17.ownAt (k := 0) rfl)) ?_
      refine Vg 46 3 13 false 43 hb64 (ln 45 23 a0_1 x0.Ties.length n0_1 46 4 32) ?_
      refine Vg 47 4 13 false 43 hb64 (run_gtr (t := 3) (t' := 3) (x := (.tmp 46)) (y := (.const (vi 400))) (k := .i64) (a := (x0.Ties.length : Int)) (b := 400) rfl rfl) ?_
      refine Vg 48 4 13 false 43 hb64 (mv 47 (.bool (decide ((x0.Ties.length : Int) > 400)))) ?_
      refine RWP.split (decide ((x0.Ties.length : Int) > 400)) (fun hb66 => ?_) (fun hb66 => ?_)
      ·refine Vg 49 0 18 true 48 hb66 (fa 25 1 1 1 1 b1 0 1 e20) ?_
       refine Vg 50 23 18 true 48 hb66 (ld 23 49 b1 1 false 1 (.slice a0_1 x0.Ties.length n0_1) (hs17.ownAt (k := 0) rfl)) ?_
       refine Vg 51 3 18 true 48 hb66 (ln 50 23 a0_1 x0.Ties.length n0_1 46 4 32) ?_
       refine Vg 52 4 18 true 48 hb66 (run_leq (t := 3) (t' := 3) (x := (.tmp 51)) (y := (.const (vi 500))) (k := .i64) (a := (x0.Ties.length : Int)) (b := 500) rfl rfl) ?_
       refine Vg 53 4 13 false 43 hb64 (p1 48 (.tmp 52) (.const (.bool false)) (.bool (decide ((x0.Ties.length : Int) ≤ 500))) hb66) ?_
       refine Vg 54 4 8 true 38 hb63 (p0 43 (.const (.bool true)) (.tmp 53) (.bool (decide ((x0.Ties.length : Int) ≤ 500))) hb64) ?_
       refine V 55 4 (p1 38 (.tmp 54) (.const (.bool false)) (.bool (decide ((x0.Ties.length : Int) ≤ 500))) hb63) ?_
       refine V 2 4 (ma 55 (.bool (decide ((x0.Ties.length : Int) ≤ 500)))) ?_
       have hs67 : HS w0 F0 w16 F2 [] := hs17.drop 0
       exact RWP.nil ⟨rfl, F2, hs67, (Mem.le.refl _), e19, (congrArg Value.bool (and_t hb62 (and_t hb63 (or_f hb64 (and_t hb66 (rfl))))))⟩
      ·refine Sk [49, 50, 51, 52] 18 true 48 hb66 ?_
       refine Vg 53 4 13 false 43 hb64 (p0 48 (.tmp 52) (.const (.bool false)) (.bool false) hb66) ?_
       refine Vg 54 4 8 true 38 hb63 (p0 43 (.const (.bool true)) (.tmp 53) (.bool false) hb64) ?_
       refine V 55 4 (p1 38 (.tmp 54) (.const (.bool false)) (.bool false) hb63) ?_
       refine V 2 4 (ma 55 (.bool false)) ?_
       have hs68 : HS w0 F0 w16 F2 [] := hs17.drop 0
       exact RWP.nil ⟨rfl, F2, hs68, (Mem.le.refl _), e19, (congrArg Value.bool (and_t hb62 (and_t hb63 (or_f hb64 (and_f hb66 (rfl))))))⟩
    ·refine Sk [39, 40, 41, 42, 43] 8 true 38 hb63 ?_
     refine Su [44, 45, 46, 47, 48] 13 false 43 ?_
     refine Su [49, 50, 51, 52] 18 true 48 ?_
     refine Su [53] 13 false 43 ?_
     refine Sk [54] 8 true 38 hb63 ?_
     refine V 55 4 (p0 38 (.tmp 54) (.const (.bool false)) (.bool false) hb63) ?_
     refine V 2 4 (ma 55 (.bool false)) ?_
     have hs69 : HS w0 F0 w16 F2 [] := hs17.drop 0
     exact RWP.nil ⟨rfl, F2, hs69, (Mem.le.refl _), e19, (congrArg Value.bool (and_t hb62 (and_f hb63 (rfl))))⟩
   ·refine Sk [33, 34, 35, 36] 2 true 32 hb62 ?_
    refine V 37 4 (p0 32 (.tmp 36) (.const (.bool false)) (.bool false) hb62) ?_
    refine V 38 4 (mv 37 (.bool false)) ?_
    refine Sk [39, 40, 41, 42, 43] 8 true 38 rfl ?_
    refine Su [44, 45, 46, 47, 48] 13 false 43 ?_
    refine Su [49, 50, 51, 52] 18 true 48 ?_
    refine Su [53] 13 false 43 ?_
    refine Sk [54] 8 true 38 rfl ?_
    refine V 55 4 (p0 38 (.tmp 54) (.const (.bool false)) (.bool false) rfl) ?_
    refine V 2 4 (ma 55 (.bool false)) ?_
    have hs70 : HS w0 F0 w16 F2 [] := hs17.drop 0
    exact RWP.nil ⟨rfl, F2, hs70, (Mem.le.refl _), e19, (congrArg Value.bool (and_f hb62 (rfl)))⟩
  ·rintro f w57 ⟨F3, hs58, le59, e60, e61⟩
   refine thenQ_nrm ?_
   refine CWP.ret (by kernel_rfl) ?_
   have hfin := some_inj h56
   subst hfin
   exact ⟨e60, (.bool ((decide (s15.1 ≤ 40)) && ((decide ((x0.Tracks.length : Int) ≤ 100)) && ((decide ((x0.Ties.length : Int) ≤ 30)) || ((decide ((x0.Ties.length : Int) > 400)) && (decide ((x0.Ties.length : Int) ≤ 500))))))), res_of (l := [.tmp 2]) (by kernel_rfl) (vs := [(.bool ((decide (s15.1 ≤ 40)) && ((decide ((x0.Tracks.length : Int) ≤ 100)) && ((decide ((x0.Ties.length : Int) ≤ 30)) || ((decide ((x0.Ties.length : Int) > 400)) && (decide ((x0.Ties.length : Int) ≤ 500)))))))]) ⟨e61, trivial⟩, (.bool ((decide (s15.1 ≤ 40)) && ((decide ((x0.Tracks.length : Int) ≤ 100)) && ((decide ((x0.Ties.length : Int) ≤ 30)) || ((decide ((x0.Ties.length : Int) > 400)) && (decide ((x0.Ties.length : Int) ≤ 500))))))), F3, rfl, hs58.clear, rfl⟩
end Go.Proofs.Ythbcnabeabcmlaa
namespace Go.Proofs.Ythbcnabeabcmlaa
set_option maxRecDepth 1000000 in
theorem awake_ok (m : Nat) : law03_awake (m + 100) = some true := by kernel_rfl
theorem awake_at {N : Nat} (h : 100 ≤ N) : law03_awake N = some true := by
 obtain ⟨m, rfl⟩ : ∃ m, N = m + 100 := ⟨N - 100, by omega⟩
 exact awake_ok m
theorem few_some {N : Nat} {s : System} (h : FitS N s) : ∃ b, law03_few N s = some b := by
 unfold law03_few
 have hn := h.n.1
 obtain ⟨o, ho, hR⟩ := iter_ex (body := law03_few_L0 N s) s.Tracks.length (fun i q => q.2 = (i : Int)) (fun o => ∀ q, o ≠ .next q) (by
  rintro i ⟨a, b⟩ hi hb
  simp only at hb
  subst hb
  unfold law03_few_L0
  simp only
  by_cases hlt : i < s.Tracks.length
  ·simp only [lt_t hlt, cond_true, idx_nat hlt, Option.bind_some]
   cases decide ((s.Tracks[i].Clock.Jumps.length : Int) > 40) with
   | true => exact .inr ⟨_, rfl, (fun _ h => by cases h), fun _ h => by cases h⟩
   | false => exact .inl ⟨_, rfl, by simp only; rw [W64_succ (by omega)], hlt⟩
  ·have : i = s.Tracks.length := by omega
   subst this
   simp only [lt_f, cond_false]
   exact .inr ⟨_, rfl, (fun _ h => by cases h), fun _ h => by cases h⟩) s.Tracks.length N 0 (0, 0) (by omega) rfl h.n.2
 rw [ho]
 cases o with
 | next q => exact absurd rfl (hR q)
 | done q => exact ⟨_, rfl⟩
 | ret r => exact ⟨_, rfl⟩
end Go.Proofs.Ythbcnabeabcmlaa
namespace Go.Proofs.Ythbcnabeabcmlaa
abbrev NN : Nat := 9223372036854775808
theorem fitL {α : Type} {l : List α} {Q : Prop} (h : l.length < 9223372036854775808 ∧ Q) : Fit NN l.length := ⟨h.1, h.1⟩
theorem fitT {t : Track} (q : qTrack t) : FitT NN t := ⟨fitL q.1.2.2, fitL q.2⟩
theorem fitS {s : System} (q : qSystem s) : FitS NN s := ⟨fitL q.1, fun t ht => fitT (q.1.2 t ht), fitL q.2.1⟩
end Go.Proofs.Ythbcnabeabcmlaa
namespace Go.Proofs.Ythbcnabeabcmlaa
open Go.Proofs
def law03_ClocksTimes (N : Nat) (x0 : System) : Option Bool :=
 ((law03_awake N ).bind fun r4 => ((law03_few N x0).bind fun r12 => (bif (!r12) then some r4 else ((clocks_Times N x0).bind fun r23 => ((ref03_Times N x0).bind fun r31 => ((clocks_Earliest N x0).bind fun r39 => ((ref03_Earliest N x0).bind fun r47 => ((clocks_Latest N x0).bind fun r55 => ((ref03_Latest N x0).bind fun r63 => ((bif r4 then (bif (r23.2 == r31.2) then ((ref03_SameSpans N r23.1 r31.1).bind fun r83 => (bif r83 then (bif (r39.2 == r47.2) then ((ref03_SameTimes N r39.1 r47.1).bind fun r95 => (bif r95 then (bif (r55.2 == r63.2) then ((ref03_SameTimes N r55.1 r63.1).bind fun r107 => some r107) else some false) else some false)) else some false) else some false)) else some false) else some false).bind fun j74 => some j74))))))))))
set_option maxHeartbeats 4000000 in
set_option maxRecDepth 100000 in
theorem c_law03_ClocksTimes (N : Nat) (w0 : World) (F0 : Mem) (hF : ∀ b o, F0 b = some o → w0.heap[b]? = some o) (x0 : System) (a0_0 : Option Addr) (n0_0 : Nat) (hb0_0 : LC x0.Tracks.length n0_0) (hs0_0 : SlA tTrack F0 a0_0 x0.Tracks) (a0_1 : Option Addr) (n0_1 : Nat) (hb0_1 : LC x0.Ties.length n0_1) (hs0_1 : SlA tTie F0 a0_1 x0.Ties) (r : Bool) (h : law03_ClocksTimes N x0 = some r) :
  Calls Try.prog 9 ([(.agg (kSystem x0 a0_0 n0_0 a0_1 n0_1))] : List Value).toArray w0 (FRet w0 F0 fun F' v => v = (.bool r)) := by
 have hs0 := HS.start hF
 refine calls_of (n := 82) (c := bodyOf Try.f9) Try.func9 (by kernel_rfl) (by kernel_rfl) (by kernel_rfl) ?_
 refine Sq (Rg [0, 1] ?_)
 refine Bx 1 0 0 25 (kSystem x0 a0_0 n0_0 a0_1 n0_1) hs0 (fun b1 w2 (hs3 : HS w0 F0 w2 F0 [(sb b1 (kSystem x0 a0_0 n0_0 a0_1 n0_1) 25)]) => ?_)
 refine V 2 4 (mc (.bool false) (.bool false)) ?_
 refine Nss (Rg [0, 1] ?_)
 obtain ⟨r4, hr5, h6⟩ := bind_some h
 refine Cl 16 4 15 #[] #[] co_law03_awake hs3 (c_law03_awake N w2 F0 hs3.pers  _ hr5) ?_
 intro v7 F1 w8 hs9 le10 hp11
 obtain rfl := hp11
 refine V 3 4 (ma 16 (.bool r4)) ?_
 refine Nss ?_
 refine Sq (Rg [0, 1, 2] ?_)
 refine V 17 25 (ld 25 1 b1 0 true 3 (.agg (kSystem x0 a0_0 n0_0 a0_1 n0_1)) (hs9.ownAt (k := 0) rfl)) ?_
 obtain ⟨r12, hr13, h14⟩ := bind_some h6
 refine Cl 18 4 16 #[(.tmp 17)] #[25] co_law03_few hs9 (c_law03_few N w8 F1 hs9.pers (x0) a0_0 n0_0 hb0_0 (SlA.mono hs0_0 le10) a0_1 n0_1 hb0_1 (SlA.mono hs0_1 le10) _ hr13) ?_
 intro v15 F2 w16 hs17 le18 hp19
 obtain rfl := hp19
 refine V 19 4 (run_not (t := 4) (x := (.tmp 18)) (a := r12) rfl) ?_
 refine Nt ?_
 refine CWP.cond (t := (!r12)) (by kernel_rfl) rfl (fun hb20 => ?_) (fun hb20 => ?_)
 ·have h21 := cond_t h14 hb20
  refine Sq (Rg [0, 1] ?_)
  refine V 20 4 (mv 3 (.bool r4)) ?_
  refine V 2 4 (ma 20 (.bool r4)) ?_
  refine Nt ?_
  refine CWP.ret (by kernel_rfl) ?_
  refine thenQ_ret ?_
  have hfin := some_inj h21
  subst hfin
  exact ⟨rfl, (.bool r4), res_of (l := [.tmp 2]) (by kernel_rfl) (vs := [(.bool r4)]) ⟨rfl, trivial⟩, (.bool r4), F2, rfl, hs17.clear, rfl⟩
 ·have h22 := cond_f h14 hb20
  refine Sc ?_
  refine thenQ_nrm ?_
  refine Sq (Rg [0, 1, 2, 3, 4, 5, 6] ?_)
  refine V 22 25 (ld 25 1 b1 0 true 3 (.agg (kSystem x0 a0_0 n0_0 a0_1 n0_1)) (hs17.ownAt (k := 0) rfl)) ?_
  obtain ⟨r23, hr24, h25⟩ := bind_some h22
  refine Cl 23 34 19 #[(.tmp 22)] #[25] co_clocks_Times hs17 (c_clocks_Times N w16 F2 hs17.pers (x0) a0_0 n0_0 hb0_0 (SlA.mono hs0_0 (le10.trans le18)) a0_1 n0_1 hb0_1 (SlA.mono hs0_1 (le10.trans le18)) _ hr24) ?_
  intro v26 F3 w27 hs28 le29 hp30
  obtain ⟨ar23_0_0, nr23_0_0, rfl, hbr23_0_0, hsr23_0_0⟩ := hp30
  refine V 21 34 (mv 23 (.tuple #[(.slice ar23_0_0 r23.1.length nr23_0_0), (vi r23.2)])) ?_
  refine V 24 33 (ex 21 0 (.slice ar23_0_0 r23.1.length nr23_0_0) (vs := #[(.slice ar23_0_0 r23.1.length nr23_0_0), (vi r23.2)])) ?_
  refine V 25 30 (ex 21 1 (vi r23.2) (vs := #[(.slice ar23_0_0 r23.1.length nr23_0_0), (vi r23.2)])) ?_
  refine V 4 33 (ma 24 (.slice ar23_0_0 r23.1.length nr23_0_0)) ?_
  refine V 5 30 (ma 25 (vi r23.2)) ?_
  refine Nss (Rg [0, 1, 2, 3, 4, 5, 6] ?_)
  refine V 27 25 (ld 25 1 b1 0 true 3 (.agg (kSystem x0 a0_0 n0_0 a0_1 n0_1)) (hs28.ownAt (k := 0) rfl)) ?_
  obtain ⟨r31, hr32, h33⟩ := bind_some h25
  refine Cl 28 34 47 #[(.tmp 27)] #[25] co_ref03_Times hs28 (c_ref03_Times N w27 F3 hs28.pers (x0) a0_0 n0_0 hb0_0 (SlA.mono hs0_0 ((le10.trans le18).trans le29)) a0_1 n0_1 hb0_1 (SlA.mono hs0_1 ((le10.trans le18).trans le29)) _ hr32) ?_
  intro v34 F4 w35 hs36 le37 hp38
  obtain ⟨ar31_0_0, nr31_0_0, rfl, hbr31_0_0, hsr31_0_0⟩ := hp38
  refine V 26 34 (mv 28 (.tuple #[(.slice ar31_0_0 r31.1.length nr31_0_0), (vi r31.2)])) ?_
  refine V 29 33 (ex 26 0 (.slice ar31_0_0 r31.1.length nr31_0_0) (vs := #[(.slice ar31_0_0 r31.1.length nr31_0_0), (vi r31.2)])) ?_
  refine V 30 30 (ex 26 1 (vi r31.2) (vs := #[(.slice ar31_0_0 r31.1.length nr31_0_0), (vi r31.2)])) ?_
  refine V 6 33 (ma 29 (.slice ar31_0_0 r31.1.length nr31_0_0)) ?_
  refine V 7 30 (ma 30 (vi r31.2)) ?_
  refine Nss (Rg [0, 1, 2, 3, 4, 5, 6] ?_)
  refine V 32 25 (ld 25 1 b1 0 true 3 (.agg (kSystem x0 a0_0 n0_0 a0_1 n0_1)) (hs36.ownAt (k := 0) rfl)) ?_
  obtain ⟨r39, hr40, h41⟩ := bind_some h33
  refine Cl 33 72 48 #[(.tmp 32)] #[25] co_clocks_Earliest hs36 (c_clocks_Earliest N w35 F4 hs36.pers (x0) a0_0 n0_0 hb0_0 (SlA.mono hs0_0 (((le10.trans le18).trans le29).trans le37)) a0_1 n0_1 hb0_1 (SlA.mono hs0_1 (((le10.trans le18).trans le29).trans le37)) _ hr40) ?_
  intro v42 F5 w43 hs44 le45 hp46
  obtain ⟨ar39_0_0, nr39_0_0, rfl, hbr39_0_0, hsr39_0_0⟩ := hp46
  refine V 31 72 (mv 33 (.tuple #[(.slice ar39_0_0 r39.1.length nr39_0_0), (vi r39.2)])) ?_
  refine V 34 71 (ex 31 0 (.slice ar39_0_0 r39.1.length nr39_0_0) (vs := #[(.slice ar39_0_0 r39.1.length nr39_0_0), (vi r39.2)])) ?_
  refine V 35 30 (ex 31 1 (vi r39.2) (vs := #[(.slice ar39_0_0 r39.1.length nr39_0_0), (vi r39.2)])) ?_
  refine V 8 71 (ma 34 (.slice ar39_0_0 r39.1.length nr39_0_0)) ?_
  refine V 9 30 (ma 35 (vi r39.2)) ?_
  refine Nss (Rg [0, 1, 2, 3, 4, 5, 6] ?_)
  refine V 37 25 (ld 25 1 b1 0 true 3 (.agg (kSystem x0 a0_0 n0_0 a0_1 n0_1)) (hs44.ownAt (k := 0) rfl)) ?_
  obtain ⟨r47, hr48, h49⟩ := bind_some h41
  refine Cl 38 72 49 #[(.tmp 37)] #[25] co_ref03_Earliest hs44 (c_ref03_Earliest N w43 F5 hs44.pers (x0) a0_0 n0_0 hb0_0 (SlA.mono hs0_0 ((((le10.trans le18).trans le29).trans le37).trans le45)) a0_1 n0_1 hb0_1 (SlA.mono hs0_1 ((((le10.trans le18).trans le29).trans le37).trans le45)) _ hr48) ?_
  intro v50 F6 w51 hs52 le53 hp54
  obtain ⟨ar47_0_0, nr47_0_0, rfl, hbr47_0_0, hsr47_0_0⟩ := hp54
  refine V 36 72 (mv 38 (.tuple #[(.slice ar47_0_0 r47.1.length nr47_0_0), (vi r47.2)])) ?_
  refine V 39 71 (ex 36 0 (.slice ar47_0_0 r47.1.length nr47_0_0) (vs := #[(.slice ar47_0_0 r47.1.length nr47_0_0), (vi r47.2)])) ?_
  refine V 40 30 (ex 36 1 (vi r47.2) (vs := #[(.slice ar47_0_0 r47.1.length nr47_0_0), (vi r47.2)])) ?_
  refine V 10 71 (ma 39 (.slice ar47_0_0 r47.1.length nr47_0_0)) ?_
  refine V 11 30 (ma 40 (vi r47.2)) ?_
  refine Nss (Rg [0, 1, 2, 3, 4, 5, 6] ?_)
  refine V 42 25 (ld 25 1 b1 0 true 3 (.agg (kSystem x0 a0_0 n0_0 a0_1 n0_1)) (hs52.ownAt (k := 0) rfl)) ?_
  obtain ⟨r55, hr56, h57⟩ := bind_some h49
  refine Cl 43 72 50 #[(.tmp 42)] #[25] co_clocks_Latest hs52 (c_clocks_Latest N w51 F6 hs52.pers (x0) a0_0 n0_0 hb0_0 (SlA.mono hs0_0 (((((le10.trans le18).trans le29).trans le37).trans le45).trans le53)) a0_1 n0_1 hb0_1 (SlA.mono hs0_1 (((((le10.trans le18).trans le29).trans le37).trans le45).trans le53)) _ hr56) ?_
  intro v58 F7 w59 hs60 le61 hp62
  obtain ⟨ar55_0_0, nr55_0_0, rfl, hbr55_0_0, hsr55_0_0⟩ := hp62
  refine V 41 72 (mv 43 (.tuple #[(.slice ar55_0_0 r55.1.length nr55_0_0), (vi r55.2)])) ?_
  refine V 44 71 (ex 41 0 (.slice ar55_0_0 r55.1.length nr55_0_0) (vs := #[(.slice ar55_0_0 r55.1.length nr55_0_0), (vi r55.2)])) ?_
  refine V 45 30 (ex 41 1 (vi r55.2) (vs := #[(.slice ar55_0_0 r55.1.length nr55_0_0), (vi r55.2)])) ?_
  refine V 12 71 (ma 44 (.slice ar55_0_0 r55.1.length nr55_0_0)) ?_
  refine V 13 30 (ma 45 (vi r55.2)) ?_
  refine Nss (Rg [0, 1, 2, 3, 4, 5, 6] ?_)
  refine V 47 25 (ld 25 1 b1 0 true 3 (.agg (kSystem x0 a0_0 n0_0 a0_1 n0_1)) (hs60.ownAt (k := 0) rfl)) ?_
  obtain ⟨r63, hr64, h65⟩ := bind_some h57
  refine Cl 48 72 51 #[(.tmp 47)] #[25] co_ref03_Latest hs60 (c_ref03_Latest N w59 F7 hs60.pers (x0) a0_0 n0_0 hb0_0 (SlA.mono hs0_0 ((((((le10.trans le18).trans le29).trans le37).trans le45).trans le53).trans le61)) a0_1 n0_1 hb0_1 (SlA.mono hs0_1 ((((((le10.trans le18).trans le29).trans le37).trans le45).trans le53).trans le61)) _ hr64) ?_
  intro v66 F8 w67 hs68 le69 hp70
  obtain ⟨ar63_0_0, nr63_0_0, rfl, hbr63_0_0, hsr63_0_0⟩ := hp70
  refine V 46 72 (mv 48 (.tuple #[(.slice ar63_0_0 r63.1.length nr63_0_0), (vi r63.2)])) ?_
  refine V 49 71 (ex 46 0 (.slice ar63_0_0 r63.1.length nr63_0_0) (vs := #[(.slice ar63_0_0 r63.1.length nr63_0_0), (vi r63.2)])) ?_
  refine V 50 30 (ex 46 1 (vi r63.2) (vs := #[(.slice ar63_0_0 r63.1.length nr63_0_0), (vi r63.2)])) ?_
  refine V 14 71 (ma 49 (.slice ar63_0_0 r63.1.length nr63_0_0)) ?_
  refine V 15 30 (ma 50 (vi r63.2)) ?_
  refine Nss (Rg [0, 1, 2, 3, 4, 5, 6, 7, 8, 9, 10, 11, 12, 13, 14, 15, 16, 17, 18, 19, 20, 21, 22, 23, 24, 25, 26, 27, 28, 29, 30, 31] ?_)
  obtain ⟨j74, hj77, h78⟩ := bind_some h65
  refine RWP.cut (fun f w => ∃ (F9 : Mem), HS w0 F0 w F9 [] ∧ Mem.le F8 F9 ∧ f.d = [] ∧ f 2 = (.bool j74)) ?_ ?_
  ·refine V 51 4 (mv 3 (.bool r4)) ?_
   refine V 52 4 (mv 51 (.bool r4)) ?_
   refine RWP.split r4 (fun hb79 => ?_) (fun hb79 => ?_)
   ·have h80 := cond_t hj77 hb79
    refine Vg 53 30 1 true 52 hb79 (mv 5 (vi r23.2)) ?_
    refine Vg 54 30 1 true 52 hb79 (mv 7 (vi r31.2)) ?_
    refine Vg 55 4 1 true 52 hb79 (run_eql (t := 30) (t' := 30) (x := (.tmp 53)) (y := (.tmp 54)) (k := .i64) (a := r23.2) (b := r31.2) rfl rfl) ?_
    refine V 56 4 (p1 52 (.tmp 55) (.const (.bool false)) (.bool (r23.2 == r31.2)) hb79) ?_
    refine V 57 4 (mv 56 (.bool (r23.2 == r31.2))) ?_
    refine RWP.split (r23.2 == r31.2) (fun hb81 => ?_) (fun hb81 => ?_)
    ·have h82 := cond_t h80 hb81
     refine Vg 58 33 6 true 57 hb81 (mv 4 (.slice ar23_0_0 r23.1.length nr23_0_0)) ?_
     refine Vg 59 33 6 true 57 hb81 (mv 6 (.slice ar31_0_0 r31.1.length nr31_0_0)) ?_
     obtain ⟨r83, hr84, h85⟩ := bind_some h82
     refine RWP.call (dst := (some 60)) (ty := 4) (g := (some (6, true))) (by kernel_rfl) (gd_y (d := 57) (by kernel_rfl) rfl hb81) (f0 := (.func 52)) (aos := #[(.tmp 58), (.tmp 59)]) (ats := #[33, 33]) (fid := 52) (first := #[]) (cap := #[]) (args := [(.slice ar23_0_0 r23.1.length nr23_0_0), (.slice ar31_0_0 r31.1.length nr31_0_0)]) rfl co_ref03_SameSpans (rfl) hs68 (c_ref03_SameSpans N w67 F8 hs68.pers (r23.1) ar23_0_0 nr23_0_0 hbr23_0_0 (SlA.mono hsr23_0_0 ((((le37.trans le45).trans le53).trans le61).trans le69)) (r31.1) ar31_0_0 nr31_0_0 hbr31_0_0 (SlA.mono hsr31_0_0 (((le45.trans le53).trans le61).trans le69)) _ hr84) ?_
     intro v86 F10 w87 hs88 le89 hp90
     obtain rfl := hp90
     refine V 61 4 (p1 57 (.tmp 60) (.const (.bool false)) (.bool r83) hb81) ?_
     refine V 62 4 (mv 61 (.bool r83)) ?_
     refine RWP.split r83 (fun hb91 => ?_) (fun hb91 => ?_)
     ·have h92 := cond_t h85 hb91
      refine Vg 63 30 11 true 62 hb91 (mv 9 (vi r39.2)) ?_
      refine Vg 64 30 11 true 62 hb91 (mv 11 (vi r47.2)) ?_
      refine Vg 65 4 11 true 62 hb91 (run_eql (t := 30) (t' := 30) (x := (.tmp 63)) (y := (.tmp 64)) (k := .i64) (a := r39.2) (b := r47.2) rfl rfl) ?_
      refine V 66 4 (p1 62 (.tmp 65) (.const (.bool false)) (.bool (r39.2 == r47.2)) hb91) ?_
      refine V 67 4 (mv 66 (.bool (r39.2 == r47.2))) ?_
      refine RWP.split (r39.2 == r47.2) (fun hb93 => ?_) (fun hb93 => ?_)
      ·have h94 := cond_t h92 hb93
       refine Vg 68 71 16 true 67 hb93 (mv 8 (.slice ar39_0_0 r39.1.length nr39_0_0)) ?_
       refine Vg 69 71 16 true 67 hb93 (mv 10 (.slice ar47_0_0 r47.1.length nr47_0_0)) ?_
       obtain ⟨r95, hr96, h97⟩ := bind_some h94
       refine RWP.call (dst := (some 70)) (ty := 4) (g := (some (16, true))) (by kernel_rfl) (gd_y (d := 67) (by kernel_rfl) rfl hb93) (f0 := (.func 53)) (aos := #[(.tmp 68), (.tmp 69)]) (ats := #[71, 71]) (fid := 53) (first := #[]) (cap := #[]) (args := [(.slice ar39_0_0 r39.1.length nr39_0_0), (.slice ar47_0_0 r47.1.length nr47_0_0)]) rfl co_ref03_SameTimes (rfl) hs88 (c_ref03_SameTimes N w87 F10 hs88.pers (r39.1) ar39_0_0 nr39_0_0 hbr39_0_0 (SlA.mono hsr39_0_0 (((le53.trans le61).trans le69).trans le89)) (r47.1) ar47_0_0 nr47_0_0 hbr47_0_0 (SlA.mono hsr47_0_0 ((le61.trans le69).trans le89)) _ hr96) ?_
       intro v98 F11 w99 hs100 le101 hp102
       obtain rfl := hp102
       refine V 71 4 (p1 67 (.tmp 70) (.const (.bool false)) (.bool r95) hb93) ?_
       refine V 72 4 (mv 71 (.bool r95)) ?_
       refine RWP.split r95 (fun hb103 => ?_) (fun hb103 => ?_)
       ·have h104 := cond_t h97 hb103
        refine Vg 73 30 21 true 72 hb103 (mv 13 (vi r55.2)) ?_
        refine Vg 74 30 21 true 72 hb103 (mv 15 (vi r63.2)) ?_
        refine Vg 75 4 21 true 72 hb103 (run_eql (t := 30) (t' := 30) (x := (.tmp 73)) (y := (.tmp 74)) (k := .i64) (a := r55.2) (b := r63.2) rfl rfl) ?_
        refine V 76 4 (p1 72 (.tmp 75) (.const (.bool false)) (.bool (r55.2 == r63.2)) hb103) ?_
        refine V 77 4 (mv 76 (.bool (r55.2 == r63.2))) ?_
        refine RWP.split (r55.2 == r63.2) (fun hb105 => ?_) (fun hb105 => ?_)
        ·have h106 := cond_t h104 hb105
         refine Vg 78 71 26 true 77 hb105 (mv 12 (.slice ar55_0_0 r55.1.length nr55_0_0)) ?_
         refine Vg 79 71 26 true 77 hb105 (mv 14 (.slice ar63_0_0 r63.1.length nr63_0_0)) ?_
         obtain ⟨r107, hr108, h109⟩ := bind_some h106
         refine RWP.call (dst := (some 80)) (ty := 4) (g := (some (26, true))) (by kernel_rfl) (gd_y (d := 77) (by kernel_rfl) rfl hb105) (f0 := (.func 53)) (aos := #[(.tmp 78), (.tmp 79)]) (ats := #[71, 71]) (fid := 53) (first := #[]) (cap := #[]) (args := [(.slice ar55_0_0 r55.1.length nr55_0_0), (.slice ar63_0_0 r63.1.length nr63_0_0)]) rfl co_ref03_SameTimes (rfl) hs100 (c_ref03_SameTimes N w99 F11 hs100.pers (r55.1) ar55_0_0 nr55_0_0 hbr55_0_0 (SlA.mono hsr55_0_0 ((le69.trans le89).trans le101)) (r63.1) ar63_0_0 nr63_0_0 hbr63_0_0 (SlA.mono hsr63_0_0 (le89.trans le101)) _ hr108) ?_
         intro v110 F12 w111 hs112 le113 hp114
         obtain rfl := hp114
         refine V 81 4 (p1 77 (.tmp 80) (.const (.bool false)) (.bool r107) hb105) ?_
         refine V 2 4 (ma 81 (.bool r107)) ?_
         obtain rfl := some_inj h109
         have hs115 : HS w0 F0 w111 F12 [] := hs112.drop 0
         exact RWP.nil ⟨rfl, F12, hs115, ((le89.trans le101).trans le113), rfl, rfl⟩
        ·have h116 := cond_f h104 hb105
         refine Sk [78, 79, 80] 26 true 77 hb105 ?_
         refine V 81 4 (p0 77 (.tmp 80) (.const (.bool false)) (.bool false) hb105) ?_
         refine V 2 4 (ma 81 (.bool false)) ?_
         obtain rfl := some_inj h116
         have hs117 : HS w0 F0 w99 F11 [] := hs100.drop 0
         exact RWP.nil ⟨rfl, F11, hs117, (le89.trans le101), rfl, rfl⟩
       ·have h118 := cond_f h97 hb103
        refine Sk [73, 74, 75] 21 true 72 hb103 ?_
        refine V 76 4 (p0 72 (.tmp 75) (.const (.bool false)) (.bool false) hb103) ?_
        refine V 77 4 (mv 76 (.bool false)) ?_
        refine Sk [78, 79, 80] 26 true 77 rfl ?_
        refine V 81 4 (p0 77 (.tmp 80) (.const (.bool false)) (.bool false) rfl) ?_
        refine V 2 4 (ma 81 (.bool false)) ?_
        obtain rfl := some_inj h118
        have hs119 : HS w0 F0 w99 F11 [] := hs100.drop 0
        exact RWP.nil ⟨rfl, F11, hs119, (le89.trans le101), rfl, rfl⟩
      ·have h120 := cond_f h92 hb93
       refine Sk [68, 69, 70] 16 true 67 hb93 ?_
       refine V 71 4 (p0 67 (.tmp 70) (.const (.bool false)) (.bool false) hb93) ?_
       refine V 72 4 (mv 71 (.bool false)) ?_
       refine Sk [73, 74, 75] 21 true 72 rfl ?_
       refine V 76 4 (p0 72 (.tmp 75) (.const (.bool false)) (.bool false) rfl) ?_
       refine V 77 4 (mv 76 (.bool false)) ?_
       refine Sk [78, 79, 80] 26 true 77 rfl ?_
       refine V 81 4 (p0 77 (.tmp 80) (.const (.bool false)) (.bool false) rfl) ?_
       refine V 2 4 (ma 81 (.bool false)) ?_
       obtain rfl := some_inj h120
       have hs121 : HS w0 F0 w87 F10 [] := hs88.drop 0
       exact RWP.nil ⟨rfl, F10, hs121, le89, rfl, rfl⟩
     ·have h122 := cond_f h85 hb91
      refine Sk [63, 64, 65] 11 true 62 hb91 ?_
      refine V 66 4 (p0 62 (.tmp 65) (.const (.bool false)) (.bool false) hb91) ?_
      refine V 67 4 (mv 66 (.bool false)) ?_
      refine Sk [68, 69, 70] 16 true 67 rfl ?_
      refine V 71 4 (p0 67 (.tmp 70) (.const (.bool false)) (.bool false) rfl) ?_
      refine V 72 4 (mv 71 (.bool false)) ?_
      refine Sk [73, 74, 75] 21 true 72 rfl ?_
      refine V 76 4 (p0 72 (.tmp 75) (.const (.bool false)) (.bool false) rfl) ?_
      refine V 77 4 (mv 76 (.bool false)) ?_
      refine Sk [78, 79, 80] 26 true 77 rfl ?_
      refine V 81 4 (p0 77 (.tmp 80) (.const (.bool false)) (.bool false) rfl) ?_
      refine V 2 4 (ma 81 (.bool false)) ?_
      obtain rfl := some_inj h122
      have hs123 : HS w0 F0 w87 F10 [] := hs88.drop 0
      exact RWP.nil ⟨rfl, F10, hs123, le89, rfl, rfl⟩
    ·have h124 := cond_f h80 hb81
     refine Sk [58, 59, 60] 6 true 57 hb81 ?_
     refine V 61 4 (p0 57 (.tmp 60) (.const (.bool false)) (.bool false) hb81) ?_
     refine V 62 4 (mv 61 (.bool false)) ?_
     refine Sk [63, 64, 65] 11 true 62 rfl ?_
     refine V 66 4 (p0 62 (.tmp 65) (.const (.bool false)) (.bool false) rfl) ?_
     refine V 67 4 (mv 66 (.bool false)) ?_
     refine Sk [68, 69, 70] 16 true 67 rfl ?_
     refine V 71 4 (p0 67 (.tmp 70) (.const (.bool false)) (.bool false) rfl) ?_
     refine V 72 4 (mv 71 (.bool false)) ?_
     refine Sk [73, 74, 75] 21 true 72 rfl ?_
     refine V 76 4 (p0 72 (.tmp 75) (.const (.bool false)) (.bool false) rfl) ?_
     refine V 77 4 (mv 76 (.bool false)) ?_
     refine Sk [78, 79, 80] 26 true 77 rfl ?_
     refine V 81 4 (p0 77 (.tmp 80) (.const (.bool false)) (.bool false) rfl) ?_
     refine V 2 4 (ma 81 (.bool false)) ?_
     obtain rfl := some_inj h124
     have hs125 : HS w0 F0 w67 F8 [] := hs68.drop 0
     exact RWP.nil ⟨rfl, F8, hs125, (Mem.le.refl _), rfl, rfl⟩
   ·have h126 := cond_f hj77 hb79
    refine Sk [53, 54, 55] 1 true 52 hb79 ?_
    refine V 56 4 (p0 52 (.tmp 55) (.const (.bool false)) (.bool false) hb79) ?_
    refine V 57 4 (mv 56 (.bool false)) ?_
    refine Sk [58, 59, 60] 6 true 57 rfl ?_
    refine V 61 4 (p0 57 (.tmp 60) (.const (.bool false)) (.bool false) rfl) ?_
    refine V 62 4 (mv 61 (.bool false)) ?_
    refine Sk [63, 64, 65] 11 true 62 rfl ?_
    refine V 66 4 (p0 62 (.tmp 65) (.const (.bool false)) (.bool false) rfl) ?_
    refine V 67 4 (mv 66 (.bool false)) ?_
    refine Sk [68, 69, 70] 16 true 67 rfl ?_
    refine V 71 4 (p0 67 (.tmp 70) (.const (.bool false)) (.bool false) rfl) ?_
    refine V 72 4 (mv 71 (.bool false)) ?_
    refine Sk [73, 74, 75] 21 true 72 rfl ?_
    refine V 76 4 (p0 72 (.tmp 75) (.const (.bool false)) (.bool false) rfl) ?_
    refine V 77 4 (mv 76 (.bool false)) ?_
    refine Sk [78, 79, 80] 26 true 77 rfl ?_
    refine V 81 4 (p0 77 (.tmp 80) (.const (.bool false)) (.bool false) rfl) ?_
    refine V 2 4 (ma 81 (.bool false)) ?_
    obtain rfl := some_inj h126
    have hs127 : HS w0 F0 w67 F8 [] := hs68.drop 0
    exact RWP.nil ⟨rfl, F8, hs127, (Mem.le.refl _), rfl, rfl⟩
  ·rintro f w71 ⟨F9, hs72, le73, e75, e76⟩
   refine thenQ_nrm ?_
   refine CWP.ret (by kernel_rfl) ?_
   have hfin := some_inj h78
   subst hfin
   exact ⟨e75, (.bool j74), res_of (l := [.tmp 2]) (by kernel_rfl) (vs := [(.bool j74)]) ⟨e76, trivial⟩, (.bool j74), F9, rfl, hs72.clear, rfl⟩
end Go.Proofs.Ythbcnabeabcmlaa
namespace Go.Proofs.Ythbcnabeabcmlaa
section
variable {N : Nat} {s : System}
def small {α : Type} (l : List (List α)) : Prop := l.length ≤ 1000 ∧ ∀ r, r ∈ l → r.length ≤ 1000
theorem small_nil {α : Type} : small ([] : List (List α)) := ⟨by simp, fun r h => by cases h⟩
theorem sameSpans_self (hN : 1000000 ≤ N) {l : List (List Span)} (hl : small l) : ref03_SameSpans N l l = some true := by
 unfold ref03_SameSpans
 simp only [bne_self_eq_false, cond_false]
 have h1 := hl.1
 rw [iter_check' (n := l.length) (fun _ => true) false (fun i hi => by
  unfold ref03_SameSpans_L0
  have h2 := hl.2 _ (List.getElem_mem hi)
  rw [lt_t hi, cond_true, idx_nat hi]
  simp only [Option.bind_some, bne_self_eq_false, cond_false]
  rw [iter_check' (n := l[i].length) (fun _ => true) false (fun j hj => by
   unfold ref03_SameSpans_L1
   simp only [idx_nat hi, Option.bind_some, lt_t hj, cond_true, idx_nat hj]
   rw [W64_succ (by omega)]
   simp) (by unfold ref03_SameSpans_L1; simp only [idx_nat hi, Option.bind_some, lt_f, cond_false]) (by omega)]
  rw [allB_of (fun _ _ => rfl), W64_succ (by omega)]
  rfl) (by unfold ref03_SameSpans_L0; rw [lt_f]; rfl) (by omega)]
 rw [allB_of (fun _ _ => rfl)]; rfl
theorem sameTimes_self (hN : 1000000 ≤ N) {l : List (List Int)} (hl : small l) : ref03_SameTimes N l l = some true := by
 unfold ref03_SameTimes
 simp only [bne_self_eq_false, cond_false]
 have h1 := hl.1
 rw [iter_check' (n := l.length) (fun _ => true) false (fun i hi => by
  unfold ref03_SameTimes_L0
  have h2 := hl.2 _ (List.getElem_mem hi)
  rw [lt_t hi, cond_true, idx_nat hi]
  simp only [Option.bind_some, bne_self_eq_false, cond_false]
  rw [iter_check' (n := l[i].length) (fun _ => true) false (fun j hj => by
   unfold ref03_SameTimes_L1
   simp only [idx_nat hi, Option.bind_some, lt_t hj, cond_true, idx_nat hj]
   rw [W64_succ (by omega)]
   simp) (by unfold ref03_SameTimes_L1; simp only [idx_nat hi, Option.bind_some, lt_f, cond_false]) (by omega)]
  rw [allB_of (fun _ _ => rfl), W64_succ (by omega)]
  rfl) (by unfold ref03_SameTimes_L0; rw [lt_f]; rfl) (by omega)]
 rw [allB_of (fun _ _ => rfl)]; rfl
theorem small_each {α : Type} (h : vCheck s = 0) (f : Ref → α) : small (eachL s f) := by
 refine ⟨?_, fun r hr => ?_⟩
 ·unfold eachL; have := (check_ok h).1; simp; omega
 ·unfold eachL at hr
  rw [List.mem_map] at hr
  obtain ⟨i, hi, rfl⟩ := hr
  cases ht : s.Tracks[i]? with
  | none => simp
  | some t => have := (track_facts (track_at h ht)).2.2; simp; omega
theorem small_times (s : System) : small (vTimes s).1 := by
 unfold vTimes
 by_cases h : vCheck s = 0
 ·rw [if_neg (by omega)]
  by_cases hc : Cls s
  ·rw [if_pos hc]; exact small_each h _
  ·rw [if_neg hc]; exact small_nil
 ·rw [if_pos h]; exact small_nil
theorem small_map {α β : Type} {l : List (List α)} (h : small l) (f : α → β) : small (l.map fun r => r.map f) := by
 refine ⟨by simpa using h.1, fun r hr => ?_⟩
 rw [List.mem_map] at hr
 obtain ⟨r0, h0, rfl⟩ := hr
 simpa using h.2 r0 h0
theorem ends_rs (hN : 1000000 ≤ N) {l : List (List Span)} (hl : small l) (hi : Bool) : ref03_ends N l hi = some (l.map fun r => r.map fun x => bif hi then x.Hi else x.Lo) := by
 unfold ref03_ends
 have h1 := hl.1
 obtain ⟨o, ho, j, rfl⟩ := iter_ex (body := ref03_ends_L0 N l hi) l.length (fun i q => q = ((l.take i).map (fun r => r.map fun x => bif hi then x.Hi else x.Lo), (i : Int)))
  (fun o => ∃ j, o = .done (l.map (fun r => r.map fun x => bif hi then x.Hi else x.Lo), j)) (by
  rintro i q hii rfl
  unfold ref03_ends_L0
  simp only
  by_cases hlt : i < l.length
  ·left
   have h2 := hl.2 _ (List.getElem_mem hlt)
   rw [lt_t hlt, cond_true]
   generalize hq : (l.take i).map (fun r => r.map fun x => bif hi then x.Hi else x.Lo) = qq
   have hql : qq.length = i := by subst hq; simp; omega
   obtain ⟨o, ho, rfl⟩ := iter_ex (body := ref03_ends_L1 N l hi (qq, (i : Int))) l[i].length (fun j q => q = ((l[i].take j).map (fun x => bif hi then x.Hi else x.Lo), (j : Int)))
    (fun o => o = .done (l[i].map (fun x => bif hi then x.Hi else x.Lo), (l[i].length : Int))) (by
    rintro j q hj rfl
    unfold ref03_ends_L1
    simp only [idx_nat hlt, Option.bind_some]
    by_cases hjl : j < l[i].length
    ·left
     rw [lt_t hjl, cond_true]
     simp only [idx_nat hjl, Option.bind_some]
     rw [apnd_ok (by simp; omega), apnd_ok (by simp; omega), W64_succ (by omega)]
     refine ⟨(((l[i].take j).map (fun x => bif hi then x.Hi else x.Lo)) ++ [bif hi then l[i][j].Hi else l[i][j].Lo], ((j + 1 : Nat) : Int)), ?_, ?_, hjl⟩
     ·cases hi <;> rfl
     ·rw [List.take_succ_eq_append_getElem hjl, List.map_append]; rfl
    ·have : j = l[i].length := by omega
     subst this
     right
     rw [lt_f, cond_false]
     exact ⟨_, rfl, (fun _ h => by cases h), by simp⟩) l[i].length N 0 ([], 0) (by omega) (by simp) (by omega)
   rw [ho]
   simp only [Option.bind_some, Flow.k]
   rw [apnd_ok (by rw [hql]; simp; omega), Option.bind_some, W64_succ (by omega)]
   refine ⟨_, rfl, ?_, hlt⟩
   subst hq
   rw [List.take_succ_eq_append_getElem hlt, List.map_append]; rfl
  ·have : i = l.length := by omega
   subst this
   right
   rw [lt_f, cond_false]
   exact ⟨_, rfl, (fun _ h => by cases h), _, by simp; rfl⟩) l.length N 0 ([], 0) (by omega) (by simp) (by omega)
 rw [ho]; rfl
theorem times_true (hN : 1000000 ≤ N) (hf : FitS N s) : law03_ClocksTimes N s = some true := by
 unfold law03_ClocksTimes
 obtain ⟨fw, hfw⟩ := few_some hf
 have hs := small_times s
 rw [awake_at (by omega), hfw]
 simp only [Option.bind_some, Times_c hN hf, Times_r hN hf, Earliest_c hN hf, Latest_c hN hf, ref03_Earliest, ref03_Latest, ends_rs hN hs, cond_true, cond_false]
 cases fw with
 | false => rfl
 | true =>
  have e1 := sameTimes_self hN (small_map hs Span.Lo)
  have e2 := sameTimes_self hN (small_map hs Span.Hi)
  simp only [Bool.not_true, cond_false, cond_true, beq_self_eq_true, sameSpans_self hN hs, Option.bind_some, e1, e2]
end
theorem times_row (s : System) (q : qSystem s) : law03_ClocksTimes NN s = some true := times_true (by decide) (fitS q)
end Go.Proofs.Ythbcnabeabcmlaa
namespace Go.Proofs.Ythbcnabeabcmlaa
open Go.ChangeShapes Go.WideShapes Go.ChangeAt Go.RowKit
set_option maxRecDepth 100000 in
theorem lifted_clocksTimes (os : Os) (started : os.Started) (H : Type) (enc : TypeId × Value → H) :
  ReturnsInHanded {} Try.checked os 9 .any (Rows.clocksTimesSpec.pre6 enc Try.prog Try.f9 Rows.clocksTimesRow.domain false) (Rows.clocksTimesSpec.post enc Try.prog Try.f9 false true false false) := by
 refine returnsInHanded_of_change (C := Try.checked) (by kernel_rfl) started (by kernel_rfl) Try.func9
  (ChangeSpec.witness6 (enc := enc) (C := Try.checked) false ⟨#[], #[.agg #[.slice none 0 0, .slice none 0 0, .int .i64 0]], []⟩ 8 (by kernel_rfl) (by kernel_rfl) (by kernel_rfl) (by kernel_rfl)) ?_
 intro W base args ds gs before hval0 hW hcnd _
 have hval : ∀ (j : Nat) t v, Try.f9.params[j]? = some t → args[j]? = some v → Value.okWide Try.prog W .any base t v := hval0
 have hW' := hW
 obtain ⟨p, q, hA0, hV, rfl, hfz, hnd⟩ := hW
 have hA : DataW.TrodAll enc Try.prog W 0 (fun _ => true) true Try.f9.params.toList args.toList ds p := hA0
 rw [Try.params9] at hA hval
 obtain ⟨v0, vs0, d0, ds0, p0, q0, hargs, rfl, rfl, h0, r0⟩ := trodAll_cons hA
 obtain ⟨rfl, rfl, rfl⟩ := trodAll_nil r0
 obtain rfl : args = #[v0] := by cases args; simp_all
 obtain ⟨cs0, x0, rfl, R0, Q0⟩ := Opens.agg opens_System_25 (by kernel_rfl) (hval 0 25 v0 rfl rfl) h0
 obtain ⟨a0_0, n0_0, a0_1, n0_1, e0, hb0_0, hs0_0, hb0_1, hs0_1⟩ := R0
 obtain rfl : cs0 = #[.slice a0_0 x0.Tracks.length n0_0, .slice a0_1 x0.Ties.length n0_1, .int .i64 x0.Window] := Array.ext' (by exact e0)
 refine (c_law03_ClocksTimes 9223372036854775808 W (memOf W) (fun _ _ h => h) x0 a0_0 n0_0 hb0_0 hs0_0 a0_1 n0_1 hb0_1 hs0_1 true (times_row x0 Q0)).mono fun e W' he => ?_
 obtain ⟨r, F', rfl, hs, rfl⟩ := he
 refine ⟨_, rfl, post_grown (by kernel_rfl) (tb := 4) ?_ rfl hW' (by kernel_rfl) (by kernel_rfl) ?_ hs⟩
 ·intro t ht
  rw [Try.params9] at ht
  simp only [List.mem_cons, List.not_mem_nil, or_false] at ht
  subst ht; exact ⟨by kernel_rfl, by decide +kernel⟩
 ·intro _; rfl
theorem clocksTimes_proved : Rows.ClocksTimesSaid :=
 OpenClaim.holds_of_wide 9 Try.f9 rfl rfl rfl rfl rfl rfl rfl ⟨rfl, rfl, rfl, rfl, rfl⟩ rfl rfl rfl rfl rfl (by kernel_rfl) Try.func9 (by kernel_rfl)
  (of_decide_eq_true (by kernel_rfl)) (by unfold Func.isWrapper; first | (rw [if_pos (by decide +kernel)]; kernel_rfl) | (rw [if_neg (by decide +kernel)]; exact ⟨rfl, rfl⟩))
  (fun os started H enc _ => lifted_clocksTimes os started H enc)
end Go.Proofs.Ythbcnabeabcmlaa
