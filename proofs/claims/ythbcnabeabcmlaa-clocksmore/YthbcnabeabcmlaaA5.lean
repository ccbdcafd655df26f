/- ClocksMore: for every input the law returns true, and each argument reads afterwards as it read before. No condition. -/
import Derived.Test.YthbcnabeabcmlaaA4
set_option linter.unusedVariables false
set_option linter.unusedSimpArgs false
set_option linter.unusedSectionVars false
namespace Go.Proofs.Ythbcnabeabcmlaa
open Go.Proofs
def law03_ClocksMore (N : Nat) (x0 : System) (x1 : Tie) (x2 : Ref) (x3 : Ref) : Option Bool :=
 ((law03_awake N ).bind fun r13 => (((law03_few N x0).bind fun r34 => (bif (!r34) then some true else some (decide ((x0.Ties.length : Int) > 30)))).bind fun j24 => (bif j24 then some r13 else (((apnd ([] : List Tie) x0.Ties).bind fun r73 => ((apnd r73 [x1]).bind fun r87 => some r87)).bind fun j59 => ((clocks_Interval N x0 x2).bind fun r159 => ((clocks_Interval N ({ Tracks := x0.Tracks, Ties := j59, Window := x0.Window } : System) x2).bind fun r176 => ((clocks_Relation N x0 x2 x3).bind fun r189 => ((clocks_Relation N ({ Tracks := x0.Tracks, Ties := j59, Window := x0.Window } : System) x2 x3).bind fun r202 => (bif ((r176.2 != 0) || (r202.2 != 0)) then some r13 else (bif ((r159.2 != 0) || ((r189.2 != 0) || ((decide (r176.1.Lo < r159.1.Lo)) || ((decide (r176.1.Hi > r159.1.Hi)) || ((decide (r202.1.Lo < r189.1.Lo)) || (decide (r202.1.Hi > r189.1.Hi))))))) then some false else ((clocks_Must N x0 x2 x3).bind fun r277 => ((clocks_Must N ({ Tracks := x0.Tracks, Ties := j59, Window := x0.Window } : System) x2 x3).bind fun r285 => ((clocks_May N x0 x2 x3).bind fun r293 => ((clocks_May N ({ Tracks := x0.Tracks, Ties := j59, Window := x0.Window } : System) x2 x3).bind fun r301 => some (r13 && ((r277.2 == 0) && ((r285.2 == 0) && ((r293.2 == 0) && ((r301.2 == 0) && (bif (!r277.1) then (r293.1 || (!r301.1)) else (r285.1 && (r293.1 || (!r301.1)))))))))))))))))))))))
theorem co_law03_ClocksMore : CallOk Try.prog 6 := fun _ _ => by kernel_rfl
set_option maxHeartbeats 4000000 in
set_option maxRecDepth 100000 in
theorem c_law03_ClocksMore (N : Nat) (w0 : World) (F0 : Mem) (hF : ∀ b o, F0 b = some o → w0.heap[b]? = some o) (x0 : System) (a0_0 : Option Addr) (n0_0 : Nat) (hb0_0 : LC x0.Tracks.length n0_0) (hs0_0 : SlA tTrack F0 a0_0 x0.Tracks) (a0_1 : Option Addr) (n0_1 : Nat) (hb0_1 : LC x0.Ties.length n0_1) (hs0_1 : SlA tTie F0 a0_1 x0.Ties) (x1 : Tie) (x2 : Ref) (x3 : Ref) (r : Bool) (h : law03_ClocksMore N x0 x1 x2 x3 = some r) :
  Calls Try.prog 6 ([(.agg (kSystem x0 a0_0 n0_0 a0_1 n0_1)), (.agg (kTie x1)), (.agg (kRef x2)), (.agg (kRef x3))] : List Value).toArray w0 (FRet w0 F0 fun F' v => v = (.bool r)) := by
 have hs0 := HS.start hF
 refine calls_of (n := 173) (c := bodyOf Try.f6) Try.func6 (by kernel_rfl) (by kernel_rfl) (by kernel_rfl) ?_
 refine Sq (Rg [0, 1, 2, 3, 4] ?_)
 refine Bx 4 0 0 25 (kSystem x0 a0_0 n0_0 a0_1 n0_1) hs0 (fun b1 w2 (hs3 : HS w0 F0 w2 F0 [(sb b1 (kSystem x0 a0_0 n0_0 a0_1 n0_1) 25)]) => ?_)
 refine Bx 5 0 1 46 (kTie x1) hs3 (fun b4 w5 (hs6 : HS w0 F0 w5 F0 [(sb b4 (kTie x1) 46), (sb b1 (kSystem x0 a0_0 n0_0 a0_1 n0_1) 25)]) => ?_)
 refine Bx 6 0 2 27 (kRef x2) hs6 (fun b7 w8 (hs9 : HS w0 F0 w8 F0 [(sb b7 (kRef x2) 27), (sb b4 (kTie x1) 46), (sb b1 (kSystem x0 a0_0 n0_0 a0_1 n0_1) 25)]) => ?_)
 refine Bx 7 0 3 27 (kRef x3) hs9 (fun b10 w11 (hs12 : HS w0 F0 w11 F0 [(sb b10 (kRef x3) 27), (sb b7 (kRef x2) 27), (sb b4 (kTie x1) 46), (sb b1 (kSystem x0 a0_0 n0_0 a0_1 n0_1) 25)]) => ?_)
 refine V 8 4 (mc (.bool false) (.bool false)) ?_
 refine Nss (Rg [0, 1] ?_)
 obtain ⟨r13, hr14, h15⟩ := bind_some h
 refine Cl 27 4 15 #[] #[] co_law03_awake hs12 (c_law03_awake N w11 F0 hs12.pers  _ hr14) ?_
 intro v16 F1 w17 hs18 le19 hp20
 obtain rfl := hp20
 refine V 9 4 (ma 27 (.bool r13)) ?_
 refine Nss ?_
 refine Sq (Rg [0, 1, 2, 3, 4, 5, 6, 7, 8] ?_)
 obtain ⟨j24, hj32, h33⟩ := bind_some h15
 refine RWP.cut (fun f w => ∃ (F2 : Mem), HS w0 F0 w F2 [(sb b10 (kRef x3) 27), (sb b7 (kRef x2) 27), (sb b4 (kTie x1) 46), (sb b1 (kSystem x0 a0_0 n0_0 a0_1 n0_1) 25)] ∧ Mem.le F1 F2 ∧ f.d = [] ∧ f 4 = (.pointer (some ⟨b1, 0, none⟩)) ∧ f 5 = (.pointer (some ⟨b4, 0, none⟩)) ∧ f 6 = (.pointer (some ⟨b7, 0, none⟩)) ∧ f 7 = (.pointer (some ⟨b10, 0, none⟩)) ∧ f 9 = (.bool r13) ∧ f 36 = (.bool j24)) ?_ ?_
 ·refine V 28 25 (ld 25 4 b1 0 true 3 (.agg (kSystem x0 a0_0 n0_0 a0_1 n0_1)) (hs18.ownAt (k := 3) rfl)) ?_
  obtain ⟨r34, hr35, h36⟩ := bind_some hj32
  refine Cl 29 4 16 #[(.tmp 28)] #[25] co_law03_few hs18 (c_law03_few N w17 F1 hs18.pers (x0) a0_0 n0_0 hb0_0 (SlA.mono hs0_0 le19) a0_1 n0_1 hb0_1 (SlA.mono hs0_1 le19) _ hr35) ?_
  intro v37 F3 w38 hs39 le40 hp41
  obtain rfl := hp41
  refine V 30 4 (run_not (t := 4) (x := (.tmp 29)) (a := r34) rfl) ?_
  refine V 31 4 (mv 30 (.bool (!r34))) ?_
  refine RWP.split (!r34) (fun hb42 => ?_) (fun hb42 => ?_)
  ·have h43 := cond_t h36 hb42
   refine Sk [32, 33, 34, 35] 3 false 31 hb42 ?_
   refine V 36 4 (p1 31 (.const (.bool true)) (.tmp 35) (.bool true) hb42) ?_
   obtain rfl := some_inj h43
   exact RWP.nil ⟨rfl, F3, hs39, le40, rfl, rfl, rfl, rfl, rfl, rfl, rfl⟩
  ·have h44 := cond_f h36 hb42
   refine Vg 32 0 3 false 31 hb42 (fa 25 4 1 1 1 b1 0 1) ?_
   refine Vg 33 23 3 false 31 hb42 (ld 23 32 b1 1 false 1 (.slice a0_1 x0.Ties.length n0_1) (hs39.ownAt (k := 3) rfl)) ?_
   refine Vg 34 3 3 false 31 hb42 (ln 33 23 a0_1 x0.Ties.length n0_1 46 4 32) ?_
   refine Vg 35 4 3 false 31 hb42 (run_gtr (t := 3) (t' := 3) (x := (.tmp 34)) (y := (.const (vi 30))) (k := .i64) (a := (x0.Ties.length : Int)) (b := 30) rfl rfl) ?_
   refine V 36 4 (p0 31 (.const (.bool true)) (.tmp 35) (.bool (decide ((x0.Ties.length : Int) > 30))) hb42) ?_
   obtain rfl := some_inj h44
   exact RWP.nil ⟨rfl, F3, hs39, le40, rfl, rfl, rfl, rfl, rfl, rfl, rfl⟩
 ·rintro f w21 ⟨F2, hs22, le23, e25, e26, e27, e28, e29, e30, e31⟩
  refine thenQ_nrm ?_
  refine CWP.cond (t := j24) (by kernel_rfl) e31 (fun hb45 => ?_) (fun hb45 => ?_)
  ·have h46 := cond_t h33 hb45
   refine Sq (Rg [0, 1] ?_)
   refine V 37 4 (mv 9 (.bool r13) e30) ?_
   refine V 8 4 (ma 37 (.bool r13)) ?_
   refine Nt ?_
   refine CWP.ret (by kernel_rfl) ?_
   refine thenQ_ret ?_
   have hfin := some_inj h46
   subst hfin
   exact ⟨e25, (.bool r13), res_of (l := [.tmp 8]) (by kernel_rfl) (vs := [(.bool r13)]) ⟨rfl, trivial⟩, (.bool r13), F2, rfl, hs22.clear, rfl⟩
  ·have h47 := cond_f h33 hb45
   refine Sc ?_
   refine thenQ_nrm ?_
   refine Sq (Rg [0, 1, 2] ?_)
   refine V 38 25 (ld 25 4 b1 0 true 3 (.agg (kSystem x0 a0_0 n0_0 a0_1 n0_1)) (hs22.ownAt (k := 3) rfl) e26) ?_
   refine Al 10 0 25 #[(.slice none ([] : List Track).length 0), (.slice none ([] : List Tie).length 0), (vi 0)] hs22 (fun b48 w49 (hs50 : HS w0 F0 w49 F2 [(sb b48 #[(.slice none ([] : List Track).length 0), (.slice none ([] : List Tie).length 0), (vi 0)] 25), (sb b10 (kRef x3) 27), (sb b7 (kRef x2) 27), (sb b4 (kTie x1) 46), (sb b1 (kSystem x0 a0_0 n0_0 a0_1 n0_1) 25)]) => ?_)
   refine RWP.store (ty := 0) (g := none) (by kernel_rfl) rfl (x := (.tmp 10)) (y := (.tmp 38)) (t := 25) (gg := true) (s := 3) (v := (.agg (kSystem x0 a0_0 n0_0 a0_1 n0_1))) (b := b48) (o := 0) (C := #[(.slice none ([] : List Track).length 0), (.slice none ([] : List Tie).length 0), (vi 0)]) rfl rfl (by kernel_rfl) hs50 (k := 0) rfl rfl rfl rfl (C' := (kSystem x0 a0_0 n0_0 a0_1 n0_1)) rfl (fun w51 (hs52 : HS w0 F0 w51 F2 [(sb b48 (kSystem x0 a0_0 n0_0 a0_1 n0_1) 25), (sb b10 (kRef x3) 27), (sb b7 (kRef x2) 27), (sb b4 (kTie x1) 46), (sb b1 (kSystem x0 a0_0 n0_0 a0_1 n0_1) 25)]) => ?_)
   refine Nss ?_
   obtain ⟨j59, hj66, h67⟩ := bind_some h47
   refine CWP.regionD (by kernel_rfl) (by kernel_rfl) (by kernel_rfl) (by kernel_rfl) (z := 8) (F := F2) (Lc := [(sb b10 (kRef x3) 27), (sb b7 (kRef x2) 27), (sb b4 (kTie x1) 46), (sb b1 (kSystem x0 a0_0 n0_0 a0_1 n0_1) 25)]) (Lz := [(sb b48 (kSystem x0 a0_0 n0_0 a0_1 n0_1) 25)]) (l := [false, false, false, false, false, false, false, false, false]) (fuel := 9) (by kernel_rfl) (by kernel_rfl) hs52 (by simp) (by simp) (fun f w => ∃ (F4 : Mem) (aj59_0 : Option Addr) (nj59_0 : Nat) (ej59_0 : Option Nat × Obj), HS w0 F0 w F4 [ej59_0, (sb b48 #[(.slice a0_0 x0.Tracks.length n0_0), (.slice aj59_0 j59.length nj59_0), (vi x0.Window)] 25), (sb b10 (kRef x3) 27), (sb b7 (kRef x2) 27), (sb b1 (kSystem x0 a0_0 n0_0 a0_1 n0_1) 25)] ∧ Mem.le F2 F4 ∧ f.d = [] ∧ f 4 = (.pointer (some ⟨b1, 0, none⟩)) ∧ f 6 = (.pointer (some ⟨b7, 0, none⟩)) ∧ f 7 = (.pointer (some ⟨b10, 0, none⟩)) ∧ f 9 = (.bool r13) ∧ f 10 = (.pointer (some ⟨b48, 0, none⟩)) ∧ RowR tTie 46 F4 aj59_0 nj59_0 j59 ej59_0) (fun wd53 hw54 => ?_) ?_
   ·refine Df 1 40 0 (.pointer (some ⟨b1, 1, none⟩)) (fun _ hq => fa 25 4 1 1 1 b1 0 1 e26) ?_
    refine Df 2 41 23 _ (fun _ hq => ld 23 40 b1 1 false 1 (.slice a0_1 x0.Ties.length n0_1) (hq.1.2 3 _ _ rfl)) ?_
    refine Df 4 43 46 _ (fun _ hq => ld 46 5 b4 0 true 4 (.agg (kTie x1)) (hq.1.2 2 _ _ rfl) e27) ?_
    refine DWP.two (i := 0) (j := 5) (by kernel_rfl) ?_ ?_
    ·refine DStep.buildSlice (l' := [true, true, true, false, true, false, false, false, false]) (zd := false) (by kernel_rfl) (by kernel_rfl) (dst := (some 39)) (ty := 23) (g := none) (by kernel_rfl) rfl (t := 23) (len := 0) (parts := #[]) (vs := []) (rfl) (E := 46) (cs := []) (by kernel_rfl) hw54 (Mem.le.refl _) (by simp) (fun _ => by simp) (fun b68 w69 (hs70 : HS w0 F0 w69 F2 [(some b68, .cells ([] : List Value).toArray 46 (0, 0)), (sb b48 (kSystem x0 a0_0 n0_0 a0_1 n0_1) 25), (sb b10 (kRef x3) 27), (sb b7 (kRef x2) 27), (sb b4 (kTie x1) 46), (sb b1 (kSystem x0 a0_0 n0_0 a0_1 n0_1) 25)]) => ?_)
     have hr72 : RowR tTie 46 F2 (some ⟨b68, 0, none⟩) 0 ([] : List Tie) (some b68, .cells ([] : List Value).toArray 46 (0, 0)) := RowR.lit rfl (by simp)
     refine DWP.two (i := 3) (j := 5) (by kernel_rfl) ?_ ?_
     ·obtain ⟨r73, hap74, h75⟩ := bind_some hj66
      refine DStep.append (l' := [true, true, true, true, true, false, false, false, false]) (zd := false) (by kernel_rfl) (by kernel_rfl) (dst := (some 42)) (ty := 23) (g := none) (by kernel_rfl) rfl (x := (.tmp 39)) (y := (.tmp 41)) (t := 23) (t2 := 23) (by_ := 32) (z := (.agg #[(vi 0), (vi 0), (vi 0), (vi 0)])) (a2 := a0_1) (c2 := n0_1) (m := x0.Ties) (T := tTie) (E := 46) (a := (some ⟨b68, 0, none⟩)) (cap := 0) (l := ([] : List Tie)) rfl rfl (by kernel_rfl) (by decide) (by kernel_rfl) (by kernel_rfl) rfl oTie hs70 (k := 0) rfl hr72 (SlA.rd hs70 (SlA.mono hs0_1 (le19.trans le23))) (r := r73) hap74 (Mem.le.refl _) (fun _ => by simp) (fun _ _ => by simp) (fun a76 n77 e78 w79 (hs80 : HS w0 F0 w79 F2 [e78, (sb b48 (kSystem x0 a0_0 n0_0 a0_1 n0_1) 25), (sb b10 (kRef x3) 27), (sb b7 (kRef x2) 27), (sb b4 (kTie x1) 46), (sb b1 (kSystem x0 a0_0 n0_0 a0_1 n0_1) 25)]) hr81 => ?_)
      refine DWP.one (i := 5) (by kernel_rfl) ?_
      refine DStep.buildSlice (l' := [true, true, true, true, true, true, false, false, false]) (zd := false) (by kernel_rfl) (by kernel_rfl) (dst := (some 44)) (ty := 23) (g := none) (by kernel_rfl) rfl (t := 23) (len := 1) (parts := #[(0, (.tmp 43))]) (vs := [(0, (.agg (kTie x1)))]) (rfl) (E := 46) (cs := [(vi x1.A.Log), (vi x1.A.Line), (vi x1.B.Log), (vi x1.B.Line)]) (by kernel_rfl) hs80 (Mem.le.refl _) (by simp) (fun _ => by simp) (fun b82 w83 (hs84 : HS w0 F0 w83 F2 [(some b82, .cells ([(vi x1.A.Log), (vi x1.A.Line), (vi x1.B.Log), (vi x1.B.Line)] : List Value).toArray 46 (0, 0)), e78, (sb b48 (kSystem x0 a0_0 n0_0 a0_1 n0_1) 25), (sb b10 (kRef x3) 27), (sb b7 (kRef x2) 27), (sb b4 (kTie x1) 46), (sb b1 (kSystem x0 a0_0 n0_0 a0_1 n0_1) 25)]) => ?_)
      have hr86 : RowR tTie 46 F2 (some ⟨b82, 0, none⟩) 1 [x1] (some b82, .cells ([(vi x1.A.Log), (vi x1.A.Line), (vi x1.B.Log), (vi x1.B.Line)] : List Value).toArray 46 (0, 0)) := RowR.lit ⟨rfl, rfl⟩ (by simp)
      refine DWP.one (i := 6) (by kernel_rfl) ?_
      obtain ⟨r87, hap88, h89⟩ := bind_some h75
      refine DStep.append (l' := [true, true, true, true, true, true, true, false, false]) (zd := false) (by kernel_rfl) (by kernel_rfl) (dst := (some 45)) (ty := 23) (g := none) (by kernel_rfl) rfl (x := (.tmp 42)) (y := (.tmp 44)) (t := 23) (t2 := 23) (by_ := 32) (z := (.agg #[(vi 0), (vi 0), (vi 0), (vi 0)])) (a2 := (some ⟨b82, 0, none⟩)) (c2 := 1) (m := [x1]) (T := tTie) (E := 46) (a := a76) (cap := n77) (l := r73) rfl rfl (by kernel_rfl) (by decide) (by kernel_rfl) (by kernel_rfl) rfl oTie hs84 (k := 1) rfl hr81 (RowR.rd hs84 (k := 0) rfl hr86) (r := r87) hap88 (Mem.le.refl _) (fun _ => by simp) (fun _ _ => by simp) (fun a90 n91 e92 w93 (hs94 : HS w0 F0 w93 F2 [(some b82, .cells ([(vi x1.A.Log), (vi x1.A.Line), (vi x1.B.Log), (vi x1.B.Line)] : List Value).toArray 46 (0, 0)), e92, (sb b48 (kSystem x0 a0_0 n0_0 a0_1 n0_1) 25), (sb b10 (kRef x3) 27), (sb b7 (kRef x2) 27), (sb b4 (kTie x1) 46), (sb b1 (kSystem x0 a0_0 n0_0 a0_1 n0_1) 25)]) hr95 => ?_)
      refine Df 7 46 0 (.pointer (some ⟨b48, 1, none⟩)) (fun _ hq => fa 25 10 1 1 1 b48 0 1) ?_
      refine DWP.one (i := 8) (by kernel_rfl) ?_
      refine DStep.store (l' := [true, true, true, true, true, true, true, true, true]) (zd := true) (by kernel_rfl) (by kernel_rfl) (ty := 0) (g := none) (by kernel_rfl) rfl (x := (.tmp 46)) (y := (.tmp 45)) (t := 23) (gg := false) (s := 1) (v := (.slice a90 r87.length n91)) (b := b48) (o := 1) (C := (kSystem x0 a0_0 n0_0 a0_1 n0_1)) rfl rfl (by kernel_rfl) hs94 (k := 2) rfl rfl rfl rfl (C' := #[(.slice a0_0 x0.Tracks.length n0_0), (.slice a90 r87.length n91), (vi x0.Window)]) rfl (Mem.le.refl _) (by simp) (fun e => by cases e) (fun w96 (hs97 : HS w0 F0 w96 F2 [(some b82, .cells ([(vi x1.A.Log), (vi x1.A.Line), (vi x1.B.Log), (vi x1.B.Line)] : List Value).toArray 46 (0, 0)), e92, (sb b48 #[(.slice a0_0 x0.Tracks.length n0_0), (.slice a90 r87.length n91), (vi x0.Window)] 25), (sb b10 (kRef x3) 27), (sb b7 (kRef x2) 27), (sb b4 (kTie x1) 46), (sb b1 (kSystem x0 a0_0 n0_0 a0_1 n0_1) 25)]) => ?_)
      obtain rfl := some_inj h89
      have hs98 : HS w0 F0 w96 F2 [e92, (sb b48 #[(.slice a0_0 x0.Tracks.length n0_0), (.slice a90 r87.length n91), (vi x0.Window)] 25), (sb b10 (kRef x3) 27), (sb b7 (kRef x2) 27), (sb b4 (kTie x1) 46), (sb b1 (kSystem x0 a0_0 n0_0 a0_1 n0_1) 25)] := hs97.drop 0
      have hs99 : HS w0 F0 w96 F2 [e92, (sb b48 #[(.slice a0_0 x0.Tracks.length n0_0), (.slice a90 r87.length n91), (vi x0.Window)] 25), (sb b10 (kRef x3) 27), (sb b7 (kRef x2) 27), (sb b1 (kSystem x0 a0_0 n0_0 a0_1 n0_1) 25)] := hs98.drop 4
      exact DWP.done (by kernel_rfl) ⟨F2, a90, n91, e92, hs99, (Mem.le.refl _), e25, e26, e28, e29, e30, rfl, hr95⟩
     ·refine DStep.buildSlice (l' := [true, true, true, false, true, true, false, false, false]) (zd := false) (by kernel_rfl) (by kernel_rfl) (dst := (some 44)) (ty := 23) (g := none) (by kernel_rfl) rfl (t := 23) (len := 1) (parts := #[(0, (.tmp 43))]) (vs := [(0, (.agg (kTie x1)))]) (rfl) (E := 46) (cs := [(vi x1.A.Log), (vi x1.A.Line), (vi x1.B.Log), (vi x1.B.Line)]) (by kernel_rfl) hs70 (Mem.le.refl _) (by simp) (fun _ => by simp) (fun b100 w101 (hs102 : HS w0 F0 w101 F2 [(some b100, .cells ([(vi x1.A.Log), (vi x1.A.Line), (vi x1.B.Log), (vi x1.B.Line)] : List Value).toArray 46 (0, 0)), (some b68, .cells ([] : List Value).toArray 46 (0, 0)), (sb b48 (kSystem x0 a0_0 n0_0 a0_1 n0_1) 25), (sb b10 (kRef x3) 27), (sb b7 (kRef x2) 27), (sb b4 (kTie x1) 46), (sb b1 (kSystem x0 a0_0 n0_0 a0_1 n0_1) 25)]) => ?_)
      have hr104 : RowR tTie 46 F2 (some ⟨b100, 0, none⟩) 1 [x1] (some b100, .cells ([(vi x1.A.Log), (vi x1.A.Line), (vi x1.B.Log), (vi x1.B.Line)] : List Value).toArray 46 (0, 0)) := RowR.lit ⟨rfl, rfl⟩ (by simp)
      refine DWP.one (i := 3) (by kernel_rfl) ?_
      obtain ⟨r105, hap106, h107⟩ := bind_some hj66
      refine DStep.append (l' := [true, true, true, true, true, true, false, false, false]) (zd := false) (by kernel_rfl) (by kernel_rfl) (dst := (some 42)) (ty := 23) (g := none) (by kernel_rfl) rfl (x := (.tmp 39)) (y := (.tmp 41)) (t := 23) (t2 := 23) (by_ := 32) (z := (.agg #[(vi 0), (vi 0), (vi 0), (vi 0)])) (a2 := a0_1) (c2 := n0_1) (m := x0.Ties) (T := tTie) (E := 46) (a := (some ⟨b68, 0, none⟩)) (cap := 0) (l := ([] : List Tie)) rfl rfl (by kernel_rfl) (by decide) (by kernel_rfl) (by kernel_rfl) rfl oTie hs102 (k := 1) rfl hr72 (SlA.rd hs102 (SlA.mono hs0_1 (le19.trans le23))) (r := r105) hap106 (Mem.le.refl _) (fun _ => by simp) (fun _ _ => by simp) (fun a108 n109 e110 w111 (hs112 : HS w0 F0 w111 F2 [(some b100, .cells ([(vi x1.A.Log), (vi x1.A.Line), (vi x1.B.Log), (vi x1.B.Line)] : List Value).toArray 46 (0, 0)), e110, (sb b48 (kSystem x0 a0_0 n0_0 a0_1 n0_1) 25), (sb b10 (kRef x3) 27), (sb b7 (kRef x2) 27), (sb b4 (kTie x1) 46), (sb b1 (kSystem x0 a0_0 n0_0 a0_1 n0_1) 25)]) hr113 => ?_)
      refine DWP.one (i := 6) (by kernel_rfl) ?_
      obtain ⟨r114, hap115, h116⟩ := bind_some h107
      refine DStep.append (l' := [true, true, true, true, true, true, true, false, false]) (zd := false) (by kernel_rfl) (by kernel_rfl) (dst := (some 45)) (ty := 23) (g := none) (by kernel_rfl) rfl (x := (.tmp 42)) (y := (.tmp 44)) (t := 23) (t2 := 23) (by_ := 32) (z := (.agg #[(vi 0), (vi 0), (vi 0), (vi 0)])) (a2 := (some ⟨b100, 0, none⟩)) (c2 := 1) (m := [x1]) (T := tTie) (E := 46) (a := a108) (cap := n109) (l := r105) rfl rfl (by kernel_rfl) (by decide) (by kernel_rfl) (by kernel_rfl) rfl oTie hs112 (k := 1) rfl hr113 (RowR.rd hs112 (k := 0) rfl hr104) (r := r114) hap115 (Mem.le.refl _) (fun _ => by simp) (fun _ _ => by simp) (fun a117 n118 e119 w120 (hs121 : HS w0 F0 w120 F2 [(some b100, .cells ([(vi x1.A.Log), (vi x1.A.Line), (vi x1.B.Log), (vi x1.B.Line)] : List Value).toArray 46 (0, 0)), e119, (sb b48 (kSystem x0 a0_0 n0_0 a0_1 n0_1) 25), (sb b10 (kRef x3) 27), (sb b7 (kRef x2) 27), (sb b4 (kTie x1) 46), (sb b1 (kSystem x0 a0_0 n0_0 a0_1 n0_1) 25)]) hr122 => ?_)
      refine Df 7 46 0 (.pointer (some ⟨b48, 1, none⟩)) (fun _ hq => fa 25 10 1 1 1 b48 0 1) ?_
      refine DWP.one (i := 8) (by kernel_rfl) ?_
      refine DStep.store (l' := [true, true, true, true, true, true, true, true, true]) (zd := true) (by kernel_rfl) (by kernel_rfl) (ty := 0) (g := none) (by kernel_rfl) rfl (x := (.tmp 46)) (y := (.tmp 45)) (t := 23) (gg := false) (s := 1) (v := (.slice a117 r114.length n118)) (b := b48) (o := 1) (C := (kSystem x0 a0_0 n0_0 a0_1 n0_1)) rfl rfl (by kernel_rfl) hs121 (k := 2) rfl rfl rfl rfl (C' := #[(.slice a0_0 x0.Tracks.length n0_0), (.slice a117 r114.length n118), (vi x0.Window)]) rfl (Mem.le.refl _) (by simp) (fun e => by cases e) (fun w123 (hs124 : HS w0 F0 w123 F2 [(some b100, .cells ([(vi x1.A.Log), (vi x1.A.Line), (vi x1.B.Log), (vi x1.B.Line)] : List Value).toArray 46 (0, 0)), e119, (sb b48 #[(.slice a0_0 x0.Tracks.length n0_0), (.slice a117 r114.length n118), (vi x0.Window)] 25), (sb b10 (kRef x3) 27), (sb b7 (kRef x2) 27), (sb b4 (kTie x1) 46), (sb b1 (kSystem x0 a0_0 n0_0 a0_1 n0_1) 25)]) => ?_)
      obtain rfl := some_inj h116
      have hs125 : HS w0 F0 w123 F2 [e119, (sb b48 #[(.slice a0_0 x0.Tracks.length n0_0), (.slice a117 r114.length n118), (vi x0.Window)] 25), (sb b10 (kRef x3) 27), (sb b7 (kRef x2) 27), (sb b4 (kTie x1) 46), (sb b1 (kSystem x0 a0_0 n0_0 a0_1 n0_1) 25)] := hs124.drop 0
      have hs126 : HS w0 F0 w123 F2 [e119, (sb b48 #[(.slice a0_0 x0.Tracks.length n0_0), (.slice a117 r114.length n118), (vi x0.Window)] 25), (sb b10 (kRef x3) 27), (sb b7 (kRef x2) 27), (sb b1 (kSystem x0 a0_0 n0_0 a0_1 n0_1) 25)] := hs125.drop 4
      exact DWP.done (by kernel_rfl) ⟨F2, a117, n118, e119, hs126, (Mem.le.refl _), e25, e26, e28, e29, e30, rfl, hr122⟩
    ·refine DStep.buildSlice (l' := [false, true, true, false, true, true, false, false, false]) (zd := false) (by kernel_rfl) (by kernel_rfl) (dst := (some 44)) (ty := 23) (g := none) (by kernel_rfl) rfl (t := 23) (len := 1) (parts := #[(0, (.tmp 43))]) (vs := [(0, (.agg (kTie x1)))]) (rfl) (E := 46) (cs := [(vi x1.A.Log), (vi x1.A.Line), (vi x1.B.Log), (vi x1.B.Line)]) (by kernel_rfl) hw54 (Mem.le.refl _) (by simp) (fun _ => by simp) (fun b127 w128 (hs129 : HS w0 F0 w128 F2 [(some b127, .cells ([(vi x1.A.Log), (vi x1.A.Line), (vi x1.B.Log), (vi x1.B.Line)] : List Value).toArray 46 (0, 0)), (sb b48 (kSystem x0 a0_0 n0_0 a0_1 n0_1) 25), (sb b10 (kRef x3) 27), (sb b7 (kRef x2) 27), (sb b4 (kTie x1) 46), (sb b1 (kSystem x0 a0_0 n0_0 a0_1 n0_1) 25)]) => ?_)
     have hr131 : RowR tTie 46 F2 (some ⟨b127, 0, none⟩) 1 [x1] (some b127, .cells ([(vi x1.A.Log), (vi x1.A.Line), (vi x1.B.Log), (vi x1.B.Line)] : List Value).toArray 46 (0, 0)) := RowR.lit ⟨rfl, rfl⟩ (by simp)
     refine DWP.one (i := 0) (by kernel_rfl) ?_
     refine DStep.buildSlice (l' := [true, true, true, false, true, true, false, false, false]) (zd := false) (by kernel_rfl) (by kernel_rfl) (dst := (some 39)) (ty := 23) (g := none) (by kernel_rfl) rfl (t := 23) (len := 0) (parts := #[]) (vs := []) (rfl) (E := 46) (cs := []) (by kernel_rfl) hs129 (Mem.le.refl _) (by simp) (fun _ => by simp) (fun b132 w133 (hs134 : HS w0 F0 w133 F2 [(some b132, .cells ([] : List Value).toArray 46 (0, 0)), (some b127, .cells ([(vi x1.A.Log), (vi x1.A.Line), (vi x1.B.Log), (vi x1.B.Line)] : List Value).toArray 46 (0, 0)), (sb b48 (kSystem x0 a0_0 n0_0 a0_1 n0_1) 25), (sb b10 (kRef x3) 27), (sb b7 (kRef x2) 27), (sb b4 (kTie x1) 46), (sb b1 (kSystem x0 a0_0 n0_0 a0_1 n0_1) 25)]) => ?_)
     have hr136 : RowR tTie 46 F2 (some ⟨b132, 0, none⟩) 0 ([] : List Tie) (some b132, .cells ([] : List Value).toArray 46 (0, 0)) := RowR.lit rfl (by simp)
     refine DWP.one (i := 3) (by kernel_rfl) ?_
     obtain ⟨r137, hap138, h139⟩ := bind_some hj66
     refine DStep.append (l' := [true, true, true, true, true, true, false, false, false]) (zd := false) (by kernel_rfl) (by kernel_rfl) (dst := (some 42)) (ty := 23) (g := none) (by kernel_rfl) rfl (x := (.tmp 39)) (y := (.tmp 41)) (t := 23) (t2 := 23) (by_ := 32) (z := (.agg #[(vi 0), (vi 0), (vi 0), (vi 0)])) (a2 := a0_1) (c2 := n0_1) (m := x0.Ties) (T := tTie) (E := 46) (a := (some ⟨b132, 0, none⟩)) (cap := 0) (l := ([] : List Tie)) rfl rfl (by kernel_rfl) (by decide) (by kernel_rfl) (by kernel_rfl) rfl oTie hs134 (k := 0) rfl hr136 (SlA.rd hs134 (SlA.mono hs0_1 (le19.trans le23))) (r := r137) hap138 (Mem.le.refl _) (fun _ => by simp) (fun _ _ => by simp) (fun a140 n141 e142 w143 (hs144 : HS w0 F0 w143 F2 [e142, (some b127, .cells ([(vi x1.A.Log), (vi x1.A.Line), (vi x1.B.Log), (vi x1.B.Line)] : List Value).toArray 46 (0, 0)), (sb b48 (kSystem x0 a0_0 n0_0 a0_1 n0_1) 25), (sb b10 (kRef x3) 27), (sb b7 (kRef x2) 27), (sb b4 (kTie x1) 46), (sb b1 (kSystem x0 a0_0 n0_0 a0_1 n0_1) 25)]) hr145 => ?_)
     refine DWP.one (i := 6) (by kernel_rfl) ?_
     obtain ⟨r146, hap147, h148⟩ := bind_some h139
     refine DStep.append (l' := [true, true, true, true, true, true, true, false, false]) (zd := false) (by kernel_rfl) (by kernel_rfl) (dst := (some 45)) (ty := 23) (g := none) (by kernel_rfl) rfl (x := (.tmp 42)) (y := (.tmp 44)) (t := 23) (t2 := 23) (by_ := 32) (z := (.agg #[(vi 0), (vi 0), (vi 0), (vi 0)])) (a2 := (some ⟨b127, 0, none⟩)) (c2 := 1) (m := [x1]) (T := tTie) (E := 46) (a := a140) (cap := n141) (l := r137) rfl rfl (by kernel_rfl) (by decide) (by kernel_rfl) (by kernel_rfl) rfl oTie hs144 (k := 0) rfl hr145 (RowR.rd hs144 (k := 1) rfl hr131) (r := r146) hap147 (Mem.le.refl _) (fun _ => by simp) (fun _ _ => by simp) (fun a149 n150 e151 w152 (hs153 : HS w0 F0 w152 F2 [e151, (some b127, .cells ([(vi x1.A.Log), (vi x1.A.Line), (vi x1.B.Log), (vi x1.B.Line)] : List Value).toArray 46 (0, 0)), (sb b48 (kSystem x0 a0_0 n0_0 a0_1 n0_1) 25), (sb b10 (kRef x3) 27), (sb b7 (kRef x2) 27), (sb b4 (kTie x1) 46), (sb b1 (kSystem x0 a0_0 n0_0 a0_1 n0_1) 25)]) hr154 => ?_)
     refine Df 7 46 0 (.pointer (some ⟨b48, 1, none⟩)) (fun _ hq => fa 25 10 1 1 1 b48 0 1) ?_
     refine DWP.one (i := 8) (by kernel_rfl) ?_
     refine DStep.store (l' := [true, true, true, true, true, true, true, true, true]) (zd := true) (by kernel_rfl) (by kernel_rfl) (ty := 0) (g := none) (by kernel_rfl) rfl (x := (.tmp 46)) (y := (.tmp 45)) (t := 23) (gg := false) (s := 1) (v := (.slice a149 r146.length n150)) (b := b48) (o := 1) (C := (kSystem x0 a0_0 n0_0 a0_1 n0_1)) rfl rfl (by kernel_rfl) hs153 (k := 2) rfl rfl rfl rfl (C' := #[(.slice a0_0 x0.Tracks.length n0_0), (.slice a149 r146.length n150), (vi x0.Window)]) rfl (Mem.le.refl _) (by simp) (fun e => by cases e) (fun w155 (hs156 : HS w0 F0 w155 F2 [e151, (some b127, .cells ([(vi x1.A.Log), (vi x1.A.Line), (vi x1.B.Log), (vi x1.B.Line)] : List Value).toArray 46 (0, 0)), (sb b48 #[(.slice a0_0 x0.Tracks.length n0_0), (.slice a149 r146.length n150), (vi x0.Window)] 25), (sb b10 (kRef x3) 27), (sb b7 (kRef x2) 27), (sb b4 (kTie x1) 46), (sb b1 (kSystem x0 a0_0 n0_0 a0_1 n0_1) 25)]) => ?_)
     obtain rfl := some_inj h148
     have hs157 : HS w0 F0 w155 F2 [e151, (sb b48 #[(.slice a0_0 x0.Tracks.length n0_0), (.slice a149 r146.length n150), (vi x0.Window)] 25), (sb b10 (kRef x3) 27), (sb b7 (kRef x2) 27), (sb b4 (kTie x1) 46), (sb b1 (kSystem x0 a0_0 n0_0 a0_1 n0_1) 25)] := hs156.drop 1
     have hs158 : HS w0 F0 w155 F2 [e151, (sb b48 #[(.slice a0_0 x0.Tracks.length n0_0), (.slice a149 r146.length n150), (vi x0.Window)] 25), (sb b10 (kRef x3) 27), (sb b7 (kRef x2) 27), (sb b1 (kSystem x0 a0_0 n0_0 a0_1 n0_1) 25)] := hs157.drop 4
     exact DWP.done (by kernel_rfl) ⟨F2, a149, n150, e151, hs158, (Mem.le.refl _), e25, e26, e28, e29, e30, rfl, hr154⟩
   ·rintro f w55 ⟨F4, aj59_0, nj59_0, ej59_0, hs56, le57, e60, e61, e62, e63, e64, e65, hrj59_0⟩
    refine thenQ_nrm ?_
    refine Sq (Rg [0, 1, 2, 3, 4, 5, 6, 7, 8] ?_)
    refine V 48 25 (ld 25 4 b1 0 true 3 (.agg (kSystem x0 a0_0 n0_0 a0_1 n0_1)) (hs56.ownAt (k := 4) rfl) e61) ?_
    refine V 49 27 (ld 27 6 b7 0 true 2 (.agg (kRef x2)) (hs56.ownAt (k := 3) rfl) e62) ?_
    obtain ⟨r159, hr160, h161⟩ := bind_some h67
    refine Cl 50 39 21 #[(.tmp 48), (.tmp 49)] #[25, 27] co_clocks_Interval hs56 (c_clocks_Interval N w55 F4 hs56.pers (x0) a0_0 n0_0 hb0_0 (SlA.mono hs0_0 ((le19.trans le23).trans le57)) a0_1 n0_1 hb0_1 (SlA.mono hs0_1 ((le19.trans le23).trans le57)) (x2) _ hr160) ?_
    intro v162 F5 w163 hs164 le165 hp166
    obtain rfl := hp166
    refine V 47 39 (mv 50 (.tuple #[(.agg (kSpan r159.1)), (vi r159.2)])) ?_
    refine V 51 38 (ex 47 0 (.agg (kSpan r159.1)) (vs := #[(.agg (kSpan r159.1)), (vi r159.2)])) ?_
    refine V 52 30 (ex 47 1 (vi r159.2) (vs := #[(.agg (kSpan r159.1)), (vi r159.2)])) ?_
    refine Al 11 0 38 #[(vi 0), (vi 0)] hs164 (fun b167 w168 (hs169 : HS w0 F0 w168 F5 [(sb b167 #[(vi 0), (vi 0)] 38), ej59_0, (sb b48 #[(.slice a0_0 x0.Tracks.length n0_0), (.slice aj59_0 j59.length nj59_0), (vi x0.Window)] 25), (sb b10 (kRef x3) 27), (sb b7 (kRef x2) 27), (sb b1 (kSystem x0 a0_0 n0_0 a0_1 n0_1) 25)]) => ?_)
    refine RWP.store (ty := 0) (g := none) (by kernel_rfl) rfl (x := (.tmp 11)) (y := (.tmp 51)) (t := 38) (gg := true) (s := 2) (v := (.agg (kSpan r159.1))) (b := b167) (o := 0) (C := #[(vi 0), (vi 0)]) rfl rfl (by kernel_rfl) hs169 (k := 0) rfl rfl rfl rfl (C' := (kSpan r159.1)) rfl (fun w170 (hs171 : HS w0 F0 w170 F5 [(sb b167 (kSpan r159.1) 38), ej59_0, (sb b48 #[(.slice a0_0 x0.Tracks.length n0_0), (.slice aj59_0 j59.length nj59_0), (vi x0.Window)] 25), (sb b10 (kRef x3) 27), (sb b7 (kRef x2) 27), (sb b1 (kSystem x0 a0_0 n0_0 a0_1 n0_1) 25)]) => ?_)
    refine V 12 30 (ma 52 (vi r159.2)) ?_
    refine Nss (Rg [0, 1, 2, 3, 4, 5, 6, 7, 8] ?_)
    refine V 54 25 (ld 25 10 b48 0 true 3 (.agg #[(.slice a0_0 x0.Tracks.length n0_0), (.slice aj59_0 j59.length nj59_0), (vi x0.Window)]) (hs171.ownAt (k := 2) rfl) e65) ?_
    refine V 55 27 (ld 27 6 b7 0 true 2 (.agg (kRef x2)) (hs171.ownAt (k := 4) rfl) e62) ?_
    have hb175 := RowR.bound (hrj59_0.mono le165)
    obtain ⟨F6, hs172, le173, hs174⟩ : ∃ Fq, HS w0 F0 w170 Fq [(sb b167 (kSpan r159.1) 38), (sb b48 #[(.slice a0_0 x0.Tracks.length n0_0), (.slice aj59_0 j59.length nj59_0), (vi x0.Window)] 25), (sb b10 (kRef x3) 27), (sb b7 (kRef x2) 27), (sb b1 (kSystem x0 a0_0 n0_0 a0_1 n0_1) 25)] ∧ Mem.le F5 Fq ∧ SlA tTie Fq aj59_0 j59 := HS.freezeRow hs171 (k := 1) rfl (hrj59_0.mono le165)
    obtain ⟨r176, hr177, h178⟩ := bind_some h161
    refine Cl 56 39 21 #[(.tmp 54), (.tmp 55)] #[25, 27] co_clocks_Interval hs172 (c_clocks_Interval N w170 F6 hs172.pers (({ Tracks := x0.Tracks, Ties := j59, Window := x0.Window } : System)) a0_0 n0_0 hb0_0 (SlA.mono hs0_0 ((((le19.trans le23).trans le57).trans le165).trans le173)) aj59_0 nj59_0 hb175 hs174 (x2) _ hr177) ?_
    intro v179 F7 w180 hs181 le182 hp183
    obtain rfl := hp183
    refine V 53 39 (mv 56 (.tuple #[(.agg (kSpan r176.1)), (vi r176.2)])) ?_
    refine V 57 38 (ex 53 0 (.agg (kSpan r176.1)) (vs := #[(.agg (kSpan r176.1)), (vi r176.2)])) ?_
    refine V 58 30 (ex 53 1 (vi r176.2) (vs := #[(.agg (kSpan r176.1)), (vi r176.2)])) ?_
    refine Al 13 0 38 #[(vi 0), (vi 0)] hs181 (fun b184 w185 (hs186 : HS w0 F0 w185 F7 [(sb b184 #[(vi 0), (vi 0)] 38), (sb b167 (kSpan r159.1) 38), (sb b48 #[(.slice a0_0 x0.Tracks.length n0_0), (.slice aj59_0 j59.length nj59_0), (vi x0.Window)] 25), (sb b10 (kRef x3) 27), (sb b7 (kRef x2) 27), (sb b1 (kSystem x0 a0_0 n0_0 a0_1 n0_1) 25)]) => ?_)
    refine RWP.store (ty := 0) (g := none) (by kernel_rfl) rfl (x := (.tmp 13)) (y := (.tmp 57)) (t := 38) (gg := true) (s := 2) (v := (.agg (kSpan r176.1))) (b := b184) (o := 0) (C := #[(vi 0), (vi 0)]) rfl rfl (by kernel_rfl) hs186 (k := 0) rfl rfl rfl rfl (C' := (kSpan r176.1)) rfl (fun w187 (hs188 : HS w0 F0 w187 F7 [(sb b184 (kSpan r176.1) 38), (sb b167 (kSpan r159.1) 38), (sb b48 #[(.slice a0_0 x0.Tracks.length n0_0), (.slice aj59_0 j59.length nj59_0), (vi x0.Window)] 25), (sb b10 (kRef x3) 27), (sb b7 (kRef x2) 27), (sb b1 (kSystem x0 a0_0 n0_0 a0_1 n0_1) 25)]) => ?_)
    refine V 14 30 (ma 58 (vi r176.2)) ?_
    refine Nss (Rg [0, 1, 2, 3, 4, 5, 6, 7, 8, 9] ?_)
    refine V 60 25 (ld 25 4 b1 0 true 3 (.agg (kSystem x0 a0_0 n0_0 a0_1 n0_1)) (hs188.ownAt (k := 5) rfl) e61) ?_
    refine V 61 27 (ld 27 6 b7 0 true 2 (.agg (kRef x2)) (hs188.ownAt (k := 4) rfl) e62) ?_
    refine V 62 27 (ld 27 7 b10 0 true 2 (.agg (kRef x3)) (hs188.ownAt (k := 3) rfl) e63) ?_
    obtain ⟨r189, hr190, h191⟩ := bind_some h178
    refine Cl 63 39 20 #[(.tmp 60), (.tmp 61), (.tmp 62)] #[25, 27, 27] co_clocks_Relation hs188 (c_clocks_Relation N w187 F7 hs188.pers (x0) a0_0 n0_0 hb0_0 (SlA.mono hs0_0 (((((le19.trans le23).trans le57).trans le165).trans le173).trans le182)) a0_1 n0_1 hb0_1 (SlA.mono hs0_1 (((((le19.trans le23).trans le57).trans le165).trans le173).trans le182)) (x2) (x3) _ hr190) ?_
    intro v192 F8 w193 hs194 le195 hp196
    obtain rfl := hp196
    refine V 59 39 (mv 63 (.tuple #[(.agg (kSpan r189.1)), (vi r189.2)])) ?_
    refine V 64 38 (ex 59 0 (.agg (kSpan r189.1)) (vs := #[(.agg (kSpan r189.1)), (vi r189.2)])) ?_
    refine V 65 30 (ex 59 1 (vi r189.2) (vs := #[(.agg (kSpan r189.1)), (vi r189.2)])) ?_
    refine Al 15 0 38 #[(vi 0), (vi 0)] hs194 (fun b197 w198 (hs199 : HS w0 F0 w198 F8 [(sb b197 #[(vi 0), (vi 0)] 38), (sb b184 (kSpan r176.1) 38), (sb b167 (kSpan r159.1) 38), (sb b48 #[(.slice a0_0 x0.Tracks.length n0_0), (.slice aj59_0 j59.length nj59_0), (vi x0.Window)] 25), (sb b10 (kRef x3) 27), (sb b7 (kRef x2) 27), (sb b1 (kSystem x0 a0_0 n0_0 a0_1 n0_1) 25)]) => ?_)
    refine RWP.store (ty := 0) (g := none) (by kernel_rfl) rfl (x := (.tmp 15)) (y := (.tmp 64)) (t := 38) (gg := true) (s := 2) (v := (.agg (kSpan r189.1))) (b := b197) (o := 0) (C := #[(vi 0), (vi 0)]) rfl rfl (by kernel_rfl) hs199 (k := 0) rfl rfl rfl rfl (C' := (kSpan r189.1)) rfl (fun w200 (hs201 : HS w0 F0 w200 F8 [(sb b197 (kSpan r189.1) 38), (sb b184 (kSpan r176.1) 38), (sb b167 (kSpan r159.1) 38), (sb b48 #[(.slice a0_0 x0.Tracks.length n0_0), (.slice aj59_0 j59.length nj59_0), (vi x0.Window)] 25), (sb b10 (kRef x3) 27), (sb b7 (kRef x2) 27), (sb b1 (kSystem x0 a0_0 n0_0 a0_1 n0_1) 25)]) => ?_)
    refine V 16 30 (ma 65 (vi r189.2)) ?_
    refine Nss (Rg [0, 1, 2, 3, 4, 5, 6, 7, 8, 9] ?_)
    refine V 67 25 (ld 25 10 b48 0 true 3 (.agg #[(.slice a0_0 x0.Tracks.length n0_0), (.slice aj59_0 j59.length nj59_0), (vi x0.Window)]) (hs201.ownAt (k := 3) rfl) e65) ?_
    refine V 68 27 (ld 27 6 b7 0 true 2 (.agg (kRef x2)) (hs201.ownAt (k := 5) rfl) e62) ?_
    refine V 69 27 (ld 27 7 b10 0 true 2 (.agg (kRef x3)) (hs201.ownAt (k := 4) rfl) e63) ?_
    obtain ⟨r202, hr203, h204⟩ := bind_some h191
    refine Cl 70 39 20 #[(.tmp 67), (.tmp 68), (.tmp 69)] #[25, 27, 27] co_clocks_Relation hs201 (c_clocks_Relation N w200 F8 hs201.pers (({ Tracks := x0.Tracks, Ties := j59, Window := x0.Window } : System)) a0_0 n0_0 hb0_0 (SlA.mono hs0_0 ((((((le19.trans le23).trans le57).trans le165).trans le173).trans le182).trans le195)) aj59_0 nj59_0 hb175 (SlA.mono hs174 (le182.trans le195)) (x2) (x3) _ hr203) ?_
    intro v205 F9 w206 hs207 le208 hp209
    obtain rfl := hp209
    refine V 66 39 (mv 70 (.tuple #[(.agg (kSpan r202.1)), (vi r202.2)])) ?_
    refine V 71 38 (ex 66 0 (.agg (kSpan r202.1)) (vs := #[(.agg (kSpan r202.1)), (vi r202.2)])) ?_
    refine V 72 30 (ex 66 1 (vi r202.2) (vs := #[(.agg (kSpan r202.1)), (vi r202.2)])) ?_
    refine Al 17 0 38 #[(vi 0), (vi 0)] hs207 (fun b210 w211 (hs212 : HS w0 F0 w211 F9 [(sb b210 #[(vi 0), (vi 0)] 38), (sb b197 (kSpan r189.1) 38), (sb b184 (kSpan r176.1) 38), (sb b167 (kSpan r159.1) 38), (sb b48 #[(.slice a0_0 x0.Tracks.length n0_0), (.slice aj59_0 j59.length nj59_0), (vi x0.Window)] 25), (sb b10 (kRef x3) 27), (sb b7 (kRef x2) 27), (sb b1 (kSystem x0 a0_0 n0_0 a0_1 n0_1) 25)]) => ?_)
    refine RWP.store (ty := 0) (g := none) (by kernel_rfl) rfl (x := (.tmp 17)) (y := (.tmp 71)) (t := 38) (gg := true) (s := 2) (v := (.agg (kSpan r202.1))) (b := b210) (o := 0) (C := #[(vi 0), (vi 0)]) rfl rfl (by kernel_rfl) hs212 (k := 0) rfl rfl rfl rfl (C' := (kSpan r202.1)) rfl (fun w213 (hs214 : HS w0 F0 w213 F9 [(sb b210 (kSpan r202.1) 38), (sb b197 (kSpan r189.1) 38), (sb b184 (kSpan r176.1) 38), (sb b167 (kSpan r159.1) 38), (sb b48 #[(.slice a0_0 x0.Tracks.length n0_0), (.slice aj59_0 j59.length nj59_0), (vi x0.Window)] 25), (sb b10 (kRef x3) 27), (sb b7 (kRef x2) 27), (sb b1 (kSystem x0 a0_0 n0_0 a0_1 n0_1) 25)]) => ?_)
    refine V 18 30 (ma 72 (vi r202.2)) ?_
    refine Nss ?_
    refine Sq (Rg [0, 1, 2, 3, 4, 5] ?_)
    refine RWP.cut (fun f w => ∃ (F10 : Mem), HS w0 F0 w F10 [(sb b210 (kSpan r202.1) 38), (sb b197 (kSpan r189.1) 38), (sb b184 (kSpan r176.1) 38), (sb b167 (kSpan r159.1) 38), (sb b48 #[(.slice a0_0 x0.Tracks.length n0_0), (.slice aj59_0 j59.length nj59_0), (vi x0.Window)] 25), (sb b10 (kRef x3) 27), (sb b7 (kRef x2) 27), (sb b1 (kSystem x0 a0_0 n0_0 a0_1 n0_1) 25)] ∧ Mem.le F9 F10 ∧ f.d = [] ∧ f 4 = (.pointer (some ⟨b1, 0, none⟩)) ∧ f 6 = (.pointer (some ⟨b7, 0, none⟩)) ∧ f 7 = (.pointer (some ⟨b10, 0, none⟩)) ∧ f 9 = (.bool r13) ∧ f 10 = (.pointer (some ⟨b48, 0, none⟩)) ∧ f 11 = (.pointer (some ⟨b167, 0, none⟩)) ∧ f 12 = (vi r159.2) ∧ f 13 = (.pointer (some ⟨b184, 0, none⟩)) ∧ f 15 = (.pointer (some ⟨b197, 0, none⟩)) ∧ f 16 = (vi r189.2) ∧ f 17 = (.pointer (some ⟨b210, 0, none⟩)) ∧ f 78 = (.bool ((r176.2 != 0) || (r202.2 != 0)))) ?_ ?_
    ·refine V 73 30 (mv 14 (vi r176.2)) ?_
     refine V 74 4 (run_neq (t := 30) (t' := 30) (x := (.tmp 73)) (y := (.const (vi 0))) (k := .i64) (a := r176.2) (b := 0) rfl rfl) ?_
     refine V 75 4 (mv 74 (.bool (r176.2 != 0))) ?_
     refine RWP.split (r176.2 != 0) (fun hb231 => ?_) (fun hb231 => ?_)
     ·refine Sk [76, 77] 2 false 75 hb231 ?_
      refine V 78 4 (p1 75 (.const (.bool true)) (.tmp 77) (.bool true) hb231) ?_
      exact RWP.nil ⟨rfl, F9, hs214, (Mem.le.refl _), e60, e61, e62, e63, e64, e65, rfl, rfl, rfl, rfl, rfl, rfl, (congrArg Value.bool (or_t hb231 (rfl)))⟩
     ·refine Vg 76 30 2 false 75 hb231 (mv 18 (vi r202.2)) ?_
      refine Vg 77 4 2 false 75 hb231 (run_neq (t := 30) (t' := 30) (x := (.tmp 76)) (y := (.const (vi 0))) (k := .i64) (a := r202.2) (b := 0) rfl rfl) ?_
      refine V 78 4 (p0 75 (.const (.bool true)) (.tmp 77) (.bool (r202.2 != 0)) hb231) ?_
      exact RWP.nil ⟨rfl, F9, hs214, (Mem.le.refl _), e60, e61, e62, e63, e64, e65, rfl, rfl, rfl, rfl, rfl, rfl, (congrArg Value.bool (or_f hb231 (rfl)))⟩
    ·rintro f w215 ⟨F10, hs216, le217, e218, e219, e220, e221, e222, e223, e224, e225, e226, e227, e228, e229, e230⟩
     refine thenQ_nrm ?_
     refine CWP.cond (t := ((r176.2 != 0) || (r202.2 != 0))) (by kernel_rfl) e230 (fun hb232 => ?_) (fun hb232 => ?_)
     ·have h233 := cond_t h204 hb232
      refine Sq (Rg [0, 1] ?_)
      refine V 79 4 (mv 9 (.bool r13) e222) ?_
      refine V 8 4 (ma 79 (.bool r13)) ?_
      refine Nt ?_
      refine CWP.ret (by kernel_rfl) ?_
      refine thenQ_ret ?_
      have hfin := some_inj h233
      subst hfin
      exact ⟨e218, (.bool r13), res_of (l := [.tmp 8]) (by kernel_rfl) (vs := [(.bool r13)]) ⟨rfl, trivial⟩, (.bool r13), F10, rfl, hs216.clear, rfl⟩
     ·have h234 := cond_f h204 hb232
      refine Sc ?_
      refine thenQ_nrm ?_
      refine Sq ?_
      refine Sq (Rg [0, 1, 2, 3, 4, 5, 6, 7, 8, 9, 10, 11, 12, 13, 14, 15, 16, 17, 18, 19, 20, 21, 22, 23, 24, 25, 26, 27, 28, 29, 30, 31, 32, 33] ?_)
      refine RWP.cut (fun f w => ∃ (F11 : Mem), HS w0 F0 w F11 [(sb b48 #[(.slice a0_0 x0.Tracks.length n0_0), (.slice aj59_0 j59.length nj59_0), (vi x0.Window)] 25), (sb b10 (kRef x3) 27), (sb b7 (kRef x2) 27), (sb b1 (kSystem x0 a0_0 n0_0 a0_1 n0_1) 25)] ∧ Mem.le F10 F11 ∧ f.d = [] ∧ f 4 = (.pointer (some ⟨b1, 0, none⟩)) ∧ f 6 = (.pointer (some ⟨b7, 0, none⟩)) ∧ f 7 = (.pointer (some ⟨b10, 0, none⟩)) ∧ f 9 = (.bool r13) ∧ f 10 = (.pointer (some ⟨b48, 0, none⟩)) ∧ f 113 = (.bool ((r159.2 != 0) || ((r189.2 != 0) || ((decide (r176.1.Lo < r159.1.Lo)) || ((decide (r176.1.Hi > r159.1.Hi)) || ((decide (r202.1.Lo < r189.1.Lo)) || (decide (r202.1.Hi > r189.1.Hi))))))))) ?_ ?_
      ·refine V 80 30 (mv 12 (vi r159.2) e225) ?_
       refine V 81 4 (run_neq (t := 30) (t' := 30) (x := (.tmp 80)) (y := (.const (vi 0))) (k := .i64) (a := r159.2) (b := 0) rfl rfl) ?_
       refine V 82 4 (mv 81 (.bool (r159.2 != 0))) ?_
       refine RWP.split (r159.2 != 0) (fun hb245 => ?_) (fun hb245 => ?_)
       ·refine Sk [83, 84] 2 false 82 hb245 ?_
        refine V 85 4 (p1 82 (.const (.bool true)) (.tmp 84) (.bool true) hb245) ?_
        refine V 86 4 (mv 85 (.bool true)) ?_
        refine Sk [87, 88, 89, 90, 91] 6 false 86 rfl ?_
        refine V 92 4 (p1 86 (.const (.bool true)) (.tmp 91) (.bool true) rfl) ?_
        refine V 93 4 (mv 92 (.bool true)) ?_
        refine Sk [94, 95, 96, 97, 98] 13 false 93 rfl ?_
        refine V 99 4 (p1 93 (.const (.bool true)) (.tmp 98) (.bool true) rfl) ?_
        refine V 100 4 (mv 99 (.bool true)) ?_
        refine Sk [101, 102, 103, 104, 105] 20 false 100 rfl ?_
        refine V 106 4 (p1 100 (.const (.bool true)) (.tmp 105) (.bool true) rfl) ?_
        refine V 107 4 (mv 106 (.bool true)) ?_
        refine Sk [108, 109, 110, 111, 112] 27 false 107 rfl ?_
        refine V 113 4 (p1 107 (.const (.bool true)) (.tmp 112) (.bool true) rfl) ?_
        have hs246 : HS w0 F0 w215 F10 [(sb b197 (kSpan r189.1) 38), (sb b184 (kSpan r176.1) 38), (sb b167 (kSpan r159.1) 38), (sb b48 #[(.slice a0_0 x0.Tracks.length n0_0), (.slice aj59_0 j59.length nj59_0), (vi x0.Window)] 25), (sb b10 (kRef x3) 27), (sb b7 (kRef x2) 27), (sb b1 (kSystem x0 a0_0 n0_0 a0_1 n0_1) 25)] := hs216.drop 0
        have hs247 : HS w0 F0 w215 F10 [(sb b184 (kSpan r176.1) 38), (sb b167 (kSpan r159.1) 38), (sb b48 #[(.slice a0_0 x0.Tracks.length n0_0), (.slice aj59_0 j59.length nj59_0), (vi x0.Window)] 25), (sb b10 (kRef x3) 27), (sb b7 (kRef x2) 27), (sb b1 (kSystem x0 a0_0 n0_0 a0_1 n0_1) 25)] := hs246.drop 0
        have hs248 : HS w0 F0 w215 F10 [(sb b167 (kSpan r159.1) 38), (sb b48 #[(.slice a0_0 x0.Tracks.length n0_0), (.slice aj59_0 j59.length nj59_0), (vi x0.Window)] 25), (sb b10 (kRef x3) 27), (sb b7 (kRef x2) 27), (sb b1 (kSystem x0 a0_0 n0_0 a0_1 n0_1) 25)] := hs247.drop 0
        have hs249 : HS w0 F0 w215 F10 [(sb b48 #[(.slice a0_0 x0.Tracks.length n0_0), (.slice aj59_0 j59.length nj59_0), (vi x0.Window)] 25), (sb b10 (kRef x3) 27), (sb b7 (kRef x2) 27), (sb b1 (kSystem x0 a0_0 n0_0 a0_1 n0_1) 25)] := hs248.drop 0
        exact RWP.nil ⟨rfl, F10, hs249, (Mem.le.refl _), e218, e219, e220, e221, e222, e223, (congrArg Value.bool (or_t hb245 (rfl)))⟩
       ·refine Vg 83 30 2 false 82 hb245 (mv 16 (vi r189.2) e228) ?_
        refine Vg 84 4 2 false 82 hb245 (run_neq (t := 30) (t' := 30) (x := (.tmp 83)) (y := (.const (vi 0))) (k := .i64) (a := r189.2) (b := 0) rfl rfl) ?_
        refine V 85 4 (p0 82 (.const (.bool true)) (.tmp 84) (.bool (r189.2 != 0)) hb245) ?_
        refine V 86 4 (mv 85 (.bool (r189.2 != 0))) ?_
        refine RWP.split (r189.2 != 0) (fun hb250 => ?_) (fun hb250 => ?_)
        ·refine Sk [87, 88, 89, 90, 91] 6 false 86 hb250 ?_
         refine V 92 4 (p1 86 (.const (.bool true)) (.tmp 91) (.bool true) hb250) ?_
         refine V 93 4 (mv 92 (.bool true)) ?_
         refine Sk [94, 95, 96, 97, 98] 13 false 93 rfl ?_
         refine V 99 4 (p1 93 (.const (.bool true)) (.tmp 98) (.bool true) rfl) ?_
         refine V 100 4 (mv 99 (.bool true)) ?_
         refine Sk [101, 102, 103, 104, 105] 20 false 100 rfl ?_
         refine V 106 4 (p1 100 (.const (.bool true)) (.tmp 105) (.bool true) rfl) ?_
         refine V 107 4 (mv 106 (.bool true)) ?_
         refine Sk [108, 109, 110, 111, 112] 27 false 107 rfl ?_
         refine V 113 4 (p1 107 (.const (.bool true)) (.tmp 112) (.bool true) rfl) ?_
         have hs251 : HS w0 F0 w215 F10 [(sb b197 (kSpan r189.1) 38), (sb b184 (kSpan r176.1) 38), (sb b167 (kSpan r159.1) 38), (sb b48 #[(.slice a0_0 x0.Tracks.length n0_0), (.slice aj59_0 j59.length nj59_0), (vi x0.Window)] 25), (sb b10 (kRef x3) 27), (sb b7 (kRef x2) 27), (sb b1 (kSystem x0 a0_0 n0_0 a0_1 n0_1) 25)] := hs216.drop 0
         have hs252 : HS w0 F0 w215 F10 [(sb b184 (kSpan r176.1) 38), (sb b167 (kSpan r159.1) 38), (sb b48 #[(.slice a0_0 x0.Tracks.length n0_0), (.slice aj59_0 j59.length nj59_0), (vi x0.Window)] 25), (sb b10 (kRef x3) 27), (sb b7 (kRef x2) 27), (sb b1 (kSystem x0 a0_0 n0_0 a0_1 n0_1) 25)] := hs251.drop 0
         have hs253 : HS w0 F0 w215 F10 [(sb b167 (kSpan r159.1) 38), (sb b48 #[(.slice a0_0 x0.Tracks.length n0_0), (.slice aj59_0 j59.length nj59_0), (vi x0.Window)] 25), (sb b10 (kRef x3) 27), (sb b7 (kRef x2) 27), (sb b1 (kSystem x0 a0_0 n0_0 a0_1 n0_1) 25)] := hs252.drop 0
         have hs254 : HS w0 F0 w215 F10 [(sb b48 #[(.slice a0_0 x0.Tracks.length n0_0), (.slice aj59_0 j59.length nj59_0), (vi x0.Window)] 25), (sb b10 (kRef x3) 27), (sb b7 (kRef x2) 27), (sb b1 (kSystem x0 a0_0 n0_0 a0_1 n0_1) 25)] := hs253.drop 0
         exact RWP.nil ⟨rfl, F10, hs254, (Mem.le.refl _), e218, e219, e220, e221, e222, e223, (congrArg Value.bool (or_f hb245 (or_t hb250 (rfl))))⟩
        ·refine Vg 87 0 6 false 86 hb250 (fa 38 13 0 0 1 b184 0 0 e226) ?_
         refine Vg 88 3 6 false 86 hb250 (ld 3 87 b184 0 false 1 (vi r176.1.Lo) (hs216.ownAt (k := 2) rfl)) ?_
         refine Vg 89 0 6 false 86 hb250 (fa 38 11 0 0 1 b167 0 0 e224) ?_
         refine Vg 90 3 6 false 86 hb250 (ld 3 89 b167 0 false 1 (vi r159.1.Lo) (hs216.ownAt (k := 3) rfl)) ?_
         refine Vg 91 4 6 false 86 hb250 (run_lss (t := 3) (t' := 3) (x := (.tmp 88)) (y := (.tmp 90)) (k := .i64) (a := r176.1.Lo) (b := r159.1.Lo) rfl rfl) ?_
         refine V 92 4 (p0 86 (.const (.bool true)) (.tmp 91) (.bool (decide (r176.1.Lo < r159.1.Lo))) hb250) ?_
         refine V 93 4 (mv 92 (.bool (decide (r176.1.Lo < r159.1.Lo)))) ?_
         refine RWP.split (decide (r176.1.Lo < r159.1.Lo)) (fun hb255 => ?_) (fun hb255 => ?_)
         ·refine Sk [94, 95, 96, 97, 98] 13 false 93 hb255 ?_
          refine V 99 4 (p1 93 (.const (.bool true)) (.tmp 98) (.bool true) hb255) ?_
          refine V 100 4 (mv 99 (.bool true)) ?_
          refine Sk [101, 102, 103, 104, 105] 20 false 100 rfl ?_
          refine V 106 4 (p1 100 (.const (.bool true)) (.tmp 105) (.bool true) rfl) ?_
          refine V 107 4 (mv 106 (.bool true)) ?_
          refine Sk [108, 109, 110, 111, 112] 27 false 107 rfl ?_
          refine V 113 4 (p1 107 (.const (.bool true)) (.tmp 112) (.bool true) rfl) ?_
          have hs256 : HS w0 F0 w215 F10 [(sb b197 (kSpan r189.1) 38), (sb b184 (kSpan r176.1) 38), (sb b167 (kSpan r159.1) 38), (sb b48 #[(.slice a0_0 x0.Tracks.length n0_0), (.slice aj59_0 j59.length nj59_0), (vi x0.Window)] 25), (sb b10 (kRef x3) 27), (sb b7 (kRef x2) 27), (sb b1 (kSystem x0 a0_0 n0_0 a0_1 n0_1) 25)] := hs216.drop 0
          have hs257 : HS w0 F0 w215 F10 [(sb b184 (kSpan r176.1) 38), (sb b167 (kSpan r159.1) 38), (sb b48 #[(.slice a0_0 x0.Tracks.length n0_0), (.slice aj59_0 j59.length nj59_0), (vi x0.Window)] 25), (sb b10 (kRef x3) 27), (sb b7 (kRef x2) 27), (sb b1 (kSystem x0 a0_0 n0_0 a0_1 n0_1) 25)] := hs256.drop 0
          have hs258 : HS w0 F0 w215 F10 [(sb b167 (kSpan r159.1) 38), (sb b48 #[(.slice a0_0 x0.Tracks.length n0_0), (.slice aj59_0 j59.length nj59_0), (vi x0.Window)] 25), (sb b10 (kRef x3) 27), (sb b7 (kRef x2) 27), (sb b1 (kSystem x0 a0_0 n0_0 a0_1 n0_1) 25)] := hs257.drop 0
          have hs259 : HS w0 F0 w215 F10 [(sb b48 #[(.slice a0_0 x0.Tracks.length n0_0), (.slice aj59_0 j59.length nj59_0), (vi x0.Window)] 25), (sb b10 (kRef x3) 27), (sb b7 (kRef x2) 27), (sb b1 (kSystem x0 a0_0 n0_0 a0_1 n0_1) 25)] := hs258.drop 0
          exact RWP.nil ⟨rfl, F10, hs259, (Mem.le.refl _), e218, e219, e220, e221, e222, e223, (congrArg Value.bool (or_f hb245 (or_f hb250 (or_t hb255 (rfl)))))⟩
         ·refine Vg 94 0 13 false 93 hb255 (fa 38 13 1 1 1 b184 0 1 e226) ?_
          refine Vg 95 3 13 false 93 hb255 (ld 3 94 b184 1 false 1 (vi r176.1.Hi) (hs216.ownAt (k := 2) rfl)) ?_
          refine Vg 96 0 13 false 93 hb255 (fa 38 11 1 1 1 b167 0 1 e224) ?_
          refine Vg 97 3 13 false 93 hb255 (ld 3 96 b167 1 false 1 (vi r159.1.Hi) (hs216.ownAt (k := 3) rfl)) ?_
          refine Vg 98 4 13 false 93 hb255 (run_gtr (t := 3) (t' := 3) (x := (.tmp 95)) (y := (.tmp 97)) (k := .i64) (a := r176.1.Hi) (b := r159.1.Hi) rfl rfl) ?_
          refine V 99 4 (p0 93 (.const (.bool true)) (.tmp 98) (.bool (decide (r176.1.Hi > r159.1.Hi))) hb255) ?_
          refine V 100 4 (mv 99 (.bool (decide (r176.1.Hi > r159.1.Hi)))) ?_
          refine RWP.split (decide (r176.1.Hi > r159.1.Hi)) (fun hb260 => ?_) (fun hb260 => ?_)
          ·refine Sk [101, 102, 103, 104, 105] 20 false 100 hb260 ?_
           refine V 106 4 (p1 100 (.const (.bool true)) (.tmp 105) (.bool true) hb260) ?_
           refine V 107 4 (mv 106 (.bool true)) ?_
           refine Sk [108, 109, 110, 111, 112] 27 false 107 rfl ?_
           refine V 113 4 (p1 107 (.const (.bool true)) (.tmp 112) (.bool true) rfl) ?_
           have hs261 : HS w0 F0 w215 F10 [(sb b197 (kSpan r189.1) 38), (sb b184 (kSpan r176.1) 38), (sb b167 (kSpan r159.1) 38), (sb b48 #[(.slice a0_0 x0.Tracks.length n0_0), (.slice aj59_0 j59.length nj59_0), (vi x0.Window)] 25), (sb b10 (kRef x3) 27), (sb b7 (kRef x2) 27), (sb b1 (kSystem x0 a0_0 n0_0 a0_1 n0_1) 25)] := hs216.drop 0
           have hs262 : HS w0 F0 w215 F10 [(sb b184 (kSpan r176.1) 38), (sb b167 (kSpan r159.1) 38), (sb b48 #[(.slice a0_0 x0.Tracks.length n0_0), (.slice aj59_0 j59.length nj59_0), (vi x0.Window)] 25), (sb b10 (kRef x3) 27), (sb b7 (kRef x2) 27), (sb b1 (kSystem x0 a0_0 n0_0 a0_1 n0_1) 25)] := hs261.drop 0
           have hs263 : HS w0 F0 w215 F10 [(sb b167 (kSpan r159.1) 38), (sb b48 #[(.slice a0_0 x0.Tracks.length n0_0), (.slice aj59_0 j59.length nj59_0), (vi x0.Window)] 25), (sb b10 (kRef x3) 27), (sb b7 (kRef x2) 27), (sb b1 (kSystem x0 a0_0 n0_0 a0_1 n0_1) 25)] := hs262.drop 0
           have hs264 : HS w0 F0 w215 F10 [(sb b48 #[(.slice a0_0 x0.Tracks.length n0_0), (.slice aj59_0 j59.length nj59_0), (vi x0.Window)] 25), (sb b10 (kRef x3) 27), (sb b7 (kRef x2) 27), (sb b1 (kSystem x0 a0_0 n0_0 a0_1 n0_1) 25)] := hs263.drop 0
           exact RWP.nil ⟨rfl, F10, hs264, (Mem.le.refl _), e218, e219, e220, e221, e222, e223, (congrArg Value.bool (or_f hb245 (or_f hb250 (or_f hb255 (or_t hb260 (rfl))))))⟩
          ·refine Vg 101 0 20 false 100 hb260 (fa 38 17 0 0 1 b210 0 0 e229) ?_
           refine Vg 102 3 20 false 100 hb260 (ld 3 101 b210 0 false 1 (vi r202.1.Lo) (hs216.ownAt (k := 0) rfl)) ?_
           refine Vg 103 0 20 false 100 hb260 (fa 38 15 0 0 1 b197 0 0 e227) ?_
           refine Vg 104 3 20 false 100 hb260 (ld 3 103 b197 0 false 1 (vi r189.1.Lo) (hs216.ownAt (k := 1) rfl)) ?_
           refine Vg 105 4 20 false 100 hb260 (run_lss (t := 3) (t' := 3) (x := (.tmp 102)) (y := (.tmp 104)) (k := .i64) (a := r202.1.Lo) (b := r189.1.Lo) rfl rfl) ?_
           refine V 106 4 (p0 100 (.const (.bool true)) (.tmp 105) (.bool (decide (r202.1.Lo < r189.1.Lo))) hb260) ?_
           refine V 107 4 (mv 106 (.bool (decide (r202.1.Lo < r189.1.Lo)))) ?_
           refine RWP.split (decide (r202.1.Lo < r189.1.Lo)) (fun hb265 => ?_) (fun hb265 => ?_)
           ·refine Sk [108, 109, 110, 111, 112] 27 false 107 hb265 ?_
            refine V 113 4 (p1 107 (.const (.bool true)) (.tmp 112) (.bool true) hb265) ?_
            have hs266 : HS w0 F0 w215 F10 [(sb b197 (kSpan r189.1) 38), (sb b184 (kSpan r176.1) 38), (sb b167 (kSpan r159.1) 38), (sb b48 #[(.slice a0_0 x0.Tracks.length n0_0), (.slice aj59_0 j59.length nj59_0), (vi x0.Window)] 25), (sb b10 (kRef x3) 27), (sb b7 (kRef x2) 27), (sb b1 (kSystem x0 a0_0 n0_0 a0_1 n0_1) 25)] := hs216.drop 0
            have hs267 : HS w0 F0 w215 F10 [(sb b184 (kSpan r176.1) 38), (sb b167 (kSpan r159.1) 38), (sb b48 #[(.slice a0_0 x0.Tracks.length n0_0), (.slice aj59_0 j59.length nj59_0), (vi x0.Window)] 25), (sb b10 (kRef x3) 27), (sb b7 (kRef x2) 27), (sb b1 (kSystem x0 a0_0 n0_0 a0_1 n0_1) 25)] := hs266.drop 0
            have hs268 : HS w0 F0 w215 F10 [(sb b167 (kSpan r159.1) 38), (sb b48 #[(.slice a0_0 x0.Tracks.length n0_0), (.slice aj59_0 j59.length nj59_0), (vi x0.Window)] 25), (sb b10 (kRef x3) 27), (sb b7 (kRef x2) 27), (sb b1 (kSystem x0 a0_0 n0_0 a0_1 n0_1) 25)] := hs267.drop 0
            have hs269 : HS w0 F0 w215 F10 [(sb b48 #[(.slice a0_0 x0.Tracks.length n0_0), (.slice aj59_0 j59.length nj59_0), (vi x0.Window)] 25), (sb b10 (kRef x3) 27), (sb b7 (kRef x2) 27), (sb b1 (kSystem x0 a0_0 n0_0 a0_1 n0_1) 25)] := hs268.drop 0
            exact RWP.nil ⟨rfl, F10, hs269, (Mem.le.refl _), e218, e219, e220, e221, e222, e223, (congrArg Value.bool (or_f hb245 (or_f hb250 (or_f hb255 (or_f hb260 (or_t hb265 (rfl)))))))⟩
           ·refine Vg 108 0 27 false 107 hb265 (fa 38 17 1 1 1 b210 0 1 e229) ?_
            refine Vg 109 3 27 false 107 hb265 (ld 3 108 b210 1 false 1 (vi r202.1.Hi) (hs216.ownAt (k := 0) rfl)) ?_
            refine Vg 110 0 27 false 107 hb265 (fa 38 15 1 1 1 b197 0 1 e227) ?_
            refine Vg 111 3 27 false 107 hb265 (ld 3 110 b197 1 false 1 (vi r189.1.Hi) (hs216.ownAt (k := 1) rfl)) ?_
            refine Vg 112 4 27 false 107 hb265 (run_gtr (t := 3) (t' := 3) (x := (.tmp 109)) (y := (.tmp 111)) (k := .i64) (a := r202.1.Hi) (b := r189.1.Hi) rfl rfl) ?_
            refine V 113 4 (p0 107 (.const (.bool true)) (.tmp 112) (.bool (decide (r202.1.Hi > r189.1.Hi))) hb265) ?_
            have hs270 : HS w0 F0 w215 F10 [(sb b197 (kSpan r189.1) 38), (sb b184 (kSpan r176.1) 38), (sb b167 (kSpan r159.1) 38), (sb b48 #[(.slice a0_0 x0.Tracks.length n0_0), (.slice aj59_0 j59.length nj59_0), (vi x0.Window)] 25), (sb b10 (kRef x3) 27), (sb b7 (kRef x2) 27), (sb b1 (kSystem x0 a0_0 n0_0 a0_1 n0_1) 25)] := hs216.drop 0
            have hs271 : HS w0 F0 w215 F10 [(sb b184 (kSpan r176.1) 38), (sb b167 (kSpan r159.1) 38), (sb b48 #[(.slice a0_0 x0.Tracks.length n0_0), (.slice aj59_0 j59.length nj59_0), (vi x0.Window)] 25), (sb b10 (kRef x3) 27), (sb b7 (kRef x2) 27), (sb b1 (kSystem x0 a0_0 n0_0 a0_1 n0_1) 25)] := hs270.drop 0
            have hs272 : HS w0 F0 w215 F10 [(sb b167 (kSpan r159.1) 38), (sb b48 #[(.slice a0_0 x0.Tracks.length n0_0), (.slice aj59_0 j59.length nj59_0), (vi x0.Window)] 25), (sb b10 (kRef x3) 27), (sb b7 (kRef x2) 27), (sb b1 (kSystem x0 a0_0 n0_0 a0_1 n0_1) 25)] := hs271.drop 0
            have hs273 : HS w0 F0 w215 F10 [(sb b48 #[(.slice a0_0 x0.Tracks.length n0_0), (.slice aj59_0 j59.length nj59_0), (vi x0.Window)] 25), (sb b10 (kRef x3) 27), (sb b7 (kRef x2) 27), (sb b1 (kSystem x0 a0_0 n0_0 a0_1 n0_1) 25)] := hs272.drop 0
            exact RWP.nil ⟨rfl, F10, hs273, (Mem.le.refl _), e218, e219, e220, e221, e222, e223, (congrArg Value.bool (or_f hb245 (or_f hb250 (or_f hb255 (or_f hb260 (or_f hb265 (rfl)))))))⟩
      ·rintro f w235 ⟨F11, hs236, le237, e238, e239, e240, e241, e242, e243, e244⟩
       refine thenQ_nrm ?_
       refine CWP.cond (t := ((r159.2 != 0) || ((r189.2 != 0) || ((decide (r176.1.Lo < r159.1.Lo)) || ((decide (r176.1.Hi > r159.1.Hi)) || ((decide (r202.1.Lo < r189.1.Lo)) || (decide (r202.1.Hi > r189.1.Hi)))))))) (by kernel_rfl) e244 (fun hb274 => ?_) (fun hb274 => ?_)
       ·have h275 := cond_t h234 hb274
        refine Sq (Rg [0] ?_)
        refine V 8 4 (mc (.bool false) (.bool false)) ?_
        refine Nt ?_
        refine CWP.ret (by kernel_rfl) ?_
        refine thenQ_ret ?_
        have hfin := some_inj h275
        subst hfin
        exact ⟨e238, (.bool false), res_of (l := [.tmp 8]) (by kernel_rfl) (vs := [(.bool false)]) ⟨rfl, trivial⟩, (.bool false), F11, rfl, hs236.clear, rfl⟩
       ·have h276 := cond_f h234 hb274
        refine Sc ?_
        refine thenQ_nrm ?_
        refine Sq (Rg [0, 1, 2, 3, 4, 5, 6, 7, 8] ?_)
        refine V 115 25 (ld 25 4 b1 0 true 3 (.agg (kSystem x0 a0_0 n0_0 a0_1 n0_1)) (hs236.ownAt (k := 3) rfl) e239) ?_
        refine V 116 27 (ld 27 6 b7 0 true 2 (.agg (kRef x2)) (hs236.ownAt (k := 2) rfl) e240) ?_
        refine V 117 27 (ld 27 7 b10 0 true 2 (.agg (kRef x3)) (hs236.ownAt (k := 1) rfl) e241) ?_
        obtain ⟨r277, hr278, h279⟩ := bind_some h276
        refine Cl 118 43 22 #[(.tmp 115), (.tmp 116), (.tmp 117)] #[25, 27, 27] co_clocks_Must hs236 (c_clocks_Must N w235 F11 hs236.pers (x0) a0_0 n0_0 hb0_0 (SlA.mono hs0_0 (((((((((le19.trans le23).trans le57).trans le165).trans le173).trans le182).trans le195).trans le208).trans le217).trans le237)) a0_1 n0_1 hb0_1 (SlA.mono hs0_1 (((((((((le19.trans le23).trans le57).trans le165).trans le173).trans le182).trans le195).trans le208).trans le217).trans le237)) (x2) (x3) _ hr278) ?_
        intro v280 F12 w281 hs282 le283 hp284
        obtain rfl := hp284
        refine V 114 43 (mv 118 (.tuple #[(.bool r277.1), (vi r277.2)])) ?_
        refine V 119 4 (ex 114 0 (.bool r277.1) (vs := #[(.bool r277.1), (vi r277.2)])) ?_
        refine V 120 30 (ex 114 1 (vi r277.2) (vs := #[(.bool r277.1), (vi r277.2)])) ?_
        refine V 19 4 (ma 119 (.bool r277.1)) ?_
        refine V 20 30 (ma 120 (vi r277.2)) ?_
        refine Nss (Rg [0, 1, 2, 3, 4, 5, 6, 7, 8] ?_)
        refine V 122 25 (ld 25 10 b48 0 true 3 (.agg #[(.slice a0_0 x0.Tracks.length n0_0), (.slice aj59_0 j59.length nj59_0), (vi x0.Window)]) (hs282.ownAt (k := 0) rfl) e243) ?_
        refine V 123 27 (ld 27 6 b7 0 true 2 (.agg (kRef x2)) (hs282.ownAt (k := 2) rfl) e240) ?_
        refine V 124 27 (ld 27 7 b10 0 true 2 (.agg (kRef x3)) (hs282.ownAt (k := 1) rfl) e241) ?_
        obtain ⟨r285, hr286, h287⟩ := bind_some h279
        refine Cl 125 43 22 #[(.tmp 122), (.tmp 123), (.tmp 124)] #[25, 27, 27] co_clocks_Must hs282 (c_clocks_Must N w281 F12 hs282.pers (({ Tracks := x0.Tracks, Ties := j59, Window := x0.Window } : System)) a0_0 n0_0 hb0_0 (SlA.mono hs0_0 ((((((((((le19.trans le23).trans le57).trans le165).trans le173).trans le182).trans le195).trans le208).trans le217).trans le237).trans le283)) aj59_0 nj59_0 hb175 (SlA.mono hs174 (((((le182.trans le195).trans le208).trans le217).trans le237).trans le283)) (x2) (x3) _ hr286) ?_
        intro v288 F13 w289 hs290 le291 hp292
        obtain rfl := hp292
        refine V 121 43 (mv 125 (.tuple #[(.bool r285.1), (vi r285.2)])) ?_
        refine V 126 4 (ex 121 0 (.bool r285.1) (vs := #[(.bool r285.1), (vi r285.2)])) ?_
        refine V 127 30 (ex 121 1 (vi r285.2) (vs := #[(.bool r285.1), (vi r285.2)])) ?_
        refine V 21 4 (ma 126 (.bool r285.1)) ?_
        refine V 22 30 (ma 127 (vi r285.2)) ?_
        refine Nss (Rg [0, 1, 2, 3, 4, 5, 6, 7, 8] ?_)
        refine V 129 25 (ld 25 4 b1 0 true 3 (.agg (kSystem x0 a0_0 n0_0 a0_1 n0_1)) (hs290.ownAt (k := 3) rfl) e239) ?_
        refine V 130 27 (ld 27 6 b7 0 true 2 (.agg (kRef x2)) (hs290.ownAt (k := 2) rfl) e240) ?_
        refine V 131 27 (ld 27 7 b10 0 true 2 (.agg (kRef x3)) (hs290.ownAt (k := 1) rfl) e241) ?_
        obtain ⟨r293, hr294, h295⟩ := bind_some h287
        refine Cl 132 43 27 #[(.tmp 129), (.tmp 130), (.tmp 131)] #[25, 27, 27] co_clocks_May hs290 (c_clocks_May N w289 F13 hs290.pers (x0) a0_0 n0_0 hb0_0 (SlA.mono hs0_0 (((((((((((le19.trans le23).trans le57).trans le165).trans le173).trans le182).trans le195).trans le208).trans le217).trans le237).trans le283).trans le291)) a0_1 n0_1 hb0_1 (SlA.mono hs0_1 (((((((((((le19.trans le23).trans le57).trans le165).trans le173).trans le182).trans le195).trans le208).trans le217).trans le237).trans le283).trans le291)) (x2) (x3) _ hr294) ?_
        intro v296 F14 w297 hs298 le299 hp300
        obtain rfl := hp300
        refine V 128 43 (mv 132 (.tuple #[(.bool r293.1), (vi r293.2)])) ?_
        refine V 133 4 (ex 128 0 (.bool r293.1) (vs := #[(.bool r293.1), (vi r293.2)])) ?_
        refine V 134 30 (ex 128 1 (vi r293.2) (vs := #[(.bool r293.1), (vi r293.2)])) ?_
        refine V 23 4 (ma 133 (.bool r293.1)) ?_
        refine V 24 30 (ma 134 (vi r293.2)) ?_
        refine Nss (Rg [0, 1, 2, 3, 4, 5, 6, 7, 8] ?_)
        refine V 136 25 (ld 25 10 b48 0 true 3 (.agg #[(.slice a0_0 x0.Tracks.length n0_0), (.slice aj59_0 j59.length nj59_0), (vi x0.Window)]) (hs298.ownAt (k := 0) rfl) e243) ?_
        refine V 137 27 (ld 27 6 b7 0 true 2 (.agg (kRef x2)) (hs298.ownAt (k := 2) rfl) e240) ?_
        refine V 138 27 (ld 27 7 b10 0 true 2 (.agg (kRef x3)) (hs298.ownAt (k := 1) rfl) e241) ?_
        obtain ⟨r301, hr302, h303⟩ := bind_some h295
        refine Cl 139 43 27 #[(.tmp 136), (.tmp 137), (.tmp 138)] #[25, 27, 27] co_clocks_May hs298 (c_clocks_May N w297 F14 hs298.pers (({ Tracks := x0.Tracks, Ties := j59, Window := x0.Window } : System)) a0_0 n0_0 hb0_0 (SlA.mono hs0_0 ((((((((((((le19.trans le23).trans le57).trans le165).trans le173).trans le182).trans le195).trans le208).trans le217).trans le237).trans le283).trans le291).trans le299)) aj59_0 nj59_0 hb175 (SlA.mono hs174 (((((((le182.trans le195).trans le208).trans le217).trans le237).trans le283).trans le291).trans le299)) (x2) (x3) _ hr302) ?_
        intro v304 F15 w305 hs306 le307 hp308
        obtain rfl := hp308
        refine V 135 43 (mv 139 (.tuple #[(.bool r301.1), (vi r301.2)])) ?_
        refine V 140 4 (ex 135 0 (.bool r301.1) (vs := #[(.bool r301.1), (vi r301.2)])) ?_
        refine V 141 30 (ex 135 1 (vi r301.2) (vs := #[(.bool r301.1), (vi r301.2)])) ?_
        refine V 25 4 (ma 140 (.bool r301.1)) ?_
        refine V 26 30 (ma 141 (vi r301.2)) ?_
        refine Nss (Rg [0, 1, 2, 3, 4, 5, 6, 7, 8, 9, 10, 11, 12, 13, 14, 15, 16, 17, 18, 19, 20, 21, 22, 23, 24, 25, 26, 27, 28, 29, 30, 31] ?_)
        refine RWP.cut (fun f w => ∃ (F16 : Mem), HS w0 F0 w F16 [] ∧ Mem.le F15 F16 ∧ f.d = [] ∧ f 8 = (.bool (r13 && ((r277.2 == 0) && ((r285.2 == 0) && ((r293.2 == 0) && ((r301.2 == 0) && (bif (!r277.1) then (r293.1 || (!r301.1)) else (r285.1 && (r293.1 || (!r301.1))))))))))) ?_ ?_
        ·refine V 142 4 (mv 9 (.bool r13) e242) ?_
         refine V 143 4 (mv 142 (.bool r13)) ?_
         refine RWP.split r13 (fun hb314 => ?_) (fun hb314 => ?_)
         ·refine Vg 144 30 1 true 143 hb314 (mv 20 (vi r277.2)) ?_
          refine Vg 145 4 1 true 143 hb314 (run_eql (t := 30) (t' := 30) (x := (.tmp 144)) (y := (.const (vi 0))) (k := .i64) (a := r277.2) (b := 0) rfl rfl) ?_
          refine V 146 4 (p1 143 (.tmp 145) (.const (.bool false)) (.bool (r277.2 == 0)) hb314) ?_
          refine V 147 4 (mv 146 (.bool (r277.2 == 0))) ?_
          refine RWP.split (r277.2 == 0) (fun hb315 => ?_) (fun hb315 => ?_)
          ·refine Vg 148 30 5 true 147 hb315 (mv 22 (vi r285.2)) ?_
           refine Vg 149 4 5 true 147 hb315 (run_eql (t := 30) (t' := 30) (x := (.tmp 148)) (y := (.const (vi 0))) (k := .i64) (a := r285.2) (b := 0) rfl rfl) ?_
           refine V 150 4 (p1 147 (.tmp 149) (.const (.bool false)) (.bool (r285.2 == 0)) hb315) ?_
           refine V 151 4 (mv 150 (.bool (r285.2 == 0))) ?_
           refine RWP.split (r285.2 == 0) (fun hb316 => ?_) (fun hb316 => ?_)
           ·refine Vg 152 30 9 true 151 hb316 (mv 24 (vi r293.2)) ?_
            refine Vg 153 4 9 true 151 hb316 (run_eql (t := 30) (t' := 30) (x := (.tmp 152)) (y := (.const (vi 0))) (k := .i64) (a := r293.2) (b := 0) rfl rfl) ?_
            refine V 154 4 (p1 151 (.tmp 153) (.const (.bool false)) (.bool (r293.2 == 0)) hb316) ?_
            refine V 155 4 (mv 154 (.bool (r293.2 == 0))) ?_
            refine RWP.split (r293.2 == 0) (fun hb317 => ?_) (fun hb317 => ?_)
            ·refine Vg 156 30 13 true 155 hb317 (mv 26 (vi r301.2)) ?_
             refine Vg 157 4 13 true 155 hb317 (run_eql (t := 30) (t' := 30) (x := (.tmp 156)) (y := (.const (vi 0))) (k := .i64) (a := r301.2) (b := 0) rfl rfl) ?_
             refine V 158 4 (p1 155 (.tmp 157) (.const (.bool false)) (.bool (r301.2 == 0)) hb317) ?_
             refine V 159 4 (mv 158 (.bool (r301.2 == 0))) ?_
             refine RWP.split (r301.2 == 0) (fun hb318 => ?_) (fun hb318 => ?_)
             ·refine Vg 160 4 17 true 159 hb318 (mv 19 (.bool r277.1)) ?_
              refine Vg 161 4 17 true 159 hb318 (run_not (t := 4) (x := (.tmp 160)) (a := r277.1) rfl) ?_
              refine Vg 162 4 17 true 159 hb318 (mv 161 (.bool (!r277.1))) ?_
              refine RWP.split (!r277.1) (fun hb319 => ?_) (fun hb319 => ?_)
              ·refine Sk [163] 20 false 162 hb319 ?_
               refine Vg 164 4 17 true 159 hb318 (p1 162 (.const (.bool true)) (.tmp 163) (.bool true) hb319) ?_
               refine V 165 4 (p1 159 (.tmp 164) (.const (.bool false)) (.bool true) hb318) ?_
               refine V 166 4 (mv 165 (.bool true)) ?_
               refine Vg 167 4 24 true 166 rfl (mv 23 (.bool r293.1)) ?_
               refine Vg 168 4 24 true 166 rfl (mv 167 (.bool r293.1)) ?_
               refine RWP.split r293.1 (fun hb320 => ?_) (fun hb320 => ?_)
               ·refine Sk [169, 170] 26 false 168 hb320 ?_
                refine Vg 171 4 24 true 166 rfl (p1 168 (.const (.bool true)) (.tmp 170) (.bool true) hb320) ?_
                refine V 172 4 (p1 166 (.tmp 171) (.const (.bool false)) (.bool true) rfl) ?_
                refine V 8 4 (ma 172 (.bool true)) ?_
                have hs321 : HS w0 F0 w305 F15 [(sb b10 (kRef x3) 27), (sb b7 (kRef x2) 27), (sb b1 (kSystem x0 a0_0 n0_0 a0_1 n0_1) 25)] := hs306.drop 0
                have hs322 : HS w0 F0 w305 F15 [(sb b7 (kRef x2) 27), (sb b1 (kSystem x0 a0_0 n0_0 a0_1 n0_1) 25)] := hs321.drop 0
                have hs323 : HS w0 F0 w305 F15 [(sb b1 (kSystem x0 a0_0 n0_0 a0_1 n0_1) 25)] := hs322.drop 0
                have hs324 : HS w0 F0 w305 F15 [] := hs323.drop 0
                exact RWP.nil ⟨rfl, F15, hs324, (Mem.le.refl _), e238, (congrArg Value.bool (and_t hb314 (and_t hb315 (and_t hb316 (and_t hb317 (and_t hb318 (bif_t hb319 (or_t hb320 (rfl)))))))))⟩
               ·refine Vg 169 4 26 false 168 hb320 (mv 25 (.bool r301.1)) ?_
                refine Vg 170 4 26 false 168 hb320 (run_not (t := 4) (x := (.tmp 169)) (a := r301.1) rfl) ?_
                refine Vg 171 4 24 true 166 rfl (p0 168 (.const (.bool true)) (.tmp 170) (.bool (!r301.1)) hb320) ?_
                refine V 172 4 (p1 166 (.tmp 171) (.const (.bool false)) (.bool (!r301.1)) rfl) ?_
                refine V 8 4 (ma 172 (.bool (!r301.1))) ?_
                have hs325 : HS w0 F0 w305 F15 [(sb b10 (kRef x3) 27), (sb b7 (kRef x2) 27), (sb b1 (kSystem x0 a0_0 n0_0 a0_1 n0_1) 25)] := hs306.drop 0
                have hs326 : HS w0 F0 w305 F15 [(sb b7 (kRef x2) 27), (sb b1 (kSystem x0 a0_0 n0_0 a0_1 n0_1) 25)] := hs325.drop 0
                have hs327 : HS w0 F0 w305 F15 [(sb b1 (kSystem x0 a0_0 n0_0 a0_1 n0_1) 25)] := hs326.drop 0
                have hs328 : HS w0 F0 w305 F15 [] := hs327.drop 0
                exact RWP.nil ⟨rfl, F15, hs328, (Mem.le.refl _), e238, (congrArg Value.bool (and_t hb314 (and_t hb315 (and_t hb316 (and_t hb317 (and_t hb318 (bif_t hb319 (or_f hb320 (rfl)))))))))⟩
              ·refine Vg 163 4 20 false 162 hb319 (mv 21 (.bool r285.1)) ?_
               refine Vg 164 4 17 true 159 hb318 (p0 162 (.const (.bool true)) (.tmp 163) (.bool r285.1) hb319) ?_
               refine V 165 4 (p1 159 (.tmp 164) (.const (.bool false)) (.bool r285.1) hb318) ?_
               refine V 166 4 (mv 165 (.bool r285.1)) ?_
               refine RWP.split r285.1 (fun hb329 => ?_) (fun hb329 => ?_)
               ·refine Vg 167 4 24 true 166 hb329 (mv 23 (.bool r293.1)) ?_
                refine Vg 168 4 24 true 166 hb329 (mv 167 (.bool r293.1)) ?_
                refine RWP.split r293.1 (fun hb330 => ?_) (fun hb330 => ?_)
                ·refine Sk [169, 170] 26 false 168 hb330 ?_
                 refine Vg 171 4 24 true 166 hb329 (p1 168 (.const (.bool true)) (.tmp 170) (.bool true) hb330) ?_
                 refine V 172 4 (p1 166 (.tmp 171) (.const (.bool false)) (.bool true) hb329) ?_
                 refine V 8 4 (ma 172 (.bool true)) ?_
                 have hs331 : HS w0 F0 w305 F15 [(sb b10 (kRef x3) 27), (sb b7 (kRef x2) 27), (sb b1 (kSystem x0 a0_0 n0_0 a0_1 n0_1) 25)] := hs306.drop 0
                 have hs332 : HS w0 F0 w305 F15 [(sb b7 (kRef x2) 27), (sb b1 (kSystem x0 a0_0 n0_0 a0_1 n0_1) 25)] := hs331.drop 0
                 have hs333 : HS w0 F0 w305 F15 [(sb b1 (kSystem x0 a0_0 n0_0 a0_1 n0_1) 25)] := hs332.drop 0
                 have hs334 : HS w0 F0 w305 F15 [] := hs333.drop 0
                 exact RWP.nil ⟨rfl, F15, hs334, (Mem.le.refl _), e238, (congrArg Value.bool (and_t hb314 (and_t hb315 (and_t hb316 (and_t hb317 (and_t hb318 (bif_f hb319 (and_t hb329 (or_t hb330 (rfl))))))))))⟩
                ·refine Vg 169 4 26 false 168 hb330 (mv 25 (.bool r301.1)) ?_
                 refine Vg 170 4 26 false 168 hb330 (run_not (t := 4) (x := (.tmp 169)) (a := r301.1) rfl) ?_
                 refine Vg 171 4 24 true 166 hb329 (p0 168 (.const (.bool true)) (.tmp 170) (.bool (!r301.1)) hb330) ?_
                 refine V 172 4 (p1 166 (.tmp 171) (.const (.bool false)) (.bool (!r301.1)) hb329) ?_
                 refine V 8 4 (ma 172 (.bool (!r301.1))) ?_
                 have hs335 : HS w0 F0 w305 F15 [(sb b10 (kRef x3) 27), (sb b7 (kRef x2) 27), (sb b1 (kSystem x0 a0_0 n0_0 a0_1 n0_1) 25)] := hs306.drop 0
                 have hs336 : HS w0 F0 w305 F15 [(sb b7 (kRef x2) 27), (sb b1 (kSystem x0 a0_0 n0_0 a0_1 n0_1) 25)] := hs335.drop 0
                 have hs337 : HS w0 F0 w305 F15 [(sb b1 (kSystem x0 a0_0 n0_0 a0_1 n0_1) 25)] := hs336.drop 0
                 have hs338 : HS w0 F0 w305 F15 [] := hs337.drop 0
                 exact RWP.nil ⟨rfl, F15, hs338, (Mem.le.refl _), e238, (congrArg Value.bool (and_t hb314 (and_t hb315 (and_t hb316 (and_t hb317 (and_t hb318 (bif_f hb319 (and_t hb329 (or_f hb330 (rfl))))))))))⟩
               ·refine Sk [167, 168] 24 true 166 hb329 ?_
                refine Su [169, 170] 26 false 168 ?_
                refine Sk [171] 24 true 166 hb329 ?_
                refine V 172 4 (p0 166 (.tmp 171) (.const (.bool false)) (.bool false) hb329) ?_
                refine V 8 4 (ma 172 (.bool false)) ?_
                have hs339 : HS w0 F0 w305 F15 [(sb b10 (kRef x3) 27), (sb b7 (kRef x2) 27), (sb b1 (kSystem x0 a0_0 n0_0 a0_1 n0_1) 25)] := hs306.drop 0
                have hs340 : HS w0 F0 w305 F15 [(sb b7 (kRef x2) 27), (sb b1 (kSystem x0 a0_0 n0_0 a0_1 n0_1) 25)] := hs339.drop 0
                have hs341 : HS w0 F0 w305 F15 [(sb b1 (kSystem x0 a0_0 n0_0 a0_1 n0_1) 25)] := hs340.drop 0
                have hs342 : HS w0 F0 w305 F15 [] := hs341.drop 0
                exact RWP.nil ⟨rfl, F15, hs342, (Mem.le.refl _), e238, (congrArg Value.bool (and_t hb314 (and_t hb315 (and_t hb316 (and_t hb317 (and_t hb318 (bif_f hb319 (and_f hb329 (rfl)))))))))⟩
             ·refine Sk [160, 161, 162] 17 true 159 hb318 ?_
              refine Su [163] 20 false 162 ?_
              refine Sk [164] 17 true 159 hb318 ?_
              refine V 165 4 (p0 159 (.tmp 164) (.const (.bool false)) (.bool false) hb318) ?_
              refine V 166 4 (mv 165 (.bool false)) ?_
              refine Sk [167, 168] 24 true 166 rfl ?_
              refine Su [169, 170] 26 false 168 ?_
              refine Sk [171] 24 true 166 rfl ?_
              refine V 172 4 (p0 166 (.tmp 171) (.const (.bool false)) (.bool false) rfl) ?_
              refine V 8 4 (ma 172 (.bool false)) ?_
              have hs343 : HS w0 F0 w305 F15 [(sb b10 (kRef x3) 27), (sb b7 (kRef x2) 27), (sb b1 (kSystem x0 a0_0 n0_0 a0_1 n0_1) 25)] := hs306.drop 0
              have hs344 : HS w0 F0 w305 F15 [(sb b7 (kRef x2) 27), (sb b1 (kSystem x0 a0_0 n0_0 a0_1 n0_1) 25)] := hs343.drop 0
              have hs345 : HS w0 F0 w305 F15 [(sb b1 (kSystem x0 a0_0 n0_0 a0_1 n0_1) 25)] := hs344.drop 0
              have hs346 : HS w0 F0 w305 F15 [] := hs345.drop 0
              exact RWP.nil ⟨rfl, F15, hs346, (Mem.le.refl _), e238, (congrArg Value.bool (and_t hb314 (and_t hb315 (and_t hb316 (and_t hb317 (and_f hb318 (rfl)))))))⟩
            ·refine Sk [156, 157] 13 true 155 hb317 ?_
             refine V 158 4 (p0 155 (.tmp 157) (.const (.bool false)) (.bool false) hb317) ?_
             refine V 159 4 (mv 158 (.bool false)) ?_
             refine Sk [160, 161, 162] 17 true 159 rfl ?_
             refine Su [163] 20 false 162 ?_
             refine Sk [164] 17 true 159 rfl ?_
             refine V 165 4 (p0 159 (.tmp 164) (.const (.bool false)) (.bool false) rfl) ?_
             refine V 166 4 (mv 165 (.bool false)) ?_
             refine Sk [167, 168] 24 true 166 rfl ?_
             refine Su [169, 170] 26 false 168 ?_
             refine Sk [171] 24 true 166 rfl ?_
             refine V 172 4 (p0 166 (.tmp 171) (.const (.bool false)) (.bool false) rfl) ?_
             refine V 8 4 (ma 172 (.bool false)) ?_
             have hs347 : HS w0 F0 w305 F15 [(sb b10 (kRef x3) 27), (sb b7 (kRef x2) 27), (sb b1 (kSystem x0 a0_0 n0_0 a0_1 n0_1) 25)] := hs306.drop 0
             have hs348 : HS w0 F0 w305 F15 [(sb b7 (kRef x2) 27), (sb b1 (kSystem x0 a0_0 n0_0 a0_1 n0_1) 25)] := hs347.drop 0
             have hs349 : HS w0 F0 w305 F15 [(sb b1 (kSystem x0 a0_0 n0_0 a0_1 n0_1) 25)] := hs348.drop 0
             have hs350 : HS w0 F0 w305 F15 [] := hs349.drop 0
             exact RWP.nil ⟨rfl, F15, hs350, (Mem.le.refl _), e238, (congrArg Value.bool (and_t hb314 (and_t hb315 (and_t hb316 (and_f hb317 (rfl))))))⟩
           ·refine Sk [152, 153] 9 true 151 hb316 ?_
            refine V 154 4 (p0 151 (.tmp 153) (.const (.bool false)) (.bool false) hb316) ?_
            refine V 155 4 (mv 154 (.bool false)) ?_
            refine Sk [156, 157] 13 true 155 rfl ?_
            refine V 158 4 (p0 155 (.tmp 157) (.const (.bool false)) (.bool false) rfl) ?_
            refine V 159 4 (mv 158 (.bool false)) ?_
            refine Sk [160, 161, 162] 17 true 159 rfl ?_
            refine Su [163] 20 false 162 ?_
            refine Sk [164] 17 true 159 rfl ?_
            refine V 165 4 (p0 159 (.tmp 164) (.const (.bool false)) (.bool false) rfl) ?_
            refine V 166 4 (mv 165 (.bool false)) ?_
            refine Sk [167, 168] 24 true 166 rfl ?_
            refine Su [169, 170] 26 false 168 ?_
            refine Sk [171] 24 true 166 rfl ?_
            refine V 172 4 (p0 166 (.tmp 171) (.const (.bool false)) (.bool false) rfl) ?_
            refine V 8 4 (ma 172 (.bool false)) ?_
            have hs351 : HS w0 F0 w305 F15 [(sb b10 (kRef x3) 27), (sb b7 (kRef x2) 27), (sb b1 (kSystem x0 a0_0 n0_0 a0_1 n0_1) 25)] := hs306.drop 0
            have hs352 : HS w0 F0 w305 F15 [(sb b7 (kRef x2) 27), (sb b1 (kSystem x0 a0_0 n0_0 a0_1 n0_1) 25)] := hs351.drop 0
            have hs353 : HS w0 F0 w305 F15 [(sb b1 (kSystem x0 a0_0 n0_0 a0_1 n0_1) 25)] := hs352.drop 0
            have hs354 : HS w0 F0 w305 F15 [] := hs353.drop 0
            exact RWP.nil ⟨rfl, F15, hs354, (Mem.le.refl _), e238, (congrArg Value.bool (and_t hb314 (and_t hb315 (and_f hb316 (rfl)))))⟩
          ·refine Sk [148, 149] 5 true 147 hb315 ?_
           refine V 150 4 (p0 147 (.tmp 149) (.const (.bool false)) (.bool false) hb315) ?_
           refine V 151 4 (mv 150 (.bool false)) ?_
           refine Sk [152, 153] 9 true 151 rfl ?_
           refine V 154 4 (p0 151 (.tmp 153) (.const (.bool false)) (.bool false) rfl) ?_
           refine V 155 4 (mv 154 (.bool false)) ?_
           refine Sk [156, 157] 13 true 155 rfl ?_
           refine V 158 4 (p0 155 (.tmp 157) (.const (.bool false)) (.bool false) rfl) ?_
           refine V 159 4 (mv 158 (.bool false)) ?_
           refine Sk [160, 161, 162] 17 true 159 rfl ?_
           refine Su [163] 20 false 162 ?_
           refine Sk [164] 17 true 159 rfl ?_
           refine V 165 4 (p0 159 (.tmp 164) (.const (.bool false)) (.bool false) rfl) ?_
           refine V 166 4 (mv 165 (.bool false)) ?_
           refine Sk [167, 168] 24 true 166 rfl ?_
           refine Su [169, 170] 26 false 168 ?_
           refine Sk [171] 24 true 166 rfl ?_
           refine V 172 4 (p0 166 (.tmp 171) (.const (.bool false)) (.bool false) rfl) ?_
           refine V 8 4 (ma 172 (.bool false)) ?_
           have hs355 : HS w0 F0 w305 F15 [(sb b10 (kRef x3) 27), (sb b7 (kRef x2) 27), (sb b1 (kSystem x0 a0_0 n0_0 a0_1 n0_1) 25)] := hs306.drop 0
           have hs356 : HS w0 F0 w305 F15 [(sb b7 (kRef x2) 27), (sb b1 (kSystem x0 a0_0 n0_0 a0_1 n0_1) 25)] := hs355.drop 0
           have hs357 : HS w0 F0 w305 F15 [(sb b1 (kSystem x0 a0_0 n0_0 a0_1 n0_1) 25)] := hs356.drop 0
           have hs358 : HS w0 F0 w305 F15 [] := hs357.drop 0
           exact RWP.nil ⟨rfl, F15, hs358, (Mem.le.refl _), e238, (congrArg Value.bool (and_t hb314 (and_f hb315 (rfl))))⟩
         ·refine Sk [144, 145] 1 true 143 hb314 ?_
          refine V 146 4 (p0 143 (.tmp 145) (.const (.bool false)) (.bool false) hb314) ?_
          refine V 147 4 (mv 146 (.bool false)) ?_
          refine Sk [148, 149] 5 true 147 rfl ?_
          refine V 150 4 (p0 147 (.tmp 149) (.const (.bool false)) (.bool false) rfl) ?_
          refine V 151 4 (mv 150 (.bool false)) ?_
          refine Sk [152, 153] 9 true 151 rfl ?_
          refine V 154 4 (p0 151 (.tmp 153) (.const (.bool false)) (.bool false) rfl) ?_
          refine V 155 4 (mv 154 (.bool false)) ?_
          refine Sk [156, 157] 13 true 155 rfl ?_
          refine V 158 4 (p0 155 (.tmp 157) (.const (.bool false)) (.bool false) rfl) ?_
          refine V 159 4 (mv 158 (.bool false)) ?_
          refine Sk [160, 161, 162] 17 true 159 rfl ?_
          refine Su [163] 20 false 162 ?_
          refine Sk [164] 17 true 159 rfl ?_
          refine V 165 4 (p0 159 (.tmp 164) (.const (.bool false)) (.bool false) rfl) ?_
          refine V 166 4 (mv 165 (.bool false)) ?_
          refine Sk [167, 168] 24 true 166 rfl ?_
          refine Su [169, 170] 26 false 168 ?_
          refine Sk [171] 24 true 166 rfl ?_
          refine V 172 4 (p0 166 (.tmp 171) (.const (.bool false)) (.bool false) rfl) ?_
          refine V 8 4 (ma 172 (.bool false)) ?_
          have hs359 : HS w0 F0 w305 F15 [(sb b10 (kRef x3) 27), (sb b7 (kRef x2) 27), (sb b1 (kSystem x0 a0_0 n0_0 a0_1 n0_1) 25)] := hs306.drop 0
          have hs360 : HS w0 F0 w305 F15 [(sb b7 (kRef x2) 27), (sb b1 (kSystem x0 a0_0 n0_0 a0_1 n0_1) 25)] := hs359.drop 0
          have hs361 : HS w0 F0 w305 F15 [(sb b1 (kSystem x0 a0_0 n0_0 a0_1 n0_1) 25)] := hs360.drop 0
          have hs362 : HS w0 F0 w305 F15 [] := hs361.drop 0
          exact RWP.nil ⟨rfl, F15, hs362, (Mem.le.refl _), e238, (congrArg Value.bool (and_f hb314 (rfl)))⟩
        ·rintro f w309 ⟨F16, hs310, le311, e312, e313⟩
         refine thenQ_nrm ?_
         refine CWP.ret (by kernel_rfl) ?_
         have hfin := some_inj h303
         subst hfin
         exact ⟨e312, (.bool (r13 && ((r277.2 == 0) && ((r285.2 == 0) && ((r293.2 == 0) && ((r301.2 == 0) && (bif (!r277.1) then (r293.1 || (!r301.1)) else (r285.1 && (r293.1 || (!r301.1)))))))))), res_of (l := [.tmp 8]) (by kernel_rfl) (vs := [(.bool (r13 && ((r277.2 == 0) && ((r285.2 == 0) && ((r293.2 == 0) && ((r301.2 == 0) && (bif (!r277.1) then (r293.1 || (!r301.1)) else (r285.1 && (r293.1 || (!r301.1))))))))))]) ⟨e313, trivial⟩, (.bool (r13 && ((r277.2 == 0) && ((r285.2 == 0) && ((r293.2 == 0) && ((r301.2 == 0) && (bif (!r277.1) then (r293.1 || (!r301.1)) else (r285.1 && (r293.1 || (!r301.1)))))))))), F16, rfl, hs310.clear, rfl⟩
end Go.Proofs.Ythbcnabeabcmlaa
namespace Go.Proofs.Ythbcnabeabcmlaa
open BF
theorem more_true {N : Nat} {s : System} (hN : 1000000 ≤ N) (hf : FitS N s) (t : Tie) (a b : Ref) : law03_ClocksMore N s t a b = some true := by
  unfold law03_ClocksMore
  obtain ⟨fw, hfw⟩ := few_some hf
  rw [awake_at (by omega), hfw]
  simp only [Option.bind_some, Relation_c hN hf, Interval_c hN hf]
  cases fw with
  | false => rfl
  | true =>
    simp only [Bool.not_true, cond_false, Option.bind_some]
    by_cases h30 : (s.Ties.length : Int) > 30
    · have : decide ((s.Ties.length : Int) > 30) = true := by simpa using h30
      rw [this]; rfl
    · have : decide ((s.Ties.length : Int) > 30) = false := by simpa using h30
      rw [this, cond_false]
      have hl : s.Ties.length ≤ 30 := by omega
      rw [apnd_ok (by simp; omega), Option.bind_some, apnd_ok (by simp; omega)]
      simp only [Option.bind_some, List.nil_append]
      generalize hm : ({ Tracks := s.Tracks, Ties := s.Ties ++ [t], Window := s.Window } : System) = m
      have hmf : FitS N m := by
        subst hm
        exact ⟨hf.n, hf.t, by simp; omega, by simp; omega⟩
      simp only [Option.bind_some, Relation_c hN hmf, Interval_c hN hmf, Must_c hN hf, Must_c hN hmf, May_c hN hf, May_c hN hmf, rel_code, int_code]
      by_cases he : ask m [a] = 0
      · by_cases hr : ask m [a, b] = 0
        · obtain ⟨hv, hh, hc⟩ := ask_zero hr
          have hms : more s m := by subst hm; exact ⟨rfl, ⟨[t], rfl⟩, rfl⟩
          have hvs := hms.valid hv
          have hcs := hms.closes hv hc
          have ha : vHas s a = true := by rw [← hms.has]; exact hh a (by simp)
          have hb : vHas s b = true := by rw [← hms.has]; exact hh b (by simp)
          have e1 : ask s [a] = 0 := ask_of hvs (fun r hr => by simp at hr; subst hr; exact ha) hcs
          have e2 : ask s [a, b] = 0 := ask_of hvs (fun r hr => by simp at hr; rcases hr with rfl | rfl <;> assumption) hcs
          have na : Nd s a := .inr ha
          have nb : Nd s b := .inr hb
          have ng := nd_beg s
          have d1 := hms.dd_le hv hc na ng
          have d2 := hms.dd_le hv hc ng na
          have d3 := hms.dd_le hv hc nb na
          have d4 := hms.dd_le hv hc na nb
          have hw : m.Window = s.Window := by subst hm; rfl
          unfold vMust vMay
          rw [rel_val hr, rel_val e2, int_val he, int_val e1, he, hr, e1, e2]
          unfold relAt spanAt
          obtain ⟨_, _, _, w1, w2, _⟩ := check_ok hvs
          simp only [bne_self_eq_false, Bool.or_false, cond_false, Bool.false_or, beq_self_eq_true, Bool.true_and, hw]
          rw [W64_id (n := 0 - s.Window) (by omega) (by omega)]
          have g1 : decide (-dd m a beg < -dd s a beg) = false := by simp; omega
          have g2 : decide (dd m beg a > dd s beg a) = false := by simp; omega
          have g3 : decide (-dd m b a < -dd s b a) = false := by simp; omega
          have g4 : decide (dd m a b > dd s a b) = false := by simp; omega
          rw [g1, g2, g3, g4]
          simp only [Bool.or_false, cond_false]
          by_cases m1 : -dd s b a ≥ 0 - s.Window ∧ dd s a b ≤ s.Window
          · have g5 : decide (-dd s b a ≥ 0 - s.Window) = true := by simp; omega
            have g6 : decide (dd s a b ≤ s.Window) = true := by simp; omega
            have g7 : decide (-dd m b a ≥ 0 - s.Window) = true := by simp; omega
            have g8 : decide (dd m a b ≤ s.Window) = true := by simp; omega
            rw [g5, g6, g7, g8]
            by_cases m2 : -dd s b a ≤ s.Window ∧ dd s a b ≥ 0 - s.Window
            · have g9 : decide (-dd s b a ≤ s.Window) = true := by simp; omega
              have g10 : decide (dd s a b ≥ 0 - s.Window) = true := by simp; omega
              rw [g9, g10]; simp
            · have g9 : (decide (-dd m b a ≤ s.Window) && decide (dd m a b ≥ 0 - s.Window)) = false := by
                rw [Bool.and_eq_false_iff]; simp; omega
              rw [g9]; simp
          · have g5 : (decide (-dd s b a ≥ 0 - s.Window) && decide (dd s a b ≤ s.Window)) = false := by
              rw [Bool.and_eq_false_iff]; simp; omega
            rw [g5]
            by_cases m2 : -dd s b a ≤ s.Window ∧ dd s a b ≥ 0 - s.Window
            · have g9 : decide (-dd s b a ≤ s.Window) = true := by simp; omega
              have g10 : decide (dd s a b ≥ 0 - s.Window) = true := by simp; omega
              rw [g9, g10]; simp
            · have g9 : (decide (-dd m b a ≤ s.Window) && decide (dd m a b ≥ 0 - s.Window)) = false := by
                rw [Bool.and_eq_false_iff]; simp; omega
              rw [g9]; simp
        · have e : (ask m [a, b] != 0) = true := by simpa using hr
          rw [e, Bool.or_true]; rfl
      · have e : (ask m [a] != 0) = true := by simpa using he
        rw [e, Bool.true_or]; rfl
theorem more_row (s : System) (t : Tie) (a b : Ref) (q : qSystem s) (_ : qTie t) (_ : qRef a) (_ : qRef b) : law03_ClocksMore NN s t a b = some true := more_true (by decide) (fitS q) t a b
end Go.Proofs.Ythbcnabeabcmlaa
namespace Go.Proofs.Ythbcnabeabcmlaa
open Go.ChangeShapes Go.WideShapes Go.ChangeAt Go.RowKit
set_option maxRecDepth 100000 in
theorem lifted_clocksMore (os : Os) (started : os.Started) (H : Type) (enc : TypeId × Value → H) :
    ReturnsInHanded {} Try.checked os 6 .any (Rows.clocksMoreSpec.pre6 enc Try.prog Try.f6 Rows.clocksMoreRow.domain false) (Rows.clocksMoreSpec.post enc Try.prog Try.f6 false true false false) := by
  refine returnsInHanded_of_change (C := Try.checked) (by kernel_rfl) started (by kernel_rfl) Try.func6
    (ChangeSpec.witness6 (enc := enc) (C := Try.checked) false ⟨#[], #[.agg #[.slice none 0 0, .slice none 0 0, .int .i64 0], .agg #[.int .i64 0, .int .i64 0, .int .i64 0, .int .i64 0], .agg #[.int .i64 0, .int .i64 0], .agg #[.int .i64 0, .int .i64 0]], []⟩ 8 (by kernel_rfl) (by kernel_rfl) (by kernel_rfl) (by kernel_rfl)) ?_
  intro W base args ds gs before hval0 hW hcnd _
  have hval : ∀ (j : Nat) t v, Try.f6.params[j]? = some t → args[j]? = some v → Value.okWide Try.prog W .any base t v := hval0
  have hW' := hW
  obtain ⟨p, q, hA0, hV, rfl, hfz, hnd⟩ := hW
  have hA : DataW.TrodAll enc Try.prog W 0 (fun _ => true) true Try.f6.params.toList args.toList ds p := hA0
  rw [Try.params6] at hA hval
  obtain ⟨v0, vs0, d0, ds0, p0, q0, hargs, rfl, rfl, h0, r0⟩ := trodAll_cons hA
  obtain ⟨v1, vs1, d1, ds1, p1, q1, rfl, rfl, rfl, h1, r1⟩ := trodAll_cons r0
  obtain ⟨v2, vs2, d2, ds2, p2, q2, rfl, rfl, rfl, h2, r2⟩ := trodAll_cons r1
  obtain ⟨v3, vs3, d3, ds3, p3, q3, rfl, rfl, rfl, h3, r3⟩ := trodAll_cons r2
  obtain ⟨rfl, rfl, rfl⟩ := trodAll_nil r3
  obtain rfl : args = #[v0, v1, v2, v3] := by cases args; simp_all
  obtain ⟨cs0, x0, rfl, R0, Q0⟩ := Opens.agg opens_System_25 (by kernel_rfl) (hval 0 25 v0 rfl rfl) h0
  obtain ⟨a0_0, n0_0, a0_1, n0_1, e0, hb0_0, hs0_0, hb0_1, hs0_1⟩ := R0
  obtain rfl : cs0 = #[.slice a0_0 x0.Tracks.length n0_0, .slice a0_1 x0.Ties.length n0_1, .int .i64 x0.Window] := Array.ext' (by exact e0)
  obtain ⟨cs1, x1, rfl, R1, Q1⟩ := Opens.agg opens_Tie_46 (by kernel_rfl) (hval 1 46 v1 rfl rfl) h1
  have e1 := R1
  obtain rfl : cs1 = #[.int .i64 x1.A.Log, .int .i64 x1.A.Line, .int .i64 x1.B.Log, .int .i64 x1.B.Line] := Array.ext' (by exact e1)
  obtain ⟨cs2, x2, rfl, R2, Q2⟩ := Opens.agg opens_Ref_27 (by kernel_rfl) (hval 2 27 v2 rfl rfl) h2
  have e2 := R2
  obtain rfl : cs2 = #[.int .i64 x2.Log, .int .i64 x2.Line] := Array.ext' (by exact e2)
  obtain ⟨cs3, x3, rfl, R3, Q3⟩ := Opens.agg opens_Ref_27 (by kernel_rfl) (hval 3 27 v3 rfl rfl) h3
  have e3 := R3
  obtain rfl : cs3 = #[.int .i64 x3.Log, .int .i64 x3.Line] := Array.ext' (by exact e3)
  refine (c_law03_ClocksMore 9223372036854775808 W (memOf W) (fun _ _ h => h) x0 a0_0 n0_0 hb0_0 hs0_0 a0_1 n0_1 hb0_1 hs0_1 x1 x2 x3 true (more_row x0 x1 x2 x3 Q0 Q1 Q2 Q3)).mono fun e W' he => ?_
  obtain ⟨r, F', rfl, hs, rfl⟩ := he
  refine ⟨_, rfl, post_grown (by kernel_rfl) (tb := 4) ?_ rfl hW' (by kernel_rfl) (by kernel_rfl) ?_ hs⟩
  · intro t ht
    rw [Try.params6] at ht
    simp only [List.mem_cons, List.not_mem_nil, or_false] at ht
    rcases ht with rfl | rfl | rfl | rfl <;> exact ⟨by kernel_rfl, by decide +kernel⟩
  · intro _; rfl
theorem clocksMore_proved : Rows.ClocksMoreSaid :=
  OpenClaim.holds_of_wide 6 Try.f6 rfl rfl rfl rfl rfl rfl rfl ⟨rfl, rfl, rfl, rfl, rfl⟩ rfl rfl rfl rfl rfl (by kernel_rfl) Try.func6 (by kernel_rfl)
    (of_decide_eq_true (by kernel_rfl)) (by unfold Func.isWrapper; first | (rw [if_pos (by decide +kernel)]; kernel_rfl) | (rw [if_neg (by decide +kernel)]; exact ⟨rfl, rfl⟩))
    (fun os started H enc _ => lifted_clocksMore os started H enc)
end Go.Proofs.Ythbcnabeabcmlaa
