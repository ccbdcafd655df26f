/- ClocksExact: for every input the law returns true, and each argument reads afterwards as it read before. No condition. -/
import Derived.Test.YthbcnabeabcmlaaA4
set_option linter.unusedVariables false
set_option linter.unusedSimpArgs false
set_option linter.unusedSectionVars false
namespace Go.Proofs.Ythbcnabeabcmlaa
open Go.Proofs
def law03_through_L1 (N : Nat) (x0 : System) (x1 : Ref) (x2 : Int) (s12 : (List (List Int) × Int)) : (List Int × Int) → Option (Flow (List (List Int)) (List Int × Int)) := fun s41 =>
 ((idx x0.Tracks s12.2).bind fun x70 => (bif (decide (s41.2 < (x70.Times.length : Int))) then ((clocks_Interval N x0 ({ Log := s12.2, Line := s41.2 } : Ref)).bind fun r91 => ((clocks_Relation N x0 x1 ({ Log := s12.2, Line := s41.2 } : Ref)).bind fun r104 => ((apnd s41.1 [(max r91.1.Lo (W64 (x2 + r104.1.Lo)))]).bind fun r122 => some (.next (r122, (W64 (s41.2 + 1))))))) else some (.done (s41.1, s41.2))))
def law03_through_L0 (N : Nat) (x0 : System) (x1 : Ref) (x2 : Int) : (List (List Int) × Int) → Option (Flow (List (List Int)) (List (List Int) × Int)) := fun s12 =>
 (bif (decide (s12.2 < (x0.Tracks.length : Int))) then ((iter (law03_through_L1 N x0 x1 x2 s12) N (([] : List Int), 0)).bind fun o => o.k (fun r => some (.ret r)) (fun s53 => ((apnd s12.1 [s53.1]).bind fun r148 => some (.next (r148, (W64 (s12.2 + 1))))))) else some (.done (s12.1, s12.2)))
def law03_through (N : Nat) (x0 : System) (x1 : Ref) (x2 : Int) : Option (List (List Int)) :=
 ((iter (law03_through_L0 N x0 x1 x2) N (([] : List (List Int)), 0)).bind fun o => o.k (fun r => some r) (fun s22 => some s22.1))
theorem co_law03_through : CallOk Try.prog 57 := fun _ _ => by kernel_rfl
set_option maxHeartbeats 4000000 in
set_option maxRecDepth 100000 in
theorem c_law03_through (N : Nat) (w0 : World) (F0 : Mem) (hF : ∀ b o, F0 b = some o → w0.heap[b]? = some o) (x0 : System) (a0_0 : Option Addr) (n0_0 : Nat) (hb0_0 : LC x0.Tracks.length n0_0) (hs0_0 : SlA tTrack F0 a0_0 x0.Tracks) (a0_1 : Option Addr) (n0_1 : Nat) (hb0_1 : LC x0.Ties.length n0_1) (hs0_1 : SlA tTie F0 a0_1 x0.Ties) (x1 : Ref) (x2 : Int) (r : (List (List Int))) (h : law03_through N x0 x1 x2 = some r) :
  Calls Try.prog 57 ([(.agg (kSystem x0 a0_0 n0_0 a0_1 n0_1)), (.agg (kRef x1)), (vi x2)] : List Value).toArray w0 (FRet w0 F0 fun F' v => ∃ (aq0_0 : Option Addr) (nq0_0 : Nat), v = (.slice aq0_0 r.length nq0_0) ∧ LC r.length nq0_0 ∧ SlA (tSl tInt) F' aq0_0 r) := by
 have hs0 := HS.start hF
 refine calls_of (n := 65) (c := bodyOf Try.f57) Try.func57 (by kernel_rfl) (by kernel_rfl) (by kernel_rfl) ?_
 refine Sq (Rg [0, 1, 2] ?_)
 refine Bx 3 0 0 25 (kSystem x0 a0_0 n0_0 a0_1 n0_1) hs0 (fun b1 w2 (hs3 : HS w0 F0 w2 F0 [(sb b1 (kSystem x0 a0_0 n0_0 a0_1 n0_1) 25)]) => ?_)
 refine Bx 4 0 1 27 (kRef x1) hs3 (fun b4 w5 (hs6 : HS w0 F0 w5 F0 [(sb b4 (kRef x1) 27), (sb b1 (kSystem x0 a0_0 n0_0 a0_1 n0_1) 25)]) => ?_)
 refine V 6 71 (mc (.slice none 0 0) (.slice none ([] : List (List Int)).length 0)) ?_
 refine Nss (Rg [0] ?_)
 refine V 7 71 (mc (.slice none 0 0) (.slice none ([] : List (List Int)).length 0)) ?_
 refine Nss ?_
 refine Sq (Rg [0] ?_)
 refine V 8 3 (mc (vi 0) (vi 0)) ?_
 refine Nt ?_
 have hs7 : HS w0 F0 w5 F0 [(none, .cells #[] 0 (0, 0)), (sb b4 (kRef x1) 27), (sb b1 (kSystem x0 a0_0 n0_0 a0_1 n0_1) 25)] := hs6.dummy _
 obtain ⟨o9, ho10, h11⟩ := bind_some h
 refine CWP.cut (fun f w => ∃ (s22 : (List (List Int) × Int)) (F2 : Mem) (as22_0 : Option Addr) (ns22_0 : Nat) (es22_0 : Option Nat × Obj), o9 = .done s22 ∧ HS w0 F0 w F2 [es22_0] ∧ Mem.le F0 F2 ∧ f.d = [] ∧ f 7 = (.slice as22_0 s22.1.length ns22_0) ∧ RowR (tSl tInt) 50 F2 as22_0 ns22_0 s22.1 es22_0) ?_ ?_
 ·refine Bk ?_
  refine CWP.loop (by kernel_rfl) (fun m f w => ∃ (s12 : (List (List Int) × Int)) (F1 : Mem) (as12_0 : Option Addr) (ns12_0 : Nat) (es12_0 : Option Nat × Obj), iter (law03_through_L0 N x0 x1 x2) m s12 = some o9 ∧ HS w0 F0 w F1 [es12_0, (sb b4 (kRef x1) 27), (sb b1 (kSystem x0 a0_0 n0_0 a0_1 n0_1) 25)] ∧ Mem.le F0 F1 ∧ f.d = [] ∧ f 2 = (vi x2) ∧ f 3 = (.pointer (some ⟨b1, 0, none⟩)) ∧ f 4 = (.pointer (some ⟨b4, 0, none⟩)) ∧ f 7 = (.slice as12_0 s12.1.length ns12_0) ∧ f 8 = (vi s12.2) ∧ RowR (tSl tInt) 50 F1 as12_0 ns12_0 s12.1 es12_0) N ⟨(([] : List (List Int)), 0), F0, none, 0, (none, .cells #[] 0 (0, 0)), ho10, hs7, (Mem.le.refl _), rfl, rfl, rfl, rfl, rfl, rfl, (RowR.nil (tSl tInt) 50 F0 _)⟩ ?_
  rintro m28 f w13 ⟨s12, F1, as12_0, ns12_0, es12_0, hit29, hs14, le15, e16, e17, e18, e19, e20, e21, hrs12_0⟩
  obtain ⟨m30, fl31, rfl, hb32, hnx33⟩ := iter_step hit29
  refine Sq ?_
  refine Sq (Rg [0, 1, 2, 3, 4] ?_)
  refine V 16 3 (mv 8 (vi s12.2) e21) ?_
  refine V 17 0 (fa 25 3 0 0 1 b1 0 0 e18) ?_
  refine V 18 22 (ld 22 17 b1 0 false 1 (.slice a0_0 x0.Tracks.length n0_0) (hs14.ownAt (k := 2) rfl)) ?_
  refine V 19 3 (ln 18 22 a0_0 x0.Tracks.length n0_0 54 4 64) ?_
  refine V 20 4 (run_lss (t := 3) (t' := 3) (x := (.tmp 16)) (y := (.tmp 19)) (k := .i64) (a := s12.2) (b := (x0.Tracks.length : Int)) rfl rfl) ?_
  refine Nt ?_
  refine CWP.cond (t := (decide (s12.2 < (x0.Tracks.length : Int)))) (by kernel_rfl) rfl (fun hb34 => ?_) (fun hb34 => ?_)
  ·have h35 := cond_t hb32 hb34
   refine Sc ?_
   refine thenQ_nrm ?_
   refine Sq ?_
   refine Bk ?_
   refine Sq (Rg [0] ?_)
   refine V 9 50 (mc (.slice none 0 0) (.slice none ([] : List Int).length 0)) ?_
   refine Nss ?_
   refine Sq (Rg [0] ?_)
   refine V 10 3 (mc (vi 0) (vi 0)) ?_
   refine Nt ?_
   have hs36 : HS w0 F0 w13 F1 [(none, .cells #[] 0 (0, 0)), es12_0, (sb b4 (kRef x1) 27), (sb b1 (kSystem x0 a0_0 n0_0 a0_1 n0_1) 25)] := hs14.dummy _
   obtain ⟨o38, ho39, h40⟩ := bind_some h35
   refine CWP.cut (fun f w => ∃ (s53 : (List Int × Int)) (F4 : Mem) (as53_0 : Option Addr) (ns53_0 : Nat) (es53_0 : Option Nat × Obj), o38 = .done s53 ∧ HS w0 F0 w F4 [es53_0, es12_0, (sb b4 (kRef x1) 27), (sb b1 (kSystem x0 a0_0 n0_0 a0_1 n0_1) 25)] ∧ Mem.le F1 F4 ∧ f.d = [] ∧ f 2 = (vi x2) ∧ f 3 = (.pointer (some ⟨b1, 0, none⟩)) ∧ f 4 = (.pointer (some ⟨b4, 0, none⟩)) ∧ f 7 = (.slice as12_0 s12.1.length ns12_0) ∧ f 8 = (vi s12.2) ∧ f 9 = (.slice as53_0 s53.1.length ns53_0) ∧ RowR tInt 3 F4 as53_0 ns53_0 s53.1 es53_0) ?_ ?_
   ·refine Bk ?_
    refine CWP.loop (by kernel_rfl) (fun m f w => ∃ (s41 : (List Int × Int)) (F3 : Mem) (as41_0 : Option Addr) (ns41_0 : Nat) (es41_0 : Option Nat × Obj), iter (law03_through_L1 N x0 x1 x2 s12) m s41 = some o38 ∧ HS w0 F0 w F3 [es41_0, es12_0, (sb b4 (kRef x1) 27), (sb b1 (kSystem x0 a0_0 n0_0 a0_1 n0_1) 25)] ∧ Mem.le F1 F3 ∧ f.d = [] ∧ f 2 = (vi x2) ∧ f 3 = (.pointer (some ⟨b1, 0, none⟩)) ∧ f 4 = (.pointer (some ⟨b4, 0, none⟩)) ∧ f 7 = (.slice as12_0 s12.1.length ns12_0) ∧ f 8 = (vi s12.2) ∧ f 9 = (.slice as41_0 s41.1.length ns41_0) ∧ f 10 = (vi s41.2) ∧ RowR tInt 3 F3 as41_0 ns41_0 s41.1 es41_0) N ⟨(([] : List Int), 0), F1, none, 0, (none, .cells #[] 0 (0, 0)), ho39, hs36, (Mem.le.refl _), e16, e17, e18, e19, e20, e21, rfl, rfl, (RowR.nil tInt 3 F1 _)⟩ ?_
    rintro m64 f w42 ⟨s41, F3, as41_0, ns41_0, es41_0, hit65, hs43, le44, e45, e46, e47, e48, e49, e50, e51, e52, hrs41_0⟩
    obtain ⟨m66, fl67, rfl, hb68, hnx69⟩ := iter_step hit65
    refine Sq ?_
    refine Sq (Rg [0, 1, 2, 3, 4, 5, 6, 7, 8] ?_)
    refine V 23 3 (mv 10 (vi s41.2) e52) ?_
    refine V 24 0 (fa 25 3 0 0 1 b1 0 0 e47) ?_
    refine V 25 22 (ld 22 24 b1 0 false 1 (.slice a0_0 x0.Tracks.length n0_0) (hs43.ownAt (k := 3) rfl)) ?_
    refine V 26 3 (mv 8 (vi s12.2) e50) ?_
    obtain ⟨x70, hx71, h73⟩ := bind_some hb68
    obtain ⟨hi72, hx71'⟩ := idx_spec hx71
    obtain ⟨b74, o75, C76, E77, fz78, rfl, hF80, hE81⟩ := SlA.open (SlA.mono hs0_0 (le15.trans le44)) hx71'
    obtain ⟨ae82_2, ne82_2, ae82_3, ne82_3, hc83, hbe82_2, hse82_2, hbe82_3, hse82_3⟩ := hE81 _ _ hx71'
    refine V 27 0 (ix 22 25 26 b74 o75 54 4 64 hi72) ?_
    refine V 28 0 (fa 54 27 1 3 1 b74 (o75 + (s12.2 : Int).toNat * 4) ((o75 + (s12.2 : Int).toNat * 4) + 3)) ?_
    refine V 29 50 (lx 50 28 3 4 false 1 (.slice ae82_3 x70.Times.length ne82_3) (hs43.pers _ _ hF80) hc83) ?_
    refine V 30 3 (ln 29 50 ae82_3 x70.Times.length ne82_3 3 1 8) ?_
    refine V 31 4 (run_lss (t := 3) (t' := 3) (x := (.tmp 23)) (y := (.tmp 30)) (k := .i64) (a := s41.2) (b := (x70.Times.length : Int)) rfl rfl) ?_
    refine Nt ?_
    refine CWP.cond (t := (decide (s41.2 < (x70.Times.length : Int)))) (by kernel_rfl) rfl (fun hb84 => ?_) (fun hb84 => ?_)
    ·have h85 := cond_t h73 hb84
     refine Sc ?_
     refine thenQ_nrm ?_
     refine Sq ?_
     refine Bk ?_
     refine Sq (Rg [0, 1, 2, 3, 4] ?_)
     refine V 34 3 (mv 8 (vi s12.2) e50) ?_
     refine V 35 3 (mv 10 (vi s41.2) e52) ?_
     refine V 36 27 (run_build2 (t := 27) (parts := #[(0, (.tmp 34)), (1, (.tmp 35))]) (vs := [(0, (vi s12.2)), (1, (vi s41.2))]) (rfl) (cs := [(vi s12.2), (vi s41.2)]) (by kernel_rfl)) ?_
     refine Al 11 0 27 #[(vi 0), (vi 0)] hs43 (fun b86 w87 (hs88 : HS w0 F0 w87 F3 [(sb b86 #[(vi 0), (vi 0)] 27), es41_0, es12_0, (sb b4 (kRef x1) 27), (sb b1 (kSystem x0 (some ⟨b74, o75, none⟩) n0_0 a0_1 n0_1) 25)]) => ?_)
     refine RWP.store (ty := 0) (g := none) (by kernel_rfl) rfl (x := (.tmp 11)) (y := (.tmp 36)) (t := 27) (gg := true) (s := 2) (v := (.agg #[(vi s12.2), (vi s41.2)])) (b := b86) (o := 0) (C := #[(vi 0), (vi 0)]) rfl rfl (by kernel_rfl) hs88 (k := 0) rfl rfl rfl rfl (C' := #[(vi s12.2), (vi s41.2)]) rfl (fun w89 (hs90 : HS w0 F0 w89 F3 [(sb b86 #[(vi s12.2), (vi s41.2)] 27), es41_0, es12_0, (sb b4 (kRef x1) 27), (sb b1 (kSystem x0 (some ⟨b74, o75, none⟩) n0_0 a0_1 n0_1) 25)]) => ?_)
     refine Nss (Rg [0, 1, 2, 3, 4, 5, 6, 7, 8] ?_)
     refine V 38 25 (ld 25 3 b1 0 true 3 (.agg (kSystem x0 (some ⟨b74, o75, none⟩) n0_0 a0_1 n0_1)) (hs90.ownAt (k := 4) rfl) e47) ?_
     refine V 39 27 (ld 27 11 b86 0 true 2 (.agg #[(vi s12.2), (vi s41.2)]) (hs90.ownAt (k := 0) rfl)) ?_
     obtain ⟨r91, hr92, h93⟩ := bind_some h85
     refine Cl 40 39 21 #[(.tmp 38), (.tmp 39)] #[25, 27] co_clocks_Interval hs90 (c_clocks_Interval N w89 F3 hs90.pers (x0) (some ⟨b74, o75, none⟩) n0_0 hb0_0 (SlA.mono hs0_0 (le15.trans le44)) a0_1 n0_1 hb0_1 (SlA.mono hs0_1 (le15.trans le44)) (({ Log := s12.2, Line := s41.2 } : Ref)) _ hr92) ?_
     intro v94 F5 w95 hs96 le97 hp98
     obtain rfl := hp98
     refine V 37 39 (mv 40 (.tuple #[(.agg (kSpan r91.1)), (vi r91.2)])) ?_
     refine V 41 38 (ex 37 0 (.agg (kSpan r91.1)) (vs := #[(.agg (kSpan r91.1)), (vi r91.2)])) ?_
     refine V 42 30 (ex 37 1 (vi r91.2) (vs := #[(.agg (kSpan r91.1)), (vi r91.2)])) ?_
     refine Al 12 0 38 #[(vi 0), (vi 0)] hs96 (fun b99 w100 (hs101 : HS w0 F0 w100 F5 [(sb b99 #[(vi 0), (vi 0)] 38), (sb b86 #[(vi s12.2), (vi s41.2)] 27), es41_0, es12_0, (sb b4 (kRef x1) 27), (sb b1 (kSystem x0 (some ⟨b74, o75, none⟩) n0_0 a0_1 n0_1) 25)]) => ?_)
     refine RWP.store (ty := 0) (g := none) (by kernel_rfl) rfl (x := (.tmp 12)) (y := (.tmp 41)) (t := 38) (gg := true) (s := 2) (v := (.agg (kSpan r91.1))) (b := b99) (o := 0) (C := #[(vi 0), (vi 0)]) rfl rfl (by kernel_rfl) hs101 (k := 0) rfl rfl rfl rfl (C' := (kSpan r91.1)) rfl (fun w102 (hs103 : HS w0 F0 w102 F5 [(sb b99 (kSpan r91.1) 38), (sb b86 #[(vi s12.2), (vi s41.2)] 27), es41_0, es12_0, (sb b4 (kRef x1) 27), (sb b1 (kSystem x0 (some ⟨b74, o75, none⟩) n0_0 a0_1 n0_1) 25)]) => ?_)
     refine V 13 30 (ma 42 (vi r91.2)) ?_
     refine Nss (Rg [0, 1, 2, 3, 4, 5, 6, 7, 8, 9] ?_)
     refine V 44 25 (ld 25 3 b1 0 true 3 (.agg (kSystem x0 (some ⟨b74, o75, none⟩) n0_0 a0_1 n0_1)) (hs103.ownAt (k := 5) rfl) e47) ?_
     refine V 45 27 (ld 27 4 b4 0 true 2 (.agg (kRef x1)) (hs103.ownAt (k := 4) rfl) e48) ?_
     refine V 46 27 (ld 27 11 b86 0 true 2 (.agg #[(vi s12.2), (vi s41.2)]) (hs103.ownAt (k := 1) rfl)) ?_
     obtain ⟨r104, hr105, h106⟩ := bind_some h93
     refine Cl 47 39 20 #[(.tmp 44), (.tmp 45), (.tmp 46)] #[25, 27, 27] co_clocks_Relation hs103 (c_clocks_Relation N w102 F5 hs103.pers (x0) (some ⟨b74, o75, none⟩) n0_0 hb0_0 (SlA.mono hs0_0 ((le15.trans le44).trans le97)) a0_1 n0_1 hb0_1 (SlA.mono hs0_1 ((le15.trans le44).trans le97)) (x1) (({ Log := s12.2, Line := s41.2 } : Ref)) _ hr105) ?_
     intro v107 F6 w108 hs109 le110 hp111
     obtain rfl := hp111
     refine V 43 39 (mv 47 (.tuple #[(.agg (kSpan r104.1)), (vi r104.2)])) ?_
     refine V 48 38 (ex 43 0 (.agg (kSpan r104.1)) (vs := #[(.agg (kSpan r104.1)), (vi r104.2)])) ?_
     refine V 49 30 (ex 43 1 (vi r104.2) (vs := #[(.agg (kSpan r104.1)), (vi r104.2)])) ?_
     refine Al 14 0 38 #[(vi 0), (vi 0)] hs109 (fun b112 w113 (hs114 : HS w0 F0 w113 F6 [(sb b112 #[(vi 0), (vi 0)] 38), (sb b99 (kSpan r91.1) 38), (sb b86 #[(vi s12.2), (vi s41.2)] 27), es41_0, es12_0, (sb b4 (kRef x1) 27), (sb b1 (kSystem x0 (some ⟨b74, o75, none⟩) n0_0 a0_1 n0_1) 25)]) => ?_)
     refine RWP.store (ty := 0) (g := none) (by kernel_rfl) rfl (x := (.tmp 14)) (y := (.tmp 48)) (t := 38) (gg := true) (s := 2) (v := (.agg (kSpan r104.1))) (b := b112) (o := 0) (C := #[(vi 0), (vi 0)]) rfl rfl (by kernel_rfl) hs114 (k := 0) rfl rfl rfl rfl (C' := (kSpan r104.1)) rfl (fun w115 (hs116 : HS w0 F0 w115 F6 [(sb b112 (kSpan r104.1) 38), (sb b99 (kSpan r91.1) 38), (sb b86 #[(vi s12.2), (vi s41.2)] 27), es41_0, es12_0, (sb b4 (kRef x1) 27), (sb b1 (kSystem x0 (some ⟨b74, o75, none⟩) n0_0 a0_1 n0_1) 25)]) => ?_)
     refine V 15 30 (ma 49 (vi r104.2)) ?_
     refine Nt ?_
     refine Rg [0, 1, 2, 3, 4, 5, 6, 7, 8, 9, 10] ?_
     refine V 50 50 (mv 9 (.slice as41_0 s41.1.length ns41_0) e51) ?_
     refine V 51 0 (fa 38 12 0 0 1 b99 0 0) ?_
     refine V 52 3 (ld 3 51 b99 0 false 1 (vi r91.1.Lo) (hs116.ownAt (k := 1) rfl)) ?_
     refine V 53 3 (mv 2 (vi x2) e46) ?_
     refine V 54 0 (fa 38 14 0 0 1 b112 0 0) ?_
     refine V 55 3 (ld 3 54 b112 0 false 1 (vi r104.1.Lo) (hs116.ownAt (k := 0) rfl)) ?_
     refine V 56 3 (run_add (t := 3) (t' := 3) (x := (.tmp 53)) (y := (.tmp 55)) (k := .i64) (a := x2) (b := r104.1.Lo) rfl rfl) ?_
     refine V 57 3 (run_max2 (x := (.tmp 52)) (y := (.tmp 56)) (ats := #[3, 3]) (a := r91.1.Lo) (b := (W64 (x2 + r104.1.Lo))) rfl rfl) ?_
     refine RWP.buildSlice (dst := (some 58)) (ty := 50) (g := none) (by kernel_rfl) rfl (t := 50) (len := 1) (parts := #[(0, (.tmp 57))]) (vs := [(0, (vi (max r91.1.Lo (W64 (x2 + r104.1.Lo)))))]) (rfl) (E := 3) (cs := [(vi (max r91.1.Lo (W64 (x2 + r104.1.Lo))))]) (by kernel_rfl) hs116 (fun b117 w118 (hs119 : HS w0 F0 w118 F6 [(some b117, .cells ([(vi (max r91.1.Lo (W64 (x2 + r104.1.Lo))))] : List Value).toArray 3 (0, 0)), (sb b112 (kSpan r104.1) 38), (sb b99 (kSpan r91.1) 38), (sb b86 #[(vi s12.2), (vi s41.2)] 27), es41_0, es12_0, (sb b4 (kRef x1) 27), (sb b1 (kSystem x0 (some ⟨b74, o75, none⟩) n0_0 a0_1 n0_1) 25)]) => ?_)
     have hr121 : RowR tInt 3 F6 (some ⟨b117, 0, none⟩) 1 [(max r91.1.Lo (W64 (x2 + r104.1.Lo)))] (some b117, .cells ([(vi (max r91.1.Lo (W64 (x2 + r104.1.Lo))))] : List Value).toArray 3 (0, 0)) := RowR.lit ⟨rfl, rfl⟩ (by simp)
     obtain ⟨r122, hap123, h124⟩ := bind_some h106
     refine RWP.append (dst := (some 59)) (ty := 50) (g := none) (by kernel_rfl) rfl (x := (.tmp 50)) (y := (.tmp 58)) (t := 50) (t2 := 50) (by_ := 8) (z := (vi 0)) (a2 := (some ⟨b117, 0, none⟩)) (c2 := 1) (m := [(max r91.1.Lo (W64 (x2 + r104.1.Lo)))]) (T := tInt) (E := 3) (a := as41_0) (cap := ns41_0) (l := s41.1) rfl rfl (by kernel_rfl) (by decide) (by kernel_rfl) (by kernel_rfl) rfl oInt hs119 (k := 4) rfl (hrs41_0.mono (le97.trans le110)) (RowR.rd hs119 (k := 0) rfl hr121) (r := r122) hap123 (fun a125 n126 e127 w128 (hs129 : HS w0 F0 w128 F6 [(some b117, .cells ([(vi (max r91.1.Lo (W64 (x2 + r104.1.Lo))))] : List Value).toArray 3 (0, 0)), (sb b112 (kSpan r104.1) 38), (sb b99 (kSpan r91.1) 38), (sb b86 #[(vi s12.2), (vi s41.2)] 27), e127, es12_0, (sb b4 (kRef x1) 27), (sb b1 (kSystem x0 (some ⟨b74, o75, none⟩) n0_0 a0_1 n0_1) 25)]) hr130 => ?_)
     refine V 9 50 (ma 59 (.slice a125 r122.length n126)) ?_
     refine RWP.nil ?_
     refine blockQ_nrm ?_
     refine thenQ_nrm ?_
     refine Rg [0, 1, 2] ?_
     refine V 32 3 (mv 10 (vi s41.2) e52) ?_
     refine V 33 3 (run_add (t := 3) (t' := 3) (x := (.tmp 32)) (y := (.const (vi 1))) (k := .i64) (a := s41.2) (b := 1) rfl rfl) ?_
     refine V 10 3 (ma 33 (vi (W64 (s41.2 + 1)))) ?_
     refine RWP.nil ?_
     have hs131 : HS w0 F0 w128 F6 [(sb b112 (kSpan r104.1) 38), (sb b99 (kSpan r91.1) 38), (sb b86 #[(vi s12.2), (vi s41.2)] 27), e127, es12_0, (sb b4 (kRef x1) 27), (sb b1 (kSystem x0 (some ⟨b74, o75, none⟩) n0_0 a0_1 n0_1) 25)] := hs129.drop 0
     have hs132 : HS w0 F0 w128 F6 [(sb b99 (kSpan r91.1) 38), (sb b86 #[(vi s12.2), (vi s41.2)] 27), e127, es12_0, (sb b4 (kRef x1) 27), (sb b1 (kSystem x0 (some ⟨b74, o75, none⟩) n0_0 a0_1 n0_1) 25)] := hs131.drop 0
     have hs133 : HS w0 F0 w128 F6 [(sb b86 #[(vi s12.2), (vi s41.2)] 27), e127, es12_0, (sb b4 (kRef x1) 27), (sb b1 (kSystem x0 (some ⟨b74, o75, none⟩) n0_0 a0_1 n0_1) 25)] := hs132.drop 0
     have hs134 : HS w0 F0 w128 F6 [e127, es12_0, (sb b4 (kRef x1) 27), (sb b1 (kSystem x0 (some ⟨b74, o75, none⟩) n0_0 a0_1 n0_1) 25)] := hs133.drop 0
     have hn135 := iter_next h124 hnx69
     exact ⟨m66, Nat.lt_succ_self _, (r122, (W64 (s41.2 + 1))), F6, a125, n126, e127, hn135, hs134, ((le44.trans le97).trans le110), e45, e46, e47, e48, e49, e50, rfl, rfl, hr130⟩
    ·have h136 := cond_f h73 hb84
     refine CWP.exit (by kernel_rfl) ?_
     refine thenQ_ex ?_
     refine thenQ_ex ?_
     refine blockQ_hit rfl ?_
     have ho137 := iter_done h136 hnx69
     exact .inl ⟨rfl, (s41.1, s41.2), F3, as41_0, ns41_0, es41_0, ho137, hs43, le44, e45, e46, e47, e48, e49, e50, e51, hrs41_0⟩
   ·rintro f w54 ⟨s53, F4, as53_0, ns53_0, es53_0, rfl, hs55, le56, e57, e58, e59, e60, e61, e62, e63, hrs53_0⟩
    have h138 := k_done h40
    refine thenQ_nrm ?_
    refine Rg [0, 1, 2, 3, 4] ?_
    refine V 60 71 (mv 7 (.slice as12_0 s12.1.length ns12_0) e61) ?_
    refine V 61 50 (mv 9 (.slice as53_0 s53.1.length ns53_0) e63) ?_
    have hb142 := RowR.bound hrs53_0
    obtain ⟨F7, hs139, le140, hs141⟩ : ∃ Fq, HS w0 F0 w54 Fq [es12_0, (sb b4 (kRef x1) 27), (sb b1 (kSystem x0 a0_0 n0_0 a0_1 n0_1) 25)] ∧ Mem.le F4 Fq ∧ SlA tInt Fq as53_0 s53.1 := HS.freezeRow hs55 (k := 0) rfl hrs53_0
    refine RWP.buildSlice (dst := (some 62)) (ty := 71) (g := none) (by kernel_rfl) rfl (t := 71) (len := 1) (parts := #[(0, (.tmp 61))]) (vs := [(0, (.slice as53_0 s53.1.length ns53_0))]) (rfl) (E := 50) (cs := [(.slice as53_0 s53.1.length ns53_0)]) (by kernel_rfl) hs139 (fun b143 w144 (hs145 : HS w0 F0 w144 F7 [(some b143, .cells ([(.slice as53_0 s53.1.length ns53_0)] : List Value).toArray 50 (0, 0)), es12_0, (sb b4 (kRef x1) 27), (sb b1 (kSystem x0 a0_0 n0_0 a0_1 n0_1) 25)]) => ?_)
    have hr147 : RowR (tSl tInt) 50 F7 (some ⟨b143, 0, none⟩) 1 [s53.1] (some b143, .cells ([(.slice as53_0 s53.1.length ns53_0)] : List Value).toArray 50 (0, 0)) := RowR.lit ⟨⟨as53_0, ns53_0, rfl, hb142, hs141⟩, rfl⟩ (by simp)
    obtain ⟨r148, hap149, h150⟩ := bind_some h138
    refine RWP.append (dst := (some 63)) (ty := 71) (g := none) (by kernel_rfl) rfl (x := (.tmp 60)) (y := (.tmp 62)) (t := 71) (t2 := 71) (by_ := 24) (z := (.slice none ([] : List Int).length 0)) (a2 := (some ⟨b143, 0, none⟩)) (c2 := 1) (m := [s53.1]) (T := (tSl tInt)) (E := 50) (a := as12_0) (cap := ns12_0) (l := s12.1) rfl rfl (by kernel_rfl) (by decide) (by kernel_rfl) (by kernel_rfl) rfl oSl hs145 (k := 1) rfl (hrs12_0.mono (le56.trans le140)) (RowR.rd hs145 (k := 0) rfl hr147) (r := r148) hap149 (fun a151 n152 e153 w154 (hs155 : HS w0 F0 w154 F7 [(some b143, .cells ([(.slice as53_0 s53.1.length ns53_0)] : List Value).toArray 50 (0, 0)), e153, (sb b4 (kRef x1) 27), (sb b1 (kSystem x0 a0_0 n0_0 a0_1 n0_1) 25)]) hr156 => ?_)
    refine V 7 71 (ma 63 (.slice a151 r148.length n152)) ?_
    refine RWP.nil ?_
    refine blockQ_nrm ?_
    refine thenQ_nrm ?_
    refine Rg [0, 1, 2] ?_
    refine V 21 3 (mv 8 (vi s12.2) e62) ?_
    refine V 22 3 (run_add (t := 3) (t' := 3) (x := (.tmp 21)) (y := (.const (vi 1))) (k := .i64) (a := s12.2) (b := 1) rfl rfl) ?_
    refine V 8 3 (ma 22 (vi (W64 (s12.2 + 1)))) ?_
    refine RWP.nil ?_
    have hs157 : HS w0 F0 w154 F7 [e153, (sb b4 (kRef x1) 27), (sb b1 (kSystem x0 a0_0 n0_0 a0_1 n0_1) 25)] := hs155.drop 0
    have hn158 := iter_next h150 hnx33
    exact ⟨m30, Nat.lt_succ_self _, (r148, (W64 (s12.2 + 1))), F7, a151, n152, e153, hn158, hs157, ((le15.trans le56).trans le140), e57, e58, e59, e60, rfl, rfl, hr156⟩
  ·have h159 := cond_f hb32 hb34
   refine CWP.exit (by kernel_rfl) ?_
   refine thenQ_ex ?_
   refine thenQ_ex ?_
   refine blockQ_hit rfl ?_
   have hs160 : HS w0 F0 w13 F1 [es12_0, (sb b1 (kSystem x0 a0_0 n0_0 a0_1 n0_1) 25)] := hs14.drop 1
   have hs161 : HS w0 F0 w13 F1 [es12_0] := hs160.drop 1
   have ho162 := iter_done h159 hnx33
   exact .inl ⟨rfl, (s12.1, s12.2), F1, as12_0, ns12_0, es12_0, ho162, hs161, le15, e16, e20, hrs12_0⟩
 ·rintro f w23 ⟨s22, F2, as22_0, ns22_0, es22_0, rfl, hs24, le25, e26, e27, hrs22_0⟩
  have h163 := k_done h11
  refine thenQ_nrm ?_
  refine Sq (Rg [0, 1] ?_)
  refine V 64 71 (mv 7 (.slice as22_0 s22.1.length ns22_0) e27) ?_
  refine V 6 71 (ma 64 (.slice as22_0 s22.1.length ns22_0)) ?_
  refine Nt ?_
  refine CWP.ret (by kernel_rfl) ?_
  have hb167 := RowR.bound hrs22_0
  obtain ⟨F8, hs164, le165, hs166⟩ : ∃ Fq, HS w0 F0 w23 Fq [] ∧ Mem.le F2 Fq ∧ SlA (tSl tInt) Fq as22_0 s22.1 := HS.freezeRow hs24 (k := 0) rfl hrs22_0
  have hfin := some_inj h163
  subst hfin
  exact ⟨e26, (.slice as22_0 s22.1.length ns22_0), res_of (l := [.tmp 6]) (by kernel_rfl) (vs := [(.slice as22_0 s22.1.length ns22_0)]) ⟨rfl, trivial⟩, (.slice as22_0 s22.1.length ns22_0), F8, rfl, hs164.clear, ⟨as22_0, ns22_0, rfl, hb167, hs166⟩⟩
end Go.Proofs.Ythbcnabeabcmlaa
namespace Go.Proofs.Ythbcnabeabcmlaa
open Go.Proofs
def law03_ClocksExact_L1 (N : Nat) (x0 : System) (x1 : (List (List Int))) (x2 : Ref) (x3 : Int) (r7 : Bool) (j18 : (Bool)) (r42 : ((List (List Span)) × Int)) (r71 : ((List (List Int)) × Int)) (r79 : ((List (List Int)) × Int)) (r87 : (Bool × Int)) (r95 : (Bool × Int)) (r103 : (Bool × Int)) (s138 : Int) (j176 : (Bool)) : Int → Option (Flow Bool Int) := fun s225 =>
 ((idx r42.1 s138).bind fun x262 => (bif (decide (s225 < (x262.length : Int))) then ((idx x0.Tracks s138).bind fun x278 => ((idx x278.Times s225).bind fun x292 => ((idx x0.Tracks s138).bind fun x306 => ((bif r103.1 then (bif (decide (s138 ≥ (x1.length : Int))) then some true else ((idx x1 s138).bind fun x338 => (bif (decide (s225 ≥ (x338.length : Int))) then some true else (bif (decide (s138 ≥ (r71.1.length : Int))) then some true else ((idx r71.1 s138).bind fun x358 => (bif (decide (s225 ≥ (x358.length : Int))) then some true else (bif (decide (s138 ≥ (r79.1.length : Int))) then some true else ((idx r79.1 s138).bind fun x378 => some (decide (s225 ≥ (x378.length : Int))))))))))) else (bif (decide (s138 ≥ (r71.1.length : Int))) then some true else ((idx r71.1 s138).bind fun x396 => (bif (decide (s225 ≥ (x396.length : Int))) then some true else (bif (decide (s138 ≥ (r79.1.length : Int))) then some true else ((idx r79.1 s138).bind fun x416 => some (decide (s225 ≥ (x416.length : Int))))))))).bind fun j315 => (bif j315 then some (.ret false) else (((idx r42.1 s138).bind fun x454 => ((idx x454 s225).bind fun x460 => ((idx r71.1 s138).bind fun x474 => ((idx x474 s225).bind fun x488 => ((idx r79.1 s138).bind fun x502 => ((idx x502 s225).bind fun x516 => (bif (!((x460.Lo == x488) && ((x460.Hi == x516) && true))) then some true else ((idx r42.1 s138).bind fun x533 => ((idx x533 s225).bind fun x539 => (bif (decide (x539.Lo < (W64 (x292 - x306.Clock.Slip)))) then some true else ((idx r42.1 s138).bind fun x556 => ((idx x556 s225).bind fun x562 => (bif (decide (x562.Hi > (W64 (x292 + x306.Clock.Slip)))) then some true else (bif r103.1 then ((idx x1 s138).bind fun x581 => ((idx x581 s225).bind fun x595 => ((idx r42.1 s138).bind fun x609 => ((idx x609 s225).bind fun x615 => ((law03_inside N x595 x615).bind fun r629 => some (!r629)))))) else some false)))))))))))))).bind fun j438 => (bif j438 then some (.ret false) else some (.next (W64 (s225 + 1)))))))))) else some (.done s225)))
def law03_ClocksExact_L0 (N : Nat) (x0 : System) (x1 : (List (List Int))) (x2 : Ref) (x3 : Int) (r7 : Bool) (j18 : (Bool)) (r42 : ((List (List Span)) × Int)) (r71 : ((List (List Int)) × Int)) (r79 : ((List (List Int)) × Int)) (r87 : (Bool × Int)) (r95 : (Bool × Int)) (r103 : (Bool × Int)) : Int → Option (Flow Bool Int) := fun s138 =>
 (bif (decide (s138 < (r42.1.length : Int))) then (((idx r42.1 s138).bind fun x191 => ((idx x0.Tracks s138).bind fun x205 => some ((x191.length : Int) != (x205.Times.length : Int)))).bind fun j176 => (bif j176 then some (.ret false) else ((iter (law03_ClocksExact_L1 N x0 x1 x2 x3 r7 j18 r42 r71 r79 r87 r95 r103 s138 j176) N 0).bind fun o => o.k (fun r => some (.ret r)) (fun s241 => some (.next (W64 (s138 + 1))))))) else some (.done s138))
def law03_ClocksExact (N : Nat) (x0 : System) (x1 : (List (List Int))) (x2 : Ref) (x3 : Int) : Option Bool :=
 ((law03_awake N ).bind fun r7 => (((law03_few N x0).bind fun r28 => (bif (!r28) then some true else some (decide ((x1.length : Int) > 100)))).bind fun j18 => (bif j18 then some r7 else ((clocks_Times N x0).bind fun r42 => (bif (r42.2 != 0) then ((clocks_Keeps N x0 x1).bind fun r52 => some (r7 && (!r52.1))) else ((clocks_Earliest N x0).bind fun r71 => ((clocks_Latest N x0).bind fun r79 => ((clocks_Keeps N x0 r71.1).bind fun r87 => ((clocks_Keeps N x0 r79.1).bind fun r95 => ((clocks_Keeps N x0 x1).bind fun r103 => (bif ((r71.2 != 0) || ((r79.2 != 0) || ((r87.2 != 0) || ((r95.2 != 0) || ((r103.2 != 0) || ((!r87.1) || ((!r95.1) || ((r42.1.length : Int) != (x0.Tracks.length : Int))))))))) then some false else ((iter (law03_ClocksExact_L0 N x0 x1 x2 x3 r7 j18 r42 r71 r79 r87 r95 r103) N 0).bind fun o => o.k (fun r => some r) (fun s153 => ((clocks_Interval N x0 x2).bind fun r649 => (bif (r649.2 != 0) then some (r7 && (r649.2 == 3)) else (((law03_through N x0 x2 (min r649.1.Hi (max r649.1.Lo x3))).bind fun r692 => ((clocks_Keeps N x0 r692).bind fun r700 => some (r700.1, r700.2))).bind fun j682 => ((bif r7 then ((idx r42.1 x2.Log).bind fun x721 => ((idx x721 x2.Line).bind fun x735 => (bif ((r649.1.Lo == x735.Lo) && ((r649.1.Hi == x735.Hi) && true)) then (bif (j682.2 == 0) then some j682.1 else some false) else some false))) else some false).bind fun j714 => some j714)))))))))))))))))
set_option maxHeartbeats 4000000 in
set_option maxRecDepth 100000 in
theorem c_law03_ClocksExact (N : Nat) (w0 : World) (F0 : Mem) (hF : ∀ b o, F0 b = some o → w0.heap[b]? = some o) (x0 : System) (a0_0 : Option Addr) (n0_0 : Nat) (hb0_0 : LC x0.Tracks.length n0_0) (hs0_0 : SlA tTrack F0 a0_0 x0.Tracks) (a0_1 : Option Addr) (n0_1 : Nat) (hb0_1 : LC x0.Ties.length n0_1) (hs0_1 : SlA tTie F0 a0_1 x0.Ties) (x1 : (List (List Int))) (a1_0 : Option Addr) (n1_0 : Nat) (hb1_0 : LC x1.length n1_0) (hs1_0 : SlA (tSl tInt) F0 a1_0 x1) (x2 : Ref) (x3 : Int) (r : Bool) (h : law03_ClocksExact N x0 x1 x2 x3 = some r) :
  Calls Try.prog 11 ([(.agg (kSystem x0 a0_0 n0_0 a0_1 n0_1)), (.slice a1_0 x1.length n1_0), (.agg (kRef x2)), (vi x3)] : List Value).toArray w0 (FRet w0 F0 fun F' v => v = (.bool r)) := by
 have hs0 := HS.start hF
 refine calls_of (n := 334) (c := bodyOf Try.f11) Try.func11 (by kernel_rfl) (by kernel_rfl) (by kernel_rfl) ?_
 refine Sq (Rg [0, 1, 2] ?_)
 refine Bx 4 0 0 25 (kSystem x0 a0_0 n0_0 a0_1 n0_1) hs0 (fun b1 w2 (hs3 : HS w0 F0 w2 F0 [(sb b1 (kSystem x0 a0_0 n0_0 a0_1 n0_1) 25)]) => ?_)
 refine Bx 6 0 2 27 (kRef x2) hs3 (fun b4 w5 (hs6 : HS w0 F0 w5 F0 [(sb b4 (kRef x2) 27), (sb b1 (kSystem x0 a0_0 n0_0 a0_1 n0_1) 25)]) => ?_)
 refine V 8 4 (mc (.bool false) (.bool false)) ?_
 refine Nss (Rg [0, 1] ?_)
 obtain ⟨r7, hr8, h9⟩ := bind_some h
 refine Cl 32 4 15 #[] #[] co_law03_awake hs6 (c_law03_awake N w5 F0 hs6.pers  _ hr8) ?_
 intro v10 F1 w11 hs12 le13 hp14
 obtain rfl := hp14
 refine V 9 4 (ma 32 (.bool r7)) ?_
 refine Nss ?_
 refine Sq (Rg [0, 1, 2, 3, 4, 5, 6, 7] ?_)
 obtain ⟨j18, hj26, h27⟩ := bind_some h9
 refine RWP.cut (fun f w => ∃ (F2 : Mem), HS w0 F0 w F2 [(sb b4 (kRef x2) 27), (sb b1 (kSystem x0 a0_0 n0_0 a0_1 n0_1) 25)] ∧ Mem.le F1 F2 ∧ f.d = [] ∧ f 1 = (.slice a1_0 x1.length n1_0) ∧ f 3 = (vi x3) ∧ f 4 = (.pointer (some ⟨b1, 0, none⟩)) ∧ f 6 = (.pointer (some ⟨b4, 0, none⟩)) ∧ f 9 = (.bool r7) ∧ f 40 = (.bool j18)) ?_ ?_
 ·refine V 33 25 (ld 25 4 b1 0 true 3 (.agg (kSystem x0 a0_0 n0_0 a0_1 n0_1)) (hs12.ownAt (k := 1) rfl)) ?_
  obtain ⟨r28, hr29, h30⟩ := bind_some hj26
  refine Cl 34 4 16 #[(.tmp 33)] #[25] co_law03_few hs12 (c_law03_few N w11 F1 hs12.pers (x0) a0_0 n0_0 hb0_0 (SlA.mono hs0_0 le13) a0_1 n0_1 hb0_1 (SlA.mono hs0_1 le13) _ hr29) ?_
  intro v31 F3 w32 hs33 le34 hp35
  obtain rfl := hp35
  refine V 35 4 (run_not (t := 4) (x := (.tmp 34)) (a := r28) rfl) ?_
  refine V 36 4 (mv 35 (.bool (!r28))) ?_
  refine RWP.split (!r28) (fun hb36 => ?_) (fun hb36 => ?_)
  ·have h37 := cond_t h30 hb36
   refine Sk [37, 38, 39] 3 false 36 hb36 ?_
   refine V 40 4 (p1 36 (.const (.bool true)) (.tmp 39) (.bool true) hb36) ?_
   obtain rfl := some_inj h37
   exact RWP.nil ⟨rfl, F3, hs33, le34, rfl, rfl, rfl, rfl, rfl, rfl, rfl⟩
  ·have h38 := cond_f h30 hb36
   refine Vg 37 71 3 false 36 hb36 (mv 1 (.slice a1_0 x1.length n1_0)) ?_
   refine Vg 38 3 3 false 36 hb36 (ln 37 71 a1_0 x1.length n1_0 50 1 24) ?_
   refine Vg 39 4 3 false 36 hb36 (run_gtr (t := 3) (t' := 3) (x := (.tmp 38)) (y := (.const (vi 100))) (k := .i64) (a := (x1.length : Int)) (b := 100) rfl rfl) ?_
   refine V 40 4 (p0 36 (.const (.bool true)) (.tmp 39) (.bool (decide ((x1.length : Int) > 100))) hb36) ?_
   obtain rfl := some_inj h38
   exact RWP.nil ⟨rfl, F3, hs33, le34, rfl, rfl, rfl, rfl, rfl, rfl, rfl⟩
 ·rintro f w15 ⟨F2, hs16, le17, e19, e20, e21, e22, e23, e24, e25⟩
  refine thenQ_nrm ?_
  refine CWP.cond (t := j18) (by kernel_rfl) e25 (fun hb39 => ?_) (fun hb39 => ?_)
  ·have h40 := cond_t h27 hb39
   refine Sq (Rg [0, 1] ?_)
   refine V 41 4 (mv 9 (.bool r7) e24) ?_
   refine V 8 4 (ma 41 (.bool r7)) ?_
   refine Nt ?_
   refine CWP.ret (by kernel_rfl) ?_
   refine thenQ_ret ?_
   have hfin := some_inj h40
   subst hfin
   exact ⟨e19, (.bool r7), res_of (l := [.tmp 8]) (by kernel_rfl) (vs := [(.bool r7)]) ⟨rfl, trivial⟩, (.bool r7), F2, rfl, hs16.clear, rfl⟩
  ·have h41 := cond_f h27 hb39
   refine Sc ?_
   refine thenQ_nrm ?_
   refine Sq (Rg [0, 1, 2, 3, 4, 5, 6] ?_)
   refine V 43 25 (ld 25 4 b1 0 true 3 (.agg (kSystem x0 a0_0 n0_0 a0_1 n0_1)) (hs16.ownAt (k := 1) rfl) e22) ?_
   obtain ⟨r42, hr43, h44⟩ := bind_some h41
   refine Cl 44 34 19 #[(.tmp 43)] #[25] co_clocks_Times hs16 (c_clocks_Times N w15 F2 hs16.pers (x0) a0_0 n0_0 hb0_0 (SlA.mono hs0_0 (le13.trans le17)) a0_1 n0_1 hb0_1 (SlA.mono hs0_1 (le13.trans le17)) _ hr43) ?_
   intro v45 F4 w46 hs47 le48 hp49
   obtain ⟨ar42_0_0, nr42_0_0, rfl, hbr42_0_0, hsr42_0_0⟩ := hp49
   refine V 42 34 (mv 44 (.tuple #[(.slice ar42_0_0 r42.1.length nr42_0_0), (vi r42.2)])) ?_
   refine V 45 33 (ex 42 0 (.slice ar42_0_0 r42.1.length nr42_0_0) (vs := #[(.slice ar42_0_0 r42.1.length nr42_0_0), (vi r42.2)])) ?_
   refine V 46 30 (ex 42 1 (vi r42.2) (vs := #[(.slice ar42_0_0 r42.1.length nr42_0_0), (vi r42.2)])) ?_
   refine V 10 33 (ma 45 (.slice ar42_0_0 r42.1.length nr42_0_0)) ?_
   refine V 11 30 (ma 46 (vi r42.2)) ?_
   refine Nss ?_
   refine Sq (Rg [0, 1] ?_)
   refine V 47 30 (mv 11 (vi r42.2)) ?_
   refine V 48 4 (run_neq (t := 30) (t' := 30) (x := (.tmp 47)) (y := (.const (vi 0))) (k := .i64) (a := r42.2) (b := 0) rfl rfl) ?_
   refine Nt ?_
   refine CWP.cond (t := (r42.2 != 0)) (by kernel_rfl) rfl (fun hb50 => ?_) (fun hb50 => ?_)
   ·have h51 := cond_t h44 hb50
    refine Sq (Rg [0, 1, 2, 3, 4, 5, 6, 7] ?_)
    refine V 50 25 (ld 25 4 b1 0 true 3 (.agg (kSystem x0 a0_0 n0_0 a0_1 n0_1)) (hs47.ownAt (k := 1) rfl) e22) ?_
    refine V 51 71 (mv 1 (.slice a1_0 x1.length n1_0) e20) ?_
    obtain ⟨r52, hr53, h54⟩ := bind_some h51
    refine Cl 52 43 55 #[(.tmp 50), (.tmp 51)] #[25, 71] co_clocks_Keeps hs47 (c_clocks_Keeps N w46 F4 hs47.pers (x0) a0_0 n0_0 hb0_0 (SlA.mono hs0_0 ((le13.trans le17).trans le48)) a0_1 n0_1 hb0_1 (SlA.mono hs0_1 ((le13.trans le17).trans le48)) (x1) a1_0 n1_0 hb1_0 (SlA.mono hs1_0 ((le13.trans le17).trans le48)) _ hr53) ?_
    intro v55 F5 w56 hs57 le58 hp59
    obtain rfl := hp59
    refine V 49 43 (mv 52 (.tuple #[(.bool r52.1), (vi r52.2)])) ?_
    refine V 53 4 (ex 49 0 (.bool r52.1) (vs := #[(.bool r52.1), (vi r52.2)])) ?_
    refine V 54 30 (ex 49 1 (vi r52.2) (vs := #[(.bool r52.1), (vi r52.2)])) ?_
    refine V 12 4 (ma 53 (.bool r52.1)) ?_
    refine V 13 30 (ma 54 (vi r52.2)) ?_
    refine Nss (Rg [0, 1, 2, 3, 4, 5] ?_)
    refine RWP.cut (fun f w => ∃ (F6 : Mem), HS w0 F0 w F6 [] ∧ Mem.le F5 F6 ∧ f.d = [] ∧ f 8 = (.bool (r7 && (!r52.1)))) ?_ ?_
    ·refine V 55 4 (mv 9 (.bool r7) e24) ?_
     refine V 56 4 (mv 55 (.bool r7)) ?_
     refine RWP.split r7 (fun hb65 => ?_) (fun hb65 => ?_)
     ·refine Vg 57 4 1 true 56 hb65 (mv 12 (.bool r52.1)) ?_
      refine Vg 58 4 1 true 56 hb65 (run_not (t := 4) (x := (.tmp 57)) (a := r52.1) rfl) ?_
      refine V 59 4 (p1 56 (.tmp 58) (.const (.bool false)) (.bool (!r52.1)) hb65) ?_
      refine V 8 4 (ma 59 (.bool (!r52.1))) ?_
      have hs66 : HS w0 F0 w56 F5 [(sb b1 (kSystem x0 a0_0 n0_0 a0_1 n0_1) 25)] := hs57.drop 0
      have hs67 : HS w0 F0 w56 F5 [] := hs66.drop 0
      exact RWP.nil ⟨rfl, F5, hs67, (Mem.le.refl _), e19, (congrArg Value.bool (and_t hb65 (rfl)))⟩
     ·refine Sk [57, 58] 1 true 56 hb65 ?_
      refine V 59 4 (p0 56 (.tmp 58) (.const (.bool false)) (.bool false) hb65) ?_
      refine V 8 4 (ma 59 (.bool false)) ?_
      have hs68 : HS w0 F0 w56 F5 [(sb b1 (kSystem x0 a0_0 n0_0 a0_1 n0_1) 25)] := hs57.drop 0
      have hs69 : HS w0 F0 w56 F5 [] := hs68.drop 0
      exact RWP.nil ⟨rfl, F5, hs69, (Mem.le.refl _), e19, (congrArg Value.bool (and_f hb65 (rfl)))⟩
    ·rintro f w60 ⟨F6, hs61, le62, e63, e64⟩
     refine thenQ_nrm ?_
     refine CWP.ret (by kernel_rfl) ?_
     refine thenQ_ret ?_
     have hfin := some_inj h54
     subst hfin
     exact ⟨e63, (.bool (r7 && (!r52.1))), res_of (l := [.tmp 8]) (by kernel_rfl) (vs := [(.bool (r7 && (!r52.1)))]) ⟨e64, trivial⟩, (.bool (r7 && (!r52.1))), F6, rfl, hs61.clear, rfl⟩
   ·have h70 := cond_f h44 hb50
    refine Sc ?_
    refine thenQ_nrm ?_
    refine Sq (Rg [0, 1, 2, 3, 4, 5, 6] ?_)
    refine V 61 25 (ld 25 4 b1 0 true 3 (.agg (kSystem x0 a0_0 n0_0 a0_1 n0_1)) (hs47.ownAt (k := 1) rfl) e22) ?_
    obtain ⟨r71, hr72, h73⟩ := bind_some h70
    refine Cl 62 72 48 #[(.tmp 61)] #[25] co_clocks_Earliest hs47 (c_clocks_Earliest N w46 F4 hs47.pers (x0) a0_0 n0_0 hb0_0 (SlA.mono hs0_0 ((le13.trans le17).trans le48)) a0_1 n0_1 hb0_1 (SlA.mono hs0_1 ((le13.trans le17).trans le48)) _ hr72) ?_
    intro v74 F7 w75 hs76 le77 hp78
    obtain ⟨ar71_0_0, nr71_0_0, rfl, hbr71_0_0, hsr71_0_0⟩ := hp78
    refine V 60 72 (mv 62 (.tuple #[(.slice ar71_0_0 r71.1.length nr71_0_0), (vi r71.2)])) ?_
    refine V 63 71 (ex 60 0 (.slice ar71_0_0 r71.1.length nr71_0_0) (vs := #[(.slice ar71_0_0 r71.1.length nr71_0_0), (vi r71.2)])) ?_
    refine V 64 30 (ex 60 1 (vi r71.2) (vs := #[(.slice ar71_0_0 r71.1.length nr71_0_0), (vi r71.2)])) ?_
    refine V 14 71 (ma 63 (.slice ar71_0_0 r71.1.length nr71_0_0)) ?_
    refine V 15 30 (ma 64 (vi r71.2)) ?_
    refine Nss (Rg [0, 1, 2, 3, 4, 5, 6] ?_)
    refine V 66 25 (ld 25 4 b1 0 true 3 (.agg (kSystem x0 a0_0 n0_0 a0_1 n0_1)) (hs76.ownAt (k := 1) rfl) e22) ?_
    obtain ⟨r79, hr80, h81⟩ := bind_some h73
    refine Cl 67 72 50 #[(.tmp 66)] #[25] co_clocks_Latest hs76 (c_clocks_Latest N w75 F7 hs76.pers (x0) a0_0 n0_0 hb0_0 (SlA.mono hs0_0 (((le13.trans le17).trans le48).trans le77)) a0_1 n0_1 hb0_1 (SlA.mono hs0_1 (((le13.trans le17).trans le48).trans le77)) _ hr80) ?_
    intro v82 F8 w83 hs84 le85 hp86
    obtain ⟨ar79_0_0, nr79_0_0, rfl, hbr79_0_0, hsr79_0_0⟩ := hp86
    refine V 65 72 (mv 67 (.tuple #[(.slice ar79_0_0 r79.1.length nr79_0_0), (vi r79.2)])) ?_
    refine V 68 71 (ex 65 0 (.slice ar79_0_0 r79.1.length nr79_0_0) (vs := #[(.slice ar79_0_0 r79.1.length nr79_0_0), (vi r79.2)])) ?_
    refine V 69 30 (ex 65 1 (vi r79.2) (vs := #[(.slice ar79_0_0 r79.1.length nr79_0_0), (vi r79.2)])) ?_
    refine V 16 71 (ma 68 (.slice ar79_0_0 r79.1.length nr79_0_0)) ?_
    refine V 17 30 (ma 69 (vi r79.2)) ?_
    refine Nss (Rg [0, 1, 2, 3, 4, 5, 6, 7] ?_)
    refine V 71 25 (ld 25 4 b1 0 true 3 (.agg (kSystem x0 a0_0 n0_0 a0_1 n0_1)) (hs84.ownAt (k := 1) rfl) e22) ?_
    refine V 72 71 (mv 14 (.slice ar71_0_0 r71.1.length nr71_0_0)) ?_
    obtain ⟨r87, hr88, h89⟩ := bind_some h81
    refine Cl 73 43 55 #[(.tmp 71), (.tmp 72)] #[25, 71] co_clocks_Keeps hs84 (c_clocks_Keeps N w83 F8 hs84.pers (x0) a0_0 n0_0 hb0_0 (SlA.mono hs0_0 ((((le13.trans le17).trans le48).trans le77).trans le85)) a0_1 n0_1 hb0_1 (SlA.mono hs0_1 ((((le13.trans le17).trans le48).trans le77).trans le85)) (r71.1) ar71_0_0 nr71_0_0 hbr71_0_0 (SlA.mono hsr71_0_0 le85) _ hr88) ?_
    intro v90 F9 w91 hs92 le93 hp94
    obtain rfl := hp94
    refine V 70 43 (mv 73 (.tuple #[(.bool r87.1), (vi r87.2)])) ?_
    refine V 74 4 (ex 70 0 (.bool r87.1) (vs := #[(.bool r87.1), (vi r87.2)])) ?_
    refine V 75 30 (ex 70 1 (vi r87.2) (vs := #[(.bool r87.1), (vi r87.2)])) ?_
    refine V 18 4 (ma 74 (.bool r87.1)) ?_
    refine V 19 30 (ma 75 (vi r87.2)) ?_
    refine Nss (Rg [0, 1, 2, 3, 4, 5, 6, 7] ?_)
    refine V 77 25 (ld 25 4 b1 0 true 3 (.agg (kSystem x0 a0_0 n0_0 a0_1 n0_1)) (hs92.ownAt (k := 1) rfl) e22) ?_
    refine V 78 71 (mv 16 (.slice ar79_0_0 r79.1.length nr79_0_0)) ?_
    obtain ⟨r95, hr96, h97⟩ := bind_some h89
    refine Cl 79 43 55 #[(.tmp 77), (.tmp 78)] #[25, 71] co_clocks_Keeps hs92 (c_clocks_Keeps N w91 F9 hs92.pers (x0) a0_0 n0_0 hb0_0 (SlA.mono hs0_0 (((((le13.trans le17).trans le48).trans le77).trans le85).trans le93)) a0_1 n0_1 hb0_1 (SlA.mono hs0_1 (((((le13.trans le17).trans le48).trans le77).trans le85).trans le93)) (r79.1) ar79_0_0 nr79_0_0 hbr79_0_0 (SlA.mono hsr79_0_0 le93) _ hr96) ?_
    intro v98 F10 w99 hs100 le101 hp102
    obtain rfl := hp102
    refine V 76 43 (mv 79 (.tuple #[(.bool r95.1), (vi r95.2)])) ?_
    refine V 80 4 (ex 76 0 (.bool r95.1) (vs := #[(.bool r95.1), (vi r95.2)])) ?_
    refine V 81 30 (ex 76 1 (vi r95.2) (vs := #[(.bool r95.1), (vi r95.2)])) ?_
    refine V 20 4 (ma 80 (.bool r95.1)) ?_
    refine V 21 30 (ma 81 (vi r95.2)) ?_
    refine Nss (Rg [0, 1, 2, 3, 4, 5, 6, 7] ?_)
    refine V 83 25 (ld 25 4 b1 0 true 3 (.agg (kSystem x0 a0_0 n0_0 a0_1 n0_1)) (hs100.ownAt (k := 1) rfl) e22) ?_
    refine V 84 71 (mv 1 (.slice a1_0 x1.length n1_0) e20) ?_
    obtain ⟨r103, hr104, h105⟩ := bind_some h97
    refine Cl 85 43 55 #[(.tmp 83), (.tmp 84)] #[25, 71] co_clocks_Keeps hs100 (c_clocks_Keeps N w99 F10 hs100.pers (x0) a0_0 n0_0 hb0_0 (SlA.mono hs0_0 ((((((le13.trans le17).trans le48).trans le77).trans le85).trans le93).trans le101)) a0_1 n0_1 hb0_1 (SlA.mono hs0_1 ((((((le13.trans le17).trans le48).trans le77).trans le85).trans le93).trans le101)) (x1) a1_0 n1_0 hb1_0 (SlA.mono hs1_0 ((((((le13.trans le17).trans le48).trans le77).trans le85).trans le93).trans le101)) _ hr104) ?_
    intro v106 F11 w107 hs108 le109 hp110
    obtain rfl := hp110
    refine V 82 43 (mv 85 (.tuple #[(.bool r103.1), (vi r103.2)])) ?_
    refine V 86 4 (ex 82 0 (.bool r103.1) (vs := #[(.bool r103.1), (vi r103.2)])) ?_
    refine V 87 30 (ex 82 1 (vi r103.2) (vs := #[(.bool r103.1), (vi r103.2)])) ?_
    refine V 22 4 (ma 86 (.bool r103.1)) ?_
    refine V 23 30 (ma 87 (vi r103.2)) ?_
    refine Nss ?_
    refine Sq (Rg [0, 1, 2, 3, 4, 5, 6, 7, 8, 9, 10, 11, 12, 13, 14, 15, 16, 17, 18, 19, 20, 21, 22, 23, 24, 25, 26, 27, 28, 29, 30, 31, 32, 33] ?_)
    refine RWP.cut (fun f w => ∃ (F12 : Mem), HS w0 F0 w F12 [(sb b4 (kRef x2) 27), (sb b1 (kSystem x0 a0_0 n0_0 a0_1 n0_1) 25)] ∧ Mem.le F11 F12 ∧ f.d = [] ∧ f 1 = (.slice a1_0 x1.length n1_0) ∧ f 3 = (vi x3) ∧ f 4 = (.pointer (some ⟨b1, 0, none⟩)) ∧ f 6 = (.pointer (some ⟨b4, 0, none⟩)) ∧ f 9 = (.bool r7) ∧ f 10 = (.slice ar42_0_0 r42.1.length nr42_0_0) ∧ f 14 = (.slice ar71_0_0 r71.1.length nr71_0_0) ∧ f 16 = (.slice ar79_0_0 r79.1.length nr79_0_0) ∧ f 22 = (.bool r103.1) ∧ f 121 = (.bool ((r71.2 != 0) || ((r79.2 != 0) || ((r87.2 != 0) || ((r95.2 != 0) || ((r103.2 != 0) || ((!r87.1) || ((!r95.1) || ((r42.1.length : Int) != (x0.Tracks.length : Int))))))))))) ?_ ?_
    ·refine V 88 30 (mv 15 (vi r71.2)) ?_
     refine V 89 4 (run_neq (t := 30) (t' := 30) (x := (.tmp 88)) (y := (.const (vi 0))) (k := .i64) (a := r71.2) (b := 0) rfl rfl) ?_
     refine V 90 4 (mv 89 (.bool (r71.2 != 0))) ?_
     refine RWP.split (r71.2 != 0) (fun hb125 => ?_) (fun hb125 => ?_)
     ·refine Sk [91, 92] 2 false 90 hb125 ?_
      refine V 93 4 (p1 90 (.const (.bool true)) (.tmp 92) (.bool true) hb125) ?_
      refine V 94 4 (mv 93 (.bool true)) ?_
      refine Sk [95, 96] 6 false 94 rfl ?_
      refine V 97 4 (p1 94 (.const (.bool true)) (.tmp 96) (.bool true) rfl) ?_
      refine V 98 4 (mv 97 (.bool true)) ?_
      refine Sk [99, 100] 10 false 98 rfl ?_
      refine V 101 4 (p1 98 (.const (.bool true)) (.tmp 100) (.bool true) rfl) ?_
      refine V 102 4 (mv 101 (.bool true)) ?_
      refine Sk [103, 104] 14 false 102 rfl ?_
      refine V 105 4 (p1 102 (.const (.bool true)) (.tmp 104) (.bool true) rfl) ?_
      refine V 106 4 (mv 105 (.bool true)) ?_
      refine Sk [107, 108] 18 false 106 rfl ?_
      refine V 109 4 (p1 106 (.const (.bool true)) (.tmp 108) (.bool true) rfl) ?_
      refine V 110 4 (mv 109 (.bool true)) ?_
      refine Sk [111, 112] 22 false 110 rfl ?_
      refine V 113 4 (p1 110 (.const (.bool true)) (.tmp 112) (.bool true) rfl) ?_
      refine V 114 4 (mv 113 (.bool true)) ?_
      refine Sk [115, 116, 117, 118, 119, 120] 26 false 114 rfl ?_
      refine V 121 4 (p1 114 (.const (.bool true)) (.tmp 120) (.bool true) rfl) ?_
      exact RWP.nil ⟨rfl, F11, hs108, (Mem.le.refl _), e19, e20, e21, e22, e23, e24, rfl, rfl, rfl, rfl, (congrArg Value.bool (or_t hb125 (rfl)))⟩
     ·refine Vg 91 30 2 false 90 hb125 (mv 17 (vi r79.2)) ?_
      refine Vg 92 4 2 false 90 hb125 (run_neq (t := 30) (t' := 30) (x := (.tmp 91)) (y := (.const (vi 0))) (k := .i64) (a := r79.2) (b := 0) rfl rfl) ?_
      refine V 93 4 (p0 90 (.const (.bool true)) (.tmp 92) (.bool (r79.2 != 0)) hb125) ?_
      refine V 94 4 (mv 93 (.bool (r79.2 != 0))) ?_
      refine RWP.split (r79.2 != 0) (fun hb126 => ?_) (fun hb126 => ?_)
      ·refine Sk [95, 96] 6 false 94 hb126 ?_
       refine V 97 4 (p1 94 (.const (.bool true)) (.tmp 96) (.bool true) hb126) ?_
       refine V 98 4 (mv 97 (.bool true)) ?_
       refine Sk [99, 100] 10 false 98 rfl ?_
       refine V 101 4 (p1 98 (.const (.bool true)) (.tmp 100) (.bool true) rfl) ?_
       refine V 102 4 (mv 101 (.bool true)) ?_
       refine Sk [103, 104] 14 false 102 rfl ?_
       refine V 105 4 (p1 102 (.const (.bool true)) (.tmp 104) (.bool true) rfl) ?_
       refine V 106 4 (mv 105 (.bool true)) ?_
       refine Sk [107, 108] 18 false 106 rfl ?_
       refine V 109 4 (p1 106 (.const (.bool true)) (.tmp 108) (.bool true) rfl) ?_
       refine V 110 4 (mv 109 (.bool true)) ?_
       refine Sk [111, 112] 22 false 110 rfl ?_
       refine V 113 4 (p1 110 (.const (.bool true)) (.tmp 112) (.bool true) rfl) ?_
       refine V 114 4 (mv 113 (.bool true)) ?_
       refine Sk [115, 116, 117, 118, 119, 120] 26 false 114 rfl ?_
       refine V 121 4 (p1 114 (.const (.bool true)) (.tmp 120) (.bool true) rfl) ?_
       exact RWP.nil ⟨rfl, F11, hs108, (Mem.le.refl _), e19, e20, e21, e22, e23, e24, rfl, rfl, rfl, rfl, (congrArg Value.bool (or_f hb125 (or_t hb126 (rfl))))⟩
      ·refine Vg 95 30 6 false 94 hb126 (mv 19 (vi r87.2)) ?_
       refine Vg 96 4 6 false 94 hb126 (run_neq (t := 30) (t' := 30) (x := (.tmp 95)) (y := (.const (vi 0))) (k := .i64) (a := r87.2) (b := 0) rfl rfl) ?_
       refine V 97 4 (p0 94 (.const (.bool true)) (.tmp 96) (.bool (r87.2 != 0)) hb126) ?_
       refine V 98 4 (mv 97 (.bool (r87.2 != 0))) ?_
       refine RWP.split (r87.2 != 0) (fun hb127 => ?_) (fun hb127 => ?_)
       ·refine Sk [99, 100] 10 false 98 hb127 ?_
        refine V 101 4 (p1 98 (.const (.bool true)) (.tmp 100) (.bool true) hb127) ?_
        refine V 102 4 (mv 101 (.bool true)) ?_
        refine Sk [103, 104] 14 false 102 rfl ?_
        refine V 105 4 (p1 102 (.const (.bool true)) (.tmp 104) (.bool true) rfl) ?_
        refine V 106 4 (mv 105 (.bool true)) ?_
        refine Sk [107, 108] 18 false 106 rfl ?_
        refine V 109 4 (p1 106 (.const (.bool true)) (.tmp 108) (.bool true) rfl) ?_
        refine V 110 4 (mv 109 (.bool true)) ?_
        refine Sk [111, 112] 22 false 110 rfl ?_
        refine V 113 4 (p1 110 (.const (.bool true)) (.tmp 112) (.bool true) rfl) ?_
        refine V 114 4 (mv 113 (.bool true)) ?_
        refine Sk [115, 116, 117, 118, 119, 120] 26 false 114 rfl ?_
        refine V 121 4 (p1 114 (.const (.bool true)) (.tmp 120) (.bool true) rfl) ?_
        exact RWP.nil ⟨rfl, F11, hs108, (Mem.le.refl _), e19, e20, e21, e22, e23, e24, rfl, rfl, rfl, rfl, (congrArg Value.bool (or_f hb125 (or_f hb126 (or_t hb127 (rfl)))))⟩
       ·refine Vg 99 30 10 false 98 hb127 (mv 21 (vi r95.2)) ?_
        refine Vg 100 4 10 false 98 hb127 (run_neq (t := 30) (t' := 30) (x := (.tmp 99)) (y := (.const (vi 0))) (k := .i64) (a := r95.2) (b := 0) rfl rfl) ?_
        refine V 101 4 (p0 98 (.const (.bool true)) (.tmp 100) (.bool (r95.2 != 0)) hb127) ?_
        refine V 102 4 (mv 101 (.bool (r95.2 != 0))) ?_
        refine RWP.split (r95.2 != 0) (fun hb128 => ?_) (fun hb128 => ?_)
        ·refine Sk [103, 104] 14 false 102 hb128 ?_
         refine V 105 4 (p1 102 (.const (.bool true)) (.tmp 104) (.bool true) hb128) ?_
         refine V 106 4 (mv 105 (.bool true)) ?_
         refine Sk [107, 108] 18 false 106 rfl ?_
         refine V 109 4 (p1 106 (.const (.bool true)) (.tmp 108) (.bool true) rfl) ?_
         refine V 110 4 (mv 109 (.bool true)) ?_
         refine Sk [111, 112] 22 false 110 rfl ?_
         refine V 113 4 (p1 110 (.const (.bool true)) (.tmp 112) (.bool true) rfl) ?_
         refine V 114 4 (mv 113 (.bool true)) ?_
         refine Sk [115, 116, 117, 118, 119, 120] 26 false 114 rfl ?_
         refine V 121 4 (p1 114 (.const (.bool true)) (.tmp 120) (.bool true) rfl) ?_
         exact RWP.nil ⟨rfl, F11, hs108, (Mem.le.refl _), e19, e20, e21, e22, e23, e24, rfl, rfl, rfl, rfl, (congrArg Value.bool (or_f hb125 (or_f hb126 (or_f hb127 (or_t hb128 (rfl))))))⟩
        ·refine Vg 103 30 14 false 102 hb128 (mv 23 (vi r103.2)) ?_
         refine Vg 104 4 14 false 102 hb128 (run_neq (t := 30) (t' := 30) (x := (.tmp 103)) (y := (.const (vi 0))) (k := .i64) (a := r103.2) (b := 0) rfl rfl) ?_
         refine V 105 4 (p0 102 (.const (.bool true)) (.tmp 104) (.bool (r103.2 != 0)) hb128) ?_
         refine V 106 4 (mv 105 (.bool (r103.2 != 0))) ?_
         refine RWP.split (r103.2 != 0) (fun hb129 => ?_) (fun hb129 => ?_)
         ·refine Sk [107, 108] 18 false 106 hb129 ?_
          refine V 109 4 (p1 106 (.const (.bool true)) (.tmp 108) (.bool true) hb129) ?_
          refine V 110 4 (mv 109 (.bool true)) ?_
          refine Sk [111, 112] 22 false 110 rfl ?_
          refine V 113 4 (p1 110 (.const (.bool true)) (.tmp 112) (.bool true) rfl) ?_
          refine V 114 4 (mv 113 (.bool true)) ?_
          refine Sk [115, 116, 117, 118, 119, 120] 26 false 114 rfl ?_
          refine V 121 4 (p1 114 (.const (.bool true)) (.tmp 120) (.bool true) rfl) ?_
          exact RWP.nil ⟨rfl, F11, hs108, (Mem.le.refl _), e19, e20, e21, e22, e23, e24, rfl, rfl, rfl, rfl, (congrArg Value.bool (or_f hb125 (or_f hb126 (or_f hb127 (or_f hb128 (or_t hb129 (rfl)))))))⟩
         ·refine Vg 107 4 18 false 106 hb129 (mv 18 (.bool r87.1)) ?_
          refine Vg 108 4 18 false 106 hb129 (run_not (t := 4) (x := (.tmp 107)) (a := r87.1) rfl) ?_
          refine V 109 4 (p0 106 (.const (.bool true)) (.tmp 108) (.bool (!r87.1)) hb129) ?_
          refine V 110 4 (mv 109 (.bool (!r87.1))) ?_
          refine RWP.split (!r87.1) (fun hb130 => ?_) (fun hb130 => ?_)
          ·refine Sk [111, 112] 22 false 110 hb130 ?_
           refine V 113 4 (p1 110 (.const (.bool true)) (.tmp 112) (.bool true) hb130) ?_
           refine V 114 4 (mv 113 (.bool true)) ?_
           refine Sk [115, 116, 117, 118, 119, 120] 26 false 114 rfl ?_
           refine V 121 4 (p1 114 (.const (.bool true)) (.tmp 120) (.bool true) rfl) ?_
           exact RWP.nil ⟨rfl, F11, hs108, (Mem.le.refl _), e19, e20, e21, e22, e23, e24, rfl, rfl, rfl, rfl, (congrArg Value.bool (or_f hb125 (or_f hb126 (or_f hb127 (or_f hb128 (or_f hb129 (or_t hb130 (rfl))))))))⟩
          ·refine Vg 111 4 22 false 110 hb130 (mv 20 (.bool r95.1)) ?_
           refine Vg 112 4 22 false 110 hb130 (run_not (t := 4) (x := (.tmp 111)) (a := r95.1) rfl) ?_
           refine V 113 4 (p0 110 (.const (.bool true)) (.tmp 112) (.bool (!r95.1)) hb130) ?_
           refine V 114 4 (mv 113 (.bool (!r95.1))) ?_
           refine RWP.split (!r95.1) (fun hb131 => ?_) (fun hb131 => ?_)
           ·refine Sk [115, 116, 117, 118, 119, 120] 26 false 114 hb131 ?_
            refine V 121 4 (p1 114 (.const (.bool true)) (.tmp 120) (.bool true) hb131) ?_
            exact RWP.nil ⟨rfl, F11, hs108, (Mem.le.refl _), e19, e20, e21, e22, e23, e24, rfl, rfl, rfl, rfl, (congrArg Value.bool (or_f hb125 (or_f hb126 (or_f hb127 (or_f hb128 (or_f hb129 (or_f hb130 (or_t hb131 (rfl)))))))))⟩
           ·refine Vg 115 33 26 false 114 hb131 (mv 10 (.slice ar42_0_0 r42.1.length nr42_0_0)) ?_
            refine Vg 116 3 26 false 114 hb131 (ln 115 33 ar42_0_0 r42.1.length nr42_0_0 36 1 24) ?_
            refine Vg 117 0 26 false 114 hb131 (fa 25 4 0 0 1 b1 0 0 e22) ?_
            refine Vg 118 22 26 false 114 hb131 (ld 22 117 b1 0 false 1 (.slice a0_0 x0.Tracks.length n0_0) (hs108.ownAt (k := 1) rfl)) ?_
            refine Vg 119 3 26 false 114 hb131 (ln 118 22 a0_0 x0.Tracks.length n0_0 54 4 64) ?_
            refine Vg 120 4 26 false 114 hb131 (run_neq (t := 3) (t' := 3) (x := (.tmp 116)) (y := (.tmp 119)) (k := .i64) (a := (r42.1.length : Int)) (b := (x0.Tracks.length : Int)) rfl rfl) ?_
            refine V 121 4 (p0 114 (.const (.bool true)) (.tmp 120) (.bool ((r42.1.length : Int) != (x0.Tracks.length : Int))) hb131) ?_
            exact RWP.nil ⟨rfl, F11, hs108, (Mem.le.refl _), e19, e20, e21, e22, e23, e24, rfl, rfl, rfl, rfl, (congrArg Value.bool (or_f hb125 (or_f hb126 (or_f hb127 (or_f hb128 (or_f hb129 (or_f hb130 (or_f hb131 (rfl)))))))))⟩
    ·rintro f w111 ⟨F12, hs112, le113, e114, e115, e116, e117, e118, e119, e120, e121, e122, e123, e124⟩
     refine thenQ_nrm ?_
     refine CWP.cond (t := ((r71.2 != 0) || ((r79.2 != 0) || ((r87.2 != 0) || ((r95.2 != 0) || ((r103.2 != 0) || ((!r87.1) || ((!r95.1) || ((r42.1.length : Int) != (x0.Tracks.length : Int)))))))))) (by kernel_rfl) e124 (fun hb132 => ?_) (fun hb132 => ?_)
     ·have h133 := cond_t h105 hb132
      refine Sq (Rg [0] ?_)
      refine V 8 4 (mc (.bool false) (.bool false)) ?_
      refine Nt ?_
      refine CWP.ret (by kernel_rfl) ?_
      refine thenQ_ret ?_
      have hfin := some_inj h133
      subst hfin
      exact ⟨e114, (.bool false), res_of (l := [.tmp 8]) (by kernel_rfl) (vs := [(.bool false)]) ⟨rfl, trivial⟩, (.bool false), F12, rfl, hs112.clear, rfl⟩
     ·have h134 := cond_f h105 hb132
      refine Sc ?_
      refine thenQ_nrm ?_
      refine Sq ?_
      refine Sq (Rg [0] ?_)
      refine V 24 3 (mc (vi 0) (vi 0)) ?_
      refine Nt ?_
      obtain ⟨o135, ho136, h137⟩ := bind_some h134
      refine CWP.cut (fun f w => ∃ (s153 : Int) (F14 : Mem), o135 = .done s153 ∧ HS w0 F0 w F14 [(sb b4 (kRef x2) 27), (sb b1 (kSystem x0 a0_0 n0_0 a0_1 n0_1) 25)] ∧ Mem.le F12 F14 ∧ f.d = [] ∧ f 3 = (vi x3) ∧ f 4 = (.pointer (some ⟨b1, 0, none⟩)) ∧ f 6 = (.pointer (some ⟨b4, 0, none⟩)) ∧ f 9 = (.bool r7) ∧ f 10 = (.slice ar42_0_0 r42.1.length nr42_0_0)) ?_ ?_
      ·refine Bk ?_
       refine CWP.loop (by kernel_rfl) (fun m f w => ∃ (s138 : Int) (F13 : Mem), iter (law03_ClocksExact_L0 N x0 x1 x2 x3 r7 j18 r42 r71 r79 r87 r95 r103) m s138 = some o135 ∧ HS w0 F0 w F13 [(sb b4 (kRef x2) 27), (sb b1 (kSystem x0 a0_0 n0_0 a0_1 n0_1) 25)] ∧ Mem.le F12 F13 ∧ f.d = [] ∧ f 1 = (.slice a1_0 x1.length n1_0) ∧ f 3 = (vi x3) ∧ f 4 = (.pointer (some ⟨b1, 0, none⟩)) ∧ f 6 = (.pointer (some ⟨b4, 0, none⟩)) ∧ f 9 = (.bool r7) ∧ f 10 = (.slice ar42_0_0 r42.1.length nr42_0_0) ∧ f 14 = (.slice ar71_0_0 r71.1.length nr71_0_0) ∧ f 16 = (.slice ar79_0_0 r79.1.length nr79_0_0) ∧ f 22 = (.bool r103.1) ∧ f 24 = (vi s138)) N ⟨0, F12, ho136, hs112, (Mem.le.refl _), e114, e115, e116, e117, e118, e119, e120, e121, e122, e123, rfl⟩ ?_
       rintro m163 f w139 ⟨s138, F13, hit164, hs140, le141, e142, e143, e144, e145, e146, e147, e148, e149, e150, e151, e152⟩
       obtain ⟨m165, fl166, rfl, hb167, hnx168⟩ := iter_step hit164
       refine Sq ?_
       refine Sq (Rg [0, 1, 2, 3] ?_)
       refine V 122 3 (mv 24 (vi s138) e152) ?_
       refine V 123 33 (mv 10 (.slice ar42_0_0 r42.1.length nr42_0_0) e148) ?_
       refine V 124 3 (ln 123 33 ar42_0_0 r42.1.length nr42_0_0 36 1 24) ?_
       refine V 125 4 (run_lss (t := 3) (t' := 3) (x := (.tmp 122)) (y := (.tmp 124)) (k := .i64) (a := s138) (b := (r42.1.length : Int)) rfl rfl) ?_
       refine Nt ?_
       refine CWP.cond (t := (decide (s138 < (r42.1.length : Int)))) (by kernel_rfl) rfl (fun hb169 => ?_) (fun hb169 => ?_)
       ·have h170 := cond_t hb167 hb169
        refine Sc ?_
        refine thenQ_nrm ?_
        refine Sq ?_
        refine Bk ?_
        refine Sq ?_
        refine Sq ?_
        obtain ⟨j176, hj189, h190⟩ := bind_some h170
        refine CWP.regionD (by kernel_rfl) (by kernel_rfl) (by kernel_rfl) (by kernel_rfl) (z := 13) (F := F13) (Lc := [(sb b4 (kRef x2) 27), (sb b1 (kSystem x0 a0_0 n0_0 a0_1 n0_1) 25)]) (Lz := []) (l := [false, false, false, false, false, false, false, false, false, false, false, false, false]) (fuel := 13) (by kernel_rfl) (by kernel_rfl) hs140 (by simp) (by simp) (fun f w => ∃ (F15 : Mem), HS w0 F0 w F15 [(sb b4 (kRef x2) 27), (sb b1 (kSystem x0 a0_0 n0_0 a0_1 n0_1) 25)] ∧ Mem.le F13 F15 ∧ f.d = [] ∧ f 1 = (.slice a1_0 x1.length n1_0) ∧ f 3 = (vi x3) ∧ f 4 = (.pointer (some ⟨b1, 0, none⟩)) ∧ f 6 = (.pointer (some ⟨b4, 0, none⟩)) ∧ f 9 = (.bool r7) ∧ f 10 = (.slice ar42_0_0 r42.1.length nr42_0_0) ∧ f 14 = (.slice ar71_0_0 r71.1.length nr71_0_0) ∧ f 16 = (.slice ar79_0_0 r79.1.length nr79_0_0) ∧ f 22 = (.bool r103.1) ∧ f 24 = (vi s138) ∧ f 140 = (.bool j176)) (fun wd171 hw172 => ?_) ?_
        ·refine Dt 0 128 33 _ (fun _ hq => mv 10 (.slice ar42_0_0 r42.1.length nr42_0_0) e148) ?_
         refine Dt 1 129 3 _ (fun _ hq => mv 24 (vi s138) e152) ?_
         obtain ⟨x191, hx192, h194⟩ := bind_some hj189
         obtain ⟨hi193, hx192'⟩ := idx_spec hx192
         obtain ⟨b195, o196, C197, E198, fz199, rfl, hF201, hE202⟩ := SlA.open (SlA.mono hsr42_0_0 ((((((le77.trans le85).trans le93).trans le101).trans le109).trans le113).trans le141)) hx192'
         obtain ⟨ae203_0, ne203_0, hc204, hbe203_0, hse203_0⟩ := hE202 _ _ hx192'
         refine Dt 2 130 0 (.pointer (some ⟨b195, (o196 + (s138 : Int).toNat * 1), none⟩)) (fun _ hq => ix 33 128 129 b195 o196 36 1 24 hi193) ?_
         refine Dt 3 131 36 _ (fun _ hq => lx 36 130 0 1 false 1 (.slice ae203_0 x191.length ne203_0) (hq.1.1 _ _ hF201) hc204) ?_
         refine Dt 4 132 3 (vi (x191.length : Int)) (fun _ hq => ln 131 36 ae203_0 x191.length ne203_0 38 2 16) ?_
         refine Dt 5 133 0 (.pointer (some ⟨b1, 0, none⟩)) (fun _ hq => fa 25 4 0 0 1 b1 0 0 e145) ?_
         refine Dt 6 134 22 _ (fun _ hq => ld 22 133 b1 0 false 1 (.slice a0_0 x0.Tracks.length n0_0) (hq.1.2 1 _ _ rfl)) ?_
         refine Dt 7 135 3 _ (fun _ hq => mv 24 (vi s138) e152) ?_
         obtain ⟨x205, hx206, h208⟩ := bind_some h194
         obtain ⟨hi207, hx206'⟩ := idx_spec hx206
         obtain ⟨b209, o210, C211, E212, fz213, rfl, hF215, hE216⟩ := SlA.open (SlA.mono hs0_0 (((((((((le13.trans le17).trans le48).trans le77).trans le85).trans le93).trans le101).trans le109).trans le113).trans le141)) hx206'
         obtain ⟨ae217_2, ne217_2, ae217_3, ne217_3, hc218, hbe217_2, hse217_2, hbe217_3, hse217_3⟩ := hE216 _ _ hx206'
         refine Dt 8 136 0 (.pointer (some ⟨b209, (o210 + (s138 : Int).toNat * 4), none⟩)) (fun _ hq => ix 22 134 135 b209 o210 54 4 64 hi207) ?_
         refine Dt 9 137 0 (.pointer (some ⟨b209, ((o210 + (s138 : Int).toNat * 4) + 3), none⟩)) (fun _ hq => fa 54 136 1 3 1 b209 (o210 + (s138 : Int).toNat * 4) ((o210 + (s138 : Int).toNat * 4) + 3)) ?_
         refine Dt 10 138 50 _ (fun _ hq => lx 50 137 3 4 false 1 (.slice ae217_3 x205.Times.length ne217_3) (hq.1.1 _ _ hF215) hc218) ?_
         refine Dt 11 139 3 (vi (x205.Times.length : Int)) (fun _ hq => ln 138 50 ae217_3 x205.Times.length ne217_3 3 1 8) ?_
         refine Dt 12 140 4 (.bool ((x191.length : Int) != (x205.Times.length : Int))) (fun _ hq => run_neq (t := 3) (t' := 3) (x := (.tmp 132)) (y := (.tmp 139)) (k := .i64) (a := (x191.length : Int)) (b := (x205.Times.length : Int)) rfl rfl) ?_
         obtain rfl := some_inj h208
         exact DWP.done (by kernel_rfl) ⟨F13, hw172, (Mem.le.refl _), e142, e143, e144, e145, e146, e147, e148, e149, e150, e151, e152, rfl⟩
        ·rintro f w173 ⟨F15, hs174, le175, e177, e178, e179, e180, e181, e182, e183, e184, e185, e186, e187, e188⟩
         refine thenQ_nrm ?_
         refine CWP.cond (t := j176) (by kernel_rfl) e188 (fun hb219 => ?_) (fun hb219 => ?_)
         ·have h220 := cond_t h190 hb219
          refine Sq (Rg [0] ?_)
          refine V 8 4 (mc (.bool false) (.bool false)) ?_
          refine Nt ?_
          refine CWP.ret (by kernel_rfl) ?_
          refine thenQ_ret ?_
          refine blockQ_ret ?_
          refine thenQ_ret ?_
          refine thenQ_ret ?_
          refine blockQ_ret ?_
          have hret := iter_ret h220 hnx168
          subst hret
          refine .inr ?_
          refine thenQ_ret ?_
          have hfin := some_inj h137
          subst hfin
          exact ⟨e177, (.bool false), res_of (l := [.tmp 8]) (by kernel_rfl) (vs := [(.bool false)]) ⟨rfl, trivial⟩, (.bool false), F15, rfl, hs174.clear, rfl⟩
         ·have h221 := cond_f h190 hb219
          refine Sc ?_
          refine thenQ_nrm ?_
          refine Sq (Rg [0] ?_)
          refine V 25 3 (mc (vi 0) (vi 0)) ?_
          refine Nt ?_
          obtain ⟨o222, ho223, h224⟩ := bind_some h221
          refine CWP.cut (fun f w => ∃ (s241 : Int) (F17 : Mem), o222 = .done s241 ∧ HS w0 F0 w F17 [(sb b4 (kRef x2) 27), (sb b1 (kSystem x0 a0_0 n0_0 a0_1 n0_1) 25)] ∧ Mem.le F15 F17 ∧ f.d = [] ∧ f 1 = (.slice a1_0 x1.length n1_0) ∧ f 3 = (vi x3) ∧ f 4 = (.pointer (some ⟨b1, 0, none⟩)) ∧ f 6 = (.pointer (some ⟨b4, 0, none⟩)) ∧ f 9 = (.bool r7) ∧ f 10 = (.slice ar42_0_0 r42.1.length nr42_0_0) ∧ f 14 = (.slice ar71_0_0 r71.1.length nr71_0_0) ∧ f 16 = (.slice ar79_0_0 r79.1.length nr79_0_0) ∧ f 22 = (.bool r103.1) ∧ f 24 = (vi s138)) ?_ ?_
          ·refine Bk ?_
           refine CWP.loop (by kernel_rfl) (fun m f w => ∃ (s225 : Int) (F16 : Mem), iter (law03_ClocksExact_L1 N x0 x1 x2 x3 r7 j18 r42 r71 r79 r87 r95 r103 s138 j176) m s225 = some o222 ∧ HS w0 F0 w F16 [(sb b4 (kRef x2) 27), (sb b1 (kSystem x0 a0_0 n0_0 a0_1 n0_1) 25)] ∧ Mem.le F15 F16 ∧ f.d = [] ∧ f 1 = (.slice a1_0 x1.length n1_0) ∧ f 3 = (vi x3) ∧ f 4 = (.pointer (some ⟨b1, 0, none⟩)) ∧ f 6 = (.pointer (some ⟨b4, 0, none⟩)) ∧ f 9 = (.bool r7) ∧ f 10 = (.slice ar42_0_0 r42.1.length nr42_0_0) ∧ f 14 = (.slice ar71_0_0 r71.1.length nr71_0_0) ∧ f 16 = (.slice ar79_0_0 r79.1.length nr79_0_0) ∧ f 22 = (.bool r103.1) ∧ f 24 = (vi s138) ∧ f 25 = (vi s225)) N ⟨0, F15, ho223, hs174, (Mem.le.refl _), e177, e178, e179, e180, e181, e182, e183, e184, e185, e186, e187, rfl⟩ ?_
           rintro m256 f w226 ⟨s225, F16, hit257, hs227, le228, e229, e230, e231, e232, e233, e234, e235, e236, e237, e238, e239, e240⟩
           obtain ⟨m258, fl259, rfl, hb260, hnx261⟩ := iter_step hit257
           refine Sq ?_
           refine Sq (Rg [0, 1, 2, 3, 4, 5, 6] ?_)
           refine V 141 3 (mv 25 (vi s225) e240) ?_
           refine V 142 33 (mv 10 (.slice ar42_0_0 r42.1.length nr42_0_0) e235) ?_
           refine V 143 3 (mv 24 (vi s138) e239) ?_
           obtain ⟨x262, hx263, h265⟩ := bind_some hb260
           obtain ⟨hi264, hx263'⟩ := idx_spec hx263
           obtain ⟨b266, o267, C268, E269, fz270, rfl, hF272, hE273⟩ := SlA.open (SlA.mono hsr42_0_0 ((((((((le77.trans le85).trans le93).trans le101).trans le109).trans le113).trans le141).trans le175).trans le228)) hx263'
           obtain ⟨ae274_0, ne274_0, hc275, hbe274_0, hse274_0⟩ := hE273 _ _ hx263'
           refine V 144 0 (ix 33 142 143 b266 o267 36 1 24 hi264) ?_
           refine V 145 36 (lx 36 144 0 1 false 1 (.slice ae274_0 x262.length ne274_0) (hs227.pers _ _ hF272) hc275) ?_
           refine V 146 3 (ln 145 36 ae274_0 x262.length ne274_0 38 2 16) ?_
           refine V 147 4 (run_lss (t := 3) (t' := 3) (x := (.tmp 141)) (y := (.tmp 146)) (k := .i64) (a := s225) (b := (x262.length : Int)) rfl rfl) ?_
           refine Nt ?_
           refine CWP.cond (t := (decide (s225 < (x262.length : Int)))) (by kernel_rfl) rfl (fun hb276 => ?_) (fun hb276 => ?_)
           ·have h277 := cond_t h265 hb276
            refine Sc ?_
            refine thenQ_nrm ?_
            refine Sq ?_
            refine Bk ?_
            refine Sq (Rg [0, 1, 2, 3, 4, 5, 6, 7, 8, 9] ?_)
            refine V 150 0 (fa 25 4 0 0 1 b1 0 0 e232) ?_
            refine V 151 22 (ld 22 150 b1 0 false 1 (.slice a0_0 x0.Tracks.length n0_0) (hs227.ownAt (k := 1) rfl)) ?_
            refine V 152 3 (mv 24 (vi s138) e239) ?_
            obtain ⟨x278, hx279, h281⟩ := bind_some h277
            obtain ⟨hi280, hx279'⟩ := idx_spec hx279
            obtain ⟨b282, o283, C284, E285, fz286, rfl, hF288, hE289⟩ := SlA.open (SlA.mono hs0_0 (((((((((((le13.trans le17).trans le48).trans le77).trans le85).trans le93).trans le101).trans le109).trans le113).trans le141).trans le175).trans le228)) hx279'
            obtain ⟨ae290_2, ne290_2, ae290_3, ne290_3, hc291, hbe290_2, hse290_2, hbe290_3, hse290_3⟩ := hE289 _ _ hx279'
            refine V 153 0 (ix 22 151 152 b282 o283 54 4 64 hi280) ?_
            refine V 154 0 (fa 54 153 1 3 1 b282 (o283 + (s138 : Int).toNat * 4) ((o283 + (s138 : Int).toNat * 4) + 3)) ?_
            refine V 155 50 (lx 50 154 3 4 false 1 (.slice ae290_3 x278.Times.length ne290_3) (hs227.pers _ _ hF288) hc291) ?_
            refine V 156 3 (mv 25 (vi s225) e240) ?_
            obtain ⟨x292, hx293, h295⟩ := bind_some h281
            obtain ⟨hi294, hx293'⟩ := idx_spec hx293
            obtain ⟨b296, o297, C298, E299, fz300, rfl, hF302, hE303⟩ := SlA.open hse290_3 hx293'
            have hc305 := hE303 _ _ hx293'
            refine V 157 0 (ix 50 155 156 b296 o297 3 1 8 hi294) ?_
            refine V 158 3 (lx 3 157 0 1 false 1 (vi x292) (hs227.pers _ _ hF302) hc305) ?_
            refine V 26 3 (ma 158 (vi x292)) ?_
            refine Nss (Rg [0, 1, 2, 3, 4, 5, 6, 7] ?_)
            refine V 159 0 (fa 25 4 0 0 1 b1 0 0 e232) ?_
            refine V 160 22 (ld 22 159 b1 0 false 1 (.slice (some ⟨b282, o283, none⟩) x0.Tracks.length n0_0) (hs227.ownAt (k := 1) rfl)) ?_
            refine V 161 3 (mv 24 (vi s138) e239) ?_
            obtain ⟨x306, hx307, h309⟩ := bind_some h295
            obtain ⟨hi308, hx307'⟩ := idx_spec hx307
            obtain ⟨ae310_2, ne310_2, ae310_3, ne310_3, hc311, hbe310_2, hse310_2, hbe310_3, hse310_3⟩ := hE289 _ _ hx307'
            refine V 162 0 (ix 22 160 161 b282 o283 54 4 64 hi308) ?_
            refine V 163 0 (fa 54 162 0 0 3 b282 (o283 + (s138 : Int).toNat * 4) (o283 + (s138 : Int).toNat * 4)) ?_
            refine V 164 0 (fa 52 163 0 0 1 b282 (o283 + (s138 : Int).toNat * 4) (o283 + (s138 : Int).toNat * 4)) ?_
            refine V 165 3 (lx 3 164 0 4 false 1 (vi x306.Clock.Slip) (hs227.pers _ _ hF288) hc311) ?_
            refine V 27 3 (ma 165 (vi x306.Clock.Slip)) ?_
            refine Nss ?_
            refine Sq (Rg [0, 1, 2, 3, 4, 5, 6, 7, 8, 9, 10, 11, 12, 13, 14, 15, 16, 17, 18, 19, 20, 21, 22, 23, 24, 25, 26, 27, 28, 29, 30, 31, 32, 33, 34, 35, 36, 37, 38, 39, 40, 41, 42, 43, 44, 45] ?_)
            obtain ⟨j315, hj331, h332⟩ := bind_some h309
            refine RWP.cut (fun f w => ∃ (F18 : Mem), HS w0 F0 w F18 [(sb b4 (kRef x2) 27), (sb b1 (kSystem x0 (some ⟨b282, o283, none⟩) n0_0 a0_1 n0_1) 25)] ∧ Mem.le F16 F18 ∧ f.d = [] ∧ f 1 = (.slice a1_0 x1.length n1_0) ∧ f 3 = (vi x3) ∧ f 4 = (.pointer (some ⟨b1, 0, none⟩)) ∧ f 6 = (.pointer (some ⟨b4, 0, none⟩)) ∧ f 9 = (.bool r7) ∧ f 10 = (.slice (some ⟨b266, o267, none⟩) r42.1.length nr42_0_0) ∧ f 14 = (.slice ar71_0_0 r71.1.length nr71_0_0) ∧ f 16 = (.slice ar79_0_0 r79.1.length nr79_0_0) ∧ f 22 = (.bool r103.1) ∧ f 24 = (vi s138) ∧ f 25 = (vi s225) ∧ f 26 = (vi x292) ∧ f 27 = (vi x306.Clock.Slip) ∧ f 211 = (.bool j315)) ?_ ?_
            ·refine V 166 4 (mv 22 (.bool r103.1) e238) ?_
             refine V 167 4 (mv 166 (.bool r103.1)) ?_
             refine RWP.split r103.1 (fun hb333 => ?_) (fun hb333 => ?_)
             ·have h334 := cond_t hj331 hb333
              refine Vg 168 3 1 true 167 hb333 (mv 24 (vi s138) e239) ?_
              refine Vg 169 71 1 true 167 hb333 (mv 1 (.slice a1_0 x1.length n1_0) e230) ?_
              refine Vg 170 3 1 true 167 hb333 (ln 169 71 a1_0 x1.length n1_0 50 1 24) ?_
              refine Vg 171 4 1 true 167 hb333 (run_geq (t := 3) (t' := 3) (x := (.tmp 168)) (y := (.tmp 170)) (k := .i64) (a := s138) (b := (x1.length : Int)) rfl rfl) ?_
              refine Vg 172 4 1 true 167 hb333 (mv 171 (.bool (decide (s138 ≥ (x1.length : Int))))) ?_
              refine RWP.split (decide (s138 ≥ (x1.length : Int))) (fun hb335 => ?_) (fun hb335 => ?_)
              ·have h336 := cond_t h334 hb335
               refine Sk [173, 174, 175, 176, 177, 178, 179] 6 false 172 hb335 ?_
               refine Vg 180 4 1 true 167 hb333 (p1 172 (.const (.bool true)) (.tmp 179) (.bool true) hb335) ?_
               refine V 181 4 (p1 167 (.tmp 180) (.const (.bool false)) (.bool true) hb333) ?_
               refine V 182 4 (mv 181 (.bool true)) ?_
               refine Sk [183, 184, 185, 186] 16 false 182 rfl ?_
               refine V 187 4 (p1 182 (.const (.bool true)) (.tmp 186) (.bool true) rfl) ?_
               refine V 188 4 (mv 187 (.bool true)) ?_
               refine Sk [189, 190, 191, 192, 193, 194, 195] 22 false 188 rfl ?_
               refine V 196 4 (p1 188 (.const (.bool true)) (.tmp 195) (.bool true) rfl) ?_
               refine V 197 4 (mv 196 (.bool true)) ?_
               refine Sk [198, 199, 200, 201] 31 false 197 rfl ?_
               refine V 202 4 (p1 197 (.const (.bool true)) (.tmp 201) (.bool true) rfl) ?_
               refine V 203 4 (mv 202 (.bool true)) ?_
               refine Sk [204, 205, 206, 207, 208, 209, 210] 37 false 203 rfl ?_
               refine V 211 4 (p1 203 (.const (.bool true)) (.tmp 210) (.bool true) rfl) ?_
               obtain rfl := some_inj h336
               exact RWP.nil ⟨rfl, F16, hs227, (Mem.le.refl _), e229, e230, e231, e232, e233, e234, e235, e236, e237, e238, e239, e240, rfl, rfl, rfl⟩
              ·have h337 := cond_f h334 hb335
               refine Vg 173 3 6 false 172 hb335 (mv 25 (vi s225) e240) ?_
               refine Vg 174 71 6 false 172 hb335 (mv 1 (.slice a1_0 x1.length n1_0) e230) ?_
               refine Vg 175 3 6 false 172 hb335 (mv 24 (vi s138) e239) ?_
               obtain ⟨x338, hx339, h341⟩ := bind_some h337
               obtain ⟨hi340, hx339'⟩ := idx_spec hx339
               obtain ⟨b342, o343, C344, E345, fz346, rfl, hF348, hE349⟩ := SlA.open (SlA.mono hs1_0 (((((((((((le13.trans le17).trans le48).trans le77).trans le85).trans le93).trans le101).trans le109).trans le113).trans le141).trans le175).trans le228)) hx339'
               obtain ⟨ae350_0, ne350_0, hc351, hbe350_0, hse350_0⟩ := hE349 _ _ hx339'
               refine Vg 176 0 6 false 172 hb335 (ix 71 174 175 b342 o343 50 1 24 hi340) ?_
               refine Vg 177 50 6 false 172 hb335 (lx 50 176 0 1 false 1 (.slice ae350_0 x338.length ne350_0) (hs227.pers _ _ hF348) hc351) ?_
               refine Vg 178 3 6 false 172 hb335 (ln 177 50 ae350_0 x338.length ne350_0 3 1 8) ?_
               refine Vg 179 4 6 false 172 hb335 (run_geq (t := 3) (t' := 3) (x := (.tmp 173)) (y := (.tmp 178)) (k := .i64) (a := s225) (b := (x338.length : Int)) rfl rfl) ?_
               refine Vg 180 4 1 true 167 hb333 (p0 172 (.const (.bool true)) (.tmp 179) (.bool (decide (s225 ≥ (x338.length : Int)))) hb335) ?_
               refine V 181 4 (p1 167 (.tmp 180) (.const (.bool false)) (.bool (decide (s225 ≥ (x338.length : Int)))) hb333) ?_
               refine V 182 4 (mv 181 (.bool (decide (s225 ≥ (x338.length : Int))))) ?_
               refine RWP.split (decide (s225 ≥ (x338.length : Int))) (fun hb352 => ?_) (fun hb352 => ?_)
               ·have h353 := cond_t h341 hb352
                refine Sk [183, 184, 185, 186] 16 false 182 hb352 ?_
                refine V 187 4 (p1 182 (.const (.bool true)) (.tmp 186) (.bool true) hb352) ?_
                refine V 188 4 (mv 187 (.bool true)) ?_
                refine Sk [189, 190, 191, 192, 193, 194, 195] 22 false 188 rfl ?_
                refine V 196 4 (p1 188 (.const (.bool true)) (.tmp 195) (.bool true) rfl) ?_
                refine V 197 4 (mv 196 (.bool true)) ?_
                refine Sk [198, 199, 200, 201] 31 false 197 rfl ?_
                refine V 202 4 (p1 197 (.const (.bool true)) (.tmp 201) (.bool true) rfl) ?_
                refine V 203 4 (mv 202 (.bool true)) ?_
                refine Sk [204, 205, 206, 207, 208, 209, 210] 37 false 203 rfl ?_
                refine V 211 4 (p1 203 (.const (.bool true)) (.tmp 210) (.bool true) rfl) ?_
                obtain rfl := some_inj h353
                exact RWP.nil ⟨rfl, F16, hs227, (Mem.le.refl _), e229, e230, e231, e232, e233, e234, e235, e236, e237, e238, e239, e240, rfl, rfl, rfl⟩
               ·have h354 := cond_f h341 hb352
                refine Vg 183 3 16 false 182 hb352 (mv 24 (vi s138) e239) ?_
                refine Vg 184 71 16 false 182 hb352 (mv 14 (.slice ar71_0_0 r71.1.length nr71_0_0) e236) ?_
                refine Vg 185 3 16 false 182 hb352 (ln 184 71 ar71_0_0 r71.1.length nr71_0_0 50 1 24) ?_
                refine Vg 186 4 16 false 182 hb352 (run_geq (t := 3) (t' := 3) (x := (.tmp 183)) (y := (.tmp 185)) (k := .i64) (a := s138) (b := (r71.1.length : Int)) rfl rfl) ?_
                refine V 187 4 (p0 182 (.const (.bool true)) (.tmp 186) (.bool (decide (s138 ≥ (r71.1.length : Int)))) hb352) ?_
                refine V 188 4 (mv 187 (.bool (decide (s138 ≥ (r71.1.length : Int))))) ?_
                refine RWP.split (decide (s138 ≥ (r71.1.length : Int))) (fun hb355 => ?_) (fun hb355 => ?_)
                ·have h356 := cond_t h354 hb355
                 refine Sk [189, 190, 191, 192, 193, 194, 195] 22 false 188 hb355 ?_
                 refine V 196 4 (p1 188 (.const (.bool true)) (.tmp 195) (.bool true) hb355) ?_
                 refine V 197 4 (mv 196 (.bool true)) ?_
                 refine Sk [198, 199, 200, 201] 31 false 197 rfl ?_
                 refine V 202 4 (p1 197 (.const (.bool true)) (.tmp 201) (.bool true) rfl) ?_
                 refine V 203 4 (mv 202 (.bool true)) ?_
                 refine Sk [204, 205, 206, 207, 208, 209, 210] 37 false 203 rfl ?_
                 refine V 211 4 (p1 203 (.const (.bool true)) (.tmp 210) (.bool true) rfl) ?_
                 obtain rfl := some_inj h356
                 exact RWP.nil ⟨rfl, F16, hs227, (Mem.le.refl _), e229, e230, e231, e232, e233, e234, e235, e236, e237, e238, e239, e240, rfl, rfl, rfl⟩
                ·have h357 := cond_f h354 hb355
                 refine Vg 189 3 22 false 188 hb355 (mv 25 (vi s225) e240) ?_
                 refine Vg 190 71 22 false 188 hb355 (mv 14 (.slice ar71_0_0 r71.1.length nr71_0_0) e236) ?_
                 refine Vg 191 3 22 false 188 hb355 (mv 24 (vi s138) e239) ?_
                 obtain ⟨x358, hx359, h361⟩ := bind_some h357
                 obtain ⟨hi360, hx359'⟩ := idx_spec hx359
                 obtain ⟨b362, o363, C364, E365, fz366, rfl, hF368, hE369⟩ := SlA.open (SlA.mono hsr71_0_0 (((((((le85.trans le93).trans le101).trans le109).trans le113).trans le141).trans le175).trans le228)) hx359'
                 obtain ⟨ae370_0, ne370_0, hc371, hbe370_0, hse370_0⟩ := hE369 _ _ hx359'
                 refine Vg 192 0 22 false 188 hb355 (ix 71 190 191 b362 o363 50 1 24 hi360) ?_
                 refine Vg 193 50 22 false 188 hb355 (lx 50 192 0 1 false 1 (.slice ae370_0 x358.length ne370_0) (hs227.pers _ _ hF368) hc371) ?_
                 refine Vg 194 3 22 false 188 hb355 (ln 193 50 ae370_0 x358.length ne370_0 3 1 8) ?_
                 refine Vg 195 4 22 false 188 hb355 (run_geq (t := 3) (t' := 3) (x := (.tmp 189)) (y := (.tmp 194)) (k := .i64) (a := s225) (b := (x358.length : Int)) rfl rfl) ?_
                 refine V 196 4 (p0 188 (.const (.bool true)) (.tmp 195) (.bool (decide (s225 ≥ (x358.length : Int)))) hb355) ?_
                 refine V 197 4 (mv 196 (.bool (decide (s225 ≥ (x358.length : Int))))) ?_
                 refine RWP.split (decide (s225 ≥ (x358.length : Int))) (fun hb372 => ?_) (fun hb372 => ?_)
                 ·have h373 := cond_t h361 hb372
                  refine Sk [198, 199, 200, 201] 31 false 197 hb372 ?_
                  refine V 202 4 (p1 197 (.const (.bool true)) (.tmp 201) (.bool true) hb372) ?_
                  refine V 203 4 (mv 202 (.bool true)) ?_
                  refine Sk [204, 205, 206, 207, 208, 209, 210] 37 false 203 rfl ?_
                  refine V 211 4 (p1 203 (.const (.bool true)) (.tmp 210) (.bool true) rfl) ?_
                  obtain rfl := some_inj h373
                  exact RWP.nil ⟨rfl, F16, hs227, (Mem.le.refl _), e229, e230, e231, e232, e233, e234, e235, e236, e237, e238, e239, e240, rfl, rfl, rfl⟩
                 ·have h374 := cond_f h361 hb372
                  refine Vg 198 3 31 false 197 hb372 (mv 24 (vi s138) e239) ?_
                  refine Vg 199 71 31 false 197 hb372 (mv 16 (.slice ar79_0_0 r79.1.length nr79_0_0) e237) ?_
                  refine Vg 200 3 31 false 197 hb372 (ln 199 71 ar79_0_0 r79.1.length nr79_0_0 50 1 24) ?_
                  refine Vg 201 4 31 false 197 hb372 (run_geq (t := 3) (t' := 3) (x := (.tmp 198)) (y := (.tmp 200)) (k := .i64) (a := s138) (b := (r79.1.length : Int)) rfl rfl) ?_
                  refine V 202 4 (p0 197 (.const (.bool true)) (.tmp 201) (.bool (decide (s138 ≥ (r79.1.length : Int)))) hb372) ?_
                  refine V 203 4 (mv 202 (.bool (decide (s138 ≥ (r79.1.length : Int))))) ?_
                  refine RWP.split (decide (s138 ≥ (r79.1.length : Int))) (fun hb375 => ?_) (fun hb375 => ?_)
                  ·have h376 := cond_t h374 hb375
                   refine Sk [204, 205, 206, 207, 208, 209, 210] 37 false 203 hb375 ?_
                   refine V 211 4 (p1 203 (.const (.bool true)) (.tmp 210) (.bool true) hb375) ?_
                   obtain rfl := some_inj h376
                   exact RWP.nil ⟨rfl, F16, hs227, (Mem.le.refl _), e229, e230, e231, e232, e233, e234, e235, e236, e237, e238, e239, e240, rfl, rfl, rfl⟩
                  ·have h377 := cond_f h374 hb375
                   refine Vg 204 3 37 false 203 hb375 (mv 25 (vi s225) e240) ?_
                   refine Vg 205 71 37 false 203 hb375 (mv 16 (.slice ar79_0_0 r79.1.length nr79_0_0) e237) ?_
                   refine Vg 206 3 37 false 203 hb375 (mv 24 (vi s138) e239) ?_
                   obtain ⟨x378, hx379, h381⟩ := bind_some h377
                   obtain ⟨hi380, hx379'⟩ := idx_spec hx379
                   obtain ⟨b382, o383, C384, E385, fz386, rfl, hF388, hE389⟩ := SlA.open (SlA.mono hsr79_0_0 ((((((le93.trans le101).trans le109).trans le113).trans le141).trans le175).trans le228)) hx379'
                   obtain ⟨ae390_0, ne390_0, hc391, hbe390_0, hse390_0⟩ := hE389 _ _ hx379'
                   refine Vg 207 0 37 false 203 hb375 (ix 71 205 206 b382 o383 50 1 24 hi380) ?_
                   refine Vg 208 50 37 false 203 hb375 (lx 50 207 0 1 false 1 (.slice ae390_0 x378.length ne390_0) (hs227.pers _ _ hF388) hc391) ?_
                   refine Vg 209 3 37 false 203 hb375 (ln 208 50 ae390_0 x378.length ne390_0 3 1 8) ?_
                   refine Vg 210 4 37 false 203 hb375 (run_geq (t := 3) (t' := 3) (x := (.tmp 204)) (y := (.tmp 209)) (k := .i64) (a := s225) (b := (x378.length : Int)) rfl rfl) ?_
                   refine V 211 4 (p0 203 (.const (.bool true)) (.tmp 210) (.bool (decide (s225 ≥ (x378.length : Int)))) hb375) ?_
                   obtain rfl := some_inj h381
                   exact RWP.nil ⟨rfl, F16, hs227, (Mem.le.refl _), e229, e230, e231, e232, e233, e234, e235, e236, e237, e238, e239, e240, rfl, rfl, rfl⟩
             ·have h392 := cond_f hj331 hb333
              refine Sk [168, 169, 170, 171, 172] 1 true 167 hb333 ?_
              refine Su [173, 174, 175, 176, 177, 178, 179] 6 false 172 ?_
              refine Sk [180] 1 true 167 hb333 ?_
              refine V 181 4 (p0 167 (.tmp 180) (.const (.bool false)) (.bool false) hb333) ?_
              refine V 182 4 (mv 181 (.bool false)) ?_
              refine Vg 183 3 16 false 182 rfl (mv 24 (vi s138) e239) ?_
              refine Vg 184 71 16 false 182 rfl (mv 14 (.slice ar71_0_0 r71.1.length nr71_0_0) e236) ?_
              refine Vg 185 3 16 false 182 rfl (ln 184 71 ar71_0_0 r71.1.length nr71_0_0 50 1 24) ?_
              refine Vg 186 4 16 false 182 rfl (run_geq (t := 3) (t' := 3) (x := (.tmp 183)) (y := (.tmp 185)) (k := .i64) (a := s138) (b := (r71.1.length : Int)) rfl rfl) ?_
              refine V 187 4 (p0 182 (.const (.bool true)) (.tmp 186) (.bool (decide (s138 ≥ (r71.1.length : Int)))) rfl) ?_
              refine V 188 4 (mv 187 (.bool (decide (s138 ≥ (r71.1.length : Int))))) ?_
              refine RWP.split (decide (s138 ≥ (r71.1.length : Int))) (fun hb393 => ?_) (fun hb393 => ?_)
              ·have h394 := cond_t h392 hb393
               refine Sk [189, 190, 191, 192, 193, 194, 195] 22 false 188 hb393 ?_
               refine V 196 4 (p1 188 (.const (.bool true)) (.tmp 195) (.bool true) hb393) ?_
               refine V 197 4 (mv 196 (.bool true)) ?_
               refine Sk [198, 199, 200, 201] 31 false 197 rfl ?_
               refine V 202 4 (p1 197 (.const (.bool true)) (.tmp 201) (.bool true) rfl) ?_
               refine V 203 4 (mv 202 (.bool true)) ?_
               refine Sk [204, 205, 206, 207, 208, 209, 210] 37 false 203 rfl ?_
               refine V 211 4 (p1 203 (.const (.bool true)) (.tmp 210) (.bool true) rfl) ?_
               obtain rfl := some_inj h394
               exact RWP.nil ⟨rfl, F16, hs227, (Mem.le.refl _), e229, e230, e231, e232, e233, e234, e235, e236, e237, e238, e239, e240, rfl, rfl, rfl⟩
              ·have h395 := cond_f h392 hb393
               refine Vg 189 3 22 false 188 hb393 (mv 25 (vi s225) e240) ?_
               refine Vg 190 71 22 false 188 hb393 (mv 14 (.slice ar71_0_0 r71.1.length nr71_0_0) e236) ?_
               refine Vg 191 3 22 false 188 hb393 (mv 24 (vi s138) e239) ?_
               obtain ⟨x396, hx397, h399⟩ := bind_some h395
               obtain ⟨hi398, hx397'⟩ := idx_spec hx397
               obtain ⟨b400, o401, C402, E403, fz404, rfl, hF406, hE407⟩ := SlA.open (SlA.mono hsr71_0_0 (((((((le85.trans le93).trans le101).trans le109).trans le113).trans le141).trans le175).trans le228)) hx397'
               obtain ⟨ae408_0, ne408_0, hc409, hbe408_0, hse408_0⟩ := hE407 _ _ hx397'
               refine Vg 192 0 22 false 188 hb393 (ix 71 190 191 b400 o401 50 1 24 hi398) ?_
               refine Vg 193 50 22 false 188 hb393 (lx 50 192 0 1 false 1 (.slice ae408_0 x396.length ne408_0) (hs227.pers _ _ hF406) hc409) ?_
               refine Vg 194 3 22 false 188 hb393 (ln 193 50 ae408_0 x396.length ne408_0 3 1 8) ?_
               refine Vg 195 4 22 false 188 hb393 (run_geq (t := 3) (t' := 3) (x := (.tmp 189)) (y := (.tmp 194)) (k := .i64) (a := s225) (b := (x396.length : Int)) rfl rfl) ?_
               refine V 196 4 (p0 188 (.const (.bool true)) (.tmp 195) (.bool (decide (s225 ≥ (x396.length : Int)))) hb393) ?_
               refine V 197 4 (mv 196 (.bool (decide (s225 ≥ (x396.length : Int))))) ?_
               refine RWP.split (decide (s225 ≥ (x396.length : Int))) (fun hb410 => ?_) (fun hb410 => ?_)
               ·have h411 := cond_t h399 hb410
                refine Sk [198, 199, 200, 201] 31 false 197 hb410 ?_
                refine V 202 4 (p1 197 (.const (.bool true)) (.tmp 201) (.bool true) hb410) ?_
                refine V 203 4 (mv 202 (.bool true)) ?_
                refine Sk [204, 205, 206, 207, 208, 209, 210] 37 false 203 rfl ?_
                refine V 211 4 (p1 203 (.const (.bool true)) (.tmp 210) (.bool true) rfl) ?_
                obtain rfl := some_inj h411
                exact RWP.nil ⟨rfl, F16, hs227, (Mem.le.refl _), e229, e230, e231, e232, e233, e234, e235, e236, e237, e238, e239, e240, rfl, rfl, rfl⟩
               ·have h412 := cond_f h399 hb410
                refine Vg 198 3 31 false 197 hb410 (mv 24 (vi s138) e239) ?_
                refine Vg 199 71 31 false 197 hb410 (mv 16 (.slice ar79_0_0 r79.1.length nr79_0_0) e237) ?_
                refine Vg 200 3 31 false 197 hb410 (ln 199 71 ar79_0_0 r79.1.length nr79_0_0 50 1 24) ?_
                refine Vg 201 4 31 false 197 hb410 (run_geq (t := 3) (t' := 3) (x := (.tmp 198)) (y := (.tmp 200)) (k := .i64) (a := s138) (b := (r79.1.length : Int)) rfl rfl) ?_
                refine V 202 4 (p0 197 (.const (.bool true)) (.tmp 201) (.bool (decide (s138 ≥ (r79.1.length : Int)))) hb410) ?_
                refine V 203 4 (mv 202 (.bool (decide (s138 ≥ (r79.1.length : Int))))) ?_
                refine RWP.split (decide (s138 ≥ (r79.1.length : Int))) (fun hb413 => ?_) (fun hb413 => ?_)
                ·have h414 := cond_t h412 hb413
                 refine Sk [204, 205, 206, 207, 208, 209, 210] 37 false 203 hb413 ?_
                 refine V 211 4 (p1 203 (.const (.bool true)) (.tmp 210) (.bool true) hb413) ?_
                 obtain rfl := some_inj h414
                 exact RWP.nil ⟨rfl, F16, hs227, (Mem.le.refl _), e229, e230, e231, e232, e233, e234, e235, e236, e237, e238, e239, e240, rfl, rfl, rfl⟩
                ·have h415 := cond_f h412 hb413
                 refine Vg 204 3 37 false 203 hb413 (mv 25 (vi s225) e240) ?_
                 refine Vg 205 71 37 false 203 hb413 (mv 16 (.slice ar79_0_0 r79.1.length nr79_0_0) e237) ?_
                 refine Vg 206 3 37 false 203 hb413 (mv 24 (vi s138) e239) ?_
                 obtain ⟨x416, hx417, h419⟩ := bind_some h415
                 obtain ⟨hi418, hx417'⟩ := idx_spec hx417
                 obtain ⟨b420, o421, C422, E423, fz424, rfl, hF426, hE427⟩ := SlA.open (SlA.mono hsr79_0_0 ((((((le93.trans le101).trans le109).trans le113).trans le141).trans le175).trans le228)) hx417'
                 obtain ⟨ae428_0, ne428_0, hc429, hbe428_0, hse428_0⟩ := hE427 _ _ hx417'
                 refine Vg 207 0 37 false 203 hb413 (ix 71 205 206 b420 o421 50 1 24 hi418) ?_
                 refine Vg 208 50 37 false 203 hb413 (lx 50 207 0 1 false 1 (.slice ae428_0 x416.length ne428_0) (hs227.pers _ _ hF426) hc429) ?_
                 refine Vg 209 3 37 false 203 hb413 (ln 208 50 ae428_0 x416.length ne428_0 3 1 8) ?_
                 refine Vg 210 4 37 false 203 hb413 (run_geq (t := 3) (t' := 3) (x := (.tmp 204)) (y := (.tmp 209)) (k := .i64) (a := s225) (b := (x416.length : Int)) rfl rfl) ?_
                 refine V 211 4 (p0 203 (.const (.bool true)) (.tmp 210) (.bool (decide (s225 ≥ (x416.length : Int)))) hb413) ?_
                 obtain rfl := some_inj h419
                 exact RWP.nil ⟨rfl, F16, hs227, (Mem.le.refl _), e229, e230, e231, e232, e233, e234, e235, e236, e237, e238, e239, e240, rfl, rfl, rfl⟩
            ·rintro f w312 ⟨F18, hs313, le314, e316, e317, e318, e319, e320, e321, e322, e323, e324, e325, e326, e327, e328, e329, e330⟩
             refine thenQ_nrm ?_
             refine CWP.cond (t := j315) (by kernel_rfl) e330 (fun hb430 => ?_) (fun hb430 => ?_)
             ·have h431 := cond_t h332 hb430
              refine Sq (Rg [0] ?_)
              refine V 8 4 (mc (.bool false) (.bool false)) ?_
              refine Nt ?_
              refine CWP.ret (by kernel_rfl) ?_
              refine thenQ_ret ?_
              refine blockQ_ret ?_
              refine thenQ_ret ?_
              refine thenQ_ret ?_
              refine blockQ_ret ?_
              have hret := iter_ret h431 hnx261
              subst hret
              refine .inr ?_
              refine blockQ_ret ?_
              refine thenQ_ret ?_
              refine thenQ_ret ?_
              refine blockQ_ret ?_
              have hret := iter_ret h224 hnx168
              subst hret
              refine .inr ?_
              refine thenQ_ret ?_
              have hfin := some_inj h137
              subst hfin
              exact ⟨e316, (.bool false), res_of (l := [.tmp 8]) (by kernel_rfl) (vs := [(.bool false)]) ⟨rfl, trivial⟩, (.bool false), F18, rfl, hs313.clear, rfl⟩
             ·have h432 := cond_f h332 hb430
              refine Sc ?_
              refine thenQ_nrm ?_
              refine Sq ?_
              obtain ⟨j438, hj452, h453⟩ := bind_some h432
              refine CWP.regionD (by kernel_rfl) (by kernel_rfl) (by kernel_rfl) (by kernel_rfl) (z := 72) (F := F18) (Lc := [(sb b4 (kRef x2) 27), (sb b1 (kSystem x0 (some ⟨b282, o283, none⟩) n0_0 a0_1 n0_1) 25)]) (Lz := []) (l := [false, false, false, false, false, false, false, false, false, false, false, false, false, false, false, false, false, false, false, false, false, false, false, false, false, false, false, false, false, false, false, false, false, false, false, false, false, false, false, false, false, false, false, false, false, false, false, false, false, false, false, false, false, false, false, false, false, false, false, false, false, false, false, false, false, false, false, false, false, false, false, false]) (fuel := 72) (by kernel_rfl) (by kernel_rfl) hs313 (by simp) (by simp) (fun f w => ∃ (F19 : Mem), HS w0 F0 w F19 [(sb b4 (kRef x2) 27), (sb b1 (kSystem x0 (some ⟨b282, o283, none⟩) n0_0 a0_1 n0_1) 25)] ∧ Mem.le F18 F19 ∧ f.d = [] ∧ f 1 = (.slice a1_0 x1.length n1_0) ∧ f 3 = (vi x3) ∧ f 4 = (.pointer (some ⟨b1, 0, none⟩)) ∧ f 6 = (.pointer (some ⟨b4, 0, none⟩)) ∧ f 9 = (.bool r7) ∧ f 10 = (.slice (some ⟨b266, o267, none⟩) r42.1.length nr42_0_0) ∧ f 14 = (.slice ar71_0_0 r71.1.length nr71_0_0) ∧ f 16 = (.slice ar79_0_0 r79.1.length nr79_0_0) ∧ f 22 = (.bool r103.1) ∧ f 24 = (vi s138) ∧ f 25 = (vi s225) ∧ f 283 = (.bool j438)) (fun wd433 hw434 => ?_) ?_
              ·refine Dtl 0 212 33 _ [tt, ff, ff, ff, ff, ff, ff, ff, ff, ff, ff, ff, ff, ff, ff, ff, ff, ff, ff, ff, ff, ff, ff, ff, ff, ff, ff, ff, ff, ff, ff, ff, ff, ff, ff, ff, ff, ff, ff, ff, ff, ff, ff, ff, ff, ff, ff, ff, ff, ff, ff, ff, ff, ff, ff, ff, ff, ff, ff, ff, ff, ff, ff, ff, ff, ff, ff, ff, ff, ff, ff, ff] (fun _ hq => mv 10 (.slice (some ⟨b266, o267, none⟩) r42.1.length nr42_0_0) e322) ?_
               refine Dtl 1 213 3 _ [tt, tt, ff, ff, ff, ff, ff, ff, ff, ff, ff, ff, ff, ff, ff, ff, ff, ff, ff, ff, ff, ff, ff, ff, ff, ff, ff, ff, ff, ff, ff, ff, ff, ff, ff, ff, ff, ff, ff, ff, ff, ff, ff, ff, ff, ff, ff, ff, ff, ff, ff, ff, ff, ff, ff, ff, ff, ff, ff, ff, ff, ff, ff, ff, ff, ff, ff, ff, ff, ff, ff, ff] (fun _ hq => mv 24 (vi s138) e326) ?_
               obtain ⟨x454, hx455, h457⟩ := bind_some hj452
               obtain ⟨hi456, hx455'⟩ := idx_spec hx455
               obtain ⟨ae458_0, ne458_0, hc459, hbe458_0, hse458_0⟩ := hE273 _ _ hx455'
               refine Dtl 2 214 0 (.pointer (some ⟨b266, (o267 + (s138 : Int).toNat * 1), none⟩)) [tt, tt, tt, ff, ff, ff, ff, ff, ff, ff, ff, ff, ff, ff, ff, ff, ff, ff, ff, ff, ff, ff, ff, ff, ff, ff, ff, ff, ff, ff, ff, ff, ff, ff, ff, ff, ff, ff, ff, ff, ff, ff, ff, ff, ff, ff, ff, ff, ff, ff, ff, ff, ff, ff, ff, ff, ff, ff, ff, ff, ff, ff, ff, ff, ff, ff, ff, ff, ff, ff, ff, ff] (fun _ hq => ix 33 212 213 b266 o267 36 1 24 hi456) ?_
               refine Dtl 3 215 36 _ [tt, tt, tt, tt, ff, ff, ff, ff, ff, ff, ff, ff, ff, ff, ff, ff, ff, ff, ff, ff, ff, ff, ff, ff, ff, ff, ff, ff, ff, ff, ff, ff, ff, ff, ff, ff, ff, ff, ff, ff, ff, ff, ff, ff, ff, ff, ff, ff, ff, ff, ff, ff, ff, ff, ff, ff, ff, ff, ff, ff, ff, ff, ff, ff, ff, ff, ff, ff, ff, ff, ff, ff] (fun _ hq => lx 36 214 0 1 false 1 (.slice ae458_0 x454.length ne458_0) (hq.1.1 _ _ (le314 _ _ hF272)) hc459) ?_
               refine Dtl 4 216 3 _ [tt, tt, tt, tt, tt, ff, ff, ff, ff, ff, ff, ff, ff, ff, ff, ff, ff, ff, ff, ff, ff, ff, ff, ff, ff, ff, ff, ff, ff, ff, ff, ff, ff, ff, ff, ff, ff, ff, ff, ff, ff, ff, ff, ff, ff, ff, ff, ff, ff, ff, ff, ff, ff, ff, ff, ff, ff, ff, ff, ff, ff, ff, ff, ff, ff, ff, ff, ff, ff, ff, ff, ff] (fun _ hq => mv 25 (vi s225) e327) ?_
               obtain ⟨x460, hx461, h463⟩ := bind_some h457
               obtain ⟨hi462, hx461'⟩ := idx_spec hx461
               obtain ⟨b464, o465, C466, E467, fz468, rfl, hF470, hE471⟩ := SlA.open (SlA.mono hse458_0 le314) hx461'
               have hc473 := hE471 _ _ hx461'
               refine Dtl 5 217 0 (.pointer (some ⟨b464, (o465 + (s225 : Int).toNat * 2), none⟩)) [tt, tt, tt, tt, tt, tt, ff, ff, ff, ff, ff, ff, ff, ff, ff, ff, ff, ff, ff, ff, ff, ff, ff, ff, ff, ff, ff, ff, ff, ff, ff, ff, ff, ff, ff, ff, ff, ff, ff, ff, ff, ff, ff, ff, ff, ff, ff, ff, ff, ff, ff, ff, ff, ff, ff, ff, ff, ff, ff, ff, ff, ff, ff, ff, ff, ff, ff, ff, ff, ff, ff, ff] (fun _ hq => ix 36 215 216 b464 o465 38 2 16 hi462) ?_
               refine Dtl 6 218 38 _ [tt, tt, tt, tt, tt, tt, tt, ff, ff, ff, ff, ff, ff, ff, ff, ff, ff, ff, ff, ff, ff, ff, ff, ff, ff, ff, ff, ff, ff, ff, ff, ff, ff, ff, ff, ff, ff, ff, ff, ff, ff, ff, ff, ff, ff, ff, ff, ff, ff, ff, ff, ff, ff, ff, ff, ff, ff, ff, ff, ff, ff, ff, ff, ff, ff, ff, ff, ff, ff, ff, ff, ff] (fun _ hq => lx 38 217 0 2 true 2 (.agg (kSpan x460)) (hq.1.1 _ _ hF470) hc473) ?_
               refine Dtl 7 219 71 _ [tt, tt, tt, tt, tt, tt, tt, tt, ff, ff, ff, ff, ff, ff, ff, ff, ff, ff, ff, ff, ff, ff, ff, ff, ff, ff, ff, ff, ff, ff, ff, ff, ff, ff, ff, ff, ff, ff, ff, ff, ff, ff, ff, ff, ff, ff, ff, ff, ff, ff, ff, ff, ff, ff, ff, ff, ff, ff, ff, ff, ff, ff, ff, ff, ff, ff, ff, ff, ff, ff, ff, ff] (fun _ hq => mv 14 (.slice ar71_0_0 r71.1.length nr71_0_0) e323) ?_
               refine Dtl 8 220 3 _ [tt, tt, tt, tt, tt, tt, tt, tt, tt, ff, ff, ff, ff, ff, ff, ff, ff, ff, ff, ff, ff, ff, ff, ff, ff, ff, ff, ff, ff, ff, ff, ff, ff, ff, ff, ff, ff, ff, ff, ff, ff, ff, ff, ff, ff, ff, ff, ff, ff, ff, ff, ff, ff, ff, ff, ff, ff, ff, ff, ff, ff, ff, ff, ff, ff, ff, ff, ff, ff, ff, ff, ff] (fun _ hq => mv 24 (vi s138) e326) ?_
               obtain ⟨x474, hx475, h477⟩ := bind_some h463
               obtain ⟨hi476, hx475'⟩ := idx_spec hx475
               obtain ⟨b478, o479, C480, E481, fz482, rfl, hF484, hE485⟩ := SlA.open (SlA.mono hsr71_0_0 ((((((((le85.trans le93).trans le101).trans le109).trans le113).trans le141).trans le175).trans le228).trans le314)) hx475'
               obtain ⟨ae486_0, ne486_0, hc487, hbe486_0, hse486_0⟩ := hE485 _ _ hx475'
               refine Dtl 9 221 0 (.pointer (some ⟨b478, (o479 + (s138 : Int).toNat * 1), none⟩)) [tt, tt, tt, tt, tt, tt, tt, tt, tt, tt, ff, ff, ff, ff, ff, ff, ff, ff, ff, ff, ff, ff, ff, ff, ff, ff, ff, ff, ff, ff, ff, ff, ff, ff, ff, ff, ff, ff, ff, ff, ff, ff, ff, ff, ff, ff, ff, ff, ff, ff, ff, ff, ff, ff, ff, ff, ff, ff, ff, ff, ff, ff, ff, ff, ff, ff, ff, ff, ff, ff, ff, ff] (fun _ hq => ix 71 219 220 b478 o479 50 1 24 hi476) ?_
               refine Dtl 10 222 50 _ [tt, tt, tt, tt, tt, tt, tt, tt, tt, tt, tt, ff, ff, ff, ff, ff, ff, ff, ff, ff, ff, ff, ff, ff, ff, ff, ff, ff, ff, ff, ff, ff, ff, ff, ff, ff, ff, ff, ff, ff, ff, ff, ff, ff, ff, ff, ff, ff, ff, ff, ff, ff, ff, ff, ff, ff, ff, ff, ff, ff, ff, ff, ff, ff, ff, ff, ff, ff, ff, ff, ff, ff] (fun _ hq => lx 50 221 0 1 false 1 (.slice ae486_0 x474.length ne486_0) (hq.1.1 _ _ hF484) hc487) ?_
               refine Dtl 11 223 3 _ [tt, tt, tt, tt, tt, tt, tt, tt, tt, tt, tt, tt, ff, ff, ff, ff, ff, ff, ff, ff, ff, ff, ff, ff, ff, ff, ff, ff, ff, ff, ff, ff, ff, ff, ff, ff, ff, ff, ff, ff, ff, ff, ff, ff, ff, ff, ff, ff, ff, ff, ff, ff, ff, ff, ff, ff, ff, ff, ff, ff, ff, ff, ff, ff, ff, ff, ff, ff, ff, ff, ff, ff] (fun _ hq => mv 25 (vi s225) e327) ?_
               obtain ⟨x488, hx489, h491⟩ := bind_some h477
               obtain ⟨hi490, hx489'⟩ := idx_spec hx489
               obtain ⟨b492, o493, C494, E495, fz496, rfl, hF498, hE499⟩ := SlA.open hse486_0 hx489'
               have hc501 := hE499 _ _ hx489'
               refine Dtl 12 224 0 (.pointer (some ⟨b492, (o493 + (s225 : Int).toNat * 1), none⟩)) [tt, tt, tt, tt, tt, tt, tt, tt, tt, tt, tt, tt, tt, ff, ff, ff, ff, ff, ff, ff, ff, ff, ff, ff, ff, ff, ff, ff, ff, ff, ff, ff, ff, ff, ff, ff, ff, ff, ff, ff, ff, ff, ff, ff, ff, ff, ff, ff, ff, ff, ff, ff, ff, ff, ff, ff, ff, ff, ff, ff, ff, ff, ff, ff, ff, ff, ff, ff, ff, ff, ff, ff] (fun _ hq => ix 50 222 223 b492 o493 3 1 8 hi490) ?_
               refine Dtl 13 225 3 _ [tt, tt, tt, tt, tt, tt, tt, tt, tt, tt, tt, tt, tt, tt, ff, ff, ff, ff, ff, ff, ff, ff, ff, ff, ff, ff, ff, ff, ff, ff, ff, ff, ff, ff, ff, ff, ff, ff, ff, ff, ff, ff, ff, ff, ff, ff, ff, ff, ff, ff, ff, ff, ff, ff, ff, ff, ff, ff, ff, ff, ff, ff, ff, ff, ff, ff, ff, ff, ff, ff, ff, ff] (fun _ hq => lx 3 224 0 1 false 1 (vi x488) (hq.1.1 _ _ hF498) hc501) ?_
               refine Dtl 14 226 71 _ [tt, tt, tt, tt, tt, tt, tt, tt, tt, tt, tt, tt, tt, tt, tt, ff, ff, ff, ff, ff, ff, ff, ff, ff, ff, ff, ff, ff, ff, ff, ff, ff, ff, ff, ff, ff, ff, ff, ff, ff, ff, ff, ff, ff, ff, ff, ff, ff, ff, ff, ff, ff, ff, ff, ff, ff, ff, ff, ff, ff, ff, ff, ff, ff, ff, ff, ff, ff, ff, ff, ff, ff] (fun _ hq => mv 16 (.slice ar79_0_0 r79.1.length nr79_0_0) e324) ?_
               refine Dtl 15 227 3 _ [tt, tt, tt, tt, tt, tt, tt, tt, tt, tt, tt, tt, tt, tt, tt, tt, ff, ff, ff, ff, ff, ff, ff, ff, ff, ff, ff, ff, ff, ff, ff, ff, ff, ff, ff, ff, ff, ff, ff, ff, ff, ff, ff, ff, ff, ff, ff, ff, ff, ff, ff, ff, ff, ff, ff, ff, ff, ff, ff, ff, ff, ff, ff, ff, ff, ff, ff, ff, ff, ff, ff, ff] (fun _ hq => mv 24 (vi s138) e326) ?_
               obtain ⟨x502, hx503, h505⟩ := bind_some h491
               obtain ⟨hi504, hx503'⟩ := idx_spec hx503
               obtain ⟨b506, o507, C508, E509, fz510, rfl, hF512, hE513⟩ := SlA.open (SlA.mono hsr79_0_0 (((((((le93.trans le101).trans le109).trans le113).trans le141).trans le175).trans le228).trans le314)) hx503'
               obtain ⟨ae514_0, ne514_0, hc515, hbe514_0, hse514_0⟩ := hE513 _ _ hx503'
               refine Dtl 16 228 0 (.pointer (some ⟨b506, (o507 + (s138 : Int).toNat * 1), none⟩)) [tt, tt, tt, tt, tt, tt, tt, tt, tt, tt, tt, tt, tt, tt, tt, tt, tt, ff, ff, ff, ff, ff, ff, ff, ff, ff, ff, ff, ff, ff, ff, ff, ff, ff, ff, ff, ff, ff, ff, ff, ff, ff, ff, ff, ff, ff, ff, ff, ff, ff, ff, ff, ff, ff, ff, ff, ff, ff, ff, ff, ff, ff, ff, ff, ff, ff, ff, ff, ff, ff, ff, ff] (fun _ hq => ix 71 226 227 b506 o507 50 1 24 hi504) ?_
               refine Dtl 17 229 50 _ [tt, tt, tt, tt, tt, tt, tt, tt, tt, tt, tt, tt, tt, tt, tt, tt, tt, tt, ff, ff, ff, ff, ff, ff, ff, ff, ff, ff, ff, ff, ff, ff, ff, ff, ff, ff, ff, ff, ff, ff, ff, ff, ff, ff, ff, ff, ff, ff, ff, ff, ff, ff, ff, ff, ff, ff, ff, ff, ff, ff, ff, ff, ff, ff, ff, ff, ff, ff, ff, ff, ff, ff] (fun _ hq => lx 50 228 0 1 false 1 (.slice ae514_0 x502.length ne514_0) (hq.1.1 _ _ hF512) hc515) ?_
               refine Dtl 18 230 3 _ [tt, tt, tt, tt, tt, tt, tt, tt, tt, tt, tt, tt, tt, tt, tt, tt, tt, tt, tt, ff, ff, ff, ff, ff, ff, ff, ff, ff, ff, ff, ff, ff, ff, ff, ff, ff, ff, ff, ff, ff, ff, ff, ff, ff, ff, ff, ff, ff, ff, ff, ff, ff, ff, ff, ff, ff, ff, ff, ff, ff, ff, ff, ff, ff, ff, ff, ff, ff, ff, ff, ff, ff] (fun _ hq => mv 25 (vi s225) e327) ?_
               obtain ⟨x516, hx517, h519⟩ := bind_some h505
               obtain ⟨hi518, hx517'⟩ := idx_spec hx517
               obtain ⟨b520, o521, C522, E523, fz524, rfl, hF526, hE527⟩ := SlA.open hse514_0 hx517'
               have hc529 := hE527 _ _ hx517'
               refine Dtl 19 231 0 (.pointer (some ⟨b520, (o521 + (s225 : Int).toNat * 1), none⟩)) [tt, tt, tt, tt, tt, tt, tt, tt, tt, tt, tt, tt, tt, tt, tt, tt, tt, tt, tt, tt, ff, ff, ff, ff, ff, ff, ff, ff, ff, ff, ff, ff, ff, ff, ff, ff, ff, ff, ff, ff, ff, ff, ff, ff, ff, ff, ff, ff, ff, ff, ff, ff, ff, ff, ff, ff, ff, ff, ff, ff, ff, ff, ff, ff, ff, ff, ff, ff, ff, ff, ff, ff] (fun _ hq => ix 50 229 230 b520 o521 3 1 8 hi518) ?_
               refine Dtl 20 232 3 _ [tt, tt, tt, tt, tt, tt, tt, tt, tt, tt, tt, tt, tt, tt, tt, tt, tt, tt, tt, tt, tt, ff, ff, ff, ff, ff, ff, ff, ff, ff, ff, ff, ff, ff, ff, ff, ff, ff, ff, ff, ff, ff, ff, ff, ff, ff, ff, ff, ff, ff, ff, ff, ff, ff, ff, ff, ff, ff, ff, ff, ff, ff, ff, ff, ff, ff, ff, ff, ff, ff, ff, ff] (fun _ hq => lx 3 231 0 1 false 1 (vi x516) (hq.1.1 _ _ hF526) hc529) ?_
               refine Dtl 21 233 38 (.agg #[(vi x488), (vi x516)]) [tt, tt, tt, tt, tt, tt, tt, tt, tt, tt, tt, tt, tt, tt, tt, tt, tt, tt, tt, tt, tt, tt, ff, ff, ff, ff, ff, ff, ff, ff, ff, ff, ff, ff, ff, ff, ff, ff, ff, ff, ff, ff, ff, ff, ff, ff, ff, ff, ff, ff, ff, ff, ff, ff, ff, ff, ff, ff, ff, ff, ff, ff, ff, ff, ff, ff, ff, ff, ff, ff, ff, ff] (fun _ hq => run_build2 (t := 38) (parts := #[(0, (.tmp 225)), (1, (.tmp 232))]) (vs := [(0, (vi x488)), (1, (vi x516))]) (rfl) (cs := [(vi x488), (vi x516)]) (by kernel_rfl)) ?_
               refine Dtl 22 234 4 (.bool (!((x460.Lo == x488) && ((x460.Hi == x516) && true)))) [tt, tt, tt, tt, tt, tt, tt, tt, tt, tt, tt, tt, tt, tt, tt, tt, tt, tt, tt, tt, tt, tt, tt, ff, ff, ff, ff, ff, ff, ff, ff, ff, ff, ff, ff, ff, ff, ff, ff, ff, ff, ff, ff, ff, ff, ff, ff, ff, ff, ff, ff, ff, ff, ff, ff, ff, ff, ff, ff, ff, ff, ff, ff, ff, ff, ff, ff, ff, ff, ff, ff, ff] (fun _ hq => run_nes (t := 38) (t' := 38) (x := (.tmp 218)) (y := (.tmp 233)) (xs := (kSpan x460)) (ys := #[(vi x488), (vi x516)]) (b := ((x460.Lo == x488) && ((x460.Hi == x516) && true))) rfl rfl (by kernel_rfl) (by kernel_rfl)) ?_
               refine Dtl 23 235 4 _ [tt, tt, tt, tt, tt, tt, tt, tt, tt, tt, tt, tt, tt, tt, tt, tt, tt, tt, tt, tt, tt, tt, tt, tt, ff, ff, ff, ff, ff, ff, ff, ff, ff, ff, ff, ff, ff, ff, ff, ff, ff, ff, ff, ff, ff, ff, ff, ff, ff, ff, ff, ff, ff, ff, ff, ff, ff, ff, ff, ff, ff, ff, ff, ff, ff, ff, ff, ff, ff, ff, ff, ff] (fun _ hq => mv 234 (.bool (!((x460.Lo == x488) && ((x460.Hi == x516) && true))))) ?_
               refine DWP.split (!((x460.Lo == x488) && ((x460.Hi == x516) && true))) (fun hb530 => ?_) (fun hb530 => ?_)
               ·have h531 := cond_t h519 hb530
                refine Dkl [(24, 236), (25, 237), (26, 238), (27, 239), (28, 240), (29, 241)] 23 false 235 hb530 [tt, tt, tt, tt, tt, tt, tt, tt, tt, tt, tt, tt, tt, tt, tt, tt, tt, tt, tt, tt, tt, tt, tt, tt, tt, tt, tt, tt, tt, tt, ff, ff, ff, ff, ff, ff, ff, ff, ff, ff, ff, ff, ff, ff, ff, ff, ff, ff, ff, ff, ff, ff, ff, ff, ff, ff, ff, ff, ff, ff, ff, ff, ff, ff, ff, ff, ff, ff, ff, ff, ff, ff] ?_
                refine Dkl [(30, 242), (31, 243), (32, 244), (33, 245), (34, 246), (35, 247)] 23 false 235 hb530 [tt, tt, tt, tt, tt, tt, tt, tt, tt, tt, tt, tt, tt, tt, tt, tt, tt, tt, tt, tt, tt, tt, tt, tt, tt, tt, tt, tt, tt, tt, tt, tt, tt, tt, tt, tt, ff, ff, ff, ff, ff, ff, ff, ff, ff, ff, ff, ff, ff, ff, ff, ff, ff, ff, ff, ff, ff, ff, ff, ff, ff, ff, ff, ff, ff, ff, ff, ff, ff, ff, ff, ff] ?_
                refine Dtl 36 248 4 _ [tt, tt, tt, tt, tt, tt, tt, tt, tt, tt, tt, tt, tt, tt, tt, tt, tt, tt, tt, tt, tt, tt, tt, tt, tt, tt, tt, tt, tt, tt, tt, tt, tt, tt, tt, tt, tt, ff, ff, ff, ff, ff, ff, ff, ff, ff, ff, ff, ff, ff, ff, ff, ff, ff, ff, ff, ff, ff, ff, ff, ff, ff, ff, ff, ff, ff, ff, ff, ff, ff, ff, ff] (fun _ hq => p1 235 (.const (.bool true)) (.tmp 247) (.bool true) hb530) ?_
                refine Dtl 37 249 4 _ [tt, tt, tt, tt, tt, tt, tt, tt, tt, tt, tt, tt, tt, tt, tt, tt, tt, tt, tt, tt, tt, tt, tt, tt, tt, tt, tt, tt, tt, tt, tt, tt, tt, tt, tt, tt, tt, tt, ff, ff, ff, ff, ff, ff, ff, ff, ff, ff, ff, ff, ff, ff, ff, ff, ff, ff, ff, ff, ff, ff, ff, ff, ff, ff, ff, ff, ff, ff, ff, ff, ff, ff] (fun _ hq => mv 248 (.bool true)) ?_
                refine Dkl [(38, 250), (39, 251), (40, 252), (41, 253), (42, 254), (43, 255)] 37 false 249 rfl [tt, tt, tt, tt, tt, tt, tt, tt, tt, tt, tt, tt, tt, tt, tt, tt, tt, tt, tt, tt, tt, tt, tt, tt, tt, tt, tt, tt, tt, tt, tt, tt, tt, tt, tt, tt, tt, tt, tt, tt, tt, tt, tt, tt, ff, ff, ff, ff, ff, ff, ff, ff, ff, ff, ff, ff, ff, ff, ff, ff, ff, ff, ff, ff, ff, ff, ff, ff, ff, ff, ff, ff] ?_
                refine Dkl [(44, 256), (45, 257), (46, 258), (47, 259), (48, 260), (49, 261)] 37 false 249 rfl [tt, tt, tt, tt, tt, tt, tt, tt, tt, tt, tt, tt, tt, tt, tt, tt, tt, tt, tt, tt, tt, tt, tt, tt, tt, tt, tt, tt, tt, tt, tt, tt, tt, tt, tt, tt, tt, tt, tt, tt, tt, tt, tt, tt, tt, tt, tt, tt, tt, tt, ff, ff, ff, ff, ff, ff, ff, ff, ff, ff, ff, ff, ff, ff, ff, ff, ff, ff, ff, ff, ff, ff] ?_
                refine Dtl 50 262 4 _ [tt, tt, tt, tt, tt, tt, tt, tt, tt, tt, tt, tt, tt, tt, tt, tt, tt, tt, tt, tt, tt, tt, tt, tt, tt, tt, tt, tt, tt, tt, tt, tt, tt, tt, tt, tt, tt, tt, tt, tt, tt, tt, tt, tt, tt, tt, tt, tt, tt, tt, tt, ff, ff, ff, ff, ff, ff, ff, ff, ff, ff, ff, ff, ff, ff, ff, ff, ff, ff, ff, ff, ff] (fun _ hq => p1 249 (.const (.bool true)) (.tmp 261) (.bool true) rfl) ?_
                refine Dtl 51 263 4 _ [tt, tt, tt, tt, tt, tt, tt, tt, tt, tt, tt, tt, tt, tt, tt, tt, tt, tt, tt, tt, tt, tt, tt, tt, tt, tt, tt, tt, tt, tt, tt, tt, tt, tt, tt, tt, tt, tt, tt, tt, tt, tt, tt, tt, tt, tt, tt, tt, tt, tt, tt, tt, ff, ff, ff, ff, ff, ff, ff, ff, ff, ff, ff, ff, ff, ff, ff, ff, ff, ff, ff, ff] (fun _ hq => mv 262 (.bool true)) ?_
                refine Dkl [(52, 264), (53, 265)] 51 false 263 rfl [tt, tt, tt, tt, tt, tt, tt, tt, tt, tt, tt, tt, tt, tt, tt, tt, tt, tt, tt, tt, tt, tt, tt, tt, tt, tt, tt, tt, tt, tt, tt, tt, tt, tt, tt, tt, tt, tt, tt, tt, tt, tt, tt, tt, tt, tt, tt, tt, tt, tt, tt, tt, tt, tt, ff, ff, ff, ff, ff, ff, ff, ff, ff, ff, ff, ff, ff, ff, ff, ff, ff, ff] ?_
                refine Dul [(54, 266), (55, 267), (56, 268), (57, 269), (58, 270), (59, 271)] 53 true 265 [tt, tt, tt, tt, tt, tt, tt, tt, tt, tt, tt, tt, tt, tt, tt, tt, tt, tt, tt, tt, tt, tt, tt, tt, tt, tt, tt, tt, tt, tt, tt, tt, tt, tt, tt, tt, tt, tt, tt, tt, tt, tt, tt, tt, tt, tt, tt, tt, tt, tt, tt, tt, tt, tt, tt, tt, tt, tt, tt, tt, ff, ff, ff, ff, ff, ff, ff, ff, ff, ff, ff, ff] ?_
                refine Dul [(60, 272), (61, 273), (62, 274), (63, 275), (64, 276), (65, 277)] 53 true 265 [tt, tt, tt, tt, tt, tt, tt, tt, tt, tt, tt, tt, tt, tt, tt, tt, tt, tt, tt, tt, tt, tt, tt, tt, tt, tt, tt, tt, tt, tt, tt, tt, tt, tt, tt, tt, tt, tt, tt, tt, tt, tt, tt, tt, tt, tt, tt, tt, tt, tt, tt, tt, tt, tt, tt, tt, tt, tt, tt, tt, tt, tt, tt, tt, tt, tt, ff, ff, ff, ff, ff, ff] ?_
                refine Dul [(66, 278), (67, 279), (68, 280), (69, 281)] 53 true 265 [tt, tt, tt, tt, tt, tt, tt, tt, tt, tt, tt, tt, tt, tt, tt, tt, tt, tt, tt, tt, tt, tt, tt, tt, tt, tt, tt, tt, tt, tt, tt, tt, tt, tt, tt, tt, tt, tt, tt, tt, tt, tt, tt, tt, tt, tt, tt, tt, tt, tt, tt, tt, tt, tt, tt, tt, tt, tt, tt, tt, tt, tt, tt, tt, tt, tt, tt, tt, tt, tt, ff, ff] ?_
                refine Dkl [(70, 282)] 51 false 263 rfl [tt, tt, tt, tt, tt, tt, tt, tt, tt, tt, tt, tt, tt, tt, tt, tt, tt, tt, tt, tt, tt, tt, tt, tt, tt, tt, tt, tt, tt, tt, tt, tt, tt, tt, tt, tt, tt, tt, tt, tt, tt, tt, tt, tt, tt, tt, tt, tt, tt, tt, tt, tt, tt, tt, tt, tt, tt, tt, tt, tt, tt, tt, tt, tt, tt, tt, tt, tt, tt, tt, tt, ff] ?_
                refine Dtl 71 283 4 _ [tt, tt, tt, tt, tt, tt, tt, tt, tt, tt, tt, tt, tt, tt, tt, tt, tt, tt, tt, tt, tt, tt, tt, tt, tt, tt, tt, tt, tt, tt, tt, tt, tt, tt, tt, tt, tt, tt, tt, tt, tt, tt, tt, tt, tt, tt, tt, tt, tt, tt, tt, tt, tt, tt, tt, tt, tt, tt, tt, tt, tt, tt, tt, tt, tt, tt, tt, tt, tt, tt, tt, tt] (fun _ hq => p1 263 (.const (.bool true)) (.tmp 282) (.bool true) rfl) ?_
                obtain rfl := some_inj h531
                exact DWP.done (by kernel_rfl) ⟨F18, hw434, (Mem.le.refl _), e316, e317, e318, e319, e320, e321, e322, e323, e324, e325, e326, e327, rfl⟩
               ·have h532 := cond_f h519 hb530
                refine Dgl 24 236 33 _ [tt, tt, tt, tt, tt, tt, tt, tt, tt, tt, tt, tt, tt, tt, tt, tt, tt, tt, tt, tt, tt, tt, tt, tt, tt, ff, ff, ff, ff, ff, ff, ff, ff, ff, ff, ff, ff, ff, ff, ff, ff, ff, ff, ff, ff, ff, ff, ff, ff, ff, ff, ff, ff, ff, ff, ff, ff, ff, ff, ff, ff, ff, ff, ff, ff, ff, ff, ff, ff, ff, ff, ff] 23 false 235 hb530 (fun _ hq => mv 10 (.slice (some ⟨b266, o267, none⟩) r42.1.length nr42_0_0) e322) ?_
                refine Dgl 25 237 3 _ [tt, tt, tt, tt, tt, tt, tt, tt, tt, tt, tt, tt, tt, tt, tt, tt, tt, tt, tt, tt, tt, tt, tt, tt, tt, tt, ff, ff, ff, ff, ff, ff, ff, ff, ff, ff, ff, ff, ff, ff, ff, ff, ff, ff, ff, ff, ff, ff, ff, ff, ff, ff, ff, ff, ff, ff, ff, ff, ff, ff, ff, ff, ff, ff, ff, ff, ff, ff, ff, ff, ff, ff] 23 false 235 hb530 (fun _ hq => mv 24 (vi s138) e326) ?_
                obtain ⟨x533, hx534, h536⟩ := bind_some h532
                obtain ⟨hi535, hx534'⟩ := idx_spec hx534
                obtain ⟨ae537_0, ne537_0, hc538, hbe537_0, hse537_0⟩ := hE273 _ _ hx534'
                refine Dgl 26 238 0 (.pointer (some ⟨b266, (o267 + (s138 : Int).toNat * 1), none⟩)) [tt, tt, tt, tt, tt, tt, tt, tt, tt, tt, tt, tt, tt, tt, tt, tt, tt, tt, tt, tt, tt, tt, tt, tt, tt, tt, tt, ff, ff, ff, ff, ff, ff, ff, ff, ff, ff, ff, ff, ff, ff, ff, ff, ff, ff, ff, ff, ff, ff, ff, ff, ff, ff, ff, ff, ff, ff, ff, ff, ff, ff, ff, ff, ff, ff, ff, ff, ff, ff, ff, ff, ff] 23 false 235 hb530 (fun _ hq => ix 33 236 237 b266 o267 36 1 24 hi535) ?_
                refine Dgl 27 239 36 _ [tt, tt, tt, tt, tt, tt, tt, tt, tt, tt, tt, tt, tt, tt, tt, tt, tt, tt, tt, tt, tt, tt, tt, tt, tt, tt, tt, tt, ff, ff, ff, ff, ff, ff, ff, ff, ff, ff, ff, ff, ff, ff, ff, ff, ff, ff, ff, ff, ff, ff, ff, ff, ff, ff, ff, ff, ff, ff, ff, ff, ff, ff, ff, ff, ff, ff, ff, ff, ff, ff, ff, ff] 23 false 235 hb530 (fun _ hq => lx 36 238 0 1 false 1 (.slice ae537_0 x533.length ne537_0) (hq.1.1 _ _ (le314 _ _ hF272)) hc538) ?_
                refine Dgl 28 240 3 _ [tt, tt, tt, tt, tt, tt, tt, tt, tt, tt, tt, tt, tt, tt, tt, tt, tt, tt, tt, tt, tt, tt, tt, tt, tt, tt, tt, tt, tt, ff, ff, ff, ff, ff, ff, ff, ff, ff, ff, ff, ff, ff, ff, ff, ff, ff, ff, ff, ff, ff, ff, ff, ff, ff, ff, ff, ff, ff, ff, ff, ff, ff, ff, ff, ff, ff, ff, ff, ff, ff, ff, ff] 23 false 235 hb530 (fun _ hq => mv 25 (vi s225) e327) ?_
                obtain ⟨x539, hx540, h542⟩ := bind_some h536
                obtain ⟨hi541, hx540'⟩ := idx_spec hx540
                obtain ⟨b543, o544, C545, E546, fz547, rfl, hF549, hE550⟩ := SlA.open (SlA.mono hse537_0 le314) hx540'
                have hc552 := hE550 _ _ hx540'
                refine Dgl 29 241 0 (.pointer (some ⟨b543, (o544 + (s225 : Int).toNat * 2), none⟩)) [tt, tt, tt, tt, tt, tt, tt, tt, tt, tt, tt, tt, tt, tt, tt, tt, tt, tt, tt, tt, tt, tt, tt, tt, tt, tt, tt, tt, tt, tt, ff, ff, ff, ff, ff, ff, ff, ff, ff, ff, ff, ff, ff, ff, ff, ff, ff, ff, ff, ff, ff, ff, ff, ff, ff, ff, ff, ff, ff, ff, ff, ff, ff, ff, ff, ff, ff, ff, ff, ff, ff, ff] 23 false 235 hb530 (fun _ hq => ix 36 239 240 b543 o544 38 2 16 hi541) ?_
                refine Dgl 30 242 0 (.pointer (some ⟨b543, (o544 + (s225 : Int).toNat * 2), none⟩)) [tt, tt, tt, tt, tt, tt, tt, tt, tt, tt, tt, tt, tt, tt, tt, tt, tt, tt, tt, tt, tt, tt, tt, tt, tt, tt, tt, tt, tt, tt, tt, ff, ff, ff, ff, ff, ff, ff, ff, ff, ff, ff, ff, ff, ff, ff, ff, ff, ff, ff, ff, ff, ff, ff, ff, ff, ff, ff, ff, ff, ff, ff, ff, ff, ff, ff, ff, ff, ff, ff, ff, ff] 23 false 235 hb530 (fun _ hq => fa 38 241 0 0 1 b543 (o544 + (s225 : Int).toNat * 2) (o544 + (s225 : Int).toNat * 2)) ?_
                refine Dgl 31 243 3 _ [tt, tt, tt, tt, tt, tt, tt, tt, tt, tt, tt, tt, tt, tt, tt, tt, tt, tt, tt, tt, tt, tt, tt, tt, tt, tt, tt, tt, tt, tt, tt, tt, ff, ff, ff, ff, ff, ff, ff, ff, ff, ff, ff, ff, ff, ff, ff, ff, ff, ff, ff, ff, ff, ff, ff, ff, ff, ff, ff, ff, ff, ff, ff, ff, ff, ff, ff, ff, ff, ff, ff, ff] 23 false 235 hb530 (fun _ hq => lx 3 242 0 2 false 1 (vi x539.Lo) (hq.1.1 _ _ hF549) hc552) ?_
                refine Dgl 32 244 3 _ [tt, tt, tt, tt, tt, tt, tt, tt, tt, tt, tt, tt, tt, tt, tt, tt, tt, tt, tt, tt, tt, tt, tt, tt, tt, tt, tt, tt, tt, tt, tt, tt, tt, ff, ff, ff, ff, ff, ff, ff, ff, ff, ff, ff, ff, ff, ff, ff, ff, ff, ff, ff, ff, ff, ff, ff, ff, ff, ff, ff, ff, ff, ff, ff, ff, ff, ff, ff, ff, ff, ff, ff] 23 false 235 hb530 (fun _ hq => mv 26 (vi x292) e328) ?_
                refine Dgl 33 245 3 _ [tt, tt, tt, tt, tt, tt, tt, tt, tt, tt, tt, tt, tt, tt, tt, tt, tt, tt, tt, tt, tt, tt, tt, tt, tt, tt, tt, tt, tt, tt, tt, tt, tt, tt, ff, ff, ff, ff, ff, ff, ff, ff, ff, ff, ff, ff, ff, ff, ff, ff, ff, ff, ff, ff, ff, ff, ff, ff, ff, ff, ff, ff, ff, ff, ff, ff, ff, ff, ff, ff, ff, ff] 23 false 235 hb530 (fun _ hq => mv 27 (vi x306.Clock.Slip) e329) ?_
                refine Dgl 34 246 3 (vi (W64 (x292 - x306.Clock.Slip))) [tt, tt, tt, tt, tt, tt, tt, tt, tt, tt, tt, tt, tt, tt, tt, tt, tt, tt, tt, tt, tt, tt, tt, tt, tt, tt, tt, tt, tt, tt, tt, tt, tt, tt, tt, ff, ff, ff, ff, ff, ff, ff, ff, ff, ff, ff, ff, ff, ff, ff, ff, ff, ff, ff, ff, ff, ff, ff, ff, ff, ff, ff, ff, ff, ff, ff, ff, ff, ff, ff, ff, ff] 23 false 235 hb530 (fun _ hq => run_sub (t := 3) (t' := 3) (x := (.tmp 244)) (y := (.tmp 245)) (k := .i64) (a := x292) (b := x306.Clock.Slip) rfl rfl) ?_
                refine Dgl 35 247 4 (.bool (decide (x539.Lo < (W64 (x292 - x306.Clock.Slip))))) [tt, tt, tt, tt, tt, tt, tt, tt, tt, tt, tt, tt, tt, tt, tt, tt, tt, tt, tt, tt, tt, tt, tt, tt, tt, tt, tt, tt, tt, tt, tt, tt, tt, tt, tt, tt, ff, ff, ff, ff, ff, ff, ff, ff, ff, ff, ff, ff, ff, ff, ff, ff, ff, ff, ff, ff, ff, ff, ff, ff, ff, ff, ff, ff, ff, ff, ff, ff, ff, ff, ff, ff] 23 false 235 hb530 (fun _ hq => run_lss (t := 3) (t' := 3) (x := (.tmp 243)) (y := (.tmp 246)) (k := .i64) (a := x539.Lo) (b := (W64 (x292 - x306.Clock.Slip))) rfl rfl) ?_
                refine Dtl 36 248 4 _ [tt, tt, tt, tt, tt, tt, tt, tt, tt, tt, tt, tt, tt, tt, tt, tt, tt, tt, tt, tt, tt, tt, tt, tt, tt, tt, tt, tt, tt, tt, tt, tt, tt, tt, tt, tt, tt, ff, ff, ff, ff, ff, ff, ff, ff, ff, ff, ff, ff, ff, ff, ff, ff, ff, ff, ff, ff, ff, ff, ff, ff, ff, ff, ff, ff, ff, ff, ff, ff, ff, ff, ff] (fun _ hq => p0 235 (.const (.bool true)) (.tmp 247) (.bool (decide (x539.Lo < (W64 (x292 - x306.Clock.Slip))))) hb530) ?_
                refine Dtl 37 249 4 _ [tt, tt, tt, tt, tt, tt, tt, tt, tt, tt, tt, tt, tt, tt, tt, tt, tt, tt, tt, tt, tt, tt, tt, tt, tt, tt, tt, tt, tt, tt, tt, tt, tt, tt, tt, tt, tt, tt, ff, ff, ff, ff, ff, ff, ff, ff, ff, ff, ff, ff, ff, ff, ff, ff, ff, ff, ff, ff, ff, ff, ff, ff, ff, ff, ff, ff, ff, ff, ff, ff, ff, ff] (fun _ hq => mv 248 (.bool (decide (x539.Lo < (W64 (x292 - x306.Clock.Slip)))))) ?_
                refine DWP.split (decide (x539.Lo < (W64 (x292 - x306.Clock.Slip)))) (fun hb553 => ?_) (fun hb553 => ?_)
                ·have h554 := cond_t h542 hb553
                 refine Dkl [(38, 250), (39, 251), (40, 252), (41, 253), (42, 254), (43, 255)] 37 false 249 hb553 [tt, tt, tt, tt, tt, tt, tt, tt, tt, tt, tt, tt, tt, tt, tt, tt, tt, tt, tt, tt, tt, tt, tt, tt, tt, tt, tt, tt, tt, tt, tt, tt, tt, tt, tt, tt, tt, tt, tt, tt, tt, tt, tt, tt, ff, ff, ff, ff, ff, ff, ff, ff, ff, ff, ff, ff, ff, ff, ff, ff, ff, ff, ff, ff, ff, ff, ff, ff, ff, ff, ff, ff] ?_
                 refine Dkl [(44, 256), (45, 257), (46, 258), (47, 259), (48, 260), (49, 261)] 37 false 249 hb553 [tt, tt, tt, tt, tt, tt, tt, tt, tt, tt, tt, tt, tt, tt, tt, tt, tt, tt, tt, tt, tt, tt, tt, tt, tt, tt, tt, tt, tt, tt, tt, tt, tt, tt, tt, tt, tt, tt, tt, tt, tt, tt, tt, tt, tt, tt, tt, tt, tt, tt, ff, ff, ff, ff, ff, ff, ff, ff, ff, ff, ff, ff, ff, ff, ff, ff, ff, ff, ff, ff, ff, ff] ?_
                 refine Dtl 50 262 4 _ [tt, tt, tt, tt, tt, tt, tt, tt, tt, tt, tt, tt, tt, tt, tt, tt, tt, tt, tt, tt, tt, tt, tt, tt, tt, tt, tt, tt, tt, tt, tt, tt, tt, tt, tt, tt, tt, tt, tt, tt, tt, tt, tt, tt, tt, tt, tt, tt, tt, tt, tt, ff, ff, ff, ff, ff, ff, ff, ff, ff, ff, ff, ff, ff, ff, ff, ff, ff, ff, ff, ff, ff] (fun _ hq => p1 249 (.const (.bool true)) (.tmp 261) (.bool true) hb553) ?_
                 refine Dtl 51 263 4 _ [tt, tt, tt, tt, tt, tt, tt, tt, tt, tt, tt, tt, tt, tt, tt, tt, tt, tt, tt, tt, tt, tt, tt, tt, tt, tt, tt, tt, tt, tt, tt, tt, tt, tt, tt, tt, tt, tt, tt, tt, tt, tt, tt, tt, tt, tt, tt, tt, tt, tt, tt, tt, ff, ff, ff, ff, ff, ff, ff, ff, ff, ff, ff, ff, ff, ff, ff, ff, ff, ff, ff, ff] (fun _ hq => mv 262 (.bool true)) ?_
                 refine Dkl [(52, 264), (53, 265)] 51 false 263 rfl [tt, tt, tt, tt, tt, tt, tt, tt, tt, tt, tt, tt, tt, tt, tt, tt, tt, tt, tt, tt, tt, tt, tt, tt, tt, tt, tt, tt, tt, tt, tt, tt, tt, tt, tt, tt, tt, tt, tt, tt, tt, tt, tt, tt, tt, tt, tt, tt, tt, tt, tt, tt, tt, tt, ff, ff, ff, ff, ff, ff, ff, ff, ff, ff, ff, ff, ff, ff, ff, ff, ff, ff] ?_
                 refine Dul [(54, 266), (55, 267), (56, 268), (57, 269), (58, 270), (59, 271)] 53 true 265 [tt, tt, tt, tt, tt, tt, tt, tt, tt, tt, tt, tt, tt, tt, tt, tt, tt, tt, tt, tt, tt, tt, tt, tt, tt, tt, tt, tt, tt, tt, tt, tt, tt, tt, tt, tt, tt, tt, tt, tt, tt, tt, tt, tt, tt, tt, tt, tt, tt, tt, tt, tt, tt, tt, tt, tt, tt, tt, tt, tt, ff, ff, ff, ff, ff, ff, ff, ff, ff, ff, ff, ff] ?_
                 refine Dul [(60, 272), (61, 273), (62, 274), (63, 275), (64, 276), (65, 277)] 53 true 265 [tt, tt, tt, tt, tt, tt, tt, tt, tt, tt, tt, tt, tt, tt, tt, tt, tt, tt, tt, tt, tt, tt, tt, tt, tt, tt, tt, tt, tt, tt, tt, tt, tt, tt, tt, tt, tt, tt, tt, tt, tt, tt, tt, tt, tt, tt, tt, tt, tt, tt, tt, tt, tt, tt, tt, tt, tt, tt, tt, tt, tt, tt, tt, tt, tt, tt, ff, ff, ff, ff, ff, ff] ?_
                 refine Dul [(66, 278), (67, 279), (68, 280), (69, 281)] 53 true 265 [tt, tt, tt, tt, tt, tt, tt, tt, tt, tt, tt, tt, tt, tt, tt, tt, tt, tt, tt, tt, tt, tt, tt, tt, tt, tt, tt, tt, tt, tt, tt, tt, tt, tt, tt, tt, tt, tt, tt, tt, tt, tt, tt, tt, tt, tt, tt, tt, tt, tt, tt, tt, tt, tt, tt, tt, tt, tt, tt, tt, tt, tt, tt, tt, tt, tt, tt, tt, tt, tt, ff, ff] ?_
                 refine Dkl [(70, 282)] 51 false 263 rfl [tt, tt, tt, tt, tt, tt, tt, tt, tt, tt, tt, tt, tt, tt, tt, tt, tt, tt, tt, tt, tt, tt, tt, tt, tt, tt, tt, tt, tt, tt, tt, tt, tt, tt, tt, tt, tt, tt, tt, tt, tt, tt, tt, tt, tt, tt, tt, tt, tt, tt, tt, tt, tt, tt, tt, tt, tt, tt, tt, tt, tt, tt, tt, tt, tt, tt, tt, tt, tt, tt, tt, ff] ?_
                 refine Dtl 71 283 4 _ [tt, tt, tt, tt, tt, tt, tt, tt, tt, tt, tt, tt, tt, tt, tt, tt, tt, tt, tt, tt, tt, tt, tt, tt, tt, tt, tt, tt, tt, tt, tt, tt, tt, tt, tt, tt, tt, tt, tt, tt, tt, tt, tt, tt, tt, tt, tt, tt, tt, tt, tt, tt, tt, tt, tt, tt, tt, tt, tt, tt, tt, tt, tt, tt, tt, tt, tt, tt, tt, tt, tt, tt] (fun _ hq => p1 263 (.const (.bool true)) (.tmp 282) (.bool true) rfl) ?_
                 obtain rfl := some_inj h554
                 exact DWP.done (by kernel_rfl) ⟨F18, hw434, (Mem.le.refl _), e316, e317, e318, e319, e320, e321, e322, e323, e324, e325, e326, e327, rfl⟩
                ·have h555 := cond_f h542 hb553
                 refine Dgl 38 250 33 _ [tt, tt, tt, tt, tt, tt, tt, tt, tt, tt, tt, tt, tt, tt, tt, tt, tt, tt, tt, tt, tt, tt, tt, tt, tt, tt, tt, tt, tt, tt, tt, tt, tt, tt, tt, tt, tt, tt, tt, ff, ff, ff, ff, ff, ff, ff, ff, ff, ff, ff, ff, ff, ff, ff, ff, ff, ff, ff, ff, ff, ff, ff, ff, ff, ff, ff, ff, ff, ff, ff, ff, ff] 37 false 249 hb553 (fun _ hq => mv 10 (.slice (some ⟨b266, o267, none⟩) r42.1.length nr42_0_0) e322) ?_
                 refine Dgl 39 251 3 _ [tt, tt, tt, tt, tt, tt, tt, tt, tt, tt, tt, tt, tt, tt, tt, tt, tt, tt, tt, tt, tt, tt, tt, tt, tt, tt, tt, tt, tt, tt, tt, tt, tt, tt, tt, tt, tt, tt, tt, tt, ff, ff, ff, ff, ff, ff, ff, ff, ff, ff, ff, ff, ff, ff, ff, ff, ff, ff, ff, ff, ff, ff, ff, ff, ff, ff, ff, ff, ff, ff, ff, ff] 37 false 249 hb553 (fun _ hq => mv 24 (vi s138) e326) ?_
                 obtain ⟨x556, hx557, h559⟩ := bind_some h555
                 obtain ⟨hi558, hx557'⟩ := idx_spec hx557
                 obtain ⟨ae560_0, ne560_0, hc561, hbe560_0, hse560_0⟩ := hE273 _ _ hx557'
                 refine Dgl 40 252 0 (.pointer (some ⟨b266, (o267 + (s138 : Int).toNat * 1), none⟩)) [tt, tt, tt, tt, tt, tt, tt, tt, tt, tt, tt, tt, tt, tt, tt, tt, tt, tt, tt, tt, tt, tt, tt, tt, tt, tt, tt, tt, tt, tt, tt, tt, tt, tt, tt, tt, tt, tt, tt, tt, tt, ff, ff, ff, ff, ff, ff, ff, ff, ff, ff, ff, ff, ff, ff, ff, ff, ff, ff, ff, ff, ff, ff, ff, ff, ff, ff, ff, ff, ff, ff, ff] 37 false 249 hb553 (fun _ hq => ix 33 250 251 b266 o267 36 1 24 hi558) ?_
                 refine Dgl 41 253 36 _ [tt, tt, tt, tt, tt, tt, tt, tt, tt, tt, tt, tt, tt, tt, tt, tt, tt, tt, tt, tt, tt, tt, tt, tt, tt, tt, tt, tt, tt, tt, tt, tt, tt, tt, tt, tt, tt, tt, tt, tt, tt, tt, ff, ff, ff, ff, ff, ff, ff, ff, ff, ff, ff, ff, ff, ff, ff, ff, ff, ff, ff, ff, ff, ff, ff, ff, ff, ff, ff, ff, ff, ff] 37 false 249 hb553 (fun _ hq => lx 36 252 0 1 false 1 (.slice ae560_0 x556.length ne560_0) (hq.1.1 _ _ (le314 _ _ hF272)) hc561) ?_
                 refine Dgl 42 254 3 _ [tt, tt, tt, tt, tt, tt, tt, tt, tt, tt, tt, tt, tt, tt, tt, tt, tt, tt, tt, tt, tt, tt, tt, tt, tt, tt, tt, tt, tt, tt, tt, tt, tt, tt, tt, tt, tt, tt, tt, tt, tt, tt, tt, ff, ff, ff, ff, ff, ff, ff, ff, ff, ff, ff, ff, ff, ff, ff, ff, ff, ff, ff, ff, ff, ff, ff, ff, ff, ff, ff, ff, ff] 37 false 249 hb553 (fun _ hq => mv 25 (vi s225) e327) ?_
                 obtain ⟨x562, hx563, h565⟩ := bind_some h559
                 obtain ⟨hi564, hx563'⟩ := idx_spec hx563
                 obtain ⟨b566, o567, C568, E569, fz570, rfl, hF572, hE573⟩ := SlA.open (SlA.mono hse560_0 le314) hx563'
                 have hc575 := hE573 _ _ hx563'
                 refine Dgl 43 255 0 (.pointer (some ⟨b566, (o567 + (s225 : Int).toNat * 2), none⟩)) [tt, tt, tt, tt, tt, tt, tt, tt, tt, tt, tt, tt, tt, tt, tt, tt, tt, tt, tt, tt, tt, tt, tt, tt, tt, tt, tt, tt, tt, tt, tt, tt, tt, tt, tt, tt, tt, tt, tt, tt, tt, tt, tt, tt, ff, ff, ff, ff, ff, ff, ff, ff, ff, ff, ff, ff, ff, ff, ff, ff, ff, ff, ff, ff, ff, ff, ff, ff, ff, ff, ff, ff] 37 false 249 hb553 (fun _ hq => ix 36 253 254 b566 o567 38 2 16 hi564) ?_
                 refine Dgl 44 256 0 (.pointer (some ⟨b566, ((o567 + (s225 : Int).toNat * 2) + 1), none⟩)) [tt, tt, tt, tt, tt, tt, tt, tt, tt, tt, tt, tt, tt, tt, tt, tt, tt, tt, tt, tt, tt, tt, tt, tt, tt, tt, tt, tt, tt, tt, tt, tt, tt, tt, tt, tt, tt, tt, tt, tt, tt, tt, tt, tt, tt, ff, ff, ff, ff, ff, ff, ff, ff, ff, ff, ff, ff, ff, ff, ff, ff, ff, ff, ff, ff, ff, ff, ff, ff, ff, ff, ff] 37 false 249 hb553 (fun _ hq => fa 38 255 1 1 1 b566 (o567 + (s225 : Int).toNat * 2) ((o567 + (s225 : Int).toNat * 2) + 1)) ?_
                 refine Dgl 45 257 3 _ [tt, tt, tt, tt, tt, tt, tt, tt, tt, tt, tt, tt, tt, tt, tt, tt, tt, tt, tt, tt, tt, tt, tt, tt, tt, tt, tt, tt, tt, tt, tt, tt, tt, tt, tt, tt, tt, tt, tt, tt, tt, tt, tt, tt, tt, tt, ff, ff, ff, ff, ff, ff, ff, ff, ff, ff, ff, ff, ff, ff, ff, ff, ff, ff, ff, ff, ff, ff, ff, ff, ff, ff] 37 false 249 hb553 (fun _ hq => lx 3 256 1 2 false 1 (vi x562.Hi) (hq.1.1 _ _ hF572) hc575) ?_
                 refine Dgl 46 258 3 _ [tt, tt, tt, tt, tt, tt, tt, tt, tt, tt, tt, tt, tt, tt, tt, tt, tt, tt, tt, tt, tt, tt, tt, tt, tt, tt, tt, tt, tt, tt, tt, tt, tt, tt, tt, tt, tt, tt, tt, tt, tt, tt, tt, tt, tt, tt, tt, ff, ff, ff, ff, ff, ff, ff, ff, ff, ff, ff, ff, ff, ff, ff, ff, ff, ff, ff, ff, ff, ff, ff, ff, ff] 37 false 249 hb553 (fun _ hq => mv 26 (vi x292) e328) ?_
                 refine Dgl 47 259 3 _ [tt, tt, tt, tt, tt, tt, tt, tt, tt, tt, tt, tt, tt, tt, tt, tt, tt, tt, tt, tt, tt, tt, tt, tt, tt, tt, tt, tt, tt, tt, tt, tt, tt, tt, tt, tt, tt, tt, tt, tt, tt, tt, tt, tt, tt, tt, tt, tt, ff, ff, ff, ff, ff, ff, ff, ff, ff, ff, ff, ff, ff, ff, ff, ff, ff, ff, ff, ff, ff, ff, ff, ff] 37 false 249 hb553 (fun _ hq => mv 27 (vi x306.Clock.Slip) e329) ?_
                 refine Dgl 48 260 3 (vi (W64 (x292 + x306.Clock.Slip))) [tt, tt, tt, tt, tt, tt, tt, tt, tt, tt, tt, tt, tt, tt, tt, tt, tt, tt, tt, tt, tt, tt, tt, tt, tt, tt, tt, tt, tt, tt, tt, tt, tt, tt, tt, tt, tt, tt, tt, tt, tt, tt, tt, tt, tt, tt, tt, tt, tt, ff, ff, ff, ff, ff, ff, ff, ff, ff, ff, ff, ff, ff, ff, ff, ff, ff, ff, ff, ff, ff, ff, ff] 37 false 249 hb553 (fun _ hq => run_add (t := 3) (t' := 3) (x := (.tmp 258)) (y := (.tmp 259)) (k := .i64) (a := x292) (b := x306.Clock.Slip) rfl rfl) ?_
                 refine Dgl 49 261 4 (.bool (decide (x562.Hi > (W64 (x292 + x306.Clock.Slip))))) [tt, tt, tt, tt, tt, tt, tt, tt, tt, tt, tt, tt, tt, tt, tt, tt, tt, tt, tt, tt, tt, tt, tt, tt, tt, tt, tt, tt, tt, tt, tt, tt, tt, tt, tt, tt, tt, tt, tt, tt, tt, tt, tt, tt, tt, tt, tt, tt, tt, tt, ff, ff, ff, ff, ff, ff, ff, ff, ff, ff, ff, ff, ff, ff, ff, ff, ff, ff, ff, ff, ff, ff] 37 false 249 hb553 (fun _ hq => run_gtr (t := 3) (t' := 3) (x := (.tmp 257)) (y := (.tmp 260)) (k := .i64) (a := x562.Hi) (b := (W64 (x292 + x306.Clock.Slip))) rfl rfl) ?_
                 refine Dtl 50 262 4 _ [tt, tt, tt, tt, tt, tt, tt, tt, tt, tt, tt, tt, tt, tt, tt, tt, tt, tt, tt, tt, tt, tt, tt, tt, tt, tt, tt, tt, tt, tt, tt, tt, tt, tt, tt, tt, tt, tt, tt, tt, tt, tt, tt, tt, tt, tt, tt, tt, tt, tt, tt, ff, ff, ff, ff, ff, ff, ff, ff, ff, ff, ff, ff, ff, ff, ff, ff, ff, ff, ff, ff, ff] (fun _ hq => p0 249 (.const (.bool true)) (.tmp 261) (.bool (decide (x562.Hi > (W64 (x292 + x306.Clock.Slip))))) hb553) ?_
                 refine Dtl 51 263 4 _ [tt, tt, tt, tt, tt, tt, tt, tt, tt, tt, tt, tt, tt, tt, tt, tt, tt, tt, tt, tt, tt, tt, tt, tt, tt, tt, tt, tt, tt, tt, tt, tt, tt, tt, tt, tt, tt, tt, tt, tt, tt, tt, tt, tt, tt, tt, tt, tt, tt, tt, tt, tt, ff, ff, ff, ff, ff, ff, ff, ff, ff, ff, ff, ff, ff, ff, ff, ff, ff, ff, ff, ff] (fun _ hq => mv 262 (.bool (decide (x562.Hi > (W64 (x292 + x306.Clock.Slip)))))) ?_
                 refine DWP.split (decide (x562.Hi > (W64 (x292 + x306.Clock.Slip)))) (fun hb576 => ?_) (fun hb576 => ?_)
                 ·have h577 := cond_t h565 hb576
                  refine Dkl [(52, 264), (53, 265)] 51 false 263 hb576 [tt, tt, tt, tt, tt, tt, tt, tt, tt, tt, tt, tt, tt, tt, tt, tt, tt, tt, tt, tt, tt, tt, tt, tt, tt, tt, tt, tt, tt, tt, tt, tt, tt, tt, tt, tt, tt, tt, tt, tt, tt, tt, tt, tt, tt, tt, tt, tt, tt, tt, tt, tt, tt, tt, ff, ff, ff, ff, ff, ff, ff, ff, ff, ff, ff, ff, ff, ff, ff, ff, ff, ff] ?_
                  refine Dul [(54, 266), (55, 267), (56, 268), (57, 269), (58, 270), (59, 271)] 53 true 265 [tt, tt, tt, tt, tt, tt, tt, tt, tt, tt, tt, tt, tt, tt, tt, tt, tt, tt, tt, tt, tt, tt, tt, tt, tt, tt, tt, tt, tt, tt, tt, tt, tt, tt, tt, tt, tt, tt, tt, tt, tt, tt, tt, tt, tt, tt, tt, tt, tt, tt, tt, tt, tt, tt, tt, tt, tt, tt, tt, tt, ff, ff, ff, ff, ff, ff, ff, ff, ff, ff, ff, ff] ?_
                  refine Dul [(60, 272), (61, 273), (62, 274), (63, 275), (64, 276), (65, 277)] 53 true 265 [tt, tt, tt, tt, tt, tt, tt, tt, tt, tt, tt, tt, tt, tt, tt, tt, tt, tt, tt, tt, tt, tt, tt, tt, tt, tt, tt, tt, tt, tt, tt, tt, tt, tt, tt, tt, tt, tt, tt, tt, tt, tt, tt, tt, tt, tt, tt, tt, tt, tt, tt, tt, tt, tt, tt, tt, tt, tt, tt, tt, tt, tt, tt, tt, tt, tt, ff, ff, ff, ff, ff, ff] ?_
                  refine Dul [(66, 278), (67, 279), (68, 280), (69, 281)] 53 true 265 [tt, tt, tt, tt, tt, tt, tt, tt, tt, tt, tt, tt, tt, tt, tt, tt, tt, tt, tt, tt, tt, tt, tt, tt, tt, tt, tt, tt, tt, tt, tt, tt, tt, tt, tt, tt, tt, tt, tt, tt, tt, tt, tt, tt, tt, tt, tt, tt, tt, tt, tt, tt, tt, tt, tt, tt, tt, tt, tt, tt, tt, tt, tt, tt, tt, tt, tt, tt, tt, tt, ff, ff] ?_
                  refine Dkl [(70, 282)] 51 false 263 hb576 [tt, tt, tt, tt, tt, tt, tt, tt, tt, tt, tt, tt, tt, tt, tt, tt, tt, tt, tt, tt, tt, tt, tt, tt, tt, tt, tt, tt, tt, tt, tt, tt, tt, tt, tt, tt, tt, tt, tt, tt, tt, tt, tt, tt, tt, tt, tt, tt, tt, tt, tt, tt, tt, tt, tt, tt, tt, tt, tt, tt, tt, tt, tt, tt, tt, tt, tt, tt, tt, tt, tt, ff] ?_
                  refine Dtl 71 283 4 _ [tt, tt, tt, tt, tt, tt, tt, tt, tt, tt, tt, tt, tt, tt, tt, tt, tt, tt, tt, tt, tt, tt, tt, tt, tt, tt, tt, tt, tt, tt, tt, tt, tt, tt, tt, tt, tt, tt, tt, tt, tt, tt, tt, tt, tt, tt, tt, tt, tt, tt, tt, tt, tt, tt, tt, tt, tt, tt, tt, tt, tt, tt, tt, tt, tt, tt, tt, tt, tt, tt, tt, tt] (fun _ hq => p1 263 (.const (.bool true)) (.tmp 282) (.bool true) hb576) ?_
                  obtain rfl := some_inj h577
                  exact DWP.done (by kernel_rfl) ⟨F18, hw434, (Mem.le.refl _), e316, e317, e318, e319, e320, e321, e322, e323, e324, e325, e326, e327, rfl⟩
                 ·have h578 := cond_f h565 hb576
                  refine Dgl 52 264 4 _ [tt, tt, tt, tt, tt, tt, tt, tt, tt, tt, tt, tt, tt, tt, tt, tt, tt, tt, tt, tt, tt, tt, tt, tt, tt, tt, tt, tt, tt, tt, tt, tt, tt, tt, tt, tt, tt, tt, tt, tt, tt, tt, tt, tt, tt, tt, tt, tt, tt, tt, tt, tt, tt, ff, ff, ff, ff, ff, ff, ff, ff, ff, ff, ff, ff, ff, ff, ff, ff, ff, ff, ff] 51 false 263 hb576 (fun _ hq => mv 22 (.bool r103.1) e325) ?_
                  refine Dgl 53 265 4 _ [tt, tt, tt, tt, tt, tt, tt, tt, tt, tt, tt, tt, tt, tt, tt, tt, tt, tt, tt, tt, tt, tt, tt, tt, tt, tt, tt, tt, tt, tt, tt, tt, tt, tt, tt, tt, tt, tt, tt, tt, tt, tt, tt, tt, tt, tt, tt, tt, tt, tt, tt, tt, tt, tt, ff, ff, ff, ff, ff, ff, ff, ff, ff, ff, ff, ff, ff, ff, ff, ff, ff, ff] 51 false 263 hb576 (fun _ hq => mv 264 (.bool r103.1)) ?_
                  refine DWP.split r103.1 (fun hb579 => ?_) (fun hb579 => ?_)
                  ·have h580 := cond_t h578 hb579
                   refine Dgl 54 266 71 _ [tt, tt, tt, tt, tt, tt, tt, tt, tt, tt, tt, tt, tt, tt, tt, tt, tt, tt, tt, tt, tt, tt, tt, tt, tt, tt, tt, tt, tt, tt, tt, tt, tt, tt, tt, tt, tt, tt, tt, tt, tt, tt, tt, tt, tt, tt, tt, tt, tt, tt, tt, tt, tt, tt, tt, ff, ff, ff, ff, ff, ff, ff, ff, ff, ff, ff, ff, ff, ff, ff, ff, ff] 53 true 265 hb579 (fun _ hq => mv 1 (.slice a1_0 x1.length n1_0) e317) ?_
                   refine Dgl 55 267 3 _ [tt, tt, tt, tt, tt, tt, tt, tt, tt, tt, tt, tt, tt, tt, tt, tt, tt, tt, tt, tt, tt, tt, tt, tt, tt, tt, tt, tt, tt, tt, tt, tt, tt, tt, tt, tt, tt, tt, tt, tt, tt, tt, tt, tt, tt, tt, tt, tt, tt, tt, tt, tt, tt, tt, tt, tt, ff, ff, ff, ff, ff, ff, ff, ff, ff, ff, ff, ff, ff, ff, ff, ff] 53 true 265 hb579 (fun _ hq => mv 24 (vi s138) e326) ?_
                   obtain ⟨x581, hx582, h584⟩ := bind_some h580
                   obtain ⟨hi583, hx582'⟩ := idx_spec hx582
                   obtain ⟨b585, o586, C587, E588, fz589, rfl, hF591, hE592⟩ := SlA.open (SlA.mono hs1_0 ((((((((((((le13.trans le17).trans le48).trans le77).trans le85).trans le93).trans le101).trans le109).trans le113).trans le141).trans le175).trans le228).trans le314)) hx582'
                   obtain ⟨ae593_0, ne593_0, hc594, hbe593_0, hse593_0⟩ := hE592 _ _ hx582'
                   refine Dgl 56 268 0 (.pointer (some ⟨b585, (o586 + (s138 : Int).toNat * 1), none⟩)) [tt, tt, tt, tt, tt, tt, tt, tt, tt, tt, tt, tt, tt, tt, tt, tt, tt, tt, tt, tt, tt, tt, tt, tt, tt, tt, tt, tt, tt, tt, tt, tt, tt, tt, tt, tt, tt, tt, tt, tt, tt, tt, tt, tt, tt, tt, tt, tt, tt, tt, tt, tt, tt, tt, tt, tt, tt, ff, ff, ff, ff, ff, ff, ff, ff, ff, ff, ff, ff, ff, ff, ff] 53 true 265 hb579 (fun _ hq => ix 71 266 267 b585 o586 50 1 24 hi583) ?_
                   refine Dgl 57 269 50 _ [tt, tt, tt, tt, tt, tt, tt, tt, tt, tt, tt, tt, tt, tt, tt, tt, tt, tt, tt, tt, tt, tt, tt, tt, tt, tt, tt, tt, tt, tt, tt, tt, tt, tt, tt, tt, tt, tt, tt, tt, tt, tt, tt, tt, tt, tt, tt, tt, tt, tt, tt, tt, tt, tt, tt, tt, tt, tt, ff, ff, ff, ff, ff, ff, ff, ff, ff, ff, ff, ff, ff, ff] 53 true 265 hb579 (fun _ hq => lx 50 268 0 1 false 1 (.slice ae593_0 x581.length ne593_0) (hq.1.1 _ _ hF591) hc594) ?_
                   refine Dgl 58 270 3 _ [tt, tt, tt, tt, tt, tt, tt, tt, tt, tt, tt, tt, tt, tt, tt, tt, tt, tt, tt, tt, tt, tt, tt, tt, tt, tt, tt, tt, tt, tt, tt, tt, tt, tt, tt, tt, tt, tt, tt, tt, tt, tt, tt, tt, tt, tt, tt, tt, tt, tt, tt, tt, tt, tt, tt, tt, tt, tt, tt, ff, ff, ff, ff, ff, ff, ff, ff, ff, ff, ff, ff, ff] 53 true 265 hb579 (fun _ hq => mv 25 (vi s225) e327) ?_
                   obtain ⟨x595, hx596, h598⟩ := bind_some h584
                   obtain ⟨hi597, hx596'⟩ := idx_spec hx596
                   obtain ⟨b599, o600, C601, E602, fz603, rfl, hF605, hE606⟩ := SlA.open hse593_0 hx596'
                   have hc608 := hE606 _ _ hx596'
                   refine Dgl 59 271 0 (.pointer (some ⟨b599, (o600 + (s225 : Int).toNat * 1), none⟩)) [tt, tt, tt, tt, tt, tt, tt, tt, tt, tt, tt, tt, tt, tt, tt, tt, tt, tt, tt, tt, tt, tt, tt, tt, tt, tt, tt, tt, tt, tt, tt, tt, tt, tt, tt, tt, tt, tt, tt, tt, tt, tt, tt, tt, tt, tt, tt, tt, tt, tt, tt, tt, tt, tt, tt, tt, tt, tt, tt, tt, ff, ff, ff, ff, ff, ff, ff, ff, ff, ff, ff, ff] 53 true 265 hb579 (fun _ hq => ix 50 269 270 b599 o600 3 1 8 hi597) ?_
                   refine Dgl 60 272 3 _ [tt, tt, tt, tt, tt, tt, tt, tt, tt, tt, tt, tt, tt, tt, tt, tt, tt, tt, tt, tt, tt, tt, tt, tt, tt, tt, tt, tt, tt, tt, tt, tt, tt, tt, tt, tt, tt, tt, tt, tt, tt, tt, tt, tt, tt, tt, tt, tt, tt, tt, tt, tt, tt, tt, tt, tt, tt, tt, tt, tt, tt, ff, ff, ff, ff, ff, ff, ff, ff, ff, ff, ff] 53 true 265 hb579 (fun _ hq => lx 3 271 0 1 false 1 (vi x595) (hq.1.1 _ _ hF605) hc608) ?_
                   refine Dgl 61 273 33 _ [tt, tt, tt, tt, tt, tt, tt, tt, tt, tt, tt, tt, tt, tt, tt, tt, tt, tt, tt, tt, tt, tt, tt, tt, tt, tt, tt, tt, tt, tt, tt, tt, tt, tt, tt, tt, tt, tt, tt, tt, tt, tt, tt, tt, tt, tt, tt, tt, tt, tt, tt, tt, tt, tt, tt, tt, tt, tt, tt, tt, tt, tt, ff, ff, ff, ff, ff, ff, ff, ff, ff, ff] 53 true 265 hb579 (fun _ hq => mv 10 (.slice (some ⟨b266, o267, none⟩) r42.1.length nr42_0_0) e322) ?_
                   refine Dgl 62 274 3 _ [tt, tt, tt, tt, tt, tt, tt, tt, tt, tt, tt, tt, tt, tt, tt, tt, tt, tt, tt, tt, tt, tt, tt, tt, tt, tt, tt, tt, tt, tt, tt, tt, tt, tt, tt, tt, tt, tt, tt, tt, tt, tt, tt, tt, tt, tt, tt, tt, tt, tt, tt, tt, tt, tt, tt, tt, tt, tt, tt, tt, tt, tt, tt, ff, ff, ff, ff, ff, ff, ff, ff, ff] 53 true 265 hb579 (fun _ hq => mv 24 (vi s138) e326) ?_
                   obtain ⟨x609, hx610, h612⟩ := bind_some h598
                   obtain ⟨hi611, hx610'⟩ := idx_spec hx610
                   obtain ⟨ae613_0, ne613_0, hc614, hbe613_0, hse613_0⟩ := hE273 _ _ hx610'
                   refine Dgl 63 275 0 (.pointer (some ⟨b266, (o267 + (s138 : Int).toNat * 1), none⟩)) [tt, tt, tt, tt, tt, tt, tt, tt, tt, tt, tt, tt, tt, tt, tt, tt, tt, tt, tt, tt, tt, tt, tt, tt, tt, tt, tt, tt, tt, tt, tt, tt, tt, tt, tt, tt, tt, tt, tt, tt, tt, tt, tt, tt, tt, tt, tt, tt, tt, tt, tt, tt, tt, tt, tt, tt, tt, tt, tt, tt, tt, tt, tt, tt, ff, ff, ff, ff, ff, ff, ff, ff] 53 true 265 hb579 (fun _ hq => ix 33 273 274 b266 o267 36 1 24 hi611) ?_
                   refine Dgl 64 276 36 _ [tt, tt, tt, tt, tt, tt, tt, tt, tt, tt, tt, tt, tt, tt, tt, tt, tt, tt, tt, tt, tt, tt, tt, tt, tt, tt, tt, tt, tt, tt, tt, tt, tt, tt, tt, tt, tt, tt, tt, tt, tt, tt, tt, tt, tt, tt, tt, tt, tt, tt, tt, tt, tt, tt, tt, tt, tt, tt, tt, tt, tt, tt, tt, tt, tt, ff, ff, ff, ff, ff, ff, ff] 53 true 265 hb579 (fun _ hq => lx 36 275 0 1 false 1 (.slice ae613_0 x609.length ne613_0) (hq.1.1 _ _ (le314 _ _ hF272)) hc614) ?_
                   refine Dgl 65 277 3 _ [tt, tt, tt, tt, tt, tt, tt, tt, tt, tt, tt, tt, tt, tt, tt, tt, tt, tt, tt, tt, tt, tt, tt, tt, tt, tt, tt, tt, tt, tt, tt, tt, tt, tt, tt, tt, tt, tt, tt, tt, tt, tt, tt, tt, tt, tt, tt, tt, tt, tt, tt, tt, tt, tt, tt, tt, tt, tt, tt, tt, tt, tt, tt, tt, tt, tt, ff, ff, ff, ff, ff, ff] 53 true 265 hb579 (fun _ hq => mv 25 (vi s225) e327) ?_
                   obtain ⟨x615, hx616, h618⟩ := bind_some h612
                   obtain ⟨hi617, hx616'⟩ := idx_spec hx616
                   obtain ⟨b619, o620, C621, E622, fz623, rfl, hF625, hE626⟩ := SlA.open (SlA.mono hse613_0 le314) hx616'
                   have hc628 := hE626 _ _ hx616'
                   refine Dgl 66 278 0 (.pointer (some ⟨b619, (o620 + (s225 : Int).toNat * 2), none⟩)) [tt, tt, tt, tt, tt, tt, tt, tt, tt, tt, tt, tt, tt, tt, tt, tt, tt, tt, tt, tt, tt, tt, tt, tt, tt, tt, tt, tt, tt, tt, tt, tt, tt, tt, tt, tt, tt, tt, tt, tt, tt, tt, tt, tt, tt, tt, tt, tt, tt, tt, tt, tt, tt, tt, tt, tt, tt, tt, tt, tt, tt, tt, tt, tt, tt, tt, tt, ff, ff, ff, ff, ff] 53 true 265 hb579 (fun _ hq => ix 36 276 277 b619 o620 38 2 16 hi617) ?_
                   refine Dgl 67 279 38 _ [tt, tt, tt, tt, tt, tt, tt, tt, tt, tt, tt, tt, tt, tt, tt, tt, tt, tt, tt, tt, tt, tt, tt, tt, tt, tt, tt, tt, tt, tt, tt, tt, tt, tt, tt, tt, tt, tt, tt, tt, tt, tt, tt, tt, tt, tt, tt, tt, tt, tt, tt, tt, tt, tt, tt, tt, tt, tt, tt, tt, tt, tt, tt, tt, tt, tt, tt, tt, ff, ff, ff, ff] 53 true 265 hb579 (fun _ hq => lx 38 278 0 2 true 2 (.agg (kSpan x615)) (hq.1.1 _ _ hF625) hc628) ?_
                   refine DWP.one (i := 68) (by kernel_rfl) ?_
                   obtain ⟨r629, hr630, h631⟩ := bind_some h618
                   refine DStep.call (l' := [true, true, true, true, true, true, true, true, true, true, true, true, true, true, true, true, true, true, true, true, true, true, true, true, true, true, true, true, true, true, true, true, true, true, true, true, true, true, true, true, true, true, true, true, true, true, true, true, true, true, true, true, true, true, true, true, true, true, true, true, true, true, true, true, true, true, true, true, true, false, false, false]) (zd := true) (by kernel_rfl) (by kernel_rfl) (by kernel_rfl) (dst := (some 280)) (ty := 4) (g := (some (53, true))) (by kernel_rfl) (gd_y (d := 265) (by kernel_rfl) rfl hb579) (f0 := (.func 56)) (aos := #[(.tmp 272), (.tmp 279)]) (ats := #[3, 38]) (fid := 56) (first := #[]) (cap := #[]) (args := [(vi x595), (.agg (kSpan x615))]) rfl co_law03_inside (rfl) hw434 (c_law03_inside N wd433 F18 hw434.pers (x595) (x615) _ hr630) ?_
                   intro v632 F20 w633 hs634 le635 hp636
                   obtain rfl := hp636
                   refine Dgl 69 281 4 (.bool (!r629)) [tt, tt, tt, tt, tt, tt, tt, tt, tt, tt, tt, tt, tt, tt, tt, tt, tt, tt, tt, tt, tt, tt, tt, tt, tt, tt, tt, tt, tt, tt, tt, tt, tt, tt, tt, tt, tt, tt, tt, tt, tt, tt, tt, tt, tt, tt, tt, tt, tt, tt, tt, tt, tt, tt, tt, tt, tt, tt, tt, tt, tt, tt, tt, tt, tt, tt, tt, tt, tt, tt, ff, ff] 53 true 265 hb579 (fun _ hq => run_not (t := 4) (x := (.tmp 280)) (a := r629) rfl) ?_
                   refine Dgl 70 282 4 _ [tt, tt, tt, tt, tt, tt, tt, tt, tt, tt, tt, tt, tt, tt, tt, tt, tt, tt, tt, tt, tt, tt, tt, tt, tt, tt, tt, tt, tt, tt, tt, tt, tt, tt, tt, tt, tt, tt, tt, tt, tt, tt, tt, tt, tt, tt, tt, tt, tt, tt, tt, tt, tt, tt, tt, tt, tt, tt, tt, tt, tt, tt, tt, tt, tt, tt, tt, tt, tt, tt, tt, ff] 51 false 263 hb576 (fun _ hq => p1 265 (.tmp 281) (.const (.bool false)) (.bool (!r629)) hb579) ?_
                   refine Dtl 71 283 4 _ [tt, tt, tt, tt, tt, tt, tt, tt, tt, tt, tt, tt, tt, tt, tt, tt, tt, tt, tt, tt, tt, tt, tt, tt, tt, tt, tt, tt, tt, tt, tt, tt, tt, tt, tt, tt, tt, tt, tt, tt, tt, tt, tt, tt, tt, tt, tt, tt, tt, tt, tt, tt, tt, tt, tt, tt, tt, tt, tt, tt, tt, tt, tt, tt, tt, tt, tt, tt, tt, tt, tt, tt] (fun _ hq => p0 263 (.const (.bool true)) (.tmp 282) (.bool (!r629)) hb576) ?_
                   obtain rfl := some_inj h631
                   exact DWP.done (by kernel_rfl) ⟨F20, hs634, le635, e316, e317, e318, e319, e320, e321, e322, e323, e324, e325, e326, e327, rfl⟩
                  ·have h637 := cond_f h578 hb579
                   refine Dkl [(54, 266), (55, 267), (56, 268), (57, 269), (58, 270), (59, 271)] 53 true 265 hb579 [tt, tt, tt, tt, tt, tt, tt, tt, tt, tt, tt, tt, tt, tt, tt, tt, tt, tt, tt, tt, tt, tt, tt, tt, tt, tt, tt, tt, tt, tt, tt, tt, tt, tt, tt, tt, tt, tt, tt, tt, tt, tt, tt, tt, tt, tt, tt, tt, tt, tt, tt, tt, tt, tt, tt, tt, tt, tt, tt, tt, ff, ff, ff, ff, ff, ff, ff, ff, ff, ff, ff, ff] ?_
                   refine Dkl [(60, 272), (61, 273), (62, 274), (63, 275), (64, 276), (65, 277)] 53 true 265 hb579 [tt, tt, tt, tt, tt, tt, tt, tt, tt, tt, tt, tt, tt, tt, tt, tt, tt, tt, tt, tt, tt, tt, tt, tt, tt, tt, tt, tt, tt, tt, tt, tt, tt, tt, tt, tt, tt, tt, tt, tt, tt, tt, tt, tt, tt, tt, tt, tt, tt, tt, tt, tt, tt, tt, tt, tt, tt, tt, tt, tt, tt, tt, tt, tt, tt, tt, ff, ff, ff, ff, ff, ff] ?_
                   refine Dkl [(66, 278), (67, 279), (68, 280), (69, 281)] 53 true 265 hb579 [tt, tt, tt, tt, tt, tt, tt, tt, tt, tt, tt, tt, tt, tt, tt, tt, tt, tt, tt, tt, tt, tt, tt, tt, tt, tt, tt, tt, tt, tt, tt, tt, tt, tt, tt, tt, tt, tt, tt, tt, tt, tt, tt, tt, tt, tt, tt, tt, tt, tt, tt, tt, tt, tt, tt, tt, tt, tt, tt, tt, tt, tt, tt, tt, tt, tt, tt, tt, tt, tt, ff, ff] ?_
                   refine Dgl 70 282 4 _ [tt, tt, tt, tt, tt, tt, tt, tt, tt, tt, tt, tt, tt, tt, tt, tt, tt, tt, tt, tt, tt, tt, tt, tt, tt, tt, tt, tt, tt, tt, tt, tt, tt, tt, tt, tt, tt, tt, tt, tt, tt, tt, tt, tt, tt, tt, tt, tt, tt, tt, tt, tt, tt, tt, tt, tt, tt, tt, tt, tt, tt, tt, tt, tt, tt, tt, tt, tt, tt, tt, tt, ff] 51 false 263 hb576 (fun _ hq => p0 265 (.tmp 281) (.const (.bool false)) (.bool false) hb579) ?_
                   refine Dtl 71 283 4 _ [tt, tt, tt, tt, tt, tt, tt, tt, tt, tt, tt, tt, tt, tt, tt, tt, tt, tt, tt, tt, tt, tt, tt, tt, tt, tt, tt, tt, tt, tt, tt, tt, tt, tt, tt, tt, tt, tt, tt, tt, tt, tt, tt, tt, tt, tt, tt, tt, tt, tt, tt, tt, tt, tt, tt, tt, tt, tt, tt, tt, tt, tt, tt, tt, tt, tt, tt, tt, tt, tt, tt, tt] (fun _ hq => p0 263 (.const (.bool true)) (.tmp 282) (.bool false) hb576) ?_
                   obtain rfl := some_inj h637
                   exact DWP.done (by kernel_rfl) ⟨F18, hw434, (Mem.le.refl _), e316, e317, e318, e319, e320, e321, e322, e323, e324, e325, e326, e327, rfl⟩
              ·rintro f w435 ⟨F19, hs436, le437, e439, e440, e441, e442, e443, e444, e445, e446, e447, e448, e449, e450, e451⟩
               refine thenQ_nrm ?_
               refine CWP.cond (t := j438) (by kernel_rfl) e451 (fun hb638 => ?_) (fun hb638 => ?_)
               ·have h639 := cond_t h453 hb638
                refine Sq (Rg [0] ?_)
                refine V 8 4 (mc (.bool false) (.bool false)) ?_
                refine Nt ?_
                refine CWP.ret (by kernel_rfl) ?_
                refine blockQ_ret ?_
                refine thenQ_ret ?_
                refine thenQ_ret ?_
                refine blockQ_ret ?_
                have hret := iter_ret h639 hnx261
                subst hret
                refine .inr ?_
                refine blockQ_ret ?_
                refine thenQ_ret ?_
                refine thenQ_ret ?_
                refine blockQ_ret ?_
                have hret := iter_ret h224 hnx168
                subst hret
                refine .inr ?_
                refine thenQ_ret ?_
                have hfin := some_inj h137
                subst hfin
                exact ⟨e439, (.bool false), res_of (l := [.tmp 8]) (by kernel_rfl) (vs := [(.bool false)]) ⟨rfl, trivial⟩, (.bool false), F19, rfl, hs436.clear, rfl⟩
               ·have h640 := cond_f h453 hb638
                refine Sc ?_
                refine blockQ_nrm ?_
                refine thenQ_nrm ?_
                refine Rg [0, 1, 2] ?_
                refine V 148 3 (mv 25 (vi s225) e450) ?_
                refine V 149 3 (run_add (t := 3) (t' := 3) (x := (.tmp 148)) (y := (.const (vi 1))) (k := .i64) (a := s225) (b := 1) rfl rfl) ?_
                refine V 25 3 (ma 149 (vi (W64 (s225 + 1)))) ?_
                refine RWP.nil ?_
                have hn641 := iter_next h640 hnx261
                exact ⟨m258, Nat.lt_succ_self _, (W64 (s225 + 1)), F19, hn641, hs436, ((le228.trans le314).trans le437), e439, e440, e441, e442, e443, e444, e445, e446, e447, e448, e449, rfl⟩
           ·have h642 := cond_f h265 hb276
            refine CWP.exit (by kernel_rfl) ?_
            refine thenQ_ex ?_
            refine thenQ_ex ?_
            refine blockQ_hit rfl ?_
            have ho643 := iter_done h642 hnx261
            exact .inl ⟨rfl, s225, F16, ho643, hs227, le228, e229, e230, e231, e232, e233, e234, e235, e236, e237, e238, e239⟩
          ·rintro f w242 ⟨s241, F17, rfl, hs243, le244, e245, e246, e247, e248, e249, e250, e251, e252, e253, e254, e255⟩
           have h644 := k_done h224
           refine blockQ_nrm ?_
           refine thenQ_nrm ?_
           refine Rg [0, 1, 2] ?_
           refine V 126 3 (mv 24 (vi s138) e255) ?_
           refine V 127 3 (run_add (t := 3) (t' := 3) (x := (.tmp 126)) (y := (.const (vi 1))) (k := .i64) (a := s138) (b := 1) rfl rfl) ?_
           refine V 24 3 (ma 127 (vi (W64 (s138 + 1)))) ?_
           refine RWP.nil ?_
           have hn645 := iter_next h644 hnx168
           exact ⟨m165, Nat.lt_succ_self _, (W64 (s138 + 1)), F17, hn645, hs243, ((le141.trans le175).trans le244), e245, e246, e247, e248, e249, e250, e251, e252, e253, e254, rfl⟩
       ·have h646 := cond_f hb167 hb169
        refine CWP.exit (by kernel_rfl) ?_
        refine thenQ_ex ?_
        refine thenQ_ex ?_
        refine blockQ_hit rfl ?_
        have ho647 := iter_done h646 hnx168
        exact .inl ⟨rfl, s138, F13, ho647, hs140, le141, e142, e144, e145, e146, e147, e148⟩
      ·rintro f w154 ⟨s153, F14, rfl, hs155, le156, e157, e158, e159, e160, e161, e162⟩
       have h648 := k_done h137
       refine thenQ_nrm ?_
       refine Sq (Rg [0, 1, 2, 3, 4, 5, 6, 7, 8] ?_)
       refine V 285 25 (ld 25 4 b1 0 true 3 (.agg (kSystem x0 a0_0 n0_0 a0_1 n0_1)) (hs155.ownAt (k := 1) rfl) e159) ?_
       refine V 286 27 (ld 27 6 b4 0 true 2 (.agg (kRef x2)) (hs155.ownAt (k := 0) rfl) e160) ?_
       obtain ⟨r649, hr650, h651⟩ := bind_some h648
       refine Cl 287 39 21 #[(.tmp 285), (.tmp 286)] #[25, 27] co_clocks_Interval hs155 (c_clocks_Interval N w154 F14 hs155.pers (x0) a0_0 n0_0 hb0_0 (SlA.mono hs0_0 (((((((((le13.trans le17).trans le48).trans le77).trans le85).trans le93).trans le101).trans le109).trans le113).trans le156)) a0_1 n0_1 hb0_1 (SlA.mono hs0_1 (((((((((le13.trans le17).trans le48).trans le77).trans le85).trans le93).trans le101).trans le109).trans le113).trans le156)) (x2) _ hr650) ?_
       intro v652 F21 w653 hs654 le655 hp656
       obtain rfl := hp656
       refine V 284 39 (mv 287 (.tuple #[(.agg (kSpan r649.1)), (vi r649.2)])) ?_
       refine V 288 38 (ex 284 0 (.agg (kSpan r649.1)) (vs := #[(.agg (kSpan r649.1)), (vi r649.2)])) ?_
       refine V 289 30 (ex 284 1 (vi r649.2) (vs := #[(.agg (kSpan r649.1)), (vi r649.2)])) ?_
       refine Al 28 0 38 #[(vi 0), (vi 0)] hs654 (fun b657 w658 (hs659 : HS w0 F0 w658 F21 [(sb b657 #[(vi 0), (vi 0)] 38), (sb b4 (kRef x2) 27), (sb b1 (kSystem x0 a0_0 n0_0 a0_1 n0_1) 25)]) => ?_)
       refine RWP.store (ty := 0) (g := none) (by kernel_rfl) rfl (x := (.tmp 28)) (y := (.tmp 288)) (t := 38) (gg := true) (s := 2) (v := (.agg (kSpan r649.1))) (b := b657) (o := 0) (C := #[(vi 0), (vi 0)]) rfl rfl (by kernel_rfl) hs659 (k := 0) rfl rfl rfl rfl (C' := (kSpan r649.1)) rfl (fun w660 (hs661 : HS w0 F0 w660 F21 [(sb b657 (kSpan r649.1) 38), (sb b4 (kRef x2) 27), (sb b1 (kSystem x0 a0_0 n0_0 a0_1 n0_1) 25)]) => ?_)
       refine V 29 30 (ma 289 (vi r649.2)) ?_
       refine Nss ?_
       refine Sq (Rg [0, 1] ?_)
       refine V 290 30 (mv 29 (vi r649.2)) ?_
       refine V 291 4 (run_neq (t := 30) (t' := 30) (x := (.tmp 290)) (y := (.const (vi 0))) (k := .i64) (a := r649.2) (b := 0) rfl rfl) ?_
       refine Nt ?_
       refine CWP.cond (t := (r649.2 != 0)) (by kernel_rfl) rfl (fun hb662 => ?_) (fun hb662 => ?_)
       ·have h663 := cond_t h651 hb662
        refine Sq (Rg [0, 1, 2, 3, 4, 5] ?_)
        refine RWP.cut (fun f w => ∃ (F22 : Mem), HS w0 F0 w F22 [] ∧ Mem.le F21 F22 ∧ f.d = [] ∧ f 8 = (.bool (r7 && (r649.2 == 3)))) ?_ ?_
        ·refine V 292 4 (mv 9 (.bool r7) e161) ?_
         refine V 293 4 (mv 292 (.bool r7)) ?_
         refine RWP.split r7 (fun hb669 => ?_) (fun hb669 => ?_)
         ·refine Vg 294 30 1 true 293 hb669 (mv 29 (vi r649.2)) ?_
          refine Vg 295 4 1 true 293 hb669 (run_eql (t := 30) (t' := 30) (x := (.tmp 294)) (y := (.const (vi 3))) (k := .i64) (a := r649.2) (b := 3) rfl rfl) ?_
          refine V 296 4 (p1 293 (.tmp 295) (.const (.bool false)) (.bool (r649.2 == 3)) hb669) ?_
          refine V 8 4 (ma 296 (.bool (r649.2 == 3))) ?_
          have hs670 : HS w0 F0 w660 F21 [(sb b4 (kRef x2) 27), (sb b1 (kSystem x0 a0_0 n0_0 a0_1 n0_1) 25)] := hs661.drop 0
          have hs671 : HS w0 F0 w660 F21 [(sb b1 (kSystem x0 a0_0 n0_0 a0_1 n0_1) 25)] := hs670.drop 0
          have hs672 : HS w0 F0 w660 F21 [] := hs671.drop 0
          exact RWP.nil ⟨rfl, F21, hs672, (Mem.le.refl _), e157, (congrArg Value.bool (and_t hb669 (rfl)))⟩
         ·refine Sk [294, 295] 1 true 293 hb669 ?_
          refine V 296 4 (p0 293 (.tmp 295) (.const (.bool false)) (.bool false) hb669) ?_
          refine V 8 4 (ma 296 (.bool false)) ?_
          have hs673 : HS w0 F0 w660 F21 [(sb b4 (kRef x2) 27), (sb b1 (kSystem x0 a0_0 n0_0 a0_1 n0_1) 25)] := hs661.drop 0
          have hs674 : HS w0 F0 w660 F21 [(sb b1 (kSystem x0 a0_0 n0_0 a0_1 n0_1) 25)] := hs673.drop 0
          have hs675 : HS w0 F0 w660 F21 [] := hs674.drop 0
          exact RWP.nil ⟨rfl, F21, hs675, (Mem.le.refl _), e157, (congrArg Value.bool (and_f hb669 (rfl)))⟩
        ·rintro f w664 ⟨F22, hs665, le666, e667, e668⟩
         refine thenQ_nrm ?_
         refine CWP.ret (by kernel_rfl) ?_
         refine thenQ_ret ?_
         have hfin := some_inj h663
         subst hfin
         exact ⟨e667, (.bool (r7 && (r649.2 == 3))), res_of (l := [.tmp 8]) (by kernel_rfl) (vs := [(.bool (r7 && (r649.2 == 3)))]) ⟨e668, trivial⟩, (.bool (r7 && (r649.2 == 3))), F22, rfl, hs665.clear, rfl⟩
       ·have h676 := cond_f h651 hb662
        refine Sc ?_
        refine thenQ_nrm ?_
        refine Sq (Rg [0, 1, 2, 3, 4, 5, 6, 7] ?_)
        refine V 297 0 (fa 38 28 1 1 1 b657 0 1) ?_
        refine V 298 3 (ld 3 297 b657 1 false 1 (vi r649.1.Hi) (hs661.ownAt (k := 0) rfl)) ?_
        refine V 299 0 (fa 38 28 0 0 1 b657 0 0) ?_
        refine V 300 3 (ld 3 299 b657 0 false 1 (vi r649.1.Lo) (hs661.ownAt (k := 0) rfl)) ?_
        refine V 301 3 (mv 3 (vi x3) e158) ?_
        refine V 302 3 (run_max2 (x := (.tmp 300)) (y := (.tmp 301)) (ats := #[3, 3]) (a := r649.1.Lo) (b := x3) rfl rfl) ?_
        refine V 303 3 (run_min2 (x := (.tmp 298)) (y := (.tmp 302)) (ats := #[3, 3]) (a := r649.1.Hi) (b := (max r649.1.Lo x3)) rfl rfl) ?_
        refine V 3 3 (ma 303 (vi (min r649.1.Hi (max r649.1.Lo x3)))) ?_
        refine Nss ?_
        obtain ⟨j682, hj690, h691⟩ := bind_some h676
        refine CWP.regionD (by kernel_rfl) (by kernel_rfl) (by kernel_rfl) (by kernel_rfl) (z := 11) (F := F21) (Lc := [(sb b657 (kSpan r649.1) 38), (sb b4 (kRef x2) 27), (sb b1 (kSystem x0 a0_0 n0_0 a0_1 n0_1) 25)]) (Lz := []) (l := [false, false, false, false, false, false, false, false, false, false, false]) (fuel := 11) (by kernel_rfl) (by kernel_rfl) hs661 (by simp) (by simp) (fun f w => ∃ (F23 : Mem), HS w0 F0 w F23 [(sb b657 (kSpan r649.1) 38), (sb b4 (kRef x2) 27)] ∧ Mem.le F21 F23 ∧ f.d = [] ∧ f 6 = (.pointer (some ⟨b4, 0, none⟩)) ∧ f 9 = (.bool r7) ∧ f 10 = (.slice ar42_0_0 r42.1.length nr42_0_0) ∧ f 28 = (.pointer (some ⟨b657, 0, none⟩)) ∧ f 30 = (.bool j682.1) ∧ f 31 = (vi j682.2)) (fun wd677 hw678 => ?_) ?_
        ·refine Dt 0 305 25 _ (fun _ hq => ld 25 4 b1 0 true 3 (.agg (kSystem x0 a0_0 n0_0 a0_1 n0_1)) (hq.1.2 2 _ _ rfl) e159) ?_
         refine Dt 1 306 25 _ (fun _ hq => ld 25 4 b1 0 true 3 (.agg (kSystem x0 a0_0 n0_0 a0_1 n0_1)) (hq.1.2 2 _ _ rfl) e159) ?_
         refine Dt 2 307 27 _ (fun _ hq => ld 27 6 b4 0 true 2 (.agg (kRef x2)) (hq.1.2 1 _ _ rfl) e160) ?_
         refine Dt 3 308 3 _ (fun _ hq => mv 3 (vi (min r649.1.Hi (max r649.1.Lo x3)))) ?_
         refine DWP.one (i := 4) (by kernel_rfl) ?_
         obtain ⟨r692, hr693, h694⟩ := bind_some hj690
         refine DStep.call (l' := [true, true, true, true, true, false, false, false, false, false, false]) (zd := true) (by kernel_rfl) (by kernel_rfl) (by kernel_rfl) (dst := (some 309)) (ty := 71) (g := none) (by kernel_rfl) rfl (f0 := (.func 57)) (aos := #[(.tmp 306), (.tmp 307), (.tmp 308)]) (ats := #[25, 27, 3]) (fid := 57) (first := #[]) (cap := #[]) (args := [(.agg (kSystem x0 a0_0 n0_0 a0_1 n0_1)), (.agg (kRef x2)), (vi (min r649.1.Hi (max r649.1.Lo x3)))]) rfl co_law03_through (rfl) hw678 (c_law03_through N wd677 F21 hw678.pers (x0) a0_0 n0_0 hb0_0 (SlA.mono hs0_0 ((((((((((le13.trans le17).trans le48).trans le77).trans le85).trans le93).trans le101).trans le109).trans le113).trans le156).trans le655)) a0_1 n0_1 hb0_1 (SlA.mono hs0_1 ((((((((((le13.trans le17).trans le48).trans le77).trans le85).trans le93).trans le101).trans le109).trans le113).trans le156).trans le655)) (x2) ((min r649.1.Hi (max r649.1.Lo x3))) _ hr693) ?_
         intro v695 F24 w696 hs697 le698 hp699
         obtain ⟨ar692_0_0, nr692_0_0, rfl, hbr692_0_0, hsr692_0_0⟩ := hp699
         refine DWP.one (i := 5) (by kernel_rfl) ?_
         obtain ⟨r700, hr701, h702⟩ := bind_some h694
         refine DStep.call (l' := [true, true, true, true, true, true, false, false, false, false, false]) (zd := true) (by kernel_rfl) (by kernel_rfl) (by kernel_rfl) (dst := (some 310)) (ty := 43) (g := none) (by kernel_rfl) rfl (f0 := (.func 55)) (aos := #[(.tmp 305), (.tmp 309)]) (ats := #[25, 71]) (fid := 55) (first := #[]) (cap := #[]) (args := [(.agg (kSystem x0 a0_0 n0_0 a0_1 n0_1)), (.slice ar692_0_0 r692.length nr692_0_0)]) rfl co_clocks_Keeps (rfl) hs697 (c_clocks_Keeps N w696 F24 hs697.pers (x0) a0_0 n0_0 hb0_0 (SlA.mono hs0_0 (((((((((((le13.trans le17).trans le48).trans le77).trans le85).trans le93).trans le101).trans le109).trans le113).trans le156).trans le655).trans le698)) a0_1 n0_1 hb0_1 (SlA.mono hs0_1 (((((((((((le13.trans le17).trans le48).trans le77).trans le85).trans le93).trans le101).trans le109).trans le113).trans le156).trans le655).trans le698)) (r692) ar692_0_0 nr692_0_0 hbr692_0_0 hsr692_0_0 _ hr701) ?_
         intro v703 F25 w704 hs705 le706 hp707
         obtain rfl := hp707
         refine Dt 6 304 43 _ (fun _ hq => mv 310 (.tuple #[(.bool r700.1), (vi r700.2)])) ?_
         refine Dt 7 311 4 _ (fun _ hq => ex 304 0 (.bool r700.1) (vs := #[(.bool r700.1), (vi r700.2)])) ?_
         refine Dt 8 312 30 _ (fun _ hq => ex 304 1 (vi r700.2) (vs := #[(.bool r700.1), (vi r700.2)])) ?_
         refine Dt 9 30 4 _ (fun _ hq => ma 311 (.bool r700.1)) ?_
         refine Dt 10 31 30 _ (fun _ hq => ma 312 (vi r700.2)) ?_
         obtain rfl := some_inj h702
         have hs708 : HS w0 F0 w704 F25 [(sb b657 (kSpan r649.1) 38), (sb b4 (kRef x2) 27)] := hs705.drop 2
         exact DWP.done (by kernel_rfl) ⟨F25, hs708, (le698.trans le706), e157, e160, e161, e162, rfl, rfl, rfl⟩
        ·rintro f w679 ⟨F23, hs680, le681, e683, e684, e685, e686, e687, e688, e689⟩
         refine thenQ_nrm ?_
         refine Sq ?_
         obtain ⟨j714, hj717, h718⟩ := bind_some h691
         refine CWP.regionD (by kernel_rfl) (by kernel_rfl) (by kernel_rfl) (by kernel_rfl) (z := 22) (F := F23) (Lc := [(sb b657 (kSpan r649.1) 38), (sb b4 (kRef x2) 27)]) (Lz := []) (l := [false, false, false, false, false, false, false, false, false, false, false, false, false, false, false, false, false, false, false, false, false, false]) (fuel := 22) (by kernel_rfl) (by kernel_rfl) hs680 (by simp) (by simp) (fun f w => ∃ (F26 : Mem), HS w0 F0 w F26 [] ∧ Mem.le F23 F26 ∧ f.d = [] ∧ f 8 = (.bool j714)) (fun wd709 hw710 => ?_) ?_
         ·refine Dtl 0 313 4 _ [tt, ff, ff, ff, ff, ff, ff, ff, ff, ff, ff, ff, ff, ff, ff, ff, ff, ff, ff, ff, ff, ff] (fun _ hq => mv 9 (.bool r7) e685) ?_
          refine Dtl 1 314 4 _ [tt, tt, ff, ff, ff, ff, ff, ff, ff, ff, ff, ff, ff, ff, ff, ff, ff, ff, ff, ff, ff, ff] (fun _ hq => mv 313 (.bool r7)) ?_
          refine DWP.split r7 (fun hb719 => ?_) (fun hb719 => ?_)
          ·have h720 := cond_t hj717 hb719
           refine Dgl 2 315 38 _ [tt, tt, tt, ff, ff, ff, ff, ff, ff, ff, ff, ff, ff, ff, ff, ff, ff, ff, ff, ff, ff, ff] 1 true 314 hb719 (fun _ hq => ld 38 28 b657 0 true 2 (.agg (kSpan r649.1)) (hq.1.2 0 _ _ rfl) e687) ?_
           refine Dgl 3 316 33 _ [tt, tt, tt, tt, ff, ff, ff, ff, ff, ff, ff, ff, ff, ff, ff, ff, ff, ff, ff, ff, ff, ff] 1 true 314 hb719 (fun _ hq => mv 10 (.slice ar42_0_0 r42.1.length nr42_0_0) e686) ?_
           refine Dgl 4 317 0 (.pointer (some ⟨b4, 0, none⟩)) [tt, tt, tt, tt, tt, ff, ff, ff, ff, ff, ff, ff, ff, ff, ff, ff, ff, ff, ff, ff, ff, ff] 1 true 314 hb719 (fun _ hq => fa 27 6 0 0 1 b4 0 0 e684) ?_
           refine Dgl 5 318 3 _ [tt, tt, tt, tt, tt, tt, ff, ff, ff, ff, ff, ff, ff, ff, ff, ff, ff, ff, ff, ff, ff, ff] 1 true 314 hb719 (fun _ hq => ld 3 317 b4 0 false 1 (vi x2.Log) (hq.1.2 1 _ _ rfl)) ?_
           obtain ⟨x721, hx722, h724⟩ := bind_some h720
           obtain ⟨hi723, hx722'⟩ := idx_spec hx722
           obtain ⟨b725, o726, C727, E728, fz729, rfl, hF731, hE732⟩ := SlA.open (SlA.mono hsr42_0_0 ((((((((le77.trans le85).trans le93).trans le101).trans le109).trans le113).trans le156).trans le655).trans le681)) hx722'
           obtain ⟨ae733_0, ne733_0, hc734, hbe733_0, hse733_0⟩ := hE732 _ _ hx722'
           refine Dgl 6 319 0 (.pointer (some ⟨b725, (o726 + (x2.Log : Int).toNat * 1), none⟩)) [tt, tt, tt, tt, tt, tt, tt, ff, ff, ff, ff, ff, ff, ff, ff, ff, ff, ff, ff, ff, ff, ff] 1 true 314 hb719 (fun _ hq => ix 33 316 318 b725 o726 36 1 24 hi723) ?_
           refine Dgl 7 320 36 _ [tt, tt, tt, tt, tt, tt, tt, tt, ff, ff, ff, ff, ff, ff, ff, ff, ff, ff, ff, ff, ff, ff] 1 true 314 hb719 (fun _ hq => lx 36 319 0 1 false 1 (.slice ae733_0 x721.length ne733_0) (hq.1.1 _ _ hF731) hc734) ?_
           refine Dgl 8 321 0 (.pointer (some ⟨b4, 1, none⟩)) [tt, tt, tt, tt, tt, tt, tt, tt, tt, ff, ff, ff, ff, ff, ff, ff, ff, ff, ff, ff, ff, ff] 1 true 314 hb719 (fun _ hq => fa 27 6 1 1 1 b4 0 1 e684) ?_
           refine Dgl 9 322 3 _ [tt, tt, tt, tt, tt, tt, tt, tt, tt, tt, ff, ff, ff, ff, ff, ff, ff, ff, ff, ff, ff, ff] 1 true 314 hb719 (fun _ hq => ld 3 321 b4 1 false 1 (vi x2.Line) (hq.1.2 1 _ _ rfl)) ?_
           obtain ⟨x735, hx736, h738⟩ := bind_some h724
           obtain ⟨hi737, hx736'⟩ := idx_spec hx736
           obtain ⟨b739, o740, C741, E742, fz743, rfl, hF745, hE746⟩ := SlA.open hse733_0 hx736'
           have hc748 := hE746 _ _ hx736'
           refine Dgl 10 323 0 (.pointer (some ⟨b739, (o740 + (x2.Line : Int).toNat * 2), none⟩)) [tt, tt, tt, tt, tt, tt, tt, tt, tt, tt, tt, ff, ff, ff, ff, ff, ff, ff, ff, ff, ff, ff] 1 true 314 hb719 (fun _ hq => ix 36 320 322 b739 o740 38 2 16 hi737) ?_
           refine Dgl 11 324 38 _ [tt, tt, tt, tt, tt, tt, tt, tt, tt, tt, tt, tt, ff, ff, ff, ff, ff, ff, ff, ff, ff, ff] 1 true 314 hb719 (fun _ hq => lx 38 323 0 2 true 2 (.agg (kSpan x735)) (hq.1.1 _ _ hF745) hc748) ?_
           refine Dgl 12 325 4 (.bool ((r649.1.Lo == x735.Lo) && ((r649.1.Hi == x735.Hi) && true))) [tt, tt, tt, tt, tt, tt, tt, tt, tt, tt, tt, tt, tt, ff, ff, ff, ff, ff, ff, ff, ff, ff] 1 true 314 hb719 (fun _ hq => run_eqs (t := 38) (t' := 38) (x := (.tmp 315)) (y := (.tmp 324)) (xs := (kSpan r649.1)) (ys := (kSpan x735)) (b := ((r649.1.Lo == x735.Lo) && ((r649.1.Hi == x735.Hi) && true))) rfl rfl (by kernel_rfl) (by kernel_rfl)) ?_
           refine Dtl 13 326 4 _ [tt, tt, tt, tt, tt, tt, tt, tt, tt, tt, tt, tt, tt, tt, ff, ff, ff, ff, ff, ff, ff, ff] (fun _ hq => p1 314 (.tmp 325) (.const (.bool false)) (.bool ((r649.1.Lo == x735.Lo) && ((r649.1.Hi == x735.Hi) && true))) hb719) ?_
           refine Dtl 14 327 4 _ [tt, tt, tt, tt, tt, tt, tt, tt, tt, tt, tt, tt, tt, tt, tt, ff, ff, ff, ff, ff, ff, ff] (fun _ hq => mv 326 (.bool ((r649.1.Lo == x735.Lo) && ((r649.1.Hi == x735.Hi) && true)))) ?_
           refine DWP.split ((r649.1.Lo == x735.Lo) && ((r649.1.Hi == x735.Hi) && true)) (fun hb749 => ?_) (fun hb749 => ?_)
           ·have h750 := cond_t h738 hb749
            refine Dgl 15 328 30 _ [tt, tt, tt, tt, tt, tt, tt, tt, tt, tt, tt, tt, tt, tt, tt, tt, ff, ff, ff, ff, ff, ff] 14 true 327 hb749 (fun _ hq => mv 31 (vi j682.2) e689) ?_
            refine Dgl 16 329 4 (.bool (j682.2 == 0)) [tt, tt, tt, tt, tt, tt, tt, tt, tt, tt, tt, tt, tt, tt, tt, tt, tt, ff, ff, ff, ff, ff] 14 true 327 hb749 (fun _ hq => run_eql (t := 30) (t' := 30) (x := (.tmp 328)) (y := (.const (vi 0))) (k := .i64) (a := j682.2) (b := 0) rfl rfl) ?_
            refine Dtl 17 330 4 _ [tt, tt, tt, tt, tt, tt, tt, tt, tt, tt, tt, tt, tt, tt, tt, tt, tt, tt, ff, ff, ff, ff] (fun _ hq => p1 327 (.tmp 329) (.const (.bool false)) (.bool (j682.2 == 0)) hb749) ?_
            refine Dtl 18 331 4 _ [tt, tt, tt, tt, tt, tt, tt, tt, tt, tt, tt, tt, tt, tt, tt, tt, tt, tt, tt, ff, ff, ff] (fun _ hq => mv 330 (.bool (j682.2 == 0))) ?_
            refine DWP.split (j682.2 == 0) (fun hb751 => ?_) (fun hb751 => ?_)
            ·have h752 := cond_t h750 hb751
             refine Dgl 19 332 4 _ [tt, tt, tt, tt, tt, tt, tt, tt, tt, tt, tt, tt, tt, tt, tt, tt, tt, tt, tt, tt, ff, ff] 18 true 331 hb751 (fun _ hq => mv 30 (.bool j682.1) e688) ?_
             refine Dtl 20 333 4 _ [tt, tt, tt, tt, tt, tt, tt, tt, tt, tt, tt, tt, tt, tt, tt, tt, tt, tt, tt, tt, tt, ff] (fun _ hq => p1 331 (.tmp 332) (.const (.bool false)) (.bool j682.1) hb751) ?_
             refine Dtl 21 8 4 _ [tt, tt, tt, tt, tt, tt, tt, tt, tt, tt, tt, tt, tt, tt, tt, tt, tt, tt, tt, tt, tt, tt] (fun _ hq => ma 333 (.bool j682.1)) ?_
             obtain rfl := some_inj h752
             have hs753 : HS w0 F0 wd709 F23 [(sb b4 (kRef x2) 27)] := hw710.drop 0
             have hs754 : HS w0 F0 wd709 F23 [] := hs753.drop 0
             exact DWP.done (by kernel_rfl) ⟨F23, hs754, (Mem.le.refl _), e683, rfl⟩
            ·have h755 := cond_f h750 hb751
             refine Dkl [(19, 332)] 18 true 331 hb751 [tt, tt, tt, tt, tt, tt, tt, tt, tt, tt, tt, tt, tt, tt, tt, tt, tt, tt, tt, tt, ff, ff] ?_
             refine Dtl 20 333 4 _ [tt, tt, tt, tt, tt, tt, tt, tt, tt, tt, tt, tt, tt, tt, tt, tt, tt, tt, tt, tt, tt, ff] (fun _ hq => p0 331 (.tmp 332) (.const (.bool false)) (.bool false) hb751) ?_
             refine Dtl 21 8 4 _ [tt, tt, tt, tt, tt, tt, tt, tt, tt, tt, tt, tt, tt, tt, tt, tt, tt, tt, tt, tt, tt, tt] (fun _ hq => ma 333 (.bool false)) ?_
             obtain rfl := some_inj h755
             have hs756 : HS w0 F0 wd709 F23 [(sb b4 (kRef x2) 27)] := hw710.drop 0
             have hs757 : HS w0 F0 wd709 F23 [] := hs756.drop 0
             exact DWP.done (by kernel_rfl) ⟨F23, hs757, (Mem.le.refl _), e683, rfl⟩
           ·have h758 := cond_f h738 hb749
            refine Dkl [(15, 328), (16, 329)] 14 true 327 hb749 [tt, tt, tt, tt, tt, tt, tt, tt, tt, tt, tt, tt, tt, tt, tt, tt, tt, ff, ff, ff, ff, ff] ?_
            refine Dtl 17 330 4 _ [tt, tt, tt, tt, tt, tt, tt, tt, tt, tt, tt, tt, tt, tt, tt, tt, tt, tt, ff, ff, ff, ff] (fun _ hq => p0 327 (.tmp 329) (.const (.bool false)) (.bool false) hb749) ?_
            refine Dtl 18 331 4 _ [tt, tt, tt, tt, tt, tt, tt, tt, tt, tt, tt, tt, tt, tt, tt, tt, tt, tt, tt, ff, ff, ff] (fun _ hq => mv 330 (.bool false)) ?_
            refine Dkl [(19, 332)] 18 true 331 rfl [tt, tt, tt, tt, tt, tt, tt, tt, tt, tt, tt, tt, tt, tt, tt, tt, tt, tt, tt, tt, ff, ff] ?_
            refine Dtl 20 333 4 _ [tt, tt, tt, tt, tt, tt, tt, tt, tt, tt, tt, tt, tt, tt, tt, tt, tt, tt, tt, tt, tt, ff] (fun _ hq => p0 331 (.tmp 332) (.const (.bool false)) (.bool false) rfl) ?_
            refine Dtl 21 8 4 _ [tt, tt, tt, tt, tt, tt, tt, tt, tt, tt, tt, tt, tt, tt, tt, tt, tt, tt, tt, tt, tt, tt] (fun _ hq => ma 333 (.bool false)) ?_
            obtain rfl := some_inj h758
            have hs759 : HS w0 F0 wd709 F23 [(sb b4 (kRef x2) 27)] := hw710.drop 0
            have hs760 : HS w0 F0 wd709 F23 [] := hs759.drop 0
            exact DWP.done (by kernel_rfl) ⟨F23, hs760, (Mem.le.refl _), e683, rfl⟩
          ·have h761 := cond_f hj717 hb719
           refine Dkl [(2, 315), (3, 316), (4, 317), (5, 318), (6, 319), (7, 320)] 1 true 314 hb719 [tt, tt, tt, tt, tt, tt, tt, tt, ff, ff, ff, ff, ff, ff, ff, ff, ff, ff, ff, ff, ff, ff] ?_
           refine Dkl [(8, 321), (9, 322), (10, 323), (11, 324), (12, 325)] 1 true 314 hb719 [tt, tt, tt, tt, tt, tt, tt, tt, tt, tt, tt, tt, tt, ff, ff, ff, ff, ff, ff, ff, ff, ff] ?_
           refine Dtl 13 326 4 _ [tt, tt, tt, tt, tt, tt, tt, tt, tt, tt, tt, tt, tt, tt, ff, ff, ff, ff, ff, ff, ff, ff] (fun _ hq => p0 314 (.tmp 325) (.const (.bool false)) (.bool false) hb719) ?_
           refine Dtl 14 327 4 _ [tt, tt, tt, tt, tt, tt, tt, tt, tt, tt, tt, tt, tt, tt, tt, ff, ff, ff, ff, ff, ff, ff] (fun _ hq => mv 326 (.bool false)) ?_
           refine Dkl [(15, 328), (16, 329)] 14 true 327 rfl [tt, tt, tt, tt, tt, tt, tt, tt, tt, tt, tt, tt, tt, tt, tt, tt, tt, ff, ff, ff, ff, ff] ?_
           refine Dtl 17 330 4 _ [tt, tt, tt, tt, tt, tt, tt, tt, tt, tt, tt, tt, tt, tt, tt, tt, tt, tt, ff, ff, ff, ff] (fun _ hq => p0 327 (.tmp 329) (.const (.bool false)) (.bool false) rfl) ?_
           refine Dtl 18 331 4 _ [tt, tt, tt, tt, tt, tt, tt, tt, tt, tt, tt, tt, tt, tt, tt, tt, tt, tt, tt, ff, ff, ff] (fun _ hq => mv 330 (.bool false)) ?_
           refine Dkl [(19, 332)] 18 true 331 rfl [tt, tt, tt, tt, tt, tt, tt, tt, tt, tt, tt, tt, tt, tt, tt, tt, tt, tt, tt, tt, ff, ff] ?_
           refine Dtl 20 333 4 _ [tt, tt, tt, tt, tt, tt, tt, tt, tt, tt, tt, tt, tt, tt, tt, tt, tt, tt, tt, tt, tt, ff] (fun _ hq => p0 331 (.tmp 332) (.const (.bool false)) (.bool false) rfl) ?_
           refine Dtl 21 8 4 _ [tt, tt, tt, tt, tt, tt, tt, tt, tt, tt, tt, tt, tt, tt, tt, tt, tt, tt, tt, tt, tt, tt] (fun _ hq => ma 333 (.bool false)) ?_
           obtain rfl := some_inj h761
           have hs762 : HS w0 F0 wd709 F23 [(sb b4 (kRef x2) 27)] := hw710.drop 0
           have hs763 : HS w0 F0 wd709 F23 [] := hs762.drop 0
           exact DWP.done (by kernel_rfl) ⟨F23, hs763, (Mem.le.refl _), e683, rfl⟩
         ·rintro f w711 ⟨F26, hs712, le713, e715, e716⟩
          refine thenQ_nrm ?_
          refine CWP.ret (by kernel_rfl) ?_
          have hfin := some_inj h718
          subst hfin
          exact ⟨e715, (.bool j714), res_of (l := [.tmp 8]) (by kernel_rfl) (vs := [(.bool j714)]) ⟨e716, trivial⟩, (.bool j714), F26, rfl, hs712.clear, rfl⟩
end Go.Proofs.Ythbcnabeabcmlaa
namespace Go.Proofs.Ythbcnabeabcmlaa
open BF
section
variable {N : Nat} {s : System}
def ext0 (f : Ref → Int) (r : Ref) : Int := if r = beg then 0 else f r
theorem eachL_row {α : Type} {f : Ref → α} {i : Nat} {t : Track} (ht : s.Tracks[i]? = some t) : (eachL s f)[i]? = some ((List.range t.Times.length).map fun j => f (li i j)) := by
 unfold eachL
 simp only [List.getElem?_map, List.getElem?_range (lt_of_get' ht), Option.map_some, ht]
theorem eachL_form {f : Ref → Int} (hb : ∀ r, vHas s r = true → -1000000 ≤ f r ∧ f r ≤ 1000000) : vForm s (eachL s f) = true := by
 unfold vForm
 have : (eachL s f).length = s.Tracks.length := by simp [eachL]
 rw [this]
 simp only [decide_true, Bool.true_and]
 refine allB_of fun i hi => ?_
 have ht := List.getElem?_eq_getElem hi
 unfold okRow
 rw [ht, eachL_row ht]
 simp only [List.length_map, List.length_range, decide_true, Bool.true_and, List.all_eq_true, List.mem_map, List.mem_range]
 rintro n ⟨j, hj, rfl⟩
 have := hb _ (has_li ht hj)
 unfold inr; simp; omega
theorem eachL_mAt {f : Ref → Int} {r : Ref} (hr : Nd s r) : mAt (eachL s f) r = ext0 f r := by
 unfold mAt ext0
 by_cases he : r = beg
 ·rw [if_pos he, if_pos he]
 ·rw [if_neg he, if_neg he]
  rcases hr with hr | hr
  ·exact absurd hr he
  ·obtain ⟨i, t, j, rfl, ht, hj⟩ := li_has hr
   have hd : (eachL s f).getD i [] = (List.range t.Times.length).map fun j => f (li i j) := by rw [List.getD_eq_getElem?_getD, eachL_row ht]; rfl
   simp only [li, Int.toNat_natCast, hd]
   rw [getD_at (by simpa using hj)]
   simp
theorem eachL_keeps (h : vCheck s = 0) {f : Ref → Int} (hb : ∀ r, vHas s r = true → -1000000 ≤ f r ∧ f r ≤ 1000000) (hk : ∀ b, b ∈ bnds s → ext0 f b.To ≤ ext0 f b.From + b.Most) : vKeeps s (eachL s f) = (true, 0) := by
 unfold vKeeps
 rw [if_neg (by omega), eachL_form hb]
 have : (bnds s).all (keepB (eachL s f)) = true := List.all_eq_true.2 fun b hbm => by
  unfold keepB
  obtain ⟨n1, n2⟩ := bnd_ends h hbm
  rw [eachL_mAt n1, eachL_mAt n2]
  simpa using hk b hbm
 rw [this]; rfl
theorem ext_dd (hc : Cls s) (r : Ref) : ext0 (fun q => dd s beg q) r = dd s beg r := by
 unfold ext0
 by_cases h : r = beg
 ·rw [if_pos h, h, dd_self hc]
 ·rw [if_neg h]
theorem ext_dd' (hc : Cls s) (r : Ref) : ext0 (fun q => -dd s q beg) r = -dd s r beg := by
 unfold ext0
 by_cases h : r = beg
 ·rw [if_pos h, h, dd_self hc]; rfl
 ·rw [if_neg h]
theorem low_keeps (h : vCheck s = 0) (hc : Cls s) : vKeeps s (eachL s fun q => -dd s q beg) = (true, 0) := by
 refine eachL_keeps h (fun r hr => ?_) fun b hb => ?_
 ·have := dd_in h hc (.inr hr) (nd_beg s); omega
 ·rw [ext_dd' hc, ext_dd' hc]
  obtain ⟨n1, n2⟩ := bnd_ends h hb
  have := dd_tri h hc n1 n2 (nd_beg s)
  have := dd_bound h hc hb
  omega
theorem high_keeps (h : vCheck s = 0) (hc : Cls s) : vKeeps s (eachL s fun q => dd s beg q) = (true, 0) := by
 refine eachL_keeps h (fun r hr => ?_) fun b hb => ?_
 ·have := dd_in h hc (nd_beg s) (.inr hr); omega
 ·rw [ext_dd hc, ext_dd hc]
  obtain ⟨n1, n2⟩ := bnd_ends h hb
  have := dd_tri h hc (nd_beg s) n1 n2
  have := dd_bound h hc hb
  omega
noncomputable def thr (s : System) (r : Ref) (n : Int) (q : Ref) : Int := max (-dd s q beg) (n + -dd s q r)
theorem thr_keeps (h : vCheck s = 0) (hc : Cls s) {r : Ref} (hr : vHas s r = true) {n : Int} (h1 : -dd s r beg ≤ n) (h2 : n ≤ dd s beg r) : vKeeps s (eachL s (thr s r n)) = (true, 0) := by
 have nr : Nd s r := .inr hr
 have ng := nd_beg s
 have hn1 := dd_in h hc nr ng
 have hn2 := dd_in h hc ng nr
 refine eachL_keeps h (fun q hq => ?_) fun b hb => ?_
 ·have := dd_in h hc (.inr hq) ng
  have := dd_in h hc (.inr hq) nr
  unfold thr; omega
 ·obtain ⟨n1, n2⟩ := bnd_ends h hb
  have b1 := dd_bound h hc hb
  have t1 := dd_tri h hc n1 n2 ng
  have t2 := dd_tri h hc n1 n2 nr
  have t3 := dd_tri h hc ng n2 ng
  have t4 := dd_tri h hc ng n2 nr
  rw [dd_self hc] at t3
  unfold ext0
  by_cases e1 : b.To = beg
  ·rw [if_pos e1]
   by_cases e2 : b.From = beg
   ·rw [if_pos e2]; rw [e1, e2, dd_self hc] at b1; omega
   ·rw [if_neg e2]; rw [e1] at b1; unfold thr; omega
  ·rw [if_neg e1]
   by_cases e2 : b.From = beg
   ·rw [if_pos e2]; rw [e2] at b1; unfold thr; omega
   ·rw [if_neg e2]; unfold thr; omega
theorem through_eq (hN : 1000000 ≤ N) (hf : FitS N s) (h : vCheck s = 0) (hc : Cls s) {r : Ref} (hr : vHas s r = true) {n : Int} (hn1 : -1000000 ≤ n) (hn2 : n ≤ 1000000) : law03_through N s r n = some (eachL s (thr s r n)) := by
 unfold law03_through
 have hk := (check_ok h).1
 have nr : Nd s r := .inr hr
 obtain ⟨o, ho, j, rfl⟩ := iter_ex (body := law03_through_L0 N s r n) s.Tracks.length
  (fun i q => q = ((List.range i).map (fun i => match s.Tracks[i]? with
   | none => []
   | some t => (List.range t.Times.length).map fun j => thr s r n (li i j)), (i : Int))) (fun o => ∃ j, o = .done (eachL s (thr s r n), j)) (by
  rintro i q hi rfl
  unfold law03_through_L0
  simp only
  by_cases hlt : i < s.Tracks.length
  ·left
   rw [lt_t hlt, cond_true]
   have ht := List.getElem?_eq_getElem hlt
   have hl := (track_facts (track_at h ht)).2.2
   generalize hq : (List.range i).map (fun i => match s.Tracks[i]? with
    | none => []
    | some t => (List.range t.Times.length).map fun j => thr s r n (li i j)) = qq
   have hql : qq.length = i := by subst hq; simp
   obtain ⟨o, ho, rfl⟩ := iter_ex (body := law03_through_L1 N s r n (qq, (i : Int))) s.Tracks[i].Times.length
    (fun j q => q = ((List.range j).map (fun j => thr s r n (li i j)), (j : Int))) (fun o => o = .done ((List.range s.Tracks[i].Times.length).map (fun j => thr s r n (li i j)), (s.Tracks[i].Times.length : Int))) (by
    rintro j q hj rfl
    unfold law03_through_L1
    simp only [idx_nat hlt, Option.bind_some]
    by_cases hjl : j < s.Tracks[i].Times.length
    ·left
     have hq : vHas s (li i j) = true := has_li ht hjl
     have nq : Nd s (li i j) := .inr hq
     have a1 : ask s [li i j] = 0 := ask_of h (fun x hx => by simp only [List.mem_singleton] at hx; rw [hx]; exact hq) hc
     have a2 : ask s [r, li i j] = 0 := ask_of h (fun x hx => by
      simp only [List.mem_cons, List.not_mem_nil, or_false] at hx
      rcases hx with hx | hx <;> rw [hx] <;> assumption) hc
     rw [lt_t hjl, cond_true]
     have e1 := Interval_c hN hf (li i j)
     have e2 := Relation_c hN hf r (li i j)
     rw [int_val a1] at e1
     rw [rel_val a2] at e2
     simp only [li] at e1 e2
     rw [e1, Option.bind_some, e2, Option.bind_some, apnd_ok (by simp; omega), Option.bind_some, W64_succ (by omega)]
     have i1 := dd_in h hc nq nr
     have e3 : W64 (n + (relAt s r (li i j)).Lo) = n + -dd s (li i j) r := by
      unfold relAt; simp only; rw [W64_id (by omega) (by omega)]
     simp only [li] at e3
     rw [e3]
     refine ⟨_, rfl, ?_, hjl⟩
     simp only [List.range_succ, List.map_append, List.map_cons, List.map_nil]
     rfl
    ·have : j = s.Tracks[i].Times.length := by omega
     subst this
     right
     rw [lt_f, cond_false]
     exact ⟨_, rfl, (fun _ h => by cases h), rfl⟩) s.Tracks[i].Times.length N 0 ([], 0) (by omega) rfl (by omega)
   rw [ho]
   simp only [Option.bind_some, Flow.k]
   rw [apnd_ok (by rw [hql]; simp; omega), Option.bind_some, W64_succ (by omega)]
   refine ⟨_, rfl, ?_, hlt⟩
   subst hq
   simp only [List.range_succ, List.map_append, List.map_cons, List.map_nil, ht]
  ·have : i = s.Tracks.length := by omega
   subst this
   right
   rw [lt_f, cond_false]
   exact ⟨_, rfl, (fun _ h => by cases h), _, rfl⟩) s.Tracks.length N 0 ([], 0) (by omega) rfl (by omega)
 rw [ho]; rfl
theorem ask_three (h : vCheck s = 0) (hc : Cls s) {r : Ref} (hr : ask s [r] ≠ 0) : ask s [r] = 3 := by
 unfold ask at hr ⊢
 rw [if_neg (by omega)] at hr ⊢
 by_cases h1 : [r].all (vHas s) = false
 ·rw [if_pos h1]
 ·rw [if_neg h1, if_pos hc] at hr; exact absurd rfl hr
theorem exact_true (hN : 1000000 ≤ N) (hf : FitS N s) (l : List (List Int)) (r : Ref) (n : Int) : law03_ClocksExact N s l r n = some true := by
 unfold law03_ClocksExact
 obtain ⟨fw, hfw⟩ := few_some hf
 rw [awake_at (by omega), hfw]
 simp only [Option.bind_some, Times_c hN hf, Earliest_c hN hf, Latest_c hN hf, Keeps_c hN hf, Interval_c hN hf]
 cases fw with
 | false => rfl
 | true =>
  simp only [Bool.not_true, cond_false, Option.bind_some]
  cases decide ((l.length : Int) > 100) with
  | true => rfl
  | false =>
   simp only [cond_false]
   by_cases h : vCheck s = 0
   ·by_cases hc : Cls s
    ·rw [times_ok h hc]
     simp only [eachL_map]
     rw [show (eachL s fun r => (spanAt s r).Lo) = eachL s (fun q => -dd s q beg) from rfl, show (eachL s fun r => (spanAt s r).Hi) = eachL s (fun q => dd s beg q) from rfl, low_keeps h hc, high_keeps h hc]
     have hlen : (eachL s (spanAt s)).length = s.Tracks.length := by simp [eachL]
     have hl1 : (eachL s fun q => -dd s q beg).length = s.Tracks.length := by simp [eachL]
     have hl2 : (eachL s fun q => dd s beg q).length = s.Tracks.length := by simp [eachL]
     simp only [keeps_code, h, bne_self_eq_false, cond_false, Bool.or_false, Bool.not_true, Bool.false_or, hlen]
     have hn := (check_ok h).1
     rw [iter_check' (n := s.Tracks.length) (fun _ => true) false (fun i hi => by
      unfold law03_ClocksExact_L0
      have ht := List.getElem?_eq_getElem hi
      have hvt := track_at h ht
      have htl := (track_facts hvt).2.2
      have g1 : idx (eachL s (spanAt s)) (i : Int) = some ((List.range s.Tracks[i].Times.length).map fun j => spanAt s (li i j)) := by rw [idx_nat']; exact eachL_row ht
      have g2 : idx (eachL s fun q => -dd s q beg) (i : Int) = some ((List.range s.Tracks[i].Times.length).map fun j => -dd s (li i j) beg) := by rw [idx_nat']; exact eachL_row ht
      have g3 : idx (eachL s fun q => dd s beg q) (i : Int) = some ((List.range s.Tracks[i].Times.length).map fun j => dd s beg (li i j)) := by rw [idx_nat']; exact eachL_row ht
      simp only [hlen, lt_t hi, cond_true, g1, idx_nat hi, Option.bind_some, List.length_map, List.length_range, bne_self_eq_false, cond_false]
      rw [iter_check' (n := s.Tracks[i].Times.length) (fun _ => true) false (fun j hj => by
       unfold law03_ClocksExact_L1
       have q1 : idx ((List.range s.Tracks[i].Times.length).map fun j => spanAt s (li i j)) (j : Int) = some (spanAt s (li i j)) := by rw [idx_nat']; simp only [List.getElem?_map, List.getElem?_range hj, Option.map_some]
       have q2 : idx ((List.range s.Tracks[i].Times.length).map fun j => -dd s (li i j) beg) (j : Int) = some (-dd s (li i j) beg) := by rw [idx_nat']; simp only [List.getElem?_map, List.getElem?_range hj, Option.map_some]
       have q3 : idx ((List.range s.Tracks[i].Times.length).map fun j => dd s beg (li i j)) (j : Int) = some (dd s beg (li i j)) := by rw [idx_nat']; simp only [List.getElem?_map, List.getElem?_range hj, Option.map_some]
       have z1 : decide ((i : Int) ≥ (s.Tracks.length : Int)) = false := by simp; omega
       have z2 : decide ((j : Int) ≥ (s.Tracks[i].Times.length : Int)) = false := by simp; omega
       have nd : Nd s (li i j) := .inr (has_li ht hj)
       have b1 := dd_bound h hc ((mem_bnds h).2 (.up ht hj))
       have b2 := dd_bound h hc ((mem_bnds h).2 (.down ht hj))
       have e0 := getD_at hj (0 : Int)
       have i1 := times_in hvt hj
       have i2 := slip_in hvt
       simp only [e0] at b1 b2
       have y1 : decide ((spanAt s (li i j)).Lo < W64 (s.Tracks[i].Times[j] - s.Tracks[i].Clock.Slip)) = false := by
        rw [W64_id (by omega) (by omega)]; unfold spanAt; simp; omega
       have y2 : decide ((spanAt s (li i j)).Hi > W64 (s.Tracks[i].Times[j] + s.Tracks[i].Clock.Slip)) = false := by
        rw [W64_id (by omega) (by omega)]; unfold spanAt; simp; omega
       have y3 : ((spanAt s (li i j)).Lo == -dd s (li i j) beg) = true := by unfold spanAt; simp
       have y4 : ((spanAt s (li i j)).Hi == dd s beg (li i j)) = true := by unfold spanAt; simp
       simp only [g1, g2, g3, Option.bind_some, List.length_map, List.length_range, lt_t hj, cond_true, idx_nat hi, idx_nat hj, hl1, hl2, z1, z2, cond_false]
       cases hk : (vKeeps s l).1 with
       | false =>
        simp only [cond_false, Option.bind_some, q1, q2, q3, y1, y2, y3, y4, Bool.and_true, Bool.not_true]
        rw [W64_succ (by omega)]
       | true =>
        have hform : vForm s l = true := by
         unfold vKeeps at hk
         rw [if_neg (by omega)] at hk
         simp only [Bool.and_eq_true] at hk
         exact hk.1
        obtain ⟨row, r1, r2, _⟩ := form_at hform ht
        have hil := lt_of_get' r1
        have z3 : decide ((i : Int) ≥ (l.length : Int)) = false := by simp; omega
        have z4 : decide ((j : Int) ≥ (row.length : Int)) = false := by simp; omega
        have p1 : idx l (i : Int) = some row := by rw [idx_nat']; exact r1
        have p2 : idx row (j : Int) = some row[j] := idx_nat (by omega)
        have hmi : mAt l (li i j) = row[j] := by
         unfold mAt
         rw [if_neg (by intro h; have : (i : Int) = -1 := congrArg Ref.Log h; omega)]
         have hd : l.getD i [] = row := by rw [List.getD_eq_getElem?_getD, r1]; rfl
         simp only [li, Int.toNat_natCast, hd]
         rw [getD_at (show j < row.length by omega)]
        have hmb : mAt l beg = 0 := by unfold mAt; rw [if_pos rfl]
        have k1 := keeps_walk h hk (dd_spec h hc (nd_beg s) nd).1
        have k2 := keeps_walk h hk (dd_spec h hc nd (nd_beg s)).1
        rw [hmi, hmb] at k1 k2
        have y5 : law03_inside N row[j] (spanAt s (li i j)) = some true := by
         unfold law03_inside spanAt
         simp; omega
        simp only [cond_true, z3, z4, p1, p2, cond_false, Option.bind_some, q1, q2, q3, y1, y2, y3, y4, y5, Bool.and_true, Bool.not_true]
        rw [W64_succ (by omega)]) (by unfold law03_ClocksExact_L1; simp only [g1, Option.bind_some, List.length_map, List.length_range, lt_f, cond_false]) (by omega)]
      rw [allB_of (fun _ _ => rfl), W64_succ (by omega)]
      rfl) (by unfold law03_ClocksExact_L0; simp only [hlen, lt_f, cond_false]) (by omega)]
     rw [allB_of (fun _ _ => rfl), cond_true]
     simp only [int_code]
     by_cases ha : ask s [r] = 0
     ·have hr := (ask_zero ha).2.1 r (by simp)
      have nr : Nd s r := .inr hr
      have i1 := dd_in h hc nr (nd_beg s)
      have i2 := dd_in h hc (nd_beg s) nr
      have t0 := dd_tri h hc (nd_beg s) nr (nd_beg s)
      rw [dd_self hc] at t0
      rw [ha, int_val ha]
      simp only [bne_self_eq_false, cond_false]
      rw [show (spanAt s r).Hi = dd s beg r from rfl, show (spanAt s r).Lo = -dd s r beg from rfl]
      rw [through_eq hN hf h hc hr (by omega) (by omega), Option.bind_some, thr_keeps h hc hr (by omega) (by omega)]
      obtain ⟨i, t, j, rfl, ht, hj⟩ := li_has hr
      have e1 := eachL_at (f := spanAt s) ht hj
      cases hx : idx (eachL s (spanAt s)) (i : Int) with
      | none => rw [hx] at e1; cases e1
      | some row =>
       rw [hx] at e1
       simp only [Option.bind_some] at e1
       simp only [li] at e1 ⊢
       simp only [hx, Option.bind_some, e1, cond_true]
       unfold spanAt
       simp
     ·have e : (ask s [r] != 0) = true := by simpa using ha
      rw [e, ask_three h hc ha]; rfl
    ·rw [times_loop h hc]
     have e3 : (vKeeps s l).1 = false := by
      cases hv : (vKeeps s l).1 with
      | false => rfl
      | true => exact absurd (keeps_closes h hv) hc
     have e : ((31 : Int) != 0) = true := by decide
     simp only [e, cond_true, e3]
     rfl
   ·rw [times_err h]
    have e : (vCheck s != 0) = true := by simpa using h
    have e3 : (vKeeps s l).1 = false := by unfold vKeeps; rw [if_pos h]
    simp only [e, cond_true, e3]
    rfl
end
theorem exact_row (s : System) (l : List (List Int)) (r : Ref) (n : Int) (q : qSystem s) (_ : l.length < 9223372036854775808 ∧ ∀ x, x ∈ l → (fun l : List Int => l.length < 9223372036854775808 ∧ ∀ x, x ∈ l → rI x) x) (_ : qRef r) (_ : rI n) :
  law03_ClocksExact NN s l r n = some true := exact_true (by decide) (fitS q) l r n
end Go.Proofs.Ythbcnabeabcmlaa
namespace Go.Proofs.Ythbcnabeabcmlaa
open Go.ChangeShapes Go.WideShapes Go.ChangeAt Go.RowKit
set_option maxRecDepth 100000 in
theorem lifted_clocksExact (os : Os) (started : os.Started) (H : Type) (enc : TypeId × Value → H) :
  ReturnsInHanded {} Try.checked os 11 .any (Rows.clocksExactSpec.pre6 enc Try.prog Try.f11 Rows.clocksExactRow.domain false) (Rows.clocksExactSpec.post enc Try.prog Try.f11 false true false false) := by
 refine returnsInHanded_of_change (C := Try.checked) (by kernel_rfl) started (by kernel_rfl) Try.func11
  (ChangeSpec.witness6 (enc := enc) (C := Try.checked) false ⟨#[], #[.agg #[.slice none 0 0, .slice none 0 0, .int .i64 0], .slice none 0 0, .agg #[.int .i64 0, .int .i64 0], .int .i64 0], []⟩ 8 (by kernel_rfl) (by kernel_rfl) (by kernel_rfl) (by kernel_rfl)) ?_
 intro W base args ds gs before hval0 hW hcnd _
 have hval : ∀ (j : Nat) t v, Try.f11.params[j]? = some t → args[j]? = some v → Value.okWide Try.prog W .any base t v := hval0
 have hW' := hW
 obtain ⟨p, q, hA0, hV, rfl, hfz, hnd⟩ := hW
 have hA : DataW.TrodAll enc Try.prog W 0 (fun _ => true) true Try.f11.params.toList args.toList ds p := hA0
 rw [Try.params11] at hA hval
 obtain ⟨v0, vs0, d0, ds0, p0, q0, hargs, rfl, rfl, h0, r0⟩ := trodAll_cons hA
 obtain ⟨v1, vs1, d1, ds1, p1, q1, rfl, rfl, rfl, h1, r1⟩ := trodAll_cons r0
 obtain ⟨v2, vs2, d2, ds2, p2, q2, rfl, rfl, rfl, h2, r2⟩ := trodAll_cons r1
 obtain ⟨v3, vs3, d3, ds3, p3, q3, rfl, rfl, rfl, h3, r3⟩ := trodAll_cons r2
 obtain ⟨rfl, rfl, rfl⟩ := trodAll_nil r3
 obtain rfl : args = #[v0, v1, v2, v3] := by cases args; simp_all
 obtain ⟨cs0, x0, rfl, R0, Q0⟩ := Opens.agg opens_System_25 (by kernel_rfl) (hval 0 25 v0 rfl rfl) h0
 obtain ⟨a0_0, n0_0, a0_1, n0_1, e0, hb0_0, hs0_0, hb0_1, hs0_1⟩ := R0
 obtain rfl : cs0 = #[.slice a0_0 x0.Tracks.length n0_0, .slice a0_1 x0.Ties.length n0_1, .int .i64 x0.Window] := Array.ext' (by exact e0)
 obtain ⟨x1, R1, Q1⟩ := Opens.one (opens_slice (t := 71) (opens_slice (t := 50) (opens_int (t := 3) (by kernel_rfl) (by kernel_rfl) : Opens Try.prog 3 tInt rI) (by decide) (by kernel_rfl) (by kernel_rfl) : Opens Try.prog 50 (tSl tInt) _) (by decide) (by kernel_rfl) (by kernel_rfl) : Opens Try.prog 71 (tSl (tSl tInt)) _) (by kernel_rfl) (hval 1 71 v1 rfl rfl) h1
 obtain ⟨a1_0, n1_0, e1, hb1_0, hs1_0⟩ := R1
 obtain rfl : v1 = .slice a1_0 x1.length n1_0 := by cases e1; rfl
 obtain ⟨cs2, x2, rfl, R2, Q2⟩ := Opens.agg opens_Ref_27 (by kernel_rfl) (hval 2 27 v2 rfl rfl) h2
 have e2 := R2
 obtain rfl : cs2 = #[.int .i64 x2.Log, .int .i64 x2.Line] := Array.ext' (by exact e2)
 obtain ⟨x3, R3, Q3⟩ := Opens.one (opens_int (t := 3) (by kernel_rfl) (by kernel_rfl) : Opens Try.prog 3 tInt rI) (by kernel_rfl) (hval 3 3 v3 rfl rfl) h3
 have e3 : [v3] = [.int .i64 x3] := R3
 cases e3
 refine (c_law03_ClocksExact 9223372036854775808 W (memOf W) (fun _ _ h => h) x0 a0_0 n0_0 hb0_0 hs0_0 a0_1 n0_1 hb0_1 hs0_1 x1 a1_0 n1_0 hb1_0 hs1_0 x2 x3 true (exact_row x0 x1 x2 x3 Q0 Q1 Q2 Q3)).mono fun e W' he => ?_
 obtain ⟨r, F', rfl, hs, rfl⟩ := he
 refine ⟨_, rfl, post_grown (by kernel_rfl) (tb := 4) ?_ rfl hW' (by kernel_rfl) (by kernel_rfl) ?_ hs⟩
 ·intro t ht
  rw [Try.params11] at ht
  simp only [List.mem_cons, List.not_mem_nil, or_false] at ht
  rcases ht with rfl | rfl | rfl | rfl <;> exact ⟨by kernel_rfl, by decide +kernel⟩
 ·intro _; rfl
theorem clocksExact_proved : Rows.ClocksExactSaid :=
 OpenClaim.holds_of_wide 11 Try.f11 rfl rfl rfl rfl rfl rfl rfl ⟨rfl, rfl, rfl, rfl, rfl⟩ rfl rfl rfl rfl rfl (by kernel_rfl) Try.func11 (by kernel_rfl)
  (of_decide_eq_true (by kernel_rfl)) (by unfold Func.isWrapper; first | (rw [if_pos (by decide +kernel)]; kernel_rfl) | (rw [if_neg (by decide +kernel)]; exact ⟨rfl, rfl⟩))
  (fun os started H enc _ => lifted_clocksExact os started H enc)
end Go.Proofs.Ythbcnabeabcmlaa
