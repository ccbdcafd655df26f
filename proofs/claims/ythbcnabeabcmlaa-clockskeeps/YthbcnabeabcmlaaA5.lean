/- Lemmas of the claim ClocksKeeps, printed by a program of the claimant and by hand. No statement of the seat is proved here. -/
import Derived.Test.YthbcnabeabcmlaaA4
set_option linter.unusedVariables false
set_option linter.unusedSimpArgs false
set_option linter.unusedSectionVars false
namespace Go.Proofs.Ythbcnabeabcmlaa
open Go.Proofs
def ref03_bounds_L1 (N : Nat) (x0 : System) (s9 : (List Bound × Int)) (x32 : Track) : (List Bound × Int) → Option (Flow (List Bound) (List Bound × Int)) := fun s54 =>
 (bif (decide (s54.2 < (x32.Times.length : Int))) then (((idx x32.Times s54.2).bind fun x100 => ((ref03_Beginning N ).bind fun r114 => ((apnd s54.1 [({ From := r114, To := ({ Log := s9.2, Line := s54.2 } : Ref), Most := (W64 (x100 + x32.Clock.Slip)), Kind := 1, ID := s54.2 } : Bound)]).bind fun r127 => some r127))).bind fun j90 => (((idx x32.Times s54.2).bind fun x151 => ((ref03_Beginning N ).bind fun r165 => ((apnd j90 [({ From := ({ Log := s9.2, Line := s54.2 } : Ref), To := r165, Most := (W64 (x32.Clock.Slip - x151)), Kind := 1, ID := s54.2 } : Bound)]).bind fun r178 => some r178))).bind fun j142 => some (.next (j142, (W64 (s54.2 + 1)))))) else some (.done (s54.1, s54.2)))
def ref03_bounds_L0 (N : Nat) (x0 : System) : (List Bound × Int) → Option (Flow (List Bound) (List Bound × Int)) := fun s9 =>
 (bif (decide (s9.2 < (x0.Tracks.length : Int))) then ((idx x0.Tracks s9.2).bind fun x32 => ((iter (ref03_bounds_L1 N x0 s9 x32) N (s9.1, 0)).bind fun o => o.k (fun r => some (.ret r)) (fun s64 => some (.next (s64.1, (W64 (s9.2 + 1))))))) else some (.done (s9.1, s9.2)))
def ref03_bounds_L3 (N : Nat) (x0 : System) (s17 : (List Bound × Int)) (s201 : (List Bound × Int)) (x224 : Track) : (List Bound × Int) → Option (Flow (List Bound) (List Bound × Int)) := fun s246 =>
 (bif (decide ((W64 (s246.2 + 1)) < (x224.Times.length : Int))) then ((apnd s246.1 [({ From := ({ Log := s201.2, Line := (W64 (s246.2 + 1)) } : Ref), To := ({ Log := s201.2, Line := s246.2 } : Ref), Most := 0, Kind := 2, ID := s246.2 } : Bound)]).bind fun r287 => (((idx x224.Times s246.2).bind fun x313 => ((idx x224.Times (W64 (s246.2 + 1))).bind fun x327 => ((ref03_jumped N x224.Clock x313 x327).bind fun r333 => some r333))).bind fun j301 => (bif j301 then some (.next (r287, (W64 (s246.2 + 1)))) else (((idx x224.Times (W64 (s246.2 + 1))).bind fun x365 => ((idx x224.Times s246.2).bind fun x379 => some (W64 (x365 - x379)))).bind fun j353 => ((apnd r287 [({ From := ({ Log := s201.2, Line := s246.2 } : Ref), To := ({ Log := s201.2, Line := (W64 (s246.2 + 1)) } : Ref), Most := (W64 (j353 + (W64 (1 + (W64 (Int.tdiv (W64 ((W64 (x224.Clock.Drift * j353)) + 999)) 1000)))))), Kind := 3, ID := s246.2 } : Bound)]).bind fun r390 => ((apnd r390 [({ From := ({ Log := s201.2, Line := (W64 (s246.2 + 1)) } : Ref), To := ({ Log := s201.2, Line := s246.2 } : Ref), Most := (W64 ((W64 (1 + (W64 (Int.tdiv (W64 ((W64 (x224.Clock.Drift * j353)) + 999)) 1000)))) - j353)), Kind := 3, ID := s246.2 } : Bound)]).bind fun r404 => some (.next (r404, (W64 (s246.2 + 1)))))))))) else some (.done (s246.1, s246.2)))
def ref03_bounds_L2 (N : Nat) (x0 : System) (s17 : (List Bound × Int)) : (List Bound × Int) → Option (Flow (List Bound) (List Bound × Int)) := fun s201 =>
 (bif (decide (s201.2 < (x0.Tracks.length : Int))) then ((idx x0.Tracks s201.2).bind fun x224 => ((iter (ref03_bounds_L3 N x0 s17 s201 x224) N (s201.1, 0)).bind fun o => o.k (fun r => some (.ret r)) (fun s256 => some (.next (s256.1, (W64 (s201.2 + 1))))))) else some (.done (s201.1, s201.2)))
def ref03_bounds_L4 (N : Nat) (x0 : System) (s17 : (List Bound × Int)) (s209 : (List Bound × Int)) : (List Bound × Int) → Option (Flow (List Bound) (List Bound × Int)) := fun s429 =>
 (bif (decide (s429.2 < (x0.Ties.length : Int))) then ((idx x0.Ties s429.2).bind fun x451 => ((apnd s429.1 [({ From := x451.A, To := x451.B, Most := x0.Window, Kind := 4, ID := s429.2 } : Bound)]).bind fun r475 => ((apnd r475 [({ From := x451.B, To := x451.A, Most := x0.Window, Kind := 4, ID := s429.2 } : Bound)]).bind fun r489 => some (.next (r489, (W64 (s429.2 + 1))))))) else some (.done (s429.1, s429.2)))
def ref03_bounds (N : Nat) (x0 : System) : Option (List Bound) :=
 ((iter (ref03_bounds_L0 N x0) N (([] : List Bound), 0)).bind fun o => o.k (fun r => some r) (fun s17 => ((iter (ref03_bounds_L2 N x0 s17) N (s17.1, 0)).bind fun o => o.k (fun r => some r) (fun s209 => ((iter (ref03_bounds_L4 N x0 s17 s209) N (s209.1, 0)).bind fun o => o.k (fun r => some r) (fun s437 => some s437.1))))))
theorem co_ref03_bounds : CallOk Try.prog 84 := fun _ _ => by kernel_rfl
set_option maxHeartbeats 4000000 in
set_option maxRecDepth 100000 in
theorem c_ref03_bounds (N : Nat) (w0 : World) (F0 : Mem) (hF : ∀ b o, F0 b = some o → w0.heap[b]? = some o) (x0 : System) (a0_0 : Option Addr) (n0_0 : Nat) (hb0_0 : LC x0.Tracks.length n0_0) (hs0_0 : SlA tTrack F0 a0_0 x0.Tracks) (a0_1 : Option Addr) (n0_1 : Nat) (hb0_1 : LC x0.Ties.length n0_1) (hs0_1 : SlA tTie F0 a0_1 x0.Ties) (r : (List Bound)) (h : ref03_bounds N x0 = some r) :
  Calls Try.prog 84 ([(.agg (kSystem x0 a0_0 n0_0 a0_1 n0_1))] : List Value).toArray w0 (FRet w0 F0 fun F' v => ∃ (aq0_0 : Option Addr) (nq0_0 : Nat), v = (.slice aq0_0 r.length nq0_0) ∧ LC r.length nq0_0 ∧ SlA tBound F' aq0_0 r) := by
 have hs0 := HS.start hF
 refine calls_of (n := 194) (c := bodyOf Try.f84) Try.func84 (by kernel_rfl) (by kernel_rfl) (by kernel_rfl) ?_
 refine Sq (Rg [0, 1] ?_)
 refine Bx 1 0 0 25 (kSystem x0 a0_0 n0_0 a0_1 n0_1) hs0 (fun b1 w2 (hs3 : HS w0 F0 w2 F0 [(sb b1 (kSystem x0 a0_0 n0_0 a0_1 n0_1) 25)]) => ?_)
 refine V 2 57 (mc (.slice none 0 0) (.slice none ([] : List Bound).length 0)) ?_
 refine Nss (Rg [0] ?_)
 refine V 3 57 (mc (.slice none 0 0) (.slice none ([] : List Bound).length 0)) ?_
 refine Nss ?_
 refine Sq (Rg [0] ?_)
 refine V 4 3 (mc (vi 0) (vi 0)) ?_
 refine Nt ?_
 have hs4 : HS w0 F0 w2 F0 [(none, .cells #[] 0 (0, 0)), (sb b1 (kSystem x0 a0_0 n0_0 a0_1 n0_1) 25)] := hs3.dummy _
 obtain ⟨o6, ho7, h8⟩ := bind_some h
 refine CWP.cut (fun f w => ∃ (s17 : (List Bound × Int)) (F2 : Mem) (as17_0 : Option Addr) (ns17_0 : Nat) (es17_0 : Option Nat × Obj), o6 = .done s17 ∧ HS w0 F0 w F2 [es17_0, (sb b1 (kSystem x0 a0_0 n0_0 a0_1 n0_1) 25)] ∧ Mem.le F0 F2 ∧ f.d = [] ∧ f 1 = (.pointer (some ⟨b1, 0, none⟩)) ∧ f 3 = (.slice as17_0 s17.1.length ns17_0) ∧ RowR tBound 103 F2 as17_0 ns17_0 s17.1 es17_0) ?_ ?_
 ·refine Bk ?_
  refine CWP.loop (by kernel_rfl) (fun m f w => ∃ (s9 : (List Bound × Int)) (F1 : Mem) (as9_0 : Option Addr) (ns9_0 : Nat) (es9_0 : Option Nat × Obj), iter (ref03_bounds_L0 N x0) m s9 = some o6 ∧ HS w0 F0 w F1 [es9_0, (sb b1 (kSystem x0 a0_0 n0_0 a0_1 n0_1) 25)] ∧ Mem.le F0 F1 ∧ f.d = [] ∧ f 1 = (.pointer (some ⟨b1, 0, none⟩)) ∧ f 3 = (.slice as9_0 s9.1.length ns9_0) ∧ f 4 = (vi s9.2) ∧ RowR tBound 103 F1 as9_0 ns9_0 s9.1 es9_0) N ⟨(([] : List Bound), 0), F0, none, 0, (none, .cells #[] 0 (0, 0)), ho7, hs4, (Mem.le.refl _), rfl, rfl, rfl, rfl, (RowR.nil tBound 103 F0 _)⟩ ?_
  rintro m24 f w10 ⟨s9, F1, as9_0, ns9_0, es9_0, hit25, hs11, le12, e13, e14, e15, e16, hrs9_0⟩
  obtain ⟨m26, fl27, rfl, hb28, hnx29⟩ := iter_step hit25
  refine Sq ?_
  refine Sq (Rg [0, 1, 2, 3, 4] ?_)
  refine V 17 3 (mv 4 (vi s9.2) e16) ?_
  refine V 18 0 (fa 25 1 0 0 1 b1 0 0 e14) ?_
  refine V 19 22 (ld 22 18 b1 0 false 1 (.slice a0_0 x0.Tracks.length n0_0) (hs11.ownAt (k := 1) rfl)) ?_
  refine V 20 3 (ln 19 22 a0_0 x0.Tracks.length n0_0 54 4 64) ?_
  refine V 21 4 (run_lss (t := 3) (t' := 3) (x := (.tmp 17)) (y := (.tmp 20)) (k := .i64) (a := s9.2) (b := (x0.Tracks.length : Int)) rfl rfl) ?_
  refine Nt ?_
  refine CWP.cond (t := (decide (s9.2 < (x0.Tracks.length : Int)))) (by kernel_rfl) rfl (fun hb30 => ?_) (fun hb30 => ?_)
  ·have h31 := cond_t hb28 hb30
   refine Sc ?_
   refine thenQ_nrm ?_
   refine Sq ?_
   refine Bk ?_
   refine Sq (Rg [0, 1, 2, 3, 4, 5, 6] ?_)
   refine V 24 0 (fa 25 1 0 0 1 b1 0 0 e14) ?_
   refine V 25 22 (ld 22 24 b1 0 false 1 (.slice a0_0 x0.Tracks.length n0_0) (hs11.ownAt (k := 1) rfl)) ?_
   refine V 26 3 (mv 4 (vi s9.2) e16) ?_
   obtain ⟨x32, hx33, h35⟩ := bind_some h31
   obtain ⟨hi34, hx33'⟩ := idx_spec hx33
   obtain ⟨b36, o37, C38, E39, fz40, rfl, hF42, hE43⟩ := SlA.open (SlA.mono hs0_0 le12) hx33'
   obtain ⟨ae44_2, ne44_2, ae44_3, ne44_3, hc45, hbe44_2, hse44_2, hbe44_3, hse44_3⟩ := hE43 _ _ hx33'
   refine V 27 0 (ix 22 25 26 b36 o37 54 4 64 hi34) ?_
   refine V 28 54 (lx 54 27 0 4 true 4 (.agg (kTrack x32 ae44_2 ne44_2 ae44_3 ne44_3)) (hs11.pers _ _ hF42) hc45) ?_
   refine Al 5 0 54 #[(vi 0), (vi 0), (.slice none ([] : List Int).length 0), (.slice none ([] : List Int).length 0)] hs11 (fun b46 w47 (hs48 : HS w0 F0 w47 F1 [(sb b46 #[(vi 0), (vi 0), (.slice none ([] : List Int).length 0), (.slice none ([] : List Int).length 0)] 54), es9_0, (sb b1 (kSystem x0 (some ⟨b36, o37, none⟩) n0_0 a0_1 n0_1) 25)]) => ?_)
   refine RWP.store (ty := 0) (g := none) (by kernel_rfl) rfl (x := (.tmp 5)) (y := (.tmp 28)) (t := 54) (gg := true) (s := 4) (v := (.agg (kTrack x32 ae44_2 ne44_2 ae44_3 ne44_3))) (b := b46) (o := 0) (C := #[(vi 0), (vi 0), (.slice none ([] : List Int).length 0), (.slice none ([] : List Int).length 0)]) rfl rfl (by kernel_rfl) hs48 (k := 0) rfl rfl rfl rfl (C' := (kTrack x32 ae44_2 ne44_2 ae44_3 ne44_3)) rfl (fun w49 (hs50 : HS w0 F0 w49 F1 [(sb b46 (kTrack x32 ae44_2 ne44_2 ae44_3 ne44_3) 54), es9_0, (sb b1 (kSystem x0 (some ⟨b36, o37, none⟩) n0_0 a0_1 n0_1) 25)]) => ?_)
   refine Nss (Rg [0] ?_)
   refine V 6 3 (mc (vi 0) (vi 0)) ?_
   refine Nt ?_
   obtain ⟨o51, ho52, h53⟩ := bind_some h35
   refine CWP.cut (fun f w => ∃ (s64 : (List Bound × Int)) (F4 : Mem) (as64_0 : Option Addr) (ns64_0 : Nat) (es64_0 : Option Nat × Obj), o51 = .done s64 ∧ HS w0 F0 w F4 [es64_0, (sb b1 (kSystem x0 (some ⟨b36, o37, none⟩) n0_0 a0_1 n0_1) 25)] ∧ Mem.le F1 F4 ∧ f.d = [] ∧ f 1 = (.pointer (some ⟨b1, 0, none⟩)) ∧ f 3 = (.slice as64_0 s64.1.length ns64_0) ∧ f 4 = (vi s9.2) ∧ RowR tBound 103 F4 as64_0 ns64_0 s64.1 es64_0) ?_ ?_
   ·refine Bk ?_
    refine CWP.loop (by kernel_rfl) (fun m f w => ∃ (s54 : (List Bound × Int)) (F3 : Mem) (as54_0 : Option Addr) (ns54_0 : Nat) (es54_0 : Option Nat × Obj), iter (ref03_bounds_L1 N x0 s9 x32) m s54 = some o51 ∧ HS w0 F0 w F3 [(sb b46 (kTrack x32 ae44_2 ne44_2 ae44_3 ne44_3) 54), es54_0, (sb b1 (kSystem x0 (some ⟨b36, o37, none⟩) n0_0 a0_1 n0_1) 25)] ∧ Mem.le F1 F3 ∧ f.d = [] ∧ f 1 = (.pointer (some ⟨b1, 0, none⟩)) ∧ f 3 = (.slice as54_0 s54.1.length ns54_0) ∧ f 4 = (vi s9.2) ∧ f 5 = (.pointer (some ⟨b46, 0, none⟩)) ∧ f 6 = (vi s54.2) ∧ RowR tBound 103 F3 as54_0 ns54_0 s54.1 es54_0) N ⟨(s9.1, 0), F1, as9_0, ns9_0, es9_0, ho52, hs50, (Mem.le.refl _), e13, e14, e15, e16, rfl, rfl, hrs9_0⟩ ?_
    rintro m72 f w55 ⟨s54, F3, as54_0, ns54_0, es54_0, hit73, hs56, le57, e58, e59, e60, e61, e62, e63, hrs54_0⟩
    obtain ⟨m74, fl75, rfl, hb76, hnx77⟩ := iter_step hit73
    refine Sq ?_
    refine Sq (Rg [0, 1, 2, 3, 4] ?_)
    refine V 29 3 (mv 6 (vi s54.2) e63) ?_
    refine V 30 0 (fa 54 5 1 3 1 b46 0 3 e62) ?_
    refine V 31 50 (ld 50 30 b46 3 false 1 (.slice ae44_3 x32.Times.length ne44_3) (hs56.ownAt (k := 0) rfl)) ?_
    refine V 32 3 (ln 31 50 ae44_3 x32.Times.length ne44_3 3 1 8) ?_
    refine V 33 4 (run_lss (t := 3) (t' := 3) (x := (.tmp 29)) (y := (.tmp 32)) (k := .i64) (a := s54.2) (b := (x32.Times.length : Int)) rfl rfl) ?_
    refine Nt ?_
    refine CWP.cond (t := (decide (s54.2 < (x32.Times.length : Int)))) (by kernel_rfl) rfl (fun hb78 => ?_) (fun hb78 => ?_)
    ·have h79 := cond_t hb76 hb78
     refine Sc ?_
     refine thenQ_nrm ?_
     refine Sq ?_
     refine Bk ?_
     refine Sq (Rg [0, 1, 2, 3, 4] ?_)
     refine V 36 3 (mv 4 (vi s9.2) e61) ?_
     refine V 37 3 (mv 6 (vi s54.2) e63) ?_
     refine V 38 27 (run_build2 (t := 27) (parts := #[(0, (.tmp 36)), (1, (.tmp 37))]) (vs := [(0, (vi s9.2)), (1, (vi s54.2))]) (rfl) (cs := [(vi s9.2), (vi s54.2)]) (by kernel_rfl)) ?_
     refine Al 7 0 27 #[(vi 0), (vi 0)] hs56 (fun b80 w81 (hs82 : HS w0 F0 w81 F3 [(sb b80 #[(vi 0), (vi 0)] 27), (sb b46 (kTrack x32 ae44_2 ne44_2 ae44_3 ne44_3) 54), es54_0, (sb b1 (kSystem x0 (some ⟨b36, o37, none⟩) n0_0 a0_1 n0_1) 25)]) => ?_)
     refine RWP.store (ty := 0) (g := none) (by kernel_rfl) rfl (x := (.tmp 7)) (y := (.tmp 38)) (t := 27) (gg := true) (s := 2) (v := (.agg #[(vi s9.2), (vi s54.2)])) (b := b80) (o := 0) (C := #[(vi 0), (vi 0)]) rfl rfl (by kernel_rfl) hs82 (k := 0) rfl rfl rfl rfl (C' := #[(vi s9.2), (vi s54.2)]) rfl (fun w83 (hs84 : HS w0 F0 w83 F3 [(sb b80 #[(vi s9.2), (vi s54.2)] 27), (sb b46 (kTrack x32 ae44_2 ne44_2 ae44_3 ne44_3) 54), es54_0, (sb b1 (kSystem x0 (some ⟨b36, o37, none⟩) n0_0 a0_1 n0_1) 25)]) => ?_)
     refine Nss ?_
     obtain ⟨j90, hj98, h99⟩ := bind_some h79
     refine CWP.regionD (by kernel_rfl) (by kernel_rfl) (by kernel_rfl) (by kernel_rfl) (z := 17) (F := F3) (Lc := [(sb b80 #[(vi s9.2), (vi s54.2)] 27), (sb b46 (kTrack x32 ae44_2 ne44_2 ae44_3 ne44_3) 54), (sb b1 (kSystem x0 (some ⟨b36, o37, none⟩) n0_0 a0_1 n0_1) 25)]) (Lz := []) (l := [false, false, false, false, false, false, false, false, false, false, false, false, false, false, false, false, false]) (fuel := 17) (by kernel_rfl) (by kernel_rfl) hs84 (by simp) (by simp) (fun f w => ∃ (F5 : Mem) (aj90_0 : Option Addr) (nj90_0 : Nat) (ej90_0 : Option Nat × Obj), HS w0 F0 w F5 [(sb b80 #[(vi s9.2), (vi s54.2)] 27), (sb b46 (kTrack x32 ae44_2 ne44_2 ae44_3 ne44_3) 54), ej90_0, (sb b1 (kSystem x0 (some ⟨b36, o37, none⟩) n0_0 a0_1 n0_1) 25)] ∧ Mem.le F3 F5 ∧ f.d = [] ∧ f 1 = (.pointer (some ⟨b1, 0, none⟩)) ∧ f 3 = (.slice aj90_0 j90.length nj90_0) ∧ f 4 = (vi s9.2) ∧ f 5 = (.pointer (some ⟨b46, 0, none⟩)) ∧ f 6 = (vi s54.2) ∧ f 7 = (.pointer (some ⟨b80, 0, none⟩)) ∧ RowR tBound 103 F5 aj90_0 nj90_0 j90 ej90_0) (fun wd85 hw86 => ?_) ?_
     ·refine Dt 0 39 57 _ (fun _ hq => mv 3 (.slice as54_0 s54.1.length ns54_0) e60) ?_
      refine Dt 2 41 27 _ (fun _ hq => ld 27 7 b80 0 true 2 (.agg #[(vi s9.2), (vi s54.2)]) (hq.1.2 0 _ _ rfl)) ?_
      refine Dt 3 42 0 (.pointer (some ⟨b46, 3, none⟩)) (fun _ hq => fa 54 5 1 3 1 b46 0 3 e62) ?_
      refine Dt 4 43 50 _ (fun _ hq => ld 50 42 b46 3 false 1 (.slice ae44_3 x32.Times.length ne44_3) (hq.1.2 1 _ _ rfl)) ?_
      refine Dt 5 44 3 _ (fun _ hq => mv 6 (vi s54.2) e63) ?_
      obtain ⟨x100, hx101, h103⟩ := bind_some hj98
      obtain ⟨hi102, hx101'⟩ := idx_spec hx101
      obtain ⟨b104, o105, C106, E107, fz108, rfl, hF110, hE111⟩ := SlA.open (SlA.mono hse44_3 le57) hx101'
      have hc113 := hE111 _ _ hx101'
      refine Dt 6 45 0 (.pointer (some ⟨b104, (o105 + (s54.2 : Int).toNat * 1), none⟩)) (fun _ hq => ix 50 43 44 b104 o105 3 1 8 hi102) ?_
      refine Dt 7 46 3 _ (fun _ hq => lx 3 45 0 1 false 1 (vi x100) (hq.1.1 _ _ hF110) hc113) ?_
      refine Dt 8 47 0 (.pointer (some ⟨b46, 0, none⟩)) (fun _ hq => fa 54 5 0 0 3 b46 0 0 e62) ?_
      refine Dt 9 48 0 (.pointer (some ⟨b46, 0, none⟩)) (fun _ hq => fa 52 47 0 0 1 b46 0 0) ?_
      refine Dt 10 49 3 _ (fun _ hq => ld 3 48 b46 0 false 1 (vi x32.Clock.Slip) (hq.1.2 1 _ _ rfl)) ?_
      refine Dt 11 50 3 (vi (W64 (x100 + x32.Clock.Slip))) (fun _ hq => run_add (t := 3) (t' := 3) (x := (.tmp 46)) (y := (.tmp 49)) (k := .i64) (a := x100) (b := x32.Clock.Slip) rfl rfl) ?_
      refine Dt 12 51 3 _ (fun _ hq => mv 6 (vi s54.2) e63) ?_
      refine DWP.one (i := 1) (by kernel_rfl) ?_
      obtain ⟨r114, hr115, h116⟩ := bind_some h103
      refine DStep.call (l' := [true, true, true, true, true, true, true, true, true, true, true, true, true, false, false, false, false]) (zd := true) (by kernel_rfl) (by kernel_rfl) (by kernel_rfl) (dst := (some 40)) (ty := 27) (g := none) (by kernel_rfl) rfl (f0 := (.func 109)) (aos := #[]) (ats := #[]) (fid := 109) (first := #[]) (cap := #[]) (args := []) rfl co_ref03_Beginning (rfl) hw86 (c_ref03_Beginning N wd85 F3 hw86.pers  _ hr115) ?_
      intro v117 F6 w118 hs119 le120 hp121
      obtain rfl := hp121
      refine Dt 13 52 103 (.agg #[(vi r114.Log), (vi r114.Line), (vi s9.2), (vi s54.2), (vi (W64 (x100 + x32.Clock.Slip))), (vi 1), (vi s54.2)]) (fun _ hq => run_build2 (t := 103) (parts := #[(0, (.tmp 40)), (1, (.tmp 41)), (2, (.tmp 50)), (3, (.const (vi 1))), (4, (.tmp 51))]) (vs := [(0, (.agg (kRef r114))), (1, (.agg #[(vi s9.2), (vi s54.2)])), (2, (vi (W64 (x100 + x32.Clock.Slip)))), (3, (vi 1)), (4, (vi s54.2))]) (rfl) (cs := [(vi r114.Log), (vi r114.Line), (vi s9.2), (vi s54.2), (vi (W64 (x100 + x32.Clock.Slip))), (vi 1), (vi s54.2)]) (by kernel_rfl)) ?_
      refine DWP.one (i := 14) (by kernel_rfl) ?_
      refine DStep.buildSlice (l' := [true, true, true, true, true, true, true, true, true, true, true, true, true, true, true, false, false]) (zd := true) (by kernel_rfl) (by kernel_rfl) (dst := (some 53)) (ty := 57) (g := none) (by kernel_rfl) rfl (t := 57) (len := 1) (parts := #[(0, (.tmp 52))]) (vs := [(0, (.agg #[(vi r114.Log), (vi r114.Line), (vi s9.2), (vi s54.2), (vi (W64 (x100 + x32.Clock.Slip))), (vi 1), (vi s54.2)]))]) (rfl) (E := 103) (cs := [(vi r114.Log), (vi r114.Line), (vi s9.2), (vi s54.2), (vi (W64 (x100 + x32.Clock.Slip))), (vi 1), (vi s54.2)]) (by kernel_rfl) hs119 le120 (by simp) (fun e => by cases e) (fun b122 w123 (hs124 : HS w0 F0 w123 F6 [(some b122, .cells ([(vi r114.Log), (vi r114.Line), (vi s9.2), (vi s54.2), (vi (W64 (x100 + x32.Clock.Slip))), (vi 1), (vi s54.2)] : List Value).toArray 103 (0, 0)), (sb b80 #[(vi s9.2), (vi s54.2)] 27), (sb b46 (kTrack x32 ae44_2 ne44_2 (some ⟨b104, o105, none⟩) ne44_3) 54), es54_0, (sb b1 (kSystem x0 (some ⟨b36, o37, none⟩) n0_0 a0_1 n0_1) 25)]) => ?_)
      have hr126 : RowR tBound 103 F6 (some ⟨b122, 0, none⟩) 1 [({ From := r114, To := ({ Log := s9.2, Line := s54.2 } : Ref), Most := (W64 (x100 + x32.Clock.Slip)), Kind := 1, ID := s54.2 } : Bound)] (some b122, .cells ([(vi r114.Log), (vi r114.Line), (vi s9.2), (vi s54.2), (vi (W64 (x100 + x32.Clock.Slip))), (vi 1), (vi s54.2)] : List Value).toArray 103 (0, 0)) := RowR.lit ⟨rfl, rfl⟩ (by simp)
      refine DWP.one (i := 15) (by kernel_rfl) ?_
      obtain ⟨r127, hap128, h129⟩ := bind_some h116
      refine DStep.append (l' := [true, true, true, true, true, true, true, true, true, true, true, true, true, true, true, true, false]) (zd := true) (by kernel_rfl) (by kernel_rfl) (dst := (some 54)) (ty := 57) (g := none) (by kernel_rfl) rfl (x := (.tmp 39)) (y := (.tmp 53)) (t := 57) (t2 := 57) (by_ := 56) (z := (.agg #[(vi 0), (vi 0), (vi 0), (vi 0), (vi 0), (vi 0), (vi 0)])) (a2 := (some ⟨b122, 0, none⟩)) (c2 := 1) (m := [({ From := r114, To := ({ Log := s9.2, Line := s54.2 } : Ref), Most := (W64 (x100 + x32.Clock.Slip)), Kind := 1, ID := s54.2 } : Bound)]) (T := tBound) (E := 103) (a := as54_0) (cap := ns54_0) (l := s54.1) rfl rfl (by kernel_rfl) (by decide) (by kernel_rfl) (by kernel_rfl) rfl oBound hs124 (k := 3) rfl (hrs54_0.mono le120) (RowR.rd hs124 (k := 0) rfl hr126) (r := r127) hap128 le120 (fun _ => by simp) (fun e => by cases e) (fun a130 n131 e132 w133 (hs134 : HS w0 F0 w133 F6 [(some b122, .cells ([(vi r114.Log), (vi r114.Line), (vi s9.2), (vi s54.2), (vi (W64 (x100 + x32.Clock.Slip))), (vi 1), (vi s54.2)] : List Value).toArray 103 (0, 0)), (sb b80 #[(vi s9.2), (vi s54.2)] 27), (sb b46 (kTrack x32 ae44_2 ne44_2 (some ⟨b104, o105, none⟩) ne44_3) 54), e132, (sb b1 (kSystem x0 (some ⟨b36, o37, none⟩) n0_0 a0_1 n0_1) 25)]) hr135 => ?_)
      refine Dt 16 3 57 _ (fun _ hq => ma 54 (.slice a130 r127.length n131)) ?_
      obtain rfl := some_inj h129
      have hs136 : HS w0 F0 w133 F6 [(sb b80 #[(vi s9.2), (vi s54.2)] 27), (sb b46 (kTrack x32 ae44_2 ne44_2 (some ⟨b104, o105, none⟩) ne44_3) 54), e132, (sb b1 (kSystem x0 (some ⟨b36, o37, none⟩) n0_0 a0_1 n0_1) 25)] := hs134.drop 0
      exact DWP.done (by kernel_rfl) ⟨F6, a130, n131, e132, hs136, le120, e58, e59, rfl, e61, e62, e63, rfl, hr135⟩
     ·rintro f w87 ⟨F5, aj90_0, nj90_0, ej90_0, hs88, le89, e91, e92, e93, e94, e95, e96, e97, hrj90_0⟩
      refine thenQ_nrm ?_
      obtain ⟨j142, hj149, h150⟩ := bind_some h99
      refine CWP.regionD (by kernel_rfl) (by kernel_rfl) (by kernel_rfl) (by kernel_rfl) (z := 17) (F := F5) (Lc := [(sb b80 #[(vi s9.2), (vi s54.2)] 27), (sb b46 (kTrack x32 ae44_2 ne44_2 ae44_3 ne44_3) 54), (sb b1 (kSystem x0 (some ⟨b36, o37, none⟩) n0_0 a0_1 n0_1) 25)]) (Lz := []) (l := [false, false, false, false, false, false, false, false, false, false, false, false, false, false, false, false, false]) (fuel := 17) (by kernel_rfl) (by kernel_rfl) hs88 (by simp) (by simp) (fun f w => ∃ (F7 : Mem) (aj142_0 : Option Addr) (nj142_0 : Nat) (ej142_0 : Option Nat × Obj), HS w0 F0 w F7 [(sb b46 (kTrack x32 ae44_2 ne44_2 ae44_3 ne44_3) 54), ej142_0, (sb b1 (kSystem x0 (some ⟨b36, o37, none⟩) n0_0 a0_1 n0_1) 25)] ∧ Mem.le F5 F7 ∧ f.d = [] ∧ f 1 = (.pointer (some ⟨b1, 0, none⟩)) ∧ f 3 = (.slice aj142_0 j142.length nj142_0) ∧ f 4 = (vi s9.2) ∧ f 5 = (.pointer (some ⟨b46, 0, none⟩)) ∧ f 6 = (vi s54.2) ∧ RowR tBound 103 F7 aj142_0 nj142_0 j142 ej142_0) (fun wd137 hw138 => ?_) ?_
      ·refine Dt 0 55 57 _ (fun _ hq => mv 3 (.slice aj90_0 j90.length nj90_0) e93) ?_
       refine Dt 1 56 27 _ (fun _ hq => ld 27 7 b80 0 true 2 (.agg #[(vi s9.2), (vi s54.2)]) (hq.1.2 0 _ _ rfl) e97) ?_
       refine Dt 3 58 0 (.pointer (some ⟨b46, 0, none⟩)) (fun _ hq => fa 54 5 0 0 3 b46 0 0 e95) ?_
       refine Dt 4 59 0 (.pointer (some ⟨b46, 0, none⟩)) (fun _ hq => fa 52 58 0 0 1 b46 0 0) ?_
       refine Dt 5 60 3 _ (fun _ hq => ld 3 59 b46 0 false 1 (vi x32.Clock.Slip) (hq.1.2 1 _ _ rfl)) ?_
       refine Dt 6 61 0 (.pointer (some ⟨b46, 3, none⟩)) (fun _ hq => fa 54 5 1 3 1 b46 0 3 e95) ?_
       refine Dt 7 62 50 _ (fun _ hq => ld 50 61 b46 3 false 1 (.slice ae44_3 x32.Times.length ne44_3) (hq.1.2 1 _ _ rfl)) ?_
       refine Dt 8 63 3 _ (fun _ hq => mv 6 (vi s54.2) e96) ?_
       obtain ⟨x151, hx152, h154⟩ := bind_some hj149
       obtain ⟨hi153, hx152'⟩ := idx_spec hx152
       obtain ⟨b155, o156, C157, E158, fz159, rfl, hF161, hE162⟩ := SlA.open (SlA.mono hse44_3 (le57.trans le89)) hx152'
       have hc164 := hE162 _ _ hx152'
       refine Dt 9 64 0 (.pointer (some ⟨b155, (o156 + (s54.2 : Int).toNat * 1), none⟩)) (fun _ hq => ix 50 62 63 b155 o156 3 1 8 hi153) ?_
       refine Dt 10 65 3 _ (fun _ hq => lx 3 64 0 1 false 1 (vi x151) (hq.1.1 _ _ hF161) hc164) ?_
       refine Dt 11 66 3 (vi (W64 (x32.Clock.Slip - x151))) (fun _ hq => run_sub (t := 3) (t' := 3) (x := (.tmp 60)) (y := (.tmp 65)) (k := .i64) (a := x32.Clock.Slip) (b := x151) rfl rfl) ?_
       refine Dt 12 67 3 _ (fun _ hq => mv 6 (vi s54.2) e96) ?_
       refine DWP.one (i := 2) (by kernel_rfl) ?_
       obtain ⟨r165, hr166, h167⟩ := bind_some h154
       refine DStep.call (l' := [true, true, true, true, true, true, true, true, true, true, true, true, true, false, false, false, false]) (zd := true) (by kernel_rfl) (by kernel_rfl) (by kernel_rfl) (dst := (some 57)) (ty := 27) (g := none) (by kernel_rfl) rfl (f0 := (.func 109)) (aos := #[]) (ats := #[]) (fid := 109) (first := #[]) (cap := #[]) (args := []) rfl co_ref03_Beginning (rfl) hw138 (c_ref03_Beginning N wd137 F5 hw138.pers  _ hr166) ?_
       intro v168 F8 w169 hs170 le171 hp172
       obtain rfl := hp172
       refine Dt 13 68 103 (.agg #[(vi s9.2), (vi s54.2), (vi r165.Log), (vi r165.Line), (vi (W64 (x32.Clock.Slip - x151))), (vi 1), (vi s54.2)]) (fun _ hq => run_build2 (t := 103) (parts := #[(0, (.tmp 56)), (1, (.tmp 57)), (2, (.tmp 66)), (3, (.const (vi 1))), (4, (.tmp 67))]) (vs := [(0, (.agg #[(vi s9.2), (vi s54.2)])), (1, (.agg (kRef r165))), (2, (vi (W64 (x32.Clock.Slip - x151)))), (3, (vi 1)), (4, (vi s54.2))]) (rfl) (cs := [(vi s9.2), (vi s54.2), (vi r165.Log), (vi r165.Line), (vi (W64 (x32.Clock.Slip - x151))), (vi 1), (vi s54.2)]) (by kernel_rfl)) ?_
       refine DWP.one (i := 14) (by kernel_rfl) ?_
       refine DStep.buildSlice (l' := [true, true, true, true, true, true, true, true, true, true, true, true, true, true, true, false, false]) (zd := true) (by kernel_rfl) (by kernel_rfl) (dst := (some 69)) (ty := 57) (g := none) (by kernel_rfl) rfl (t := 57) (len := 1) (parts := #[(0, (.tmp 68))]) (vs := [(0, (.agg #[(vi s9.2), (vi s54.2), (vi r165.Log), (vi r165.Line), (vi (W64 (x32.Clock.Slip - x151))), (vi 1), (vi s54.2)]))]) (rfl) (E := 103) (cs := [(vi s9.2), (vi s54.2), (vi r165.Log), (vi r165.Line), (vi (W64 (x32.Clock.Slip - x151))), (vi 1), (vi s54.2)]) (by kernel_rfl) hs170 le171 (by simp) (fun e => by cases e) (fun b173 w174 (hs175 : HS w0 F0 w174 F8 [(some b173, .cells ([(vi s9.2), (vi s54.2), (vi r165.Log), (vi r165.Line), (vi (W64 (x32.Clock.Slip - x151))), (vi 1), (vi s54.2)] : List Value).toArray 103 (0, 0)), (sb b80 #[(vi s9.2), (vi s54.2)] 27), (sb b46 (kTrack x32 ae44_2 ne44_2 (some ⟨b155, o156, none⟩) ne44_3) 54), ej90_0, (sb b1 (kSystem x0 (some ⟨b36, o37, none⟩) n0_0 a0_1 n0_1) 25)]) => ?_)
       have hr177 : RowR tBound 103 F8 (some ⟨b173, 0, none⟩) 1 [({ From := ({ Log := s9.2, Line := s54.2 } : Ref), To := r165, Most := (W64 (x32.Clock.Slip - x151)), Kind := 1, ID := s54.2 } : Bound)] (some b173, .cells ([(vi s9.2), (vi s54.2), (vi r165.Log), (vi r165.Line), (vi (W64 (x32.Clock.Slip - x151))), (vi 1), (vi s54.2)] : List Value).toArray 103 (0, 0)) := RowR.lit ⟨rfl, rfl⟩ (by simp)
       refine DWP.one (i := 15) (by kernel_rfl) ?_
       obtain ⟨r178, hap179, h180⟩ := bind_some h167
       refine DStep.append (l' := [true, true, true, true, true, true, true, true, true, true, true, true, true, true, true, true, false]) (zd := true) (by kernel_rfl) (by kernel_rfl) (dst := (some 70)) (ty := 57) (g := none) (by kernel_rfl) rfl (x := (.tmp 55)) (y := (.tmp 69)) (t := 57) (t2 := 57) (by_ := 56) (z := (.agg #[(vi 0), (vi 0), (vi 0), (vi 0), (vi 0), (vi 0), (vi 0)])) (a2 := (some ⟨b173, 0, none⟩)) (c2 := 1) (m := [({ From := ({ Log := s9.2, Line := s54.2 } : Ref), To := r165, Most := (W64 (x32.Clock.Slip - x151)), Kind := 1, ID := s54.2 } : Bound)]) (T := tBound) (E := 103) (a := aj90_0) (cap := nj90_0) (l := j90) rfl rfl (by kernel_rfl) (by decide) (by kernel_rfl) (by kernel_rfl) rfl oBound hs175 (k := 3) rfl (hrj90_0.mono le171) (RowR.rd hs175 (k := 0) rfl hr177) (r := r178) hap179 le171 (fun _ => by simp) (fun e => by cases e) (fun a181 n182 e183 w184 (hs185 : HS w0 F0 w184 F8 [(some b173, .cells ([(vi s9.2), (vi s54.2), (vi r165.Log), (vi r165.Line), (vi (W64 (x32.Clock.Slip - x151))), (vi 1), (vi s54.2)] : List Value).toArray 103 (0, 0)), (sb b80 #[(vi s9.2), (vi s54.2)] 27), (sb b46 (kTrack x32 ae44_2 ne44_2 (some ⟨b155, o156, none⟩) ne44_3) 54), e183, (sb b1 (kSystem x0 (some ⟨b36, o37, none⟩) n0_0 a0_1 n0_1) 25)]) hr186 => ?_)
       refine Dt 16 3 57 _ (fun _ hq => ma 70 (.slice a181 r178.length n182)) ?_
       obtain rfl := some_inj h180
       have hs187 : HS w0 F0 w184 F8 [(sb b80 #[(vi s9.2), (vi s54.2)] 27), (sb b46 (kTrack x32 ae44_2 ne44_2 (some ⟨b155, o156, none⟩) ne44_3) 54), e183, (sb b1 (kSystem x0 (some ⟨b36, o37, none⟩) n0_0 a0_1 n0_1) 25)] := hs185.drop 0
       have hs188 : HS w0 F0 w184 F8 [(sb b46 (kTrack x32 ae44_2 ne44_2 (some ⟨b155, o156, none⟩) ne44_3) 54), e183, (sb b1 (kSystem x0 (some ⟨b36, o37, none⟩) n0_0 a0_1 n0_1) 25)] := hs187.drop 0
       exact DWP.done (by kernel_rfl) ⟨F8, a181, n182, e183, hs188, le171, e91, e92, rfl, e94, e95, e96, hr186⟩
      ·rintro f w139 ⟨F7, aj142_0, nj142_0, ej142_0, hs140, le141, e143, e144, e145, e146, e147, e148, hrj142_0⟩
       refine blockQ_nrm ?_
       refine thenQ_nrm ?_
       refine Rg [0, 1, 2] ?_
       refine V 34 3 (mv 6 (vi s54.2) e148) ?_
       refine V 35 3 (run_add (t := 3) (t' := 3) (x := (.tmp 34)) (y := (.const (vi 1))) (k := .i64) (a := s54.2) (b := 1) rfl rfl) ?_
       refine V 6 3 (ma 35 (vi (W64 (s54.2 + 1)))) ?_
       refine RWP.nil ?_
       have hn189 := iter_next h150 hnx77
       exact ⟨m74, Nat.lt_succ_self _, (j142, (W64 (s54.2 + 1))), F7, aj142_0, nj142_0, ej142_0, hn189, hs140, ((le57.trans le89).trans le141), e143, e144, e145, e146, e147, rfl, hrj142_0⟩
    ·have h190 := cond_f hb76 hb78
     refine CWP.exit (by kernel_rfl) ?_
     refine thenQ_ex ?_
     refine thenQ_ex ?_
     refine blockQ_hit rfl ?_
     have hs191 : HS w0 F0 w55 F3 [es54_0, (sb b1 (kSystem x0 (some ⟨b36, o37, none⟩) n0_0 a0_1 n0_1) 25)] := hs56.drop 0
     have ho192 := iter_done h190 hnx77
     exact .inl ⟨rfl, (s54.1, s54.2), F3, as54_0, ns54_0, es54_0, ho192, hs191, le57, e58, e59, e60, e61, hrs54_0⟩
   ·rintro f w65 ⟨s64, F4, as64_0, ns64_0, es64_0, rfl, hs66, le67, e68, e69, e70, e71, hrs64_0⟩
    have h193 := k_done h53
    refine blockQ_nrm ?_
    refine thenQ_nrm ?_
    refine Rg [0, 1, 2] ?_
    refine V 22 3 (mv 4 (vi s9.2) e71) ?_
    refine V 23 3 (run_add (t := 3) (t' := 3) (x := (.tmp 22)) (y := (.const (vi 1))) (k := .i64) (a := s9.2) (b := 1) rfl rfl) ?_
    refine V 4 3 (ma 23 (vi (W64 (s9.2 + 1)))) ?_
    refine RWP.nil ?_
    have hn194 := iter_next h193 hnx29
    exact ⟨m26, Nat.lt_succ_self _, (s64.1, (W64 (s9.2 + 1))), F4, as64_0, ns64_0, es64_0, hn194, hs66, (le12.trans le67), e68, e69, e70, rfl, hrs64_0⟩
  ·have h195 := cond_f hb28 hb30
   refine CWP.exit (by kernel_rfl) ?_
   refine thenQ_ex ?_
   refine thenQ_ex ?_
   refine blockQ_hit rfl ?_
   have ho196 := iter_done h195 hnx29
   exact .inl ⟨rfl, (s9.1, s9.2), F1, as9_0, ns9_0, es9_0, ho196, hs11, le12, e13, e14, e15, hrs9_0⟩
 ·rintro f w18 ⟨s17, F2, as17_0, ns17_0, es17_0, rfl, hs19, le20, e21, e22, e23, hrs17_0⟩
  have h197 := k_done h8
  refine thenQ_nrm ?_
  refine Sq ?_
  refine Sq (Rg [0] ?_)
  refine V 8 3 (mc (vi 0) (vi 0)) ?_
  refine Nt ?_
  obtain ⟨o198, ho199, h200⟩ := bind_some h197
  refine CWP.cut (fun f w => ∃ (s209 : (List Bound × Int)) (F10 : Mem) (as209_0 : Option Addr) (ns209_0 : Nat) (es209_0 : Option Nat × Obj), o198 = .done s209 ∧ HS w0 F0 w F10 [es209_0, (sb b1 (kSystem x0 a0_0 n0_0 a0_1 n0_1) 25)] ∧ Mem.le F2 F10 ∧ f.d = [] ∧ f 1 = (.pointer (some ⟨b1, 0, none⟩)) ∧ f 3 = (.slice as209_0 s209.1.length ns209_0) ∧ RowR tBound 103 F10 as209_0 ns209_0 s209.1 es209_0) ?_ ?_
  ·refine Bk ?_
   refine CWP.loop (by kernel_rfl) (fun m f w => ∃ (s201 : (List Bound × Int)) (F9 : Mem) (as201_0 : Option Addr) (ns201_0 : Nat) (es201_0 : Option Nat × Obj), iter (ref03_bounds_L2 N x0 s17) m s201 = some o198 ∧ HS w0 F0 w F9 [es201_0, (sb b1 (kSystem x0 a0_0 n0_0 a0_1 n0_1) 25)] ∧ Mem.le F2 F9 ∧ f.d = [] ∧ f 1 = (.pointer (some ⟨b1, 0, none⟩)) ∧ f 3 = (.slice as201_0 s201.1.length ns201_0) ∧ f 8 = (vi s201.2) ∧ RowR tBound 103 F9 as201_0 ns201_0 s201.1 es201_0) N ⟨(s17.1, 0), F2, as17_0, ns17_0, es17_0, ho199, hs19, (Mem.le.refl _), e21, e22, e23, rfl, hrs17_0⟩ ?_
   rintro m216 f w202 ⟨s201, F9, as201_0, ns201_0, es201_0, hit217, hs203, le204, e205, e206, e207, e208, hrs201_0⟩
   obtain ⟨m218, fl219, rfl, hb220, hnx221⟩ := iter_step hit217
   refine Sq ?_
   refine Sq (Rg [0, 1, 2, 3, 4] ?_)
   refine V 71 3 (mv 8 (vi s201.2) e208) ?_
   refine V 72 0 (fa 25 1 0 0 1 b1 0 0 e206) ?_
   refine V 73 22 (ld 22 72 b1 0 false 1 (.slice a0_0 x0.Tracks.length n0_0) (hs203.ownAt (k := 1) rfl)) ?_
   refine V 74 3 (ln 73 22 a0_0 x0.Tracks.length n0_0 54 4 64) ?_
   refine V 75 4 (run_lss (t := 3) (t' := 3) (x := (.tmp 71)) (y := (.tmp 74)) (k := .i64) (a := s201.2) (b := (x0.Tracks.length : Int)) rfl rfl) ?_
   refine Nt ?_
   refine CWP.cond (t := (decide (s201.2 < (x0.Tracks.length : Int)))) (by kernel_rfl) rfl (fun hb222 => ?_) (fun hb222 => ?_)
   ·have h223 := cond_t hb220 hb222
    refine Sc ?_
    refine thenQ_nrm ?_
    refine Sq ?_
    refine Bk ?_
    refine Sq (Rg [0, 1, 2, 3, 4, 5, 6] ?_)
    refine V 78 0 (fa 25 1 0 0 1 b1 0 0 e206) ?_
    refine V 79 22 (ld 22 78 b1 0 false 1 (.slice a0_0 x0.Tracks.length n0_0) (hs203.ownAt (k := 1) rfl)) ?_
    refine V 80 3 (mv 8 (vi s201.2) e208) ?_
    obtain ⟨x224, hx225, h227⟩ := bind_some h223
    obtain ⟨hi226, hx225'⟩ := idx_spec hx225
    obtain ⟨b228, o229, C230, E231, fz232, rfl, hF234, hE235⟩ := SlA.open (SlA.mono hs0_0 (le20.trans le204)) hx225'
    obtain ⟨ae236_2, ne236_2, ae236_3, ne236_3, hc237, hbe236_2, hse236_2, hbe236_3, hse236_3⟩ := hE235 _ _ hx225'
    refine V 81 0 (ix 22 79 80 b228 o229 54 4 64 hi226) ?_
    refine V 82 54 (lx 54 81 0 4 true 4 (.agg (kTrack x224 ae236_2 ne236_2 ae236_3 ne236_3)) (hs203.pers _ _ hF234) hc237) ?_
    refine Al 9 0 54 #[(vi 0), (vi 0), (.slice none ([] : List Int).length 0), (.slice none ([] : List Int).length 0)] hs203 (fun b238 w239 (hs240 : HS w0 F0 w239 F9 [(sb b238 #[(vi 0), (vi 0), (.slice none ([] : List Int).length 0), (.slice none ([] : List Int).length 0)] 54), es201_0, (sb b1 (kSystem x0 (some ⟨b228, o229, none⟩) n0_0 a0_1 n0_1) 25)]) => ?_)
    refine RWP.store (ty := 0) (g := none) (by kernel_rfl) rfl (x := (.tmp 9)) (y := (.tmp 82)) (t := 54) (gg := true) (s := 4) (v := (.agg (kTrack x224 ae236_2 ne236_2 ae236_3 ne236_3))) (b := b238) (o := 0) (C := #[(vi 0), (vi 0), (.slice none ([] : List Int).length 0), (.slice none ([] : List Int).length 0)]) rfl rfl (by kernel_rfl) hs240 (k := 0) rfl rfl rfl rfl (C' := (kTrack x224 ae236_2 ne236_2 ae236_3 ne236_3)) rfl (fun w241 (hs242 : HS w0 F0 w241 F9 [(sb b238 (kTrack x224 ae236_2 ne236_2 ae236_3 ne236_3) 54), es201_0, (sb b1 (kSystem x0 (some ⟨b228, o229, none⟩) n0_0 a0_1 n0_1) 25)]) => ?_)
    refine Nss (Rg [0] ?_)
    refine V 10 3 (mc (vi 0) (vi 0)) ?_
    refine Nt ?_
    obtain ⟨o243, ho244, h245⟩ := bind_some h227
    refine CWP.cut (fun f w => ∃ (s256 : (List Bound × Int)) (F12 : Mem) (as256_0 : Option Addr) (ns256_0 : Nat) (es256_0 : Option Nat × Obj), o243 = .done s256 ∧ HS w0 F0 w F12 [es256_0, (sb b1 (kSystem x0 (some ⟨b228, o229, none⟩) n0_0 a0_1 n0_1) 25)] ∧ Mem.le F9 F12 ∧ f.d = [] ∧ f 1 = (.pointer (some ⟨b1, 0, none⟩)) ∧ f 3 = (.slice as256_0 s256.1.length ns256_0) ∧ f 8 = (vi s201.2) ∧ RowR tBound 103 F12 as256_0 ns256_0 s256.1 es256_0) ?_ ?_
    ·refine Bk ?_
     refine CWP.loop (by kernel_rfl) (fun m f w => ∃ (s246 : (List Bound × Int)) (F11 : Mem) (as246_0 : Option Addr) (ns246_0 : Nat) (es246_0 : Option Nat × Obj), iter (ref03_bounds_L3 N x0 s17 s201 x224) m s246 = some o243 ∧ HS w0 F0 w F11 [(sb b238 (kTrack x224 ae236_2 ne236_2 ae236_3 ne236_3) 54), es246_0, (sb b1 (kSystem x0 (some ⟨b228, o229, none⟩) n0_0 a0_1 n0_1) 25)] ∧ Mem.le F9 F11 ∧ f.d = [] ∧ f 1 = (.pointer (some ⟨b1, 0, none⟩)) ∧ f 3 = (.slice as246_0 s246.1.length ns246_0) ∧ f 8 = (vi s201.2) ∧ f 9 = (.pointer (some ⟨b238, 0, none⟩)) ∧ f 10 = (vi s246.2) ∧ RowR tBound 103 F11 as246_0 ns246_0 s246.1 es246_0) N ⟨(s201.1, 0), F9, as201_0, ns201_0, es201_0, ho244, hs242, (Mem.le.refl _), e205, e206, e207, e208, rfl, rfl, hrs201_0⟩ ?_
     rintro m264 f w247 ⟨s246, F11, as246_0, ns246_0, es246_0, hit265, hs248, le249, e250, e251, e252, e253, e254, e255, hrs246_0⟩
     obtain ⟨m266, fl267, rfl, hb268, hnx269⟩ := iter_step hit265
     refine Sq ?_
     refine Sq (Rg [0, 1, 2, 3, 4, 5] ?_)
     refine V 83 3 (mv 10 (vi s246.2) e255) ?_
     refine V 84 3 (run_add (t := 3) (t' := 3) (x := (.tmp 83)) (y := (.const (vi 1))) (k := .i64) (a := s246.2) (b := 1) rfl rfl) ?_
     refine V 85 0 (fa 54 9 1 3 1 b238 0 3 e254) ?_
     refine V 86 50 (ld 50 85 b238 3 false 1 (.slice ae236_3 x224.Times.length ne236_3) (hs248.ownAt (k := 0) rfl)) ?_
     refine V 87 3 (ln 86 50 ae236_3 x224.Times.length ne236_3 3 1 8) ?_
     refine V 88 4 (run_lss (t := 3) (t' := 3) (x := (.tmp 84)) (y := (.tmp 87)) (k := .i64) (a := (W64 (s246.2 + 1))) (b := (x224.Times.length : Int)) rfl rfl) ?_
     refine Nt ?_
     refine CWP.cond (t := (decide ((W64 (s246.2 + 1)) < (x224.Times.length : Int)))) (by kernel_rfl) rfl (fun hb270 => ?_) (fun hb270 => ?_)
     ·have h271 := cond_t hb268 hb270
      refine Sc ?_
      refine thenQ_nrm ?_
      refine Sq ?_
      refine Bk ?_
      refine Sq (Rg [0, 1, 2, 3, 4] ?_)
      refine V 91 3 (mv 8 (vi s201.2) e253) ?_
      refine V 92 3 (mv 10 (vi s246.2) e255) ?_
      refine V 93 27 (run_build2 (t := 27) (parts := #[(0, (.tmp 91)), (1, (.tmp 92))]) (vs := [(0, (vi s201.2)), (1, (vi s246.2))]) (rfl) (cs := [(vi s201.2), (vi s246.2)]) (by kernel_rfl)) ?_
      refine Al 11 0 27 #[(vi 0), (vi 0)] hs248 (fun b272 w273 (hs274 : HS w0 F0 w273 F11 [(sb b272 #[(vi 0), (vi 0)] 27), (sb b238 (kTrack x224 ae236_2 ne236_2 ae236_3 ne236_3) 54), es246_0, (sb b1 (kSystem x0 (some ⟨b228, o229, none⟩) n0_0 a0_1 n0_1) 25)]) => ?_)
      refine RWP.store (ty := 0) (g := none) (by kernel_rfl) rfl (x := (.tmp 11)) (y := (.tmp 93)) (t := 27) (gg := true) (s := 2) (v := (.agg #[(vi s201.2), (vi s246.2)])) (b := b272) (o := 0) (C := #[(vi 0), (vi 0)]) rfl rfl (by kernel_rfl) hs274 (k := 0) rfl rfl rfl rfl (C' := #[(vi s201.2), (vi s246.2)]) rfl (fun w275 (hs276 : HS w0 F0 w275 F11 [(sb b272 #[(vi s201.2), (vi s246.2)] 27), (sb b238 (kTrack x224 ae236_2 ne236_2 ae236_3 ne236_3) 54), es246_0, (sb b1 (kSystem x0 (some ⟨b228, o229, none⟩) n0_0 a0_1 n0_1) 25)]) => ?_)
      refine Nss (Rg [0, 1, 2, 3, 4, 5] ?_)
      refine V 94 3 (mv 8 (vi s201.2) e253) ?_
      refine V 95 3 (mv 10 (vi s246.2) e255) ?_
      refine V 96 3 (run_add (t := 3) (t' := 3) (x := (.tmp 95)) (y := (.const (vi 1))) (k := .i64) (a := s246.2) (b := 1) rfl rfl) ?_
      refine V 97 27 (run_build2 (t := 27) (parts := #[(0, (.tmp 94)), (1, (.tmp 96))]) (vs := [(0, (vi s201.2)), (1, (vi (W64 (s246.2 + 1))))]) (rfl) (cs := [(vi s201.2), (vi (W64 (s246.2 + 1)))]) (by kernel_rfl)) ?_
      refine Al 12 0 27 #[(vi 0), (vi 0)] hs276 (fun b277 w278 (hs279 : HS w0 F0 w278 F11 [(sb b277 #[(vi 0), (vi 0)] 27), (sb b272 #[(vi s201.2), (vi s246.2)] 27), (sb b238 (kTrack x224 ae236_2 ne236_2 ae236_3 ne236_3) 54), es246_0, (sb b1 (kSystem x0 (some ⟨b228, o229, none⟩) n0_0 a0_1 n0_1) 25)]) => ?_)
      refine RWP.store (ty := 0) (g := none) (by kernel_rfl) rfl (x := (.tmp 12)) (y := (.tmp 97)) (t := 27) (gg := true) (s := 2) (v := (.agg #[(vi s201.2), (vi (W64 (s246.2 + 1)))])) (b := b277) (o := 0) (C := #[(vi 0), (vi 0)]) rfl rfl (by kernel_rfl) hs279 (k := 0) rfl rfl rfl rfl (C' := #[(vi s201.2), (vi (W64 (s246.2 + 1)))]) rfl (fun w280 (hs281 : HS w0 F0 w280 F11 [(sb b277 #[(vi s201.2), (vi (W64 (s246.2 + 1)))] 27), (sb b272 #[(vi s201.2), (vi s246.2)] 27), (sb b238 (kTrack x224 ae236_2 ne236_2 ae236_3 ne236_3) 54), es246_0, (sb b1 (kSystem x0 (some ⟨b228, o229, none⟩) n0_0 a0_1 n0_1) 25)]) => ?_)
      refine Nss (Rg [0, 1, 2, 3, 4, 5, 6, 7] ?_)
      refine V 98 57 (mv 3 (.slice as246_0 s246.1.length ns246_0) e252) ?_
      refine V 99 27 (ld 27 12 b277 0 true 2 (.agg #[(vi s201.2), (vi (W64 (s246.2 + 1)))]) (hs281.ownAt (k := 0) rfl)) ?_
      refine V 100 27 (ld 27 11 b272 0 true 2 (.agg #[(vi s201.2), (vi s246.2)]) (hs281.ownAt (k := 1) rfl)) ?_
      refine V 101 3 (mv 10 (vi s246.2) e255) ?_
      refine V 102 103 (run_build2 (t := 103) (parts := #[(0, (.tmp 99)), (1, (.tmp 100)), (2, (.const (vi 0))), (3, (.const (vi 2))), (4, (.tmp 101))]) (vs := [(0, (.agg #[(vi s201.2), (vi (W64 (s246.2 + 1)))])), (1, (.agg #[(vi s201.2), (vi s246.2)])), (2, (vi 0)), (3, (vi 2)), (4, (vi s246.2))]) (rfl) (cs := [(vi s201.2), (vi (W64 (s246.2 + 1))), (vi s201.2), (vi s246.2), (vi 0), (vi 2), (vi s246.2)]) (by kernel_rfl)) ?_
      refine RWP.buildSlice (dst := (some 103)) (ty := 57) (g := none) (by kernel_rfl) rfl (t := 57) (len := 1) (parts := #[(0, (.tmp 102))]) (vs := [(0, (.agg #[(vi s201.2), (vi (W64 (s246.2 + 1))), (vi s201.2), (vi s246.2), (vi 0), (vi 2), (vi s246.2)]))]) (rfl) (E := 103) (cs := [(vi s201.2), (vi (W64 (s246.2 + 1))), (vi s201.2), (vi s246.2), (vi 0), (vi 2), (vi s246.2)]) (by kernel_rfl) hs281 (fun b282 w283 (hs284 : HS w0 F0 w283 F11 [(some b282, .cells ([(vi s201.2), (vi (W64 (s246.2 + 1))), (vi s201.2), (vi s246.2), (vi 0), (vi 2), (vi s246.2)] : List Value).toArray 103 (0, 0)), (sb b277 #[(vi s201.2), (vi (W64 (s246.2 + 1)))] 27), (sb b272 #[(vi s201.2), (vi s246.2)] 27), (sb b238 (kTrack x224 ae236_2 ne236_2 ae236_3 ne236_3) 54), es246_0, (sb b1 (kSystem x0 (some ⟨b228, o229, none⟩) n0_0 a0_1 n0_1) 25)]) => ?_)
      have hr286 : RowR tBound 103 F11 (some ⟨b282, 0, none⟩) 1 [({ From := ({ Log := s201.2, Line := (W64 (s246.2 + 1)) } : Ref), To := ({ Log := s201.2, Line := s246.2 } : Ref), Most := 0, Kind := 2, ID := s246.2 } : Bound)] (some b282, .cells ([(vi s201.2), (vi (W64 (s246.2 + 1))), (vi s201.2), (vi s246.2), (vi 0), (vi 2), (vi s246.2)] : List Value).toArray 103 (0, 0)) := RowR.lit ⟨rfl, rfl⟩ (by simp)
      obtain ⟨r287, hap288, h289⟩ := bind_some h271
      refine RWP.append (dst := (some 104)) (ty := 57) (g := none) (by kernel_rfl) rfl (x := (.tmp 98)) (y := (.tmp 103)) (t := 57) (t2 := 57) (by_ := 56) (z := (.agg #[(vi 0), (vi 0), (vi 0), (vi 0), (vi 0), (vi 0), (vi 0)])) (a2 := (some ⟨b282, 0, none⟩)) (c2 := 1) (m := [({ From := ({ Log := s201.2, Line := (W64 (s246.2 + 1)) } : Ref), To := ({ Log := s201.2, Line := s246.2 } : Ref), Most := 0, Kind := 2, ID := s246.2 } : Bound)]) (T := tBound) (E := 103) (a := as246_0) (cap := ns246_0) (l := s246.1) rfl rfl (by kernel_rfl) (by decide) (by kernel_rfl) (by kernel_rfl) rfl oBound hs284 (k := 4) rfl hrs246_0 (RowR.rd hs284 (k := 0) rfl hr286) (r := r287) hap288 (fun a290 n291 e292 w293 (hs294 : HS w0 F0 w293 F11 [(some b282, .cells ([(vi s201.2), (vi (W64 (s246.2 + 1))), (vi s201.2), (vi s246.2), (vi 0), (vi 2), (vi s246.2)] : List Value).toArray 103 (0, 0)), (sb b277 #[(vi s201.2), (vi (W64 (s246.2 + 1)))] 27), (sb b272 #[(vi s201.2), (vi s246.2)] 27), (sb b238 (kTrack x224 ae236_2 ne236_2 ae236_3 ne236_3) 54), e292, (sb b1 (kSystem x0 (some ⟨b228, o229, none⟩) n0_0 a0_1 n0_1) 25)]) hr295 => ?_)
      refine V 3 57 (ma 104 (.slice a290 r287.length n291)) ?_
      refine Nss ?_
      refine Sq ?_
      obtain ⟨j301, hj311, h312⟩ := bind_some h289
      refine CWP.regionD (by kernel_rfl) (by kernel_rfl) (by kernel_rfl) (by kernel_rfl) (z := 14) (F := F11) (Lc := [(some b282, .cells ([(vi s201.2), (vi (W64 (s246.2 + 1))), (vi s201.2), (vi s246.2), (vi 0), (vi 2), (vi s246.2)] : List Value).toArray 103 (0, 0)), (sb b277 #[(vi s201.2), (vi (W64 (s246.2 + 1)))] 27), (sb b272 #[(vi s201.2), (vi s246.2)] 27), (sb b238 (kTrack x224 ae236_2 ne236_2 ae236_3 ne236_3) 54), e292, (sb b1 (kSystem x0 (some ⟨b228, o229, none⟩) n0_0 a0_1 n0_1) 25)]) (Lz := []) (l := [false, false, false, false, false, false, false, false, false, false, false, false, false, false]) (fuel := 14) (by kernel_rfl) (by kernel_rfl) hs294 (by simp) (by simp) (fun f w => ∃ (F13 : Mem), HS w0 F0 w F13 [(sb b277 #[(vi s201.2), (vi (W64 (s246.2 + 1)))] 27), (sb b272 #[(vi s201.2), (vi s246.2)] 27), (sb b238 (kTrack x224 ae236_2 ne236_2 ae236_3 ne236_3) 54), e292, (sb b1 (kSystem x0 (some ⟨b228, o229, none⟩) n0_0 a0_1 n0_1) 25)] ∧ Mem.le F11 F13 ∧ f.d = [] ∧ f 1 = (.pointer (some ⟨b1, 0, none⟩)) ∧ f 3 = (.slice a290 r287.length n291) ∧ f 8 = (vi s201.2) ∧ f 9 = (.pointer (some ⟨b238, 0, none⟩)) ∧ f 10 = (vi s246.2) ∧ f 11 = (.pointer (some ⟨b272, 0, none⟩)) ∧ f 12 = (.pointer (some ⟨b277, 0, none⟩)) ∧ f 118 = (.bool j301)) (fun wd296 hw297 => ?_) ?_
      ·refine Dt 0 105 0 (.pointer (some ⟨b238, 0, none⟩)) (fun _ hq => fa 54 9 0 0 3 b238 0 0 e254) ?_
       refine Dt 1 106 52 _ (fun _ hq => ld 52 105 b238 0 true 3 (.agg (kClock x224.Clock ae236_2 ne236_2)) (hq.1.2 3 _ _ rfl)) ?_
       refine Dt 2 107 0 (.pointer (some ⟨b238, 3, none⟩)) (fun _ hq => fa 54 9 1 3 1 b238 0 3 e254) ?_
       refine Dt 3 108 50 _ (fun _ hq => ld 50 107 b238 3 false 1 (.slice ae236_3 x224.Times.length ne236_3) (hq.1.2 3 _ _ rfl)) ?_
       refine Dt 4 109 3 _ (fun _ hq => mv 10 (vi s246.2) e255) ?_
       obtain ⟨x313, hx314, h316⟩ := bind_some hj311
       obtain ⟨hi315, hx314'⟩ := idx_spec hx314
       obtain ⟨b317, o318, C319, E320, fz321, rfl, hF323, hE324⟩ := SlA.open (SlA.mono hse236_3 le249) hx314'
       have hc326 := hE324 _ _ hx314'
       refine Dt 5 110 0 (.pointer (some ⟨b317, (o318 + (s246.2 : Int).toNat * 1), none⟩)) (fun _ hq => ix 50 108 109 b317 o318 3 1 8 hi315) ?_
       refine Dt 6 111 3 _ (fun _ hq => lx 3 110 0 1 false 1 (vi x313) (hq.1.1 _ _ hF323) hc326) ?_
       refine Dt 7 112 0 (.pointer (some ⟨b238, 3, none⟩)) (fun _ hq => fa 54 9 1 3 1 b238 0 3 e254) ?_
       refine Dt 8 113 50 _ (fun _ hq => ld 50 112 b238 3 false 1 (.slice (some ⟨b317, o318, none⟩) x224.Times.length ne236_3) (hq.1.2 3 _ _ rfl)) ?_
       refine Dt 9 114 3 _ (fun _ hq => mv 10 (vi s246.2) e255) ?_
       refine Dt 10 115 3 (vi (W64 (s246.2 + 1))) (fun _ hq => run_add (t := 3) (t' := 3) (x := (.tmp 114)) (y := (.const (vi 1))) (k := .i64) (a := s246.2) (b := 1) rfl rfl) ?_
       obtain ⟨x327, hx328, h330⟩ := bind_some h316
       obtain ⟨hi329, hx328'⟩ := idx_spec hx328
       have hc332 := hE324 _ _ hx328'
       refine Dt 11 116 0 (.pointer (some ⟨b317, (o318 + ((W64 (s246.2 + 1)) : Int).toNat * 1), none⟩)) (fun _ hq => ix 50 113 115 b317 o318 3 1 8 hi329) ?_
       refine Dt 12 117 3 _ (fun _ hq => lx 3 116 0 1 false 1 (vi x327) (hq.1.1 _ _ hF323) hc332) ?_
       refine DWP.one (i := 13) (by kernel_rfl) ?_
       obtain ⟨r333, hr334, h335⟩ := bind_some h330
       refine DStep.call (l' := [true, true, true, true, true, true, true, true, true, true, true, true, true, true]) (zd := true) (by kernel_rfl) (by kernel_rfl) (by kernel_rfl) (dst := (some 118)) (ty := 4) (g := none) (by kernel_rfl) rfl (f0 := (.func 124)) (aos := #[(.tmp 106), (.tmp 111), (.tmp 117)]) (ats := #[52, 3, 3]) (fid := 124) (first := #[]) (cap := #[]) (args := [(.agg (kClock x224.Clock ae236_2 ne236_2)), (vi x313), (vi x327)]) rfl co_ref03_jumped (rfl) hw297 (c_ref03_jumped N wd296 F11 hw297.pers (x224.Clock) ae236_2 ne236_2 hbe236_2 (SlA.mono hse236_2 le249) (x313) (x327) _ hr334) ?_
       intro v336 F14 w337 hs338 le339 hp340
       obtain rfl := hp340
       obtain rfl := some_inj h335
       have hs341 : HS w0 F0 w337 F14 [(sb b277 #[(vi s201.2), (vi (W64 (s246.2 + 1)))] 27), (sb b272 #[(vi s201.2), (vi s246.2)] 27), (sb b238 (kTrack x224 ae236_2 ne236_2 (some ⟨b317, o318, none⟩) ne236_3) 54), e292, (sb b1 (kSystem x0 (some ⟨b228, o229, none⟩) n0_0 a0_1 n0_1) 25)] := hs338.drop 0
       exact DWP.done (by kernel_rfl) ⟨F14, hs341, le339, e250, e251, rfl, e253, e254, e255, rfl, rfl, rfl⟩
      ·rintro f w298 ⟨F13, hs299, le300, e302, e303, e304, e305, e306, e307, e308, e309, e310⟩
       refine thenQ_nrm ?_
       refine CWP.cond (t := j301) (by kernel_rfl) e310 (fun hb342 => ?_) (fun hb342 => ?_)
       ·have h343 := cond_t h312 hb342
        refine CWP.exit (by kernel_rfl) ?_
        refine thenQ_ex ?_
        refine blockQ_hit rfl ?_
        refine thenQ_nrm ?_
        refine Rg [0, 1, 2] ?_
        refine V 89 3 (mv 10 (vi s246.2) e307) ?_
        refine V 90 3 (run_add (t := 3) (t' := 3) (x := (.tmp 89)) (y := (.const (vi 1))) (k := .i64) (a := s246.2) (b := 1) rfl rfl) ?_
        refine V 10 3 (ma 90 (vi (W64 (s246.2 + 1)))) ?_
        refine RWP.nil ?_
        have hs344 : HS w0 F0 w298 F13 [(sb b272 #[(vi s201.2), (vi s246.2)] 27), (sb b238 (kTrack x224 ae236_2 ne236_2 ae236_3 ne236_3) 54), e292, (sb b1 (kSystem x0 (some ⟨b228, o229, none⟩) n0_0 a0_1 n0_1) 25)] := hs299.drop 0
        have hs345 : HS w0 F0 w298 F13 [(sb b238 (kTrack x224 ae236_2 ne236_2 ae236_3 ne236_3) 54), e292, (sb b1 (kSystem x0 (some ⟨b228, o229, none⟩) n0_0 a0_1 n0_1) 25)] := hs344.drop 0
        have hn346 := iter_next h343 hnx269
        exact ⟨m266, Nat.lt_succ_self _, (r287, (W64 (s246.2 + 1))), F13, a290, n291, e292, hn346, hs345, (le249.trans le300), e302, e303, e304, e305, e306, rfl, (hr295.mono le300)⟩
       ·have h347 := cond_f h312 hb342
        refine Sc ?_
        refine thenQ_nrm ?_
        refine Sq ?_
        obtain ⟨j353, hj363, h364⟩ := bind_some h347
        refine CWP.regionD (by kernel_rfl) (by kernel_rfl) (by kernel_rfl) (by kernel_rfl) (z := 13) (F := F13) (Lc := [(sb b277 #[(vi s201.2), (vi (W64 (s246.2 + 1)))] 27), (sb b272 #[(vi s201.2), (vi s246.2)] 27), (sb b238 (kTrack x224 ae236_2 ne236_2 ae236_3 ne236_3) 54), e292, (sb b1 (kSystem x0 (some ⟨b228, o229, none⟩) n0_0 a0_1 n0_1) 25)]) (Lz := []) (l := [false, false, false, false, false, false, false, false, false, false, false, false, false]) (fuel := 13) (by kernel_rfl) (by kernel_rfl) hs299 (by simp) (by simp) (fun f w => ∃ (F15 : Mem), HS w0 F0 w F15 [(sb b277 #[(vi s201.2), (vi (W64 (s246.2 + 1)))] 27), (sb b272 #[(vi s201.2), (vi s246.2)] 27), (sb b238 (kTrack x224 ae236_2 ne236_2 ae236_3 ne236_3) 54), e292, (sb b1 (kSystem x0 (some ⟨b228, o229, none⟩) n0_0 a0_1 n0_1) 25)] ∧ Mem.le F13 F15 ∧ f.d = [] ∧ f 1 = (.pointer (some ⟨b1, 0, none⟩)) ∧ f 3 = (.slice a290 r287.length n291) ∧ f 8 = (vi s201.2) ∧ f 9 = (.pointer (some ⟨b238, 0, none⟩)) ∧ f 10 = (vi s246.2) ∧ f 11 = (.pointer (some ⟨b272, 0, none⟩)) ∧ f 12 = (.pointer (some ⟨b277, 0, none⟩)) ∧ f 13 = (vi j353)) (fun wd348 hw349 => ?_) ?_
        ·refine Dt 0 119 0 (.pointer (some ⟨b238, 3, none⟩)) (fun _ hq => fa 54 9 1 3 1 b238 0 3 e306) ?_
         refine Dt 1 120 50 _ (fun _ hq => ld 50 119 b238 3 false 1 (.slice ae236_3 x224.Times.length ne236_3) (hq.1.2 2 _ _ rfl)) ?_
         refine Dt 2 121 3 _ (fun _ hq => mv 10 (vi s246.2) e307) ?_
         refine Dt 3 122 3 (vi (W64 (s246.2 + 1))) (fun _ hq => run_add (t := 3) (t' := 3) (x := (.tmp 121)) (y := (.const (vi 1))) (k := .i64) (a := s246.2) (b := 1) rfl rfl) ?_
         obtain ⟨x365, hx366, h368⟩ := bind_some hj363
         obtain ⟨hi367, hx366'⟩ := idx_spec hx366
         obtain ⟨b369, o370, C371, E372, fz373, rfl, hF375, hE376⟩ := SlA.open (SlA.mono hse236_3 (le249.trans le300)) hx366'
         have hc378 := hE376 _ _ hx366'
         refine Dt 4 123 0 (.pointer (some ⟨b369, (o370 + ((W64 (s246.2 + 1)) : Int).toNat * 1), none⟩)) (fun _ hq => ix 50 120 122 b369 o370 3 1 8 hi367) ?_
         refine Dt 5 124 3 _ (fun _ hq => lx 3 123 0 1 false 1 (vi x365) (hq.1.1 _ _ hF375) hc378) ?_
         refine Dt 6 125 0 (.pointer (some ⟨b238, 3, none⟩)) (fun _ hq => fa 54 9 1 3 1 b238 0 3 e306) ?_
         refine Dt 7 126 50 _ (fun _ hq => ld 50 125 b238 3 false 1 (.slice (some ⟨b369, o370, none⟩) x224.Times.length ne236_3) (hq.1.2 2 _ _ rfl)) ?_
         refine Dt 8 127 3 _ (fun _ hq => mv 10 (vi s246.2) e307) ?_
         obtain ⟨x379, hx380, h382⟩ := bind_some h368
         obtain ⟨hi381, hx380'⟩ := idx_spec hx380
         have hc384 := hE376 _ _ hx380'
         refine Dt 9 128 0 (.pointer (some ⟨b369, (o370 + (s246.2 : Int).toNat * 1), none⟩)) (fun _ hq => ix 50 126 127 b369 o370 3 1 8 hi381) ?_
         refine Dt 10 129 3 _ (fun _ hq => lx 3 128 0 1 false 1 (vi x379) (hq.1.1 _ _ hF375) hc384) ?_
         refine Dt 11 130 3 (vi (W64 (x365 - x379))) (fun _ hq => run_sub (t := 3) (t' := 3) (x := (.tmp 124)) (y := (.tmp 129)) (k := .i64) (a := x365) (b := x379) rfl rfl) ?_
         refine Dt 12 13 3 _ (fun _ hq => ma 130 (vi (W64 (x365 - x379)))) ?_
         obtain rfl := some_inj h382
         exact DWP.done (by kernel_rfl) ⟨F13, hw349, (Mem.le.refl _), e302, e303, e304, e305, e306, e307, e308, e309, rfl⟩
        ·rintro f w350 ⟨F15, hs351, le352, e354, e355, e356, e357, e358, e359, e360, e361, e362⟩
         refine thenQ_nrm ?_
         refine Sq (Rg [0, 1, 2, 3, 4, 5, 6, 7, 8] ?_)
         refine V 131 0 (fa 54 9 0 0 3 b238 0 0 e358) ?_
         refine V 132 0 (fa 52 131 1 1 1 b238 0 1) ?_
         refine V 133 3 (ld 3 132 b238 1 false 1 (vi x224.Clock.Drift) (hs351.ownAt (k := 2) rfl)) ?_
         refine V 134 3 (mv 13 (vi j353) e362) ?_
         refine V 135 3 (run_mul (t := 3) (t' := 3) (x := (.tmp 133)) (y := (.tmp 134)) (k := .i64) (a := x224.Clock.Drift) (b := j353) rfl rfl) ?_
         refine V 136 3 (run_add (t := 3) (t' := 3) (x := (.tmp 135)) (y := (.const (vi 999))) (k := .i64) (a := (W64 (x224.Clock.Drift * j353))) (b := 999) rfl rfl) ?_
         refine V 137 3 (run_quo (t := 3) (t' := 3) (x := (.tmp 136)) (y := (.const (vi 1000))) (k := .i64) (a := (W64 ((W64 (x224.Clock.Drift * j353)) + 999))) (b := 1000) rfl rfl (by decide)) ?_
         refine V 138 3 (run_add (t := 3) (t' := 3) (x := (.const (vi 1))) (y := (.tmp 137)) (k := .i64) (a := 1) (b := (W64 (Int.tdiv (W64 ((W64 (x224.Clock.Drift * j353)) + 999)) 1000))) rfl rfl) ?_
         refine V 14 3 (ma 138 (vi (W64 (1 + (W64 (Int.tdiv (W64 ((W64 (x224.Clock.Drift * j353)) + 999)) 1000)))))) ?_
         refine Nss (Rg [0, 1, 2, 3, 4, 5, 6, 7, 8, 9, 10] ?_)
         refine V 139 57 (mv 3 (.slice a290 r287.length n291) e356) ?_
         refine V 140 27 (ld 27 11 b272 0 true 2 (.agg #[(vi s201.2), (vi s246.2)]) (hs351.ownAt (k := 1) rfl) e360) ?_
         refine V 141 27 (ld 27 12 b277 0 true 2 (.agg #[(vi s201.2), (vi (W64 (s246.2 + 1)))]) (hs351.ownAt (k := 0) rfl) e361) ?_
         refine V 142 3 (mv 13 (vi j353) e362) ?_
         refine V 143 3 (mv 14 (vi (W64 (1 + (W64 (Int.tdiv (W64 ((W64 (x224.Clock.Drift * j353)) + 999)) 1000)))))) ?_
         refine V 144 3 (run_add (t := 3) (t' := 3) (x := (.tmp 142)) (y := (.tmp 143)) (k := .i64) (a := j353) (b := (W64 (1 + (W64 (Int.tdiv (W64 ((W64 (x224.Clock.Drift * j353)) + 999)) 1000))))) rfl rfl) ?_
         refine V 145 3 (mv 10 (vi s246.2) e359) ?_
         refine V 146 103 (run_build2 (t := 103) (parts := #[(0, (.tmp 140)), (1, (.tmp 141)), (2, (.tmp 144)), (3, (.const (vi 3))), (4, (.tmp 145))]) (vs := [(0, (.agg #[(vi s201.2), (vi s246.2)])), (1, (.agg #[(vi s201.2), (vi (W64 (s246.2 + 1)))])), (2, (vi (W64 (j353 + (W64 (1 + (W64 (Int.tdiv (W64 ((W64 (x224.Clock.Drift * j353)) + 999)) 1000)))))))), (3, (vi 3)), (4, (vi s246.2))]) (rfl) (cs := [(vi s201.2), (vi s246.2), (vi s201.2), (vi (W64 (s246.2 + 1))), (vi (W64 (j353 + (W64 (1 + (W64 (Int.tdiv (W64 ((W64 (x224.Clock.Drift * j353)) + 999)) 1000))))))), (vi 3), (vi s246.2)]) (by kernel_rfl)) ?_
         refine RWP.buildSlice (dst := (some 147)) (ty := 57) (g := none) (by kernel_rfl) rfl (t := 57) (len := 1) (parts := #[(0, (.tmp 146))]) (vs := [(0, (.agg #[(vi s201.2), (vi s246.2), (vi s201.2), (vi (W64 (s246.2 + 1))), (vi (W64 (j353 + (W64 (1 + (W64 (Int.tdiv (W64 ((W64 (x224.Clock.Drift * j353)) + 999)) 1000))))))), (vi 3), (vi s246.2)]))]) (rfl) (E := 103) (cs := [(vi s201.2), (vi s246.2), (vi s201.2), (vi (W64 (s246.2 + 1))), (vi (W64 (j353 + (W64 (1 + (W64 (Int.tdiv (W64 ((W64 (x224.Clock.Drift * j353)) + 999)) 1000))))))), (vi 3), (vi s246.2)]) (by kernel_rfl) hs351 (fun b385 w386 (hs387 : HS w0 F0 w386 F15 [(some b385, .cells ([(vi s201.2), (vi s246.2), (vi s201.2), (vi (W64 (s246.2 + 1))), (vi (W64 (j353 + (W64 (1 + (W64 (Int.tdiv (W64 ((W64 (x224.Clock.Drift * j353)) + 999)) 1000))))))), (vi 3), (vi s246.2)] : List Value).toArray 103 (0, 0)), (sb b277 #[(vi s201.2), (vi (W64 (s246.2 + 1)))] 27), (sb b272 #[(vi s201.2), (vi s246.2)] 27), (sb b238 (kTrack x224 ae236_2 ne236_2 ae236_3 ne236_3) 54), e292, (sb b1 (kSystem x0 (some ⟨b228, o229, none⟩) n0_0 a0_1 n0_1) 25)]) => ?_)
         have hr389 : RowR tBound 103 F15 (some ⟨b385, 0, none⟩) 1 [({ From := ({ Log := s201.2, Line := s246.2 } : Ref), To := ({ Log := s201.2, Line := (W64 (s246.2 + 1)) } : Ref), Most := (W64 (j353 + (W64 (1 + (W64 (Int.tdiv (W64 ((W64 (x224.Clock.Drift * j353)) + 999)) 1000)))))), Kind := 3, ID := s246.2 } : Bound)] (some b385, .cells ([(vi s201.2), (vi s246.2), (vi s201.2), (vi (W64 (s246.2 + 1))), (vi (W64 (j353 + (W64 (1 + (W64 (Int.tdiv (W64 ((W64 (x224.Clock.Drift * j353)) + 999)) 1000))))))), (vi 3), (vi s246.2)] : List Value).toArray 103 (0, 0)) := RowR.lit ⟨rfl, rfl⟩ (by simp)
         obtain ⟨r390, hap391, h392⟩ := bind_some h364
         refine RWP.append (dst := (some 148)) (ty := 57) (g := none) (by kernel_rfl) rfl (x := (.tmp 139)) (y := (.tmp 147)) (t := 57) (t2 := 57) (by_ := 56) (z := (.agg #[(vi 0), (vi 0), (vi 0), (vi 0), (vi 0), (vi 0), (vi 0)])) (a2 := (some ⟨b385, 0, none⟩)) (c2 := 1) (m := [({ From := ({ Log := s201.2, Line := s246.2 } : Ref), To := ({ Log := s201.2, Line := (W64 (s246.2 + 1)) } : Ref), Most := (W64 (j353 + (W64 (1 + (W64 (Int.tdiv (W64 ((W64 (x224.Clock.Drift * j353)) + 999)) 1000)))))), Kind := 3, ID := s246.2 } : Bound)]) (T := tBound) (E := 103) (a := a290) (cap := n291) (l := r287) rfl rfl (by kernel_rfl) (by decide) (by kernel_rfl) (by kernel_rfl) rfl oBound hs387 (k := 4) rfl (hr295.mono (le300.trans le352)) (RowR.rd hs387 (k := 0) rfl hr389) (r := r390) hap391 (fun a393 n394 e395 w396 (hs397 : HS w0 F0 w396 F15 [(some b385, .cells ([(vi s201.2), (vi s246.2), (vi s201.2), (vi (W64 (s246.2 + 1))), (vi (W64 (j353 + (W64 (1 + (W64 (Int.tdiv (W64 ((W64 (x224.Clock.Drift * j353)) + 999)) 1000))))))), (vi 3), (vi s246.2)] : List Value).toArray 103 (0, 0)), (sb b277 #[(vi s201.2), (vi (W64 (s246.2 + 1)))] 27), (sb b272 #[(vi s201.2), (vi s246.2)] 27), (sb b238 (kTrack x224 ae236_2 ne236_2 ae236_3 ne236_3) 54), e395, (sb b1 (kSystem x0 (some ⟨b228, o229, none⟩) n0_0 a0_1 n0_1) 25)]) hr398 => ?_)
         refine V 3 57 (ma 148 (.slice a393 r390.length n394)) ?_
         refine Nt ?_
         refine Rg [0, 1, 2, 3, 4, 5, 6, 7, 8, 9, 10] ?_
         refine V 149 57 (mv 3 (.slice a393 r390.length n394)) ?_
         refine V 150 27 (ld 27 12 b277 0 true 2 (.agg #[(vi s201.2), (vi (W64 (s246.2 + 1)))]) (hs397.ownAt (k := 1) rfl) e361) ?_
         refine V 151 27 (ld 27 11 b272 0 true 2 (.agg #[(vi s201.2), (vi s246.2)]) (hs397.ownAt (k := 2) rfl) e360) ?_
         refine V 152 3 (mv 14 (vi (W64 (1 + (W64 (Int.tdiv (W64 ((W64 (x224.Clock.Drift * j353)) + 999)) 1000)))))) ?_
         refine V 153 3 (mv 13 (vi j353) e362) ?_
         refine V 154 3 (run_sub (t := 3) (t' := 3) (x := (.tmp 152)) (y := (.tmp 153)) (k := .i64) (a := (W64 (1 + (W64 (Int.tdiv (W64 ((W64 (x224.Clock.Drift * j353)) + 999)) 1000))))) (b := j353) rfl rfl) ?_
         refine V 155 3 (mv 10 (vi s246.2) e359) ?_
         refine V 156 103 (run_build2 (t := 103) (parts := #[(0, (.tmp 150)), (1, (.tmp 151)), (2, (.tmp 154)), (3, (.const (vi 3))), (4, (.tmp 155))]) (vs := [(0, (.agg #[(vi s201.2), (vi (W64 (s246.2 + 1)))])), (1, (.agg #[(vi s201.2), (vi s246.2)])), (2, (vi (W64 ((W64 (1 + (W64 (Int.tdiv (W64 ((W64 (x224.Clock.Drift * j353)) + 999)) 1000)))) - j353)))), (3, (vi 3)), (4, (vi s246.2))]) (rfl) (cs := [(vi s201.2), (vi (W64 (s246.2 + 1))), (vi s201.2), (vi s246.2), (vi (W64 ((W64 (1 + (W64 (Int.tdiv (W64 ((W64 (x224.Clock.Drift * j353)) + 999)) 1000)))) - j353))), (vi 3), (vi s246.2)]) (by kernel_rfl)) ?_
         refine RWP.buildSlice (dst := (some 157)) (ty := 57) (g := none) (by kernel_rfl) rfl (t := 57) (len := 1) (parts := #[(0, (.tmp 156))]) (vs := [(0, (.agg #[(vi s201.2), (vi (W64 (s246.2 + 1))), (vi s201.2), (vi s246.2), (vi (W64 ((W64 (1 + (W64 (Int.tdiv (W64 ((W64 (x224.Clock.Drift * j353)) + 999)) 1000)))) - j353))), (vi 3), (vi s246.2)]))]) (rfl) (E := 103) (cs := [(vi s201.2), (vi (W64 (s246.2 + 1))), (vi s201.2), (vi s246.2), (vi (W64 ((W64 (1 + (W64 (Int.tdiv (W64 ((W64 (x224.Clock.Drift * j353)) + 999)) 1000)))) - j353))), (vi 3), (vi s246.2)]) (by kernel_rfl) hs397 (fun b399 w400 (hs401 : HS w0 F0 w400 F15 [(some b399, .cells ([(vi s201.2), (vi (W64 (s246.2 + 1))), (vi s201.2), (vi s246.2), (vi (W64 ((W64 (1 + (W64 (Int.tdiv (W64 ((W64 (x224.Clock.Drift * j353)) + 999)) 1000)))) - j353))), (vi 3), (vi s246.2)] : List Value).toArray 103 (0, 0)), (some b385, .cells ([(vi s201.2), (vi s246.2), (vi s201.2), (vi (W64 (s246.2 + 1))), (vi (W64 (j353 + (W64 (1 + (W64 (Int.tdiv (W64 ((W64 (x224.Clock.Drift * j353)) + 999)) 1000))))))), (vi 3), (vi s246.2)] : List Value).toArray 103 (0, 0)), (sb b277 #[(vi s201.2), (vi (W64 (s246.2 + 1)))] 27), (sb b272 #[(vi s201.2), (vi s246.2)] 27), (sb b238 (kTrack x224 ae236_2 ne236_2 ae236_3 ne236_3) 54), e395, (sb b1 (kSystem x0 (some ⟨b228, o229, none⟩) n0_0 a0_1 n0_1) 25)]) => ?_)
         have hr403 : RowR tBound 103 F15 (some ⟨b399, 0, none⟩) 1 [({ From := ({ Log := s201.2, Line := (W64 (s246.2 + 1)) } : Ref), To := ({ Log := s201.2, Line := s246.2 } : Ref), Most := (W64 ((W64 (1 + (W64 (Int.tdiv (W64 ((W64 (x224.Clock.Drift * j353)) + 999)) 1000)))) - j353)), Kind := 3, ID := s246.2 } : Bound)] (some b399, .cells ([(vi s201.2), (vi (W64 (s246.2 + 1))), (vi s201.2), (vi s246.2), (vi (W64 ((W64 (1 + (W64 (Int.tdiv (W64 ((W64 (x224.Clock.Drift * j353)) + 999)) 1000)))) - j353))), (vi 3), (vi s246.2)] : List Value).toArray 103 (0, 0)) := RowR.lit ⟨rfl, rfl⟩ (by simp)
         obtain ⟨r404, hap405, h406⟩ := bind_some h392
         refine RWP.append (dst := (some 158)) (ty := 57) (g := none) (by kernel_rfl) rfl (x := (.tmp 149)) (y := (.tmp 157)) (t := 57) (t2 := 57) (by_ := 56) (z := (.agg #[(vi 0), (vi 0), (vi 0), (vi 0), (vi 0), (vi 0), (vi 0)])) (a2 := (some ⟨b399, 0, none⟩)) (c2 := 1) (m := [({ From := ({ Log := s201.2, Line := (W64 (s246.2 + 1)) } : Ref), To := ({ Log := s201.2, Line := s246.2 } : Ref), Most := (W64 ((W64 (1 + (W64 (Int.tdiv (W64 ((W64 (x224.Clock.Drift * j353)) + 999)) 1000)))) - j353)), Kind := 3, ID := s246.2 } : Bound)]) (T := tBound) (E := 103) (a := a393) (cap := n394) (l := r390) rfl rfl (by kernel_rfl) (by decide) (by kernel_rfl) (by kernel_rfl) rfl oBound hs401 (k := 5) rfl hr398 (RowR.rd hs401 (k := 0) rfl hr403) (r := r404) hap405 (fun a407 n408 e409 w410 (hs411 : HS w0 F0 w410 F15 [(some b399, .cells ([(vi s201.2), (vi (W64 (s246.2 + 1))), (vi s201.2), (vi s246.2), (vi (W64 ((W64 (1 + (W64 (Int.tdiv (W64 ((W64 (x224.Clock.Drift * j353)) + 999)) 1000)))) - j353))), (vi 3), (vi s246.2)] : List Value).toArray 103 (0, 0)), (some b385, .cells ([(vi s201.2), (vi s246.2), (vi s201.2), (vi (W64 (s246.2 + 1))), (vi (W64 (j353 + (W64 (1 + (W64 (Int.tdiv (W64 ((W64 (x224.Clock.Drift * j353)) + 999)) 1000))))))), (vi 3), (vi s246.2)] : List Value).toArray 103 (0, 0)), (sb b277 #[(vi s201.2), (vi (W64 (s246.2 + 1)))] 27), (sb b272 #[(vi s201.2), (vi s246.2)] 27), (sb b238 (kTrack x224 ae236_2 ne236_2 ae236_3 ne236_3) 54), e409, (sb b1 (kSystem x0 (some ⟨b228, o229, none⟩) n0_0 a0_1 n0_1) 25)]) hr412 => ?_)
         refine V 3 57 (ma 158 (.slice a407 r404.length n408)) ?_
         refine RWP.nil ?_
         refine blockQ_nrm ?_
         refine thenQ_nrm ?_
         refine Rg [0, 1, 2] ?_
         refine V 89 3 (mv 10 (vi s246.2) e359) ?_
         refine V 90 3 (run_add (t := 3) (t' := 3) (x := (.tmp 89)) (y := (.const (vi 1))) (k := .i64) (a := s246.2) (b := 1) rfl rfl) ?_
         refine V 10 3 (ma 90 (vi (W64 (s246.2 + 1)))) ?_
         refine RWP.nil ?_
         have hs413 : HS w0 F0 w410 F15 [(some b385, .cells ([(vi s201.2), (vi s246.2), (vi s201.2), (vi (W64 (s246.2 + 1))), (vi (W64 (j353 + (W64 (1 + (W64 (Int.tdiv (W64 ((W64 (x224.Clock.Drift * j353)) + 999)) 1000))))))), (vi 3), (vi s246.2)] : List Value).toArray 103 (0, 0)), (sb b277 #[(vi s201.2), (vi (W64 (s246.2 + 1)))] 27), (sb b272 #[(vi s201.2), (vi s246.2)] 27), (sb b238 (kTrack x224 ae236_2 ne236_2 ae236_3 ne236_3) 54), e409, (sb b1 (kSystem x0 (some ⟨b228, o229, none⟩) n0_0 a0_1 n0_1) 25)] := hs411.drop 0
         have hs414 : HS w0 F0 w410 F15 [(sb b277 #[(vi s201.2), (vi (W64 (s246.2 + 1)))] 27), (sb b272 #[(vi s201.2), (vi s246.2)] 27), (sb b238 (kTrack x224 ae236_2 ne236_2 ae236_3 ne236_3) 54), e409, (sb b1 (kSystem x0 (some ⟨b228, o229, none⟩) n0_0 a0_1 n0_1) 25)] := hs413.drop 0
         have hs415 : HS w0 F0 w410 F15 [(sb b272 #[(vi s201.2), (vi s246.2)] 27), (sb b238 (kTrack x224 ae236_2 ne236_2 ae236_3 ne236_3) 54), e409, (sb b1 (kSystem x0 (some ⟨b228, o229, none⟩) n0_0 a0_1 n0_1) 25)] := hs414.drop 0
         have hs416 : HS w0 F0 w410 F15 [(sb b238 (kTrack x224 ae236_2 ne236_2 ae236_3 ne236_3) 54), e409, (sb b1 (kSystem x0 (some ⟨b228, o229, none⟩) n0_0 a0_1 n0_1) 25)] := hs415.drop 0
         have hn417 := iter_next h406 hnx269
         exact ⟨m266, Nat.lt_succ_self _, (r404, (W64 (s246.2 + 1))), F15, a407, n408, e409, hn417, hs416, ((le249.trans le300).trans le352), e354, e355, rfl, e357, e358, rfl, hr412⟩
     ·have h418 := cond_f hb268 hb270
      refine CWP.exit (by kernel_rfl) ?_
      refine thenQ_ex ?_
      refine thenQ_ex ?_
      refine blockQ_hit rfl ?_
      have hs419 : HS w0 F0 w247 F11 [es246_0, (sb b1 (kSystem x0 (some ⟨b228, o229, none⟩) n0_0 a0_1 n0_1) 25)] := hs248.drop 0
      have ho420 := iter_done h418 hnx269
      exact .inl ⟨rfl, (s246.1, s246.2), F11, as246_0, ns246_0, es246_0, ho420, hs419, le249, e250, e251, e252, e253, hrs246_0⟩
    ·rintro f w257 ⟨s256, F12, as256_0, ns256_0, es256_0, rfl, hs258, le259, e260, e261, e262, e263, hrs256_0⟩
     have h421 := k_done h245
     refine blockQ_nrm ?_
     refine thenQ_nrm ?_
     refine Rg [0, 1, 2] ?_
     refine V 76 3 (mv 8 (vi s201.2) e263) ?_
     refine V 77 3 (run_add (t := 3) (t' := 3) (x := (.tmp 76)) (y := (.const (vi 1))) (k := .i64) (a := s201.2) (b := 1) rfl rfl) ?_
     refine V 8 3 (ma 77 (vi (W64 (s201.2 + 1)))) ?_
     refine RWP.nil ?_
     have hn422 := iter_next h421 hnx221
     exact ⟨m218, Nat.lt_succ_self _, (s256.1, (W64 (s201.2 + 1))), F12, as256_0, ns256_0, es256_0, hn422, hs258, (le204.trans le259), e260, e261, e262, rfl, hrs256_0⟩
   ·have h423 := cond_f hb220 hb222
    refine CWP.exit (by kernel_rfl) ?_
    refine thenQ_ex ?_
    refine thenQ_ex ?_
    refine blockQ_hit rfl ?_
    have ho424 := iter_done h423 hnx221
    exact .inl ⟨rfl, (s201.1, s201.2), F9, as201_0, ns201_0, es201_0, ho424, hs203, le204, e205, e206, e207, hrs201_0⟩
  ·rintro f w210 ⟨s209, F10, as209_0, ns209_0, es209_0, rfl, hs211, le212, e213, e214, e215, hrs209_0⟩
   have h425 := k_done h200
   refine thenQ_nrm ?_
   refine Sq ?_
   refine Sq (Rg [0] ?_)
   refine V 15 3 (mc (vi 0) (vi 0)) ?_
   refine Nt ?_
   obtain ⟨o426, ho427, h428⟩ := bind_some h425
   refine CWP.cut (fun f w => ∃ (s437 : (List Bound × Int)) (F17 : Mem) (as437_0 : Option Addr) (ns437_0 : Nat) (es437_0 : Option Nat × Obj), o426 = .done s437 ∧ HS w0 F0 w F17 [es437_0] ∧ Mem.le F10 F17 ∧ f.d = [] ∧ f 3 = (.slice as437_0 s437.1.length ns437_0) ∧ RowR tBound 103 F17 as437_0 ns437_0 s437.1 es437_0) ?_ ?_
   ·refine Bk ?_
    refine CWP.loop (by kernel_rfl) (fun m f w => ∃ (s429 : (List Bound × Int)) (F16 : Mem) (as429_0 : Option Addr) (ns429_0 : Nat) (es429_0 : Option Nat × Obj), iter (ref03_bounds_L4 N x0 s17 s209) m s429 = some o426 ∧ HS w0 F0 w F16 [es429_0, (sb b1 (kSystem x0 a0_0 n0_0 a0_1 n0_1) 25)] ∧ Mem.le F10 F16 ∧ f.d = [] ∧ f 1 = (.pointer (some ⟨b1, 0, none⟩)) ∧ f 3 = (.slice as429_0 s429.1.length ns429_0) ∧ f 15 = (vi s429.2) ∧ RowR tBound 103 F16 as429_0 ns429_0 s429.1 es429_0) N ⟨(s209.1, 0), F10, as209_0, ns209_0, es209_0, ho427, hs211, (Mem.le.refl _), e213, e214, e215, rfl, hrs209_0⟩ ?_
    rintro m443 f w430 ⟨s429, F16, as429_0, ns429_0, es429_0, hit444, hs431, le432, e433, e434, e435, e436, hrs429_0⟩
    obtain ⟨m445, fl446, rfl, hb447, hnx448⟩ := iter_step hit444
    refine Sq ?_
    refine Sq (Rg [0, 1, 2, 3, 4] ?_)
    refine V 159 3 (mv 15 (vi s429.2) e436) ?_
    refine V 160 0 (fa 25 1 1 1 1 b1 0 1 e434) ?_
    refine V 161 23 (ld 23 160 b1 1 false 1 (.slice a0_1 x0.Ties.length n0_1) (hs431.ownAt (k := 1) rfl)) ?_
    refine V 162 3 (ln 161 23 a0_1 x0.Ties.length n0_1 46 4 32) ?_
    refine V 163 4 (run_lss (t := 3) (t' := 3) (x := (.tmp 159)) (y := (.tmp 162)) (k := .i64) (a := s429.2) (b := (x0.Ties.length : Int)) rfl rfl) ?_
    refine Nt ?_
    refine CWP.cond (t := (decide (s429.2 < (x0.Ties.length : Int)))) (by kernel_rfl) rfl (fun hb449 => ?_) (fun hb449 => ?_)
    ·have h450 := cond_t hb447 hb449
     refine Sc ?_
     refine thenQ_nrm ?_
     refine Sq ?_
     refine Bk ?_
     refine Sq (Rg [0, 1, 2, 3, 4, 5, 6] ?_)
     refine V 166 0 (fa 25 1 1 1 1 b1 0 1 e434) ?_
     refine V 167 23 (ld 23 166 b1 1 false 1 (.slice a0_1 x0.Ties.length n0_1) (hs431.ownAt (k := 1) rfl)) ?_
     refine V 168 3 (mv 15 (vi s429.2) e436) ?_
     obtain ⟨x451, hx452, h454⟩ := bind_some h450
     obtain ⟨hi453, hx452'⟩ := idx_spec hx452
     obtain ⟨b455, o456, C457, E458, fz459, rfl, hF461, hE462⟩ := SlA.open (SlA.mono hs0_1 ((le20.trans le212).trans le432)) hx452'
     have hc464 := hE462 _ _ hx452'
     refine V 169 0 (ix 23 167 168 b455 o456 46 4 32 hi453) ?_
     refine V 170 46 (lx 46 169 0 4 true 4 (.agg (kTie x451)) (hs431.pers _ _ hF461) hc464) ?_
     refine Al 16 0 46 #[(vi 0), (vi 0), (vi 0), (vi 0)] hs431 (fun b465 w466 (hs467 : HS w0 F0 w466 F16 [(sb b465 #[(vi 0), (vi 0), (vi 0), (vi 0)] 46), es429_0, (sb b1 (kSystem x0 a0_0 n0_0 (some ⟨b455, o456, none⟩) n0_1) 25)]) => ?_)
     refine RWP.store (ty := 0) (g := none) (by kernel_rfl) rfl (x := (.tmp 16)) (y := (.tmp 170)) (t := 46) (gg := true) (s := 4) (v := (.agg (kTie x451))) (b := b465) (o := 0) (C := #[(vi 0), (vi 0), (vi 0), (vi 0)]) rfl rfl (by kernel_rfl) hs467 (k := 0) rfl rfl rfl rfl (C' := (kTie x451)) rfl (fun w468 (hs469 : HS w0 F0 w468 F16 [(sb b465 (kTie x451) 46), es429_0, (sb b1 (kSystem x0 a0_0 n0_0 (some ⟨b455, o456, none⟩) n0_1) 25)]) => ?_)
     refine Nss (Rg [0, 1, 2, 3, 4, 5, 6, 7, 8, 9, 10, 11] ?_)
     refine V 171 57 (mv 3 (.slice as429_0 s429.1.length ns429_0) e435) ?_
     refine V 172 0 (fa 46 16 0 0 2 b465 0 0) ?_
     refine V 173 27 (ld 27 172 b465 0 true 2 (.agg (kRef x451.A)) (hs469.ownAt (k := 0) rfl)) ?_
     refine V 174 0 (fa 46 16 1 2 2 b465 0 2) ?_
     refine V 175 27 (ld 27 174 b465 2 true 2 (.agg (kRef x451.B)) (hs469.ownAt (k := 0) rfl)) ?_
     refine V 176 0 (fa 25 1 2 2 1 b1 0 2 e434) ?_
     refine V 177 3 (ld 3 176 b1 2 false 1 (vi x0.Window) (hs469.ownAt (k := 2) rfl)) ?_
     refine V 178 3 (mv 15 (vi s429.2) e436) ?_
     refine V 179 103 (run_build2 (t := 103) (parts := #[(0, (.tmp 173)), (1, (.tmp 175)), (2, (.tmp 177)), (3, (.const (vi 4))), (4, (.tmp 178))]) (vs := [(0, (.agg (kRef x451.A))), (1, (.agg (kRef x451.B))), (2, (vi x0.Window)), (3, (vi 4)), (4, (vi s429.2))]) (rfl) (cs := [(vi x451.A.Log), (vi x451.A.Line), (vi x451.B.Log), (vi x451.B.Line), (vi x0.Window), (vi 4), (vi s429.2)]) (by kernel_rfl)) ?_
     refine RWP.buildSlice (dst := (some 180)) (ty := 57) (g := none) (by kernel_rfl) rfl (t := 57) (len := 1) (parts := #[(0, (.tmp 179))]) (vs := [(0, (.agg #[(vi x451.A.Log), (vi x451.A.Line), (vi x451.B.Log), (vi x451.B.Line), (vi x0.Window), (vi 4), (vi s429.2)]))]) (rfl) (E := 103) (cs := [(vi x451.A.Log), (vi x451.A.Line), (vi x451.B.Log), (vi x451.B.Line), (vi x0.Window), (vi 4), (vi s429.2)]) (by kernel_rfl) hs469 (fun b470 w471 (hs472 : HS w0 F0 w471 F16 [(some b470, .cells ([(vi x451.A.Log), (vi x451.A.Line), (vi x451.B.Log), (vi x451.B.Line), (vi x0.Window), (vi 4), (vi s429.2)] : List Value).toArray 103 (0, 0)), (sb b465 (kTie x451) 46), es429_0, (sb b1 (kSystem x0 a0_0 n0_0 (some ⟨b455, o456, none⟩) n0_1) 25)]) => ?_)
     have hr474 : RowR tBound 103 F16 (some ⟨b470, 0, none⟩) 1 [({ From := x451.A, To := x451.B, Most := x0.Window, Kind := 4, ID := s429.2 } : Bound)] (some b470, .cells ([(vi x451.A.Log), (vi x451.A.Line), (vi x451.B.Log), (vi x451.B.Line), (vi x0.Window), (vi 4), (vi s429.2)] : List Value).toArray 103 (0, 0)) := RowR.lit ⟨rfl, rfl⟩ (by simp)
     obtain ⟨r475, hap476, h477⟩ := bind_some h454
     refine RWP.append (dst := (some 181)) (ty := 57) (g := none) (by kernel_rfl) rfl (x := (.tmp 171)) (y := (.tmp 180)) (t := 57) (t2 := 57) (by_ := 56) (z := (.agg #[(vi 0), (vi 0), (vi 0), (vi 0), (vi 0), (vi 0), (vi 0)])) (a2 := (some ⟨b470, 0, none⟩)) (c2 := 1) (m := [({ From := x451.A, To := x451.B, Most := x0.Window, Kind := 4, ID := s429.2 } : Bound)]) (T := tBound) (E := 103) (a := as429_0) (cap := ns429_0) (l := s429.1) rfl rfl (by kernel_rfl) (by decide) (by kernel_rfl) (by kernel_rfl) rfl oBound hs472 (k := 2) rfl hrs429_0 (RowR.rd hs472 (k := 0) rfl hr474) (r := r475) hap476 (fun a478 n479 e480 w481 (hs482 : HS w0 F0 w481 F16 [(some b470, .cells ([(vi x451.A.Log), (vi x451.A.Line), (vi x451.B.Log), (vi x451.B.Line), (vi x0.Window), (vi 4), (vi s429.2)] : List Value).toArray 103 (0, 0)), (sb b465 (kTie x451) 46), e480, (sb b1 (kSystem x0 a0_0 n0_0 (some ⟨b455, o456, none⟩) n0_1) 25)]) hr483 => ?_)
     refine V 3 57 (ma 181 (.slice a478 r475.length n479)) ?_
     refine Nt ?_
     refine Rg [0, 1, 2, 3, 4, 5, 6, 7, 8, 9, 10, 11] ?_
     refine V 182 57 (mv 3 (.slice a478 r475.length n479)) ?_
     refine V 183 0 (fa 46 16 1 2 2 b465 0 2) ?_
     refine V 184 27 (ld 27 183 b465 2 true 2 (.agg (kRef x451.B)) (hs482.ownAt (k := 1) rfl)) ?_
     refine V 185 0 (fa 46 16 0 0 2 b465 0 0) ?_
     refine V 186 27 (ld 27 185 b465 0 true 2 (.agg (kRef x451.A)) (hs482.ownAt (k := 1) rfl)) ?_
     refine V 187 0 (fa 25 1 2 2 1 b1 0 2 e434) ?_
     refine V 188 3 (ld 3 187 b1 2 false 1 (vi x0.Window) (hs482.ownAt (k := 3) rfl)) ?_
     refine V 189 3 (mv 15 (vi s429.2) e436) ?_
     refine V 190 103 (run_build2 (t := 103) (parts := #[(0, (.tmp 184)), (1, (.tmp 186)), (2, (.tmp 188)), (3, (.const (vi 4))), (4, (.tmp 189))]) (vs := [(0, (.agg (kRef x451.B))), (1, (.agg (kRef x451.A))), (2, (vi x0.Window)), (3, (vi 4)), (4, (vi s429.2))]) (rfl) (cs := [(vi x451.B.Log), (vi x451.B.Line), (vi x451.A.Log), (vi x451.A.Line), (vi x0.Window), (vi 4), (vi s429.2)]) (by kernel_rfl)) ?_
     refine RWP.buildSlice (dst := (some 191)) (ty := 57) (g := none) (by kernel_rfl) rfl (t := 57) (len := 1) (parts := #[(0, (.tmp 190))]) (vs := [(0, (.agg #[(vi x451.B.Log), (vi x451.B.Line), (vi x451.A.Log), (vi x451.A.Line), (vi x0.Window), (vi 4), (vi s429.2)]))]) (rfl) (E := 103) (cs := [(vi x451.B.Log), (vi x451.B.Line), (vi x451.A.Log), (vi x451.A.Line), (vi x0.Window), (vi 4), (vi s429.2)]) (by kernel_rfl) hs482 (fun b484 w485 (hs486 : HS w0 F0 w485 F16 [(some b484, .cells ([(vi x451.B.Log), (vi x451.B.Line), (vi x451.A.Log), (vi x451.A.Line), (vi x0.Window), (vi 4), (vi s429.2)] : List Value).toArray 103 (0, 0)), (some b470, .cells ([(vi x451.A.Log), (vi x451.A.Line), (vi x451.B.Log), (vi x451.B.Line), (vi x0.Window), (vi 4), (vi s429.2)] : List Value).toArray 103 (0, 0)), (sb b465 (kTie x451) 46), e480, (sb b1 (kSystem x0 a0_0 n0_0 (some ⟨b455, o456, none⟩) n0_1) 25)]) => ?_)
     have hr488 : RowR tBound 103 F16 (some ⟨b484, 0, none⟩) 1 [({ From := x451.B, To := x451.A, Most := x0.Window, Kind := 4, ID := s429.2 } : Bound)] (some b484, .cells ([(vi x451.B.Log), (vi x451.B.Line), (vi x451.A.Log), (vi x451.A.Line), (vi x0.Window), (vi 4), (vi s429.2)] : List Value).toArray 103 (0, 0)) := RowR.lit ⟨rfl, rfl⟩ (by simp)
     obtain ⟨r489, hap490, h491⟩ := bind_some h477
     refine RWP.append (dst := (some 192)) (ty := 57) (g := none) (by kernel_rfl) rfl (x := (.tmp 182)) (y := (.tmp 191)) (t := 57) (t2 := 57) (by_ := 56) (z := (.agg #[(vi 0), (vi 0), (vi 0), (vi 0), (vi 0), (vi 0), (vi 0)])) (a2 := (some ⟨b484, 0, none⟩)) (c2 := 1) (m := [({ From := x451.B, To := x451.A, Most := x0.Window, Kind := 4, ID := s429.2 } : Bound)]) (T := tBound) (E := 103) (a := a478) (cap := n479) (l := r475) rfl rfl (by kernel_rfl) (by decide) (by kernel_rfl) (by kernel_rfl) rfl oBound hs486 (k := 3) rfl hr483 (RowR.rd hs486 (k := 0) rfl hr488) (r := r489) hap490 (fun a492 n493 e494 w495 (hs496 : HS w0 F0 w495 F16 [(some b484, .cells ([(vi x451.B.Log), (vi x451.B.Line), (vi x451.A.Log), (vi x451.A.Line), (vi x0.Window), (vi 4), (vi s429.2)] : List Value).toArray 103 (0, 0)), (some b470, .cells ([(vi x451.A.Log), (vi x451.A.Line), (vi x451.B.Log), (vi x451.B.Line), (vi x0.Window), (vi 4), (vi s429.2)] : List Value).toArray 103 (0, 0)), (sb b465 (kTie x451) 46), e494, (sb b1 (kSystem x0 a0_0 n0_0 (some ⟨b455, o456, none⟩) n0_1) 25)]) hr497 => ?_)
     refine V 3 57 (ma 192 (.slice a492 r489.length n493)) ?_
     refine RWP.nil ?_
     refine blockQ_nrm ?_
     refine thenQ_nrm ?_
     refine Rg [0, 1, 2] ?_
     refine V 164 3 (mv 15 (vi s429.2) e436) ?_
     refine V 165 3 (run_add (t := 3) (t' := 3) (x := (.tmp 164)) (y := (.const (vi 1))) (k := .i64) (a := s429.2) (b := 1) rfl rfl) ?_
     refine V 15 3 (ma 165 (vi (W64 (s429.2 + 1)))) ?_
     refine RWP.nil ?_
     have hs498 : HS w0 F0 w495 F16 [(some b470, .cells ([(vi x451.A.Log), (vi x451.A.Line), (vi x451.B.Log), (vi x451.B.Line), (vi x0.Window), (vi 4), (vi s429.2)] : List Value).toArray 103 (0, 0)), (sb b465 (kTie x451) 46), e494, (sb b1 (kSystem x0 a0_0 n0_0 (some ⟨b455, o456, none⟩) n0_1) 25)] := hs496.drop 0
     have hs499 : HS w0 F0 w495 F16 [(sb b465 (kTie x451) 46), e494, (sb b1 (kSystem x0 a0_0 n0_0 (some ⟨b455, o456, none⟩) n0_1) 25)] := hs498.drop 0
     have hs500 : HS w0 F0 w495 F16 [e494, (sb b1 (kSystem x0 a0_0 n0_0 (some ⟨b455, o456, none⟩) n0_1) 25)] := hs499.drop 0
     have hn501 := iter_next h491 hnx448
     exact ⟨m445, Nat.lt_succ_self _, (r489, (W64 (s429.2 + 1))), F16, a492, n493, e494, hn501, hs500, le432, e433, e434, rfl, rfl, hr497⟩
    ·have h502 := cond_f hb447 hb449
     refine CWP.exit (by kernel_rfl) ?_
     refine thenQ_ex ?_
     refine thenQ_ex ?_
     refine blockQ_hit rfl ?_
     have hs503 : HS w0 F0 w430 F16 [es429_0] := hs431.drop 1
     have ho504 := iter_done h502 hnx448
     exact .inl ⟨rfl, (s429.1, s429.2), F16, as429_0, ns429_0, es429_0, ho504, hs503, le432, e433, e435, hrs429_0⟩
   ·rintro f w438 ⟨s437, F17, as437_0, ns437_0, es437_0, rfl, hs439, le440, e441, e442, hrs437_0⟩
    have h505 := k_done h428
    refine thenQ_nrm ?_
    refine Sq (Rg [0, 1] ?_)
    refine V 193 57 (mv 3 (.slice as437_0 s437.1.length ns437_0) e442) ?_
    refine V 2 57 (ma 193 (.slice as437_0 s437.1.length ns437_0)) ?_
    refine Nt ?_
    refine CWP.ret (by kernel_rfl) ?_
    have hb509 := RowR.bound hrs437_0
    obtain ⟨F18, hs506, le507, hs508⟩ : ∃ Fq, HS w0 F0 w438 Fq [] ∧ Mem.le F17 Fq ∧ SlA tBound Fq as437_0 s437.1 := HS.freezeRow hs439 (k := 0) rfl hrs437_0
    have hfin := some_inj h505
    subst hfin
    exact ⟨e441, (.slice as437_0 s437.1.length ns437_0), res_of (l := [.tmp 2]) (by kernel_rfl) (vs := [(.slice as437_0 s437.1.length ns437_0)]) ⟨rfl, trivial⟩, (.slice as437_0 s437.1.length ns437_0), F18, rfl, hs506.clear, ⟨as437_0, ns437_0, rfl, hb509, hs508⟩⟩
end Go.Proofs.Ythbcnabeabcmlaa
namespace Go.Proofs.Ythbcnabeabcmlaa
open Go.Proofs
end Go.Proofs.Ythbcnabeabcmlaa
namespace Go.Proofs.Ythbcnabeabcmlaa
theorem jumped_r {N : Nat} {c : Clock} (h : Fit N c.Jumps.length) (a b : Int) : ref03_jumped N c a b = some (jmp c.Jumps a b) := by
 unfold ref03_jumped
 have h1 := h.1
 rw [iter_check' (n := c.Jumps.length) (atB c.Jumps fun x => !(decide (a < x) && decide (x ≤ b))) true (fun i hi => by
  unfold ref03_jumped_L0
  rw [lt_t hi, cond_true, idx_nat hi, Option.bind_some, atB_at hi, W64_succ (by omega)]
  cases decide (a < c.Jumps[i]) with
  | false => rfl
  | true => simp only [cond_true, Option.bind_some, Bool.true_and]; cases decide (c.Jumps[i] ≤ b) <;> rfl) (by unfold ref03_jumped_L0; rw [lt_f]; rfl) h.2, ← all_allB]
 unfold jmp
 have : (c.Jumps.all fun x => !(decide (a < x) && decide (x ≤ b))) = !(c.Jumps.any fun x => decide (a < x) && decide (x ≤ b)) := by
  generalize c.Jumps = J
  induction J with
  | nil => rfl
  | cons x J ih => rw [List.all_cons, List.any_cons, ih, Bool.not_or]
 rw [this]
 cases (c.Jumps.any fun x => decide (a < x) && decide (x ≤ b)) <;> rfl
section
variable {N : Nat} {s : System}
theorem bounds_r (hf : FitS N s) (h : vCheck s = 0) : ref03_bounds N s = some (bnds s) := by
 obtain ⟨k1, k2, k3, k4, k5, k6⟩ := check_ok h
 unfold ref03_bounds
 have hn := hf.n.2
 rw [iter_cat' (body := ref03_bounds_L0 N s) (n := s.Tracks.length) 800 (slips s) (fun i hi => slips_len h hi) (fun i st hi hst => by
  unfold ref03_bounds_L0
  have ht := hf.t _ (List.getElem_mem hi)
  have h400 := (track_facts (k3 _ (List.getElem_mem hi))).2.2
  simp only [lt_t hi, cond_true, idx_nat hi, Option.bind_some]
  rw [iter_cat' (body := ref03_bounds_L1 N s (st, (i : Int)) s.Tracks[i]) (n := s.Tracks[i].Times.length) 2 (slipB (i : Int) s.Tracks[i]) (fun _ _ => Nat.le_refl _) (fun j st2 hj hst2 => by
   unfold ref03_bounds_L1
   simp only [lt_t hj, cond_true, idx_nat hj, Option.bind_some, ref03_Beginning]
   simp only [List.length_nil] at hst
   rw [apnd_ok (by simp; omega)]
   simp only [Option.bind_some]
   rw [apnd_ok (by simp; omega)]
   simp only [Option.bind_some]
   rw [W64_succ (by omega)]
   simp [slipB, hj, beg]) (fun st2 => by unfold ref03_bounds_L1; simp only [lt_f]; rfl) ht.t.2]
  simp only [Option.bind_some, Flow.k]
  rw [W64_succ (by omega)]
  simp [slips, hi]) (fun st => by unfold ref03_bounds_L0; simp only [lt_f]; rfl) hn]
 simp only [Option.bind_some, Flow.k, List.nil_append]
 have hl1 := cat_le (n := s.Tracks.length) (K := 800) (f := slips s) (fun i hi => slips_len h hi)
 generalize hA : cat s.Tracks.length (slips s) = A at *
 rw [iter_cat' (body := ref03_bounds_L2 N s (A, (s.Tracks.length : Int))) (n := s.Tracks.length) 1200 (ords s) (fun i hi => ords_len h hi) (fun i st hi hst => by
  unfold ref03_bounds_L2
  have ht := hf.t _ (List.getElem_mem hi)
  have hv := k3 _ (List.getElem_mem hi)
  have h400 := (track_facts hv).2.2
  simp only [lt_t hi, cond_true, idx_nat hi, Option.bind_some]
  have ht2 := ht.t.2
  rw [iter_cat' (body := ref03_bounds_L3 N s (A, (s.Tracks.length : Int)) (st, (i : Int)) s.Tracks[i]) (n := s.Tracks[i].Times.length - 1) 3 (ordB (i : Int) s.Tracks[i]) (fun j _ => ordB_len _ _ j) (fun j st2 hj hst2 => by
   unfold ref03_bounds_L3
   have hj1 : j + 1 < s.Tracks[i].Times.length := by omega
   have hj0 : j < s.Tracks[i].Times.length := by omega
   simp only
   rw [W64_succ (by omega)]
   simp only [lt_t hj1, cond_true, idx_nat hj1, idx_nat hj0, Option.bind_some, jumped_r ht.j]
   rw [apnd_ok (by simp; omega)]
   simp only [Option.bind_some]
   cases hjm : jmp s.Tracks[i].Clock.Jumps s.Tracks[i].Times[j] s.Tracks[i].Times[j + 1] with
   | true => simp [ordB, hj0, hj1, hjm]
   | false =>
    simp only [cond_false]
    rw [apnd_ok (by simp; omega)]
    simp only [Option.bind_some]
    rw [apnd_ok (by simp; omega)]
    simp [ordB, hj0, hj1, hjm, gapB, widB]) (fun st2 => by
     unfold ref03_bounds_L3
     have e : decide (W64 (((s.Tracks[i].Times.length - 1 : Nat) : Int) + 1) < (s.Tracks[i].Times.length : Int)) = false := by
      rw [W64_succ (by omega)]; simp; omega
     simp only [e]; rfl) (by omega)]
  simp only [Option.bind_some, Flow.k]
  rw [W64_succ (by omega)]
  simp [ords, hi]) (fun st => by unfold ref03_bounds_L2; simp only [lt_f]; rfl) hn]
 simp only [Option.bind_some, Flow.k]
 have hl2 := cat_le (n := s.Tracks.length) (K := 1200) (f := ords s) (fun i hi => ords_len h hi)
 have he := hf.e.2
 rw [iter_cat' (body := ref03_bounds_L4 N s (A, (s.Tracks.length : Int)) (A ++ cat s.Tracks.length (ords s), (s.Tracks.length : Int))) (n := s.Ties.length) 2 (tieB s) (fun j _ => tieB_len _ j) (fun j st hj hst => by
  unfold ref03_bounds_L4
  simp only [List.length_append] at hst
  simp only [lt_t hj, cond_true, idx_nat hj, Option.bind_some]
  rw [apnd_ok (by simp; omega)]
  simp only [Option.bind_some]
  rw [apnd_ok (by simp; omega)]
  simp only [Option.bind_some]
  rw [W64_succ (by omega)]
  simp [tieB, hj]) (fun st => by unfold ref03_bounds_L4; simp only [lt_f]; rfl) he]
 simp only [Option.bind_some, Flow.k, bnds, hA, List.append_assoc]
end
end Go.Proofs.Ythbcnabeabcmlaa
namespace Go.Proofs.Ythbcnabeabcmlaa
open Go.Proofs
def ref03_minute (N : Nat) (x0 : (List (List Int))) (x1 : Ref) : Option Int :=
 (bif (decide (x1.Log < 0)) then some 0 else (((idx x0 x1.Log).bind fun x17 => ((idx x17 x1.Line).bind fun x31 => some x31)).bind fun j12 => some j12))
theorem co_ref03_minute : CallOk Try.prog 104 := fun _ _ => by kernel_rfl
set_option maxHeartbeats 4000000 in
set_option maxRecDepth 100000 in
theorem c_ref03_minute (N : Nat) (w0 : World) (F0 : Mem) (hF : ∀ b o, F0 b = some o → w0.heap[b]? = some o) (x0 : (List (List Int))) (a0_0 : Option Addr) (n0_0 : Nat) (hb0_0 : LC x0.length n0_0) (hs0_0 : SlA (tSl tInt) F0 a0_0 x0) (x1 : Ref) (r : Int) (h : ref03_minute N x0 x1 = some r) :
  Calls Try.prog 104 ([(.slice a0_0 x0.length n0_0), (.agg (kRef x1))] : List Value).toArray w0 (FRet w0 F0 fun F' v => v = (vi r)) := by
 have hs0 := HS.start hF
 refine calls_of (n := 17) (c := bodyOf Try.f104) Try.func104 (by kernel_rfl) (by kernel_rfl) (by kernel_rfl) ?_
 refine Sq (Rg [0, 1] ?_)
 refine Bx 3 0 1 27 (kRef x1) hs0 (fun b1 w2 (hs3 : HS w0 F0 w2 F0 [(sb b1 (kRef x1) 27)]) => ?_)
 refine V 4 3 (mc (vi 0) (vi 0)) ?_
 refine Nss ?_
 refine Sq (Rg [0, 1, 2] ?_)
 refine V 5 0 (fa 27 3 0 0 1 b1 0 0) ?_
 refine V 6 3 (ld 3 5 b1 0 false 1 (vi x1.Log) (hs3.ownAt (k := 0) rfl)) ?_
 refine V 7 4 (run_lss (t := 3) (t' := 3) (x := (.tmp 6)) (y := (.const (vi 0))) (k := .i64) (a := x1.Log) (b := 0) rfl rfl) ?_
 refine Nt ?_
 refine CWP.cond (t := (decide (x1.Log < 0))) (by kernel_rfl) rfl (fun hb4 => ?_) (fun hb4 => ?_)
 ·have h5 := cond_t h hb4
  refine Sq (Rg [0] ?_)
  refine V 4 3 (mc (vi 0) (vi 0)) ?_
  refine Nt ?_
  refine CWP.ret (by kernel_rfl) ?_
  refine thenQ_ret ?_
  have hfin := some_inj h5
  subst hfin
  exact ⟨rfl, (vi 0), res_of (l := [.tmp 4]) (by kernel_rfl) (vs := [(vi 0)]) ⟨rfl, trivial⟩, (vi 0), F0, rfl, hs3.clear, rfl⟩
 ·have h6 := cond_f h hb4
  refine Sc ?_
  refine thenQ_nrm ?_
  refine Sq ?_
  obtain ⟨j12, hj15, h16⟩ := bind_some h6
  refine CWP.regionD (by kernel_rfl) (by kernel_rfl) (by kernel_rfl) (by kernel_rfl) (z := 10) (F := F0) (Lc := [(sb b1 (kRef x1) 27)]) (Lz := []) (l := [false, false, false, false, false, false, false, false, false, false]) (fuel := 10) (by kernel_rfl) (by kernel_rfl) hs3 (by simp) (by simp) (fun f w => ∃ (F1 : Mem), HS w0 F0 w F1 [] ∧ Mem.le F0 F1 ∧ f.d = [] ∧ f 4 = (vi j12)) (fun wd7 hw8 => ?_) ?_
  ·refine Dt 0 8 71 _ (fun _ hq => mv 0 (.slice a0_0 x0.length n0_0)) ?_
   refine Dt 1 9 0 (.pointer (some ⟨b1, 0, none⟩)) (fun _ hq => fa 27 3 0 0 1 b1 0 0) ?_
   refine Dt 2 10 3 _ (fun _ hq => ld 3 9 b1 0 false 1 (vi x1.Log) (hq.1.2 0 _ _ rfl)) ?_
   obtain ⟨x17, hx18, h20⟩ := bind_some hj15
   obtain ⟨hi19, hx18'⟩ := idx_spec hx18
   obtain ⟨b21, o22, C23, E24, fz25, rfl, hF27, hE28⟩ := SlA.open hs0_0 hx18'
   obtain ⟨ae29_0, ne29_0, hc30, hbe29_0, hse29_0⟩ := hE28 _ _ hx18'
   refine Dt 3 11 0 (.pointer (some ⟨b21, (o22 + (x1.Log : Int).toNat * 1), none⟩)) (fun _ hq => ix 71 8 10 b21 o22 50 1 24 hi19) ?_
   refine Dt 4 12 50 _ (fun _ hq => lx 50 11 0 1 false 1 (.slice ae29_0 x17.length ne29_0) (hq.1.1 _ _ hF27) hc30) ?_
   refine Dt 5 13 0 (.pointer (some ⟨b1, 1, none⟩)) (fun _ hq => fa 27 3 1 1 1 b1 0 1) ?_
   refine Dt 6 14 3 _ (fun _ hq => ld 3 13 b1 1 false 1 (vi x1.Line) (hq.1.2 0 _ _ rfl)) ?_
   obtain ⟨x31, hx32, h34⟩ := bind_some h20
   obtain ⟨hi33, hx32'⟩ := idx_spec hx32
   obtain ⟨b35, o36, C37, E38, fz39, rfl, hF41, hE42⟩ := SlA.open hse29_0 hx32'
   have hc44 := hE42 _ _ hx32'
   refine Dt 7 15 0 (.pointer (some ⟨b35, (o36 + (x1.Line : Int).toNat * 1), none⟩)) (fun _ hq => ix 50 12 14 b35 o36 3 1 8 hi33) ?_
   refine Dt 8 16 3 _ (fun _ hq => lx 3 15 0 1 false 1 (vi x31) (hq.1.1 _ _ hF41) hc44) ?_
   refine Dt 9 4 3 _ (fun _ hq => ma 16 (vi x31)) ?_
   obtain rfl := some_inj h34
   have hs45 : HS w0 F0 wd7 F0 [] := hw8.drop 0
   exact DWP.done (by kernel_rfl) ⟨F0, hs45, (Mem.le.refl _), rfl, rfl⟩
  ·rintro f w9 ⟨F1, hs10, le11, e13, e14⟩
   refine thenQ_nrm ?_
   refine CWP.ret (by kernel_rfl) ?_
   have hfin := some_inj h16
   subst hfin
   exact ⟨e13, (vi j12), res_of (l := [.tmp 4]) (by kernel_rfl) (vs := [(vi j12)]) ⟨e14, trivial⟩, (vi j12), F1, rfl, hs10.clear, rfl⟩
end Go.Proofs.Ythbcnabeabcmlaa
namespace Go.Proofs.Ythbcnabeabcmlaa
open Go.Proofs
def ref03_Keeps_L1 (N : Nat) (x0 : System) (x1 : (List (List Int))) (r4 : Int) (s21 : Int) (j49 : (Bool)) : Int → Option (Flow (Bool × Int) Int) := fun s91 =>
 ((idx x1 s21).bind fun x114 => (bif (decide (s91 < (x114.length : Int))) then ((idx x1 s21).bind fun x130 => ((idx x130 s91).bind fun x136 => ((ref03_within N x136 (-1000000) 1000000).bind fun r150 => (bif (!r150) then some (.ret (false, 0)) else some (.next (W64 (s91 + 1))))))) else some (.done s91)))
def ref03_Keeps_L0 (N : Nat) (x0 : System) (x1 : (List (List Int))) (r4 : Int) : Int → Option (Flow (Bool × Int) Int) := fun s21 =>
 (bif (decide (s21 < (x1.length : Int))) then (((idx x1 s21).bind fun x57 => ((idx x0.Tracks s21).bind fun x71 => some ((x57.length : Int) != (x71.Times.length : Int)))).bind fun j49 => (bif j49 then some (.ret (false, 0)) else ((iter (ref03_Keeps_L1 N x0 x1 r4 s21 j49) N 0).bind fun o => o.k (fun r => some (.ret r)) (fun s100 => some (.next (W64 (s21 + 1))))))) else some (.done s21))
def ref03_Keeps_L2 (N : Nat) (x0 : System) (x1 : (List (List Int))) (r4 : Int) (s29 : Int) (r169 : (List Bound)) : Int → Option (Flow (Bool × Int) Int) := fun s181 =>
 (bif (decide (s181 < (r169.length : Int))) then (((idx r169 s181).bind fun x215 => ((idx r169 s181).bind fun x229 => ((idx r169 s181).bind fun x235 => ((ref03_minute N x1 x215.To).bind fun r241 => ((ref03_minute N x1 x229.From).bind fun r249 => some (decide (r241 > (W64 (r249 + x235.Most))))))))).bind fun j207 => (bif j207 then some (.ret (false, 0)) else some (.next (W64 (s181 + 1))))) else some (.done s181))
def ref03_Keeps (N : Nat) (x0 : System) (x1 : (List (List Int))) : Option (Bool × Int) :=
 ((ref03_Check N x0).bind fun r4 => (bif (r4 != 0) then some (false, r4) else (bif ((x1.length : Int) != (x0.Tracks.length : Int)) then some (false, 0) else ((iter (ref03_Keeps_L0 N x0 x1 r4) N 0).bind fun o => o.k (fun r => some r) (fun s29 => ((ref03_bounds N x0).bind fun r169 => ((iter (ref03_Keeps_L2 N x0 x1 r4 s29 r169) N 0).bind fun o => o.k (fun r => some r) (fun s189 => some (true, 0)))))))))
theorem co_ref03_Keeps : CallOk Try.prog 59 := fun _ _ => by kernel_rfl
set_option maxHeartbeats 4000000 in
set_option maxRecDepth 100000 in
theorem c_ref03_Keeps (N : Nat) (w0 : World) (F0 : Mem) (hF : ∀ b o, F0 b = some o → w0.heap[b]? = some o) (x0 : System) (a0_0 : Option Addr) (n0_0 : Nat) (hb0_0 : LC x0.Tracks.length n0_0) (hs0_0 : SlA tTrack F0 a0_0 x0.Tracks) (a0_1 : Option Addr) (n0_1 : Nat) (hb0_1 : LC x0.Ties.length n0_1) (hs0_1 : SlA tTie F0 a0_1 x0.Ties) (x1 : (List (List Int))) (a1_0 : Option Addr) (n1_0 : Nat) (hb1_0 : LC x1.length n1_0) (hs1_0 : SlA (tSl tInt) F0 a1_0 x1) (r : (Bool × Int)) (h : ref03_Keeps N x0 x1 = some r) :
  Calls Try.prog 59 ([(.agg (kSystem x0 a0_0 n0_0 a0_1 n0_1)), (.slice a1_0 x1.length n1_0)] : List Value).toArray w0 (FRet w0 F0 fun F' v => v = (.tuple #[(.bool r.1), (vi r.2)])) := by
 have hs0 := HS.start hF
 refine calls_of (n := 88) (c := bodyOf Try.f59) Try.func59 (by kernel_rfl) (by kernel_rfl) (by kernel_rfl) ?_
 refine Sq (Rg [0, 1, 2] ?_)
 refine Bx 2 0 0 25 (kSystem x0 a0_0 n0_0 a0_1 n0_1) hs0 (fun b1 w2 (hs3 : HS w0 F0 w2 F0 [(sb b1 (kSystem x0 a0_0 n0_0 a0_1 n0_1) 25)]) => ?_)
 refine V 4 4 (mc (.bool false) (.bool false)) ?_
 refine V 5 30 (mc (vi 0) (vi 0)) ?_
 refine Nss (Rg [0, 1, 2] ?_)
 refine V 11 25 (ld 25 2 b1 0 true 3 (.agg (kSystem x0 a0_0 n0_0 a0_1 n0_1)) (hs3.ownAt (k := 0) rfl)) ?_
 obtain ⟨r4, hr5, h6⟩ := bind_some h
 refine Cl 12 30 40 #[(.tmp 11)] #[25] co_ref03_Check hs3 (c_ref03_Check N w2 F0 hs3.pers (x0) a0_0 n0_0 hb0_0 hs0_0 a0_1 n0_1 hb0_1 hs0_1 _ hr5) ?_
 intro v7 F1 w8 hs9 le10 hp11
 obtain rfl := hp11
 refine V 6 30 (ma 12 (vi r4)) ?_
 refine Nss ?_
 refine Sq (Rg [0, 1] ?_)
 refine V 13 30 (mv 6 (vi r4)) ?_
 refine V 14 4 (run_neq (t := 30) (t' := 30) (x := (.tmp 13)) (y := (.const (vi 0))) (k := .i64) (a := r4) (b := 0) rfl rfl) ?_
 refine Nt ?_
 refine CWP.cond (t := (r4 != 0)) (by kernel_rfl) rfl (fun hb12 => ?_) (fun hb12 => ?_)
 ·have h13 := cond_t h6 hb12
  refine Sq (Rg [0, 1, 2] ?_)
  refine V 15 30 (mv 6 (vi r4)) ?_
  refine V 4 4 (mc (.bool false) (.bool false)) ?_
  refine V 5 30 (ma 15 (vi r4)) ?_
  refine Nt ?_
  refine CWP.ret (by kernel_rfl) ?_
  refine thenQ_ret ?_
  have hfin := some_inj h13
  subst hfin
  exact ⟨rfl, (.tuple #[(.bool false), (vi r4)]), res_of (l := [.tmp 4, .tmp 5]) (by kernel_rfl) (vs := [(.bool false), (vi r4)]) ⟨rfl, ⟨rfl, trivial⟩⟩, (.tuple #[(.bool false), (vi r4)]), F1, rfl, hs9.clear, rfl⟩
 ·have h14 := cond_f h6 hb12
  refine Sc ?_
  refine thenQ_nrm ?_
  refine Sq ?_
  refine Sq (Rg [0, 1, 2, 3, 4, 5] ?_)
  refine V 16 71 (mv 1 (.slice a1_0 x1.length n1_0)) ?_
  refine V 17 3 (ln 16 71 a1_0 x1.length n1_0 50 1 24) ?_
  refine V 18 0 (fa 25 2 0 0 1 b1 0 0) ?_
  refine V 19 22 (ld 22 18 b1 0 false 1 (.slice a0_0 x0.Tracks.length n0_0) (hs9.ownAt (k := 0) rfl)) ?_
  refine V 20 3 (ln 19 22 a0_0 x0.Tracks.length n0_0 54 4 64) ?_
  refine V 21 4 (run_neq (t := 3) (t' := 3) (x := (.tmp 17)) (y := (.tmp 20)) (k := .i64) (a := (x1.length : Int)) (b := (x0.Tracks.length : Int)) rfl rfl) ?_
  refine Nt ?_
  refine CWP.cond (t := ((x1.length : Int) != (x0.Tracks.length : Int))) (by kernel_rfl) rfl (fun hb15 => ?_) (fun hb15 => ?_)
  ·have h16 := cond_t h14 hb15
   refine Sq (Rg [0, 1] ?_)
   refine V 4 4 (mc (.bool false) (.bool false)) ?_
   refine V 5 30 (mc (vi 0) (vi 0)) ?_
   refine Nt ?_
   refine CWP.ret (by kernel_rfl) ?_
   refine thenQ_ret ?_
   have hfin := some_inj h16
   subst hfin
   exact ⟨rfl, (.tuple #[(.bool false), (vi 0)]), res_of (l := [.tmp 4, .tmp 5]) (by kernel_rfl) (vs := [(.bool false), (vi 0)]) ⟨rfl, ⟨rfl, trivial⟩⟩, (.tuple #[(.bool false), (vi 0)]), F1, rfl, hs9.clear, rfl⟩
  ·have h17 := cond_f h14 hb15
   refine Sc ?_
   refine thenQ_nrm ?_
   refine Sq ?_
   refine Sq (Rg [0] ?_)
   refine V 7 3 (mc (vi 0) (vi 0)) ?_
   refine Nt ?_
   obtain ⟨o18, ho19, h20⟩ := bind_some h17
   refine CWP.cut (fun f w => ∃ (s29 : Int) (F3 : Mem), o18 = .done s29 ∧ HS w0 F0 w F3 [(sb b1 (kSystem x0 a0_0 n0_0 a0_1 n0_1) 25)] ∧ Mem.le F1 F3 ∧ f.d = [] ∧ f 1 = (.slice a1_0 x1.length n1_0) ∧ f 2 = (.pointer (some ⟨b1, 0, none⟩))) ?_ ?_
   ·refine Bk ?_
    refine CWP.loop (by kernel_rfl) (fun m f w => ∃ (s21 : Int) (F2 : Mem), iter (ref03_Keeps_L0 N x0 x1 r4) m s21 = some o18 ∧ HS w0 F0 w F2 [(sb b1 (kSystem x0 a0_0 n0_0 a0_1 n0_1) 25)] ∧ Mem.le F1 F2 ∧ f.d = [] ∧ f 1 = (.slice a1_0 x1.length n1_0) ∧ f 2 = (.pointer (some ⟨b1, 0, none⟩)) ∧ f 7 = (vi s21)) N ⟨0, F1, ho19, hs9, (Mem.le.refl _), rfl, rfl, rfl, rfl⟩ ?_
    rintro m36 f w22 ⟨s21, F2, hit37, hs23, le24, e25, e26, e27, e28⟩
    obtain ⟨m38, fl39, rfl, hb40, hnx41⟩ := iter_step hit37
    refine Sq ?_
    refine Sq (Rg [0, 1, 2, 3] ?_)
    refine V 22 3 (mv 7 (vi s21) e28) ?_
    refine V 23 71 (mv 1 (.slice a1_0 x1.length n1_0) e26) ?_
    refine V 24 3 (ln 23 71 a1_0 x1.length n1_0 50 1 24) ?_
    refine V 25 4 (run_lss (t := 3) (t' := 3) (x := (.tmp 22)) (y := (.tmp 24)) (k := .i64) (a := s21) (b := (x1.length : Int)) rfl rfl) ?_
    refine Nt ?_
    refine CWP.cond (t := (decide (s21 < (x1.length : Int)))) (by kernel_rfl) rfl (fun hb42 => ?_) (fun hb42 => ?_)
    ·have h43 := cond_t hb40 hb42
     refine Sc ?_
     refine thenQ_nrm ?_
     refine Sq ?_
     refine Bk ?_
     refine Sq ?_
     refine Sq ?_
     obtain ⟨j49, hj55, h56⟩ := bind_some h43
     refine CWP.regionD (by kernel_rfl) (by kernel_rfl) (by kernel_rfl) (by kernel_rfl) (z := 13) (F := F2) (Lc := [(sb b1 (kSystem x0 a0_0 n0_0 a0_1 n0_1) 25)]) (Lz := []) (l := [false, false, false, false, false, false, false, false, false, false, false, false, false]) (fuel := 13) (by kernel_rfl) (by kernel_rfl) hs23 (by simp) (by simp) (fun f w => ∃ (F4 : Mem), HS w0 F0 w F4 [(sb b1 (kSystem x0 a0_0 n0_0 a0_1 n0_1) 25)] ∧ Mem.le F2 F4 ∧ f.d = [] ∧ f 1 = (.slice a1_0 x1.length n1_0) ∧ f 2 = (.pointer (some ⟨b1, 0, none⟩)) ∧ f 7 = (vi s21) ∧ f 40 = (.bool j49)) (fun wd44 hw45 => ?_) ?_
     ·refine Dt 0 28 71 _ (fun _ hq => mv 1 (.slice a1_0 x1.length n1_0) e26) ?_
      refine Dt 1 29 3 _ (fun _ hq => mv 7 (vi s21) e28) ?_
      obtain ⟨x57, hx58, h60⟩ := bind_some hj55
      obtain ⟨hi59, hx58'⟩ := idx_spec hx58
      obtain ⟨b61, o62, C63, E64, fz65, rfl, hF67, hE68⟩ := SlA.open (SlA.mono hs1_0 (le10.trans le24)) hx58'
      obtain ⟨ae69_0, ne69_0, hc70, hbe69_0, hse69_0⟩ := hE68 _ _ hx58'
      refine Dt 2 30 0 (.pointer (some ⟨b61, (o62 + (s21 : Int).toNat * 1), none⟩)) (fun _ hq => ix 71 28 29 b61 o62 50 1 24 hi59) ?_
      refine Dt 3 31 50 _ (fun _ hq => lx 50 30 0 1 false 1 (.slice ae69_0 x57.length ne69_0) (hq.1.1 _ _ hF67) hc70) ?_
      refine Dt 4 32 3 (vi (x57.length : Int)) (fun _ hq => ln 31 50 ae69_0 x57.length ne69_0 3 1 8) ?_
      refine Dt 5 33 0 (.pointer (some ⟨b1, 0, none⟩)) (fun _ hq => fa 25 2 0 0 1 b1 0 0 e27) ?_
      refine Dt 6 34 22 _ (fun _ hq => ld 22 33 b1 0 false 1 (.slice a0_0 x0.Tracks.length n0_0) (hq.1.2 0 _ _ rfl)) ?_
      refine Dt 7 35 3 _ (fun _ hq => mv 7 (vi s21) e28) ?_
      obtain ⟨x71, hx72, h74⟩ := bind_some h60
      obtain ⟨hi73, hx72'⟩ := idx_spec hx72
      obtain ⟨b75, o76, C77, E78, fz79, rfl, hF81, hE82⟩ := SlA.open (SlA.mono hs0_0 (le10.trans le24)) hx72'
      obtain ⟨ae83_2, ne83_2, ae83_3, ne83_3, hc84, hbe83_2, hse83_2, hbe83_3, hse83_3⟩ := hE82 _ _ hx72'
      refine Dt 8 36 0 (.pointer (some ⟨b75, (o76 + (s21 : Int).toNat * 4), none⟩)) (fun _ hq => ix 22 34 35 b75 o76 54 4 64 hi73) ?_
      refine Dt 9 37 0 (.pointer (some ⟨b75, ((o76 + (s21 : Int).toNat * 4) + 3), none⟩)) (fun _ hq => fa 54 36 1 3 1 b75 (o76 + (s21 : Int).toNat * 4) ((o76 + (s21 : Int).toNat * 4) + 3)) ?_
      refine Dt 10 38 50 _ (fun _ hq => lx 50 37 3 4 false 1 (.slice ae83_3 x71.Times.length ne83_3) (hq.1.1 _ _ hF81) hc84) ?_
      refine Dt 11 39 3 (vi (x71.Times.length : Int)) (fun _ hq => ln 38 50 ae83_3 x71.Times.length ne83_3 3 1 8) ?_
      refine Dt 12 40 4 (.bool ((x57.length : Int) != (x71.Times.length : Int))) (fun _ hq => run_neq (t := 3) (t' := 3) (x := (.tmp 32)) (y := (.tmp 39)) (k := .i64) (a := (x57.length : Int)) (b := (x71.Times.length : Int)) rfl rfl) ?_
      obtain rfl := some_inj h74
      exact DWP.done (by kernel_rfl) ⟨F2, hw45, (Mem.le.refl _), e25, e26, e27, e28, rfl⟩
     ·rintro f w46 ⟨F4, hs47, le48, e50, e51, e52, e53, e54⟩
      refine thenQ_nrm ?_
      refine CWP.cond (t := j49) (by kernel_rfl) e54 (fun hb85 => ?_) (fun hb85 => ?_)
      ·have h86 := cond_t h56 hb85
       refine Sq (Rg [0, 1] ?_)
       refine V 4 4 (mc (.bool false) (.bool false)) ?_
       refine V 5 30 (mc (vi 0) (vi 0)) ?_
       refine Nt ?_
       refine CWP.ret (by kernel_rfl) ?_
       refine thenQ_ret ?_
       refine blockQ_ret ?_
       refine thenQ_ret ?_
       refine thenQ_ret ?_
       refine blockQ_ret ?_
       have hret := iter_ret h86 hnx41
       subst hret
       refine .inr ?_
       refine thenQ_ret ?_
       have hfin := some_inj h20
       subst hfin
       exact ⟨e50, (.tuple #[(.bool false), (vi 0)]), res_of (l := [.tmp 4, .tmp 5]) (by kernel_rfl) (vs := [(.bool false), (vi 0)]) ⟨rfl, ⟨rfl, trivial⟩⟩, (.tuple #[(.bool false), (vi 0)]), F4, rfl, hs47.clear, rfl⟩
      ·have h87 := cond_f h56 hb85
       refine Sc ?_
       refine thenQ_nrm ?_
       refine Sq (Rg [0] ?_)
       refine V 8 3 (mc (vi 0) (vi 0)) ?_
       refine Nt ?_
       obtain ⟨o88, ho89, h90⟩ := bind_some h87
       refine CWP.cut (fun f w => ∃ (s100 : Int) (F6 : Mem), o88 = .done s100 ∧ HS w0 F0 w F6 [(sb b1 (kSystem x0 a0_0 n0_0 a0_1 n0_1) 25)] ∧ Mem.le F4 F6 ∧ f.d = [] ∧ f 1 = (.slice a1_0 x1.length n1_0) ∧ f 2 = (.pointer (some ⟨b1, 0, none⟩)) ∧ f 7 = (vi s21)) ?_ ?_
       ·refine Bk ?_
        refine CWP.loop (by kernel_rfl) (fun m f w => ∃ (s91 : Int) (F5 : Mem), iter (ref03_Keeps_L1 N x0 x1 r4 s21 j49) m s91 = some o88 ∧ HS w0 F0 w F5 [(sb b1 (kSystem x0 a0_0 n0_0 a0_1 n0_1) 25)] ∧ Mem.le F4 F5 ∧ f.d = [] ∧ f 1 = (.slice a1_0 x1.length n1_0) ∧ f 2 = (.pointer (some ⟨b1, 0, none⟩)) ∧ f 7 = (vi s21) ∧ f 8 = (vi s91)) N ⟨0, F4, ho89, hs47, (Mem.le.refl _), e50, e51, e52, e53, rfl⟩ ?_
        rintro m108 f w92 ⟨s91, F5, hit109, hs93, le94, e95, e96, e97, e98, e99⟩
        obtain ⟨m110, fl111, rfl, hb112, hnx113⟩ := iter_step hit109
        refine Sq ?_
        refine Sq (Rg [0, 1, 2, 3, 4, 5, 6] ?_)
        refine V 41 3 (mv 8 (vi s91) e99) ?_
        refine V 42 71 (mv 1 (.slice a1_0 x1.length n1_0) e96) ?_
        refine V 43 3 (mv 7 (vi s21) e98) ?_
        obtain ⟨x114, hx115, h117⟩ := bind_some hb112
        obtain ⟨hi116, hx115'⟩ := idx_spec hx115
        obtain ⟨b118, o119, C120, E121, fz122, rfl, hF124, hE125⟩ := SlA.open (SlA.mono hs1_0 (((le10.trans le24).trans le48).trans le94)) hx115'
        obtain ⟨ae126_0, ne126_0, hc127, hbe126_0, hse126_0⟩ := hE125 _ _ hx115'
        refine V 44 0 (ix 71 42 43 b118 o119 50 1 24 hi116) ?_
        refine V 45 50 (lx 50 44 0 1 false 1 (.slice ae126_0 x114.length ne126_0) (hs93.pers _ _ hF124) hc127) ?_
        refine V 46 3 (ln 45 50 ae126_0 x114.length ne126_0 3 1 8) ?_
        refine V 47 4 (run_lss (t := 3) (t' := 3) (x := (.tmp 41)) (y := (.tmp 46)) (k := .i64) (a := s91) (b := (x114.length : Int)) rfl rfl) ?_
        refine Nt ?_
        refine CWP.cond (t := (decide (s91 < (x114.length : Int)))) (by kernel_rfl) rfl (fun hb128 => ?_) (fun hb128 => ?_)
        ·have h129 := cond_t h117 hb128
         refine Sc ?_
         refine thenQ_nrm ?_
         refine Sq ?_
         refine Bk ?_
         refine Sq (Rg [0, 1, 2, 3, 4, 5, 6, 7, 8] ?_)
         refine V 50 71 (mv 1 (.slice (some ⟨b118, o119, none⟩) x1.length n1_0) e96) ?_
         refine V 51 3 (mv 7 (vi s21) e98) ?_
         obtain ⟨x130, hx131, h133⟩ := bind_some h129
         obtain ⟨hi132, hx131'⟩ := idx_spec hx131
         obtain ⟨ae134_0, ne134_0, hc135, hbe134_0, hse134_0⟩ := hE125 _ _ hx131'
         refine V 52 0 (ix 71 50 51 b118 o119 50 1 24 hi132) ?_
         refine V 53 50 (lx 50 52 0 1 false 1 (.slice ae134_0 x130.length ne134_0) (hs93.pers _ _ hF124) hc135) ?_
         refine V 54 3 (mv 8 (vi s91) e99) ?_
         obtain ⟨x136, hx137, h139⟩ := bind_some h133
         obtain ⟨hi138, hx137'⟩ := idx_spec hx137
         obtain ⟨b140, o141, C142, E143, fz144, rfl, hF146, hE147⟩ := SlA.open hse134_0 hx137'
         have hc149 := hE147 _ _ hx137'
         refine V 55 0 (ix 50 53 54 b140 o141 3 1 8 hi138) ?_
         refine V 56 3 (lx 3 55 0 1 false 1 (vi x136) (hs93.pers _ _ hF146) hc149) ?_
         obtain ⟨r150, hr151, h152⟩ := bind_some h139
         refine Cl 57 4 83 #[(.tmp 56), (.const (vi (-1000000))), (.const (vi 1000000))] #[3, 3, 3] co_ref03_within hs93 (c_ref03_within N w92 F5 hs93.pers (x136) ((-1000000)) (1000000) _ hr151) ?_
         intro v153 F7 w154 hs155 le156 hp157
         obtain rfl := hp157
         refine V 58 4 (run_not (t := 4) (x := (.tmp 57)) (a := r150) rfl) ?_
         refine Nt ?_
         refine CWP.cond (t := (!r150)) (by kernel_rfl) rfl (fun hb158 => ?_) (fun hb158 => ?_)
         ·have h159 := cond_t h152 hb158
          refine Sq (Rg [0, 1] ?_)
          refine V 4 4 (mc (.bool false) (.bool false)) ?_
          refine V 5 30 (mc (vi 0) (vi 0)) ?_
          refine Nt ?_
          refine CWP.ret (by kernel_rfl) ?_
          refine blockQ_ret ?_
          refine thenQ_ret ?_
          refine thenQ_ret ?_
          refine blockQ_ret ?_
          have hret := iter_ret h159 hnx113
          subst hret
          refine .inr ?_
          refine blockQ_ret ?_
          refine thenQ_ret ?_
          refine thenQ_ret ?_
          refine blockQ_ret ?_
          have hret := iter_ret h90 hnx41
          subst hret
          refine .inr ?_
          refine thenQ_ret ?_
          have hfin := some_inj h20
          subst hfin
          exact ⟨e95, (.tuple #[(.bool false), (vi 0)]), res_of (l := [.tmp 4, .tmp 5]) (by kernel_rfl) (vs := [(.bool false), (vi 0)]) ⟨rfl, ⟨rfl, trivial⟩⟩, (.tuple #[(.bool false), (vi 0)]), F7, rfl, hs155.clear, rfl⟩
         ·have h160 := cond_f h152 hb158
          refine Sc ?_
          refine blockQ_nrm ?_
          refine thenQ_nrm ?_
          refine Rg [0, 1, 2] ?_
          refine V 48 3 (mv 8 (vi s91) e99) ?_
          refine V 49 3 (run_add (t := 3) (t' := 3) (x := (.tmp 48)) (y := (.const (vi 1))) (k := .i64) (a := s91) (b := 1) rfl rfl) ?_
          refine V 8 3 (ma 49 (vi (W64 (s91 + 1)))) ?_
          refine RWP.nil ?_
          have hn161 := iter_next h160 hnx113
          exact ⟨m110, Nat.lt_succ_self _, (W64 (s91 + 1)), F7, hn161, hs155, (le94.trans le156), e95, e96, e97, e98, rfl⟩
        ·have h162 := cond_f h117 hb128
         refine CWP.exit (by kernel_rfl) ?_
         refine thenQ_ex ?_
         refine thenQ_ex ?_
         refine blockQ_hit rfl ?_
         have ho163 := iter_done h162 hnx113
         exact .inl ⟨rfl, s91, F5, ho163, hs93, le94, e95, e96, e97, e98⟩
       ·rintro f w101 ⟨s100, F6, rfl, hs102, le103, e104, e105, e106, e107⟩
        have h164 := k_done h90
        refine blockQ_nrm ?_
        refine thenQ_nrm ?_
        refine Rg [0, 1, 2] ?_
        refine V 26 3 (mv 7 (vi s21) e107) ?_
        refine V 27 3 (run_add (t := 3) (t' := 3) (x := (.tmp 26)) (y := (.const (vi 1))) (k := .i64) (a := s21) (b := 1) rfl rfl) ?_
        refine V 7 3 (ma 27 (vi (W64 (s21 + 1)))) ?_
        refine RWP.nil ?_
        have hn165 := iter_next h164 hnx41
        exact ⟨m38, Nat.lt_succ_self _, (W64 (s21 + 1)), F6, hn165, hs102, ((le24.trans le48).trans le103), e104, e105, e106, rfl⟩
    ·have h166 := cond_f hb40 hb42
     refine CWP.exit (by kernel_rfl) ?_
     refine thenQ_ex ?_
     refine thenQ_ex ?_
     refine blockQ_hit rfl ?_
     have ho167 := iter_done h166 hnx41
     exact .inl ⟨rfl, s21, F2, ho167, hs23, le24, e25, e26, e27⟩
   ·rintro f w30 ⟨s29, F3, rfl, hs31, le32, e33, e34, e35⟩
    have h168 := k_done h20
    refine thenQ_nrm ?_
    refine Sq (Rg [0, 1, 2] ?_)
    refine V 59 25 (ld 25 2 b1 0 true 3 (.agg (kSystem x0 a0_0 n0_0 a0_1 n0_1)) (hs31.ownAt (k := 0) rfl) e35) ?_
    obtain ⟨r169, hr170, h171⟩ := bind_some h168
    refine Cl 60 57 84 #[(.tmp 59)] #[25] co_ref03_bounds hs31 (c_ref03_bounds N w30 F3 hs31.pers (x0) a0_0 n0_0 hb0_0 (SlA.mono hs0_0 (le10.trans le32)) a0_1 n0_1 hb0_1 (SlA.mono hs0_1 (le10.trans le32)) _ hr170) ?_
    intro v172 F8 w173 hs174 le175 hp176
    obtain ⟨ar169_0_0, nr169_0_0, rfl, hbr169_0_0, hsr169_0_0⟩ := hp176
    refine V 9 57 (ma 60 (.slice ar169_0_0 r169.length nr169_0_0)) ?_
    refine Nss ?_
    refine Sq (Rg [0] ?_)
    refine V 10 3 (mc (vi 0) (vi 0)) ?_
    refine Nt ?_
    have hs177 : HS w0 F0 w173 F8 [] := hs174.drop 0
    obtain ⟨o178, ho179, h180⟩ := bind_some h171
    refine CWP.cut (fun f w => ∃ (s189 : Int) (F10 : Mem), o178 = .done s189 ∧ HS w0 F0 w F10 [] ∧ Mem.le F8 F10 ∧ f.d = []) ?_ ?_
    ·refine Bk ?_
     refine CWP.loop (by kernel_rfl) (fun m f w => ∃ (s181 : Int) (F9 : Mem), iter (ref03_Keeps_L2 N x0 x1 r4 s29 r169) m s181 = some o178 ∧ HS w0 F0 w F9 [] ∧ Mem.le F8 F9 ∧ f.d = [] ∧ f 1 = (.slice a1_0 x1.length n1_0) ∧ f 9 = (.slice ar169_0_0 r169.length nr169_0_0) ∧ f 10 = (vi s181)) N ⟨0, F8, ho179, hs177, (Mem.le.refl _), e33, e34, rfl, rfl⟩ ?_
     rintro m194 f w182 ⟨s181, F9, hit195, hs183, le184, e185, e186, e187, e188⟩
     obtain ⟨m196, fl197, rfl, hb198, hnx199⟩ := iter_step hit195
     refine Sq ?_
     refine Sq (Rg [0, 1, 2, 3] ?_)
     refine V 61 3 (mv 10 (vi s181) e188) ?_
     refine V 62 57 (mv 9 (.slice ar169_0_0 r169.length nr169_0_0) e187) ?_
     refine V 63 3 (ln 62 57 ar169_0_0 r169.length nr169_0_0 103 7 56) ?_
     refine V 64 4 (run_lss (t := 3) (t' := 3) (x := (.tmp 61)) (y := (.tmp 63)) (k := .i64) (a := s181) (b := (r169.length : Int)) rfl rfl) ?_
     refine Nt ?_
     refine CWP.cond (t := (decide (s181 < (r169.length : Int)))) (by kernel_rfl) rfl (fun hb200 => ?_) (fun hb200 => ?_)
     ·have h201 := cond_t hb198 hb200
      refine Sc ?_
      refine thenQ_nrm ?_
      refine Sq ?_
      refine Bk ?_
      refine Sq ?_
      obtain ⟨j207, hj213, h214⟩ := bind_some h201
      refine CWP.regionD (by kernel_rfl) (by kernel_rfl) (by kernel_rfl) (by kernel_rfl) (z := 21) (F := F9) (Lc := []) (Lz := []) (l := [false, false, false, false, false, false, false, false, false, false, false, false, false, false, false, false, false, false, false, false, false]) (fuel := 21) (by kernel_rfl) (by kernel_rfl) hs183 (by simp) (by simp) (fun f w => ∃ (F11 : Mem), HS w0 F0 w F11 [] ∧ Mem.le F9 F11 ∧ f.d = [] ∧ f 1 = (.slice a1_0 x1.length n1_0) ∧ f 9 = (.slice ar169_0_0 r169.length nr169_0_0) ∧ f 10 = (vi s181) ∧ f 87 = (.bool j207)) (fun wd202 hw203 => ?_) ?_
      ·refine Dtl 0 67 71 _ [tt, ff, ff, ff, ff, ff, ff, ff, ff, ff, ff, ff, ff, ff, ff, ff, ff, ff, ff, ff, ff] (fun _ hq => mv 1 (.slice a1_0 x1.length n1_0) e186) ?_
       refine Dtl 1 68 57 _ [tt, tt, ff, ff, ff, ff, ff, ff, ff, ff, ff, ff, ff, ff, ff, ff, ff, ff, ff, ff, ff] (fun _ hq => mv 9 (.slice ar169_0_0 r169.length nr169_0_0) e187) ?_
       refine Dtl 2 69 3 _ [tt, tt, tt, ff, ff, ff, ff, ff, ff, ff, ff, ff, ff, ff, ff, ff, ff, ff, ff, ff, ff] (fun _ hq => mv 10 (vi s181) e188) ?_
       obtain ⟨x215, hx216, h218⟩ := bind_some hj213
       obtain ⟨hi217, hx216'⟩ := idx_spec hx216
       obtain ⟨b219, o220, C221, E222, fz223, rfl, hF225, hE226⟩ := SlA.open (SlA.mono hsr169_0_0 le184) hx216'
       have hc228 := hE226 _ _ hx216'
       refine Dtl 3 70 0 (.pointer (some ⟨b219, (o220 + (s181 : Int).toNat * 7), none⟩)) [tt, tt, tt, tt, ff, ff, ff, ff, ff, ff, ff, ff, ff, ff, ff, ff, ff, ff, ff, ff, ff] (fun _ hq => ix 57 68 69 b219 o220 103 7 56 hi217) ?_
       refine Dtl 4 71 0 (.pointer (some ⟨b219, ((o220 + (s181 : Int).toNat * 7) + 2), none⟩)) [tt, tt, tt, tt, tt, ff, ff, ff, ff, ff, ff, ff, ff, ff, ff, ff, ff, ff, ff, ff, ff] (fun _ hq => fa 103 70 1 2 2 b219 (o220 + (s181 : Int).toNat * 7) ((o220 + (s181 : Int).toNat * 7) + 2)) ?_
       refine Dtl 5 72 27 _ [tt, tt, tt, tt, tt, tt, ff, ff, ff, ff, ff, ff, ff, ff, ff, ff, ff, ff, ff, ff, ff] (fun _ hq => lx 27 71 2 7 true 2 (.agg (kRef x215.To)) (hq.1.1 _ _ hF225) hc228) ?_
       refine Dtl 7 74 71 _ [tt, tt, tt, tt, tt, tt, ff, tt, ff, ff, ff, ff, ff, ff, ff, ff, ff, ff, ff, ff, ff] (fun _ hq => mv 1 (.slice a1_0 x1.length n1_0) e186) ?_
       refine Dtl 8 75 57 _ [tt, tt, tt, tt, tt, tt, ff, tt, tt, ff, ff, ff, ff, ff, ff, ff, ff, ff, ff, ff, ff] (fun _ hq => mv 9 (.slice (some ⟨b219, o220, none⟩) r169.length nr169_0_0) e187) ?_
       refine Dtl 9 76 3 _ [tt, tt, tt, tt, tt, tt, ff, tt, tt, tt, ff, ff, ff, ff, ff, ff, ff, ff, ff, ff, ff] (fun _ hq => mv 10 (vi s181) e188) ?_
       obtain ⟨x229, hx230, h232⟩ := bind_some h218
       obtain ⟨hi231, hx230'⟩ := idx_spec hx230
       have hc234 := hE226 _ _ hx230'
       refine Dtl 10 77 0 (.pointer (some ⟨b219, (o220 + (s181 : Int).toNat * 7), none⟩)) [tt, tt, tt, tt, tt, tt, ff, tt, tt, tt, tt, ff, ff, ff, ff, ff, ff, ff, ff, ff, ff] (fun _ hq => ix 57 75 76 b219 o220 103 7 56 hi231) ?_
       refine Dtl 11 78 0 (.pointer (some ⟨b219, (o220 + (s181 : Int).toNat * 7), none⟩)) [tt, tt, tt, tt, tt, tt, ff, tt, tt, tt, tt, tt, ff, ff, ff, ff, ff, ff, ff, ff, ff] (fun _ hq => fa 103 77 0 0 2 b219 (o220 + (s181 : Int).toNat * 7) (o220 + (s181 : Int).toNat * 7)) ?_
       refine Dtl 12 79 27 _ [tt, tt, tt, tt, tt, tt, ff, tt, tt, tt, tt, tt, tt, ff, ff, ff, ff, ff, ff, ff, ff] (fun _ hq => lx 27 78 0 7 true 2 (.agg (kRef x229.From)) (hq.1.1 _ _ hF225) hc234) ?_
       refine Dtl 14 81 57 _ [tt, tt, tt, tt, tt, tt, ff, tt, tt, tt, tt, tt, tt, ff, tt, ff, ff, ff, ff, ff, ff] (fun _ hq => mv 9 (.slice (some ⟨b219, o220, none⟩) r169.length nr169_0_0) e187) ?_
       refine Dtl 15 82 3 _ [tt, tt, tt, tt, tt, tt, ff, tt, tt, tt, tt, tt, tt, ff, tt, tt, ff, ff, ff, ff, ff] (fun _ hq => mv 10 (vi s181) e188) ?_
       obtain ⟨x235, hx236, h238⟩ := bind_some h232
       obtain ⟨hi237, hx236'⟩ := idx_spec hx236
       have hc240 := hE226 _ _ hx236'
       refine Dtl 16 83 0 (.pointer (some ⟨b219, (o220 + (s181 : Int).toNat * 7), none⟩)) [tt, tt, tt, tt, tt, tt, ff, tt, tt, tt, tt, tt, tt, ff, tt, tt, tt, ff, ff, ff, ff] (fun _ hq => ix 57 81 82 b219 o220 103 7 56 hi237) ?_
       refine Dtl 17 84 0 (.pointer (some ⟨b219, ((o220 + (s181 : Int).toNat * 7) + 4), none⟩)) [tt, tt, tt, tt, tt, tt, ff, tt, tt, tt, tt, tt, tt, ff, tt, tt, tt, tt, ff, ff, ff] (fun _ hq => fa 103 83 2 4 1 b219 (o220 + (s181 : Int).toNat * 7) ((o220 + (s181 : Int).toNat * 7) + 4)) ?_
       refine Dtl 18 85 3 _ [tt, tt, tt, tt, tt, tt, ff, tt, tt, tt, tt, tt, tt, ff, tt, tt, tt, tt, tt, ff, ff] (fun _ hq => lx 3 84 4 7 false 1 (vi x235.Most) (hq.1.1 _ _ hF225) hc240) ?_
       refine DWP.one (i := 6) (by kernel_rfl) ?_
       obtain ⟨r241, hr242, h243⟩ := bind_some h238
       refine DStep.call (l' := [true, true, true, true, true, true, true, true, true, true, true, true, true, false, true, true, true, true, true, false, false]) (zd := true) (by kernel_rfl) (by kernel_rfl) (by kernel_rfl) (dst := (some 73)) (ty := 3) (g := none) (by kernel_rfl) rfl (f0 := (.func 104)) (aos := #[(.tmp 67), (.tmp 72)]) (ats := #[71, 27]) (fid := 104) (first := #[]) (cap := #[]) (args := [(.slice a1_0 x1.length n1_0), (.agg (kRef x215.To))]) rfl co_ref03_minute (rfl) hw203 (c_ref03_minute N wd202 F9 hw203.pers (x1) a1_0 n1_0 hb1_0 (SlA.mono hs1_0 (((le10.trans le32).trans le175).trans le184)) (x215.To) _ hr242) ?_
       intro v244 F12 w245 hs246 le247 hp248
       obtain rfl := hp248
       refine DWP.one (i := 13) (by kernel_rfl) ?_
       obtain ⟨r249, hr250, h251⟩ := bind_some h243
       refine DStep.call (l' := [true, true, true, true, true, true, true, true, true, true, true, true, true, true, true, true, true, true, true, false, false]) (zd := true) (by kernel_rfl) (by kernel_rfl) (by kernel_rfl) (dst := (some 80)) (ty := 3) (g := none) (by kernel_rfl) rfl (f0 := (.func 104)) (aos := #[(.tmp 74), (.tmp 79)]) (ats := #[71, 27]) (fid := 104) (first := #[]) (cap := #[]) (args := [(.slice a1_0 x1.length n1_0), (.agg (kRef x229.From))]) rfl co_ref03_minute (rfl) hs246 (c_ref03_minute N w245 F12 hs246.pers (x1) a1_0 n1_0 hb1_0 (SlA.mono hs1_0 ((((le10.trans le32).trans le175).trans le184).trans le247)) (x229.From) _ hr250) ?_
       intro v252 F13 w253 hs254 le255 hp256
       obtain rfl := hp256
       refine Dtl 19 86 3 (vi (W64 (r249 + x235.Most))) [tt, tt, tt, tt, tt, tt, tt, tt, tt, tt, tt, tt, tt, tt, tt, tt, tt, tt, tt, tt, ff] (fun _ hq => run_add (t := 3) (t' := 3) (x := (.tmp 80)) (y := (.tmp 85)) (k := .i64) (a := r249) (b := x235.Most) rfl rfl) ?_
       refine Dtl 20 87 4 (.bool (decide (r241 > (W64 (r249 + x235.Most))))) [tt, tt, tt, tt, tt, tt, tt, tt, tt, tt, tt, tt, tt, tt, tt, tt, tt, tt, tt, tt, tt] (fun _ hq => run_gtr (t := 3) (t' := 3) (x := (.tmp 73)) (y := (.tmp 86)) (k := .i64) (a := r241) (b := (W64 (r249 + x235.Most))) rfl rfl) ?_
       obtain rfl := some_inj h251
       exact DWP.done (by kernel_rfl) ⟨F13, hs254, (le247.trans le255), e185, e186, e187, e188, rfl⟩
      ·rintro f w204 ⟨F11, hs205, le206, e208, e209, e210, e211, e212⟩
       refine thenQ_nrm ?_
       refine CWP.cond (t := j207) (by kernel_rfl) e212 (fun hb257 => ?_) (fun hb257 => ?_)
       ·have h258 := cond_t h214 hb257
        refine Sq (Rg [0, 1] ?_)
        refine V 4 4 (mc (.bool false) (.bool false)) ?_
        refine V 5 30 (mc (vi 0) (vi 0)) ?_
        refine Nt ?_
        refine CWP.ret (by kernel_rfl) ?_
        refine blockQ_ret ?_
        refine thenQ_ret ?_
        refine thenQ_ret ?_
        refine blockQ_ret ?_
        have hret := iter_ret h258 hnx199
        subst hret
        refine .inr ?_
        refine thenQ_ret ?_
        have hfin := some_inj h180
        subst hfin
        exact ⟨e208, (.tuple #[(.bool false), (vi 0)]), res_of (l := [.tmp 4, .tmp 5]) (by kernel_rfl) (vs := [(.bool false), (vi 0)]) ⟨rfl, ⟨rfl, trivial⟩⟩, (.tuple #[(.bool false), (vi 0)]), F11, rfl, hs205.clear, rfl⟩
       ·have h259 := cond_f h214 hb257
        refine Sc ?_
        refine blockQ_nrm ?_
        refine thenQ_nrm ?_
        refine Rg [0, 1, 2] ?_
        refine V 65 3 (mv 10 (vi s181) e211) ?_
        refine V 66 3 (run_add (t := 3) (t' := 3) (x := (.tmp 65)) (y := (.const (vi 1))) (k := .i64) (a := s181) (b := 1) rfl rfl) ?_
        refine V 10 3 (ma 66 (vi (W64 (s181 + 1)))) ?_
        refine RWP.nil ?_
        have hn260 := iter_next h259 hnx199
        exact ⟨m196, Nat.lt_succ_self _, (W64 (s181 + 1)), F11, hn260, hs205, (le184.trans le206), e208, e209, e210, rfl⟩
     ·have h261 := cond_f hb198 hb200
      refine CWP.exit (by kernel_rfl) ?_
      refine thenQ_ex ?_
      refine thenQ_ex ?_
      refine blockQ_hit rfl ?_
      have ho262 := iter_done h261 hnx199
      exact .inl ⟨rfl, s181, F9, ho262, hs183, le184, e185⟩
    ·rintro f w190 ⟨s189, F10, rfl, hs191, le192, e193⟩
     have h263 := k_done h180
     refine thenQ_nrm ?_
     refine Sq (Rg [0, 1] ?_)
     refine V 4 4 (mc (.bool true) (.bool true)) ?_
     refine V 5 30 (mc (vi 0) (vi 0)) ?_
     refine Nt ?_
     refine CWP.ret (by kernel_rfl) ?_
     have hfin := some_inj h263
     subst hfin
     exact ⟨e193, (.tuple #[(.bool true), (vi 0)]), res_of (l := [.tmp 4, .tmp 5]) (by kernel_rfl) (vs := [(.bool true), (vi 0)]) ⟨rfl, ⟨rfl, trivial⟩⟩, (.tuple #[(.bool true), (vi 0)]), F10, rfl, hs191.clear, rfl⟩
end Go.Proofs.Ythbcnabeabcmlaa
namespace Go.Proofs.Ythbcnabeabcmlaa
open Go.Proofs
def ref03_chained_L1 (N : Nat) (x0 : System) (x1 : (List Bound)) (r15 : (List Bound)) (s27 : Int) (j53 : (Bool)) (j92 : (Bool)) : (Bool × Int) → Option (Flow Bool (Bool × Int)) := fun s126 =>
 (bif ((decide (s126.2 < (r15.length : Int))) && (!s126.1)) then (((idx r15 s126.2).bind fun x178 => ((idx x1 s27).bind fun x192 => some (((x178.From.Log == x192.From.Log) && ((x178.From.Line == x192.From.Line) && true)) && (((x178.To.Log == x192.To.Log) && ((x178.To.Line == x192.To.Line) && true)) && ((x178.Most == x192.Most) && ((x178.Kind == x192.Kind) && ((x178.ID == x192.ID) && true))))))).bind fun j169 => some (.next (j169, (W64 (s126.2 + 1))))) else some (.done (s126.1, s126.2)))
def ref03_chained_L0 (N : Nat) (x0 : System) (x1 : (List Bound)) (r15 : (List Bound)) : Int → Option (Flow Bool Int) := fun s27 =>
 (bif (decide (s27 < (x1.length : Int))) then ((bif (decide (s27 > 0)) then ((idx x1 s27).bind fun x63 => ((idx x1 (W64 (s27 - 1))).bind fun x77 => some (!((x63.From.Log == x77.To.Log) && ((x63.From.Line == x77.To.Line) && true))))) else some false).bind fun j53 => (bif j53 then some (.ret false) else ((bif (decide (s27 > 0)) then ((idx x1 s27).bind fun x102 => ((idx x1 0).bind fun x116 => some (((x102.From.Log == x116.From.Log) && ((x102.From.Line == x116.From.Line) && true)) && (((x102.To.Log == x116.To.Log) && ((x102.To.Line == x116.To.Line) && true)) && ((x102.Most == x116.Most) && ((x102.Kind == x116.Kind) && ((x102.ID == x116.ID) && true))))))) else some false).bind fun j92 => ((iter (ref03_chained_L1 N x0 x1 r15 s27 j53 j92) N (j92, 0)).bind fun o => o.k (fun r => some (.ret r)) (fun s136 => (bif (!s136.1) then some (.ret false) else some (.next (W64 (s27 + 1))))))))) else some (.done s27))
def ref03_chained (N : Nat) (x0 : System) (x1 : (List Bound)) : Option Bool :=
 (bif ((decide ((x1.length : Int) < 1)) || (decide ((x1.length : Int) > 30000))) then some false else ((ref03_bounds N x0).bind fun r15 => ((iter (ref03_chained_L0 N x0 x1 r15) N 0).bind fun o => o.k (fun r => some r) (fun s35 => some true))))
theorem co_ref03_chained : CallOk Try.prog 105 := fun _ _ => by kernel_rfl
set_option maxHeartbeats 4000000 in
set_option maxRecDepth 100000 in
theorem c_ref03_chained (N : Nat) (w0 : World) (F0 : Mem) (hF : ∀ b o, F0 b = some o → w0.heap[b]? = some o) (x0 : System) (a0_0 : Option Addr) (n0_0 : Nat) (hb0_0 : LC x0.Tracks.length n0_0) (hs0_0 : SlA tTrack F0 a0_0 x0.Tracks) (a0_1 : Option Addr) (n0_1 : Nat) (hb0_1 : LC x0.Ties.length n0_1) (hs0_1 : SlA tTie F0 a0_1 x0.Ties) (x1 : (List Bound)) (a1_0 : Option Addr) (n1_0 : Nat) (hb1_0 : LC x1.length n1_0) (hs1_0 : SlA tBound F0 a1_0 x1) (r : Bool) (h : ref03_chained N x0 x1 = some r) :
  Calls Try.prog 105 ([(.agg (kSystem x0 a0_0 n0_0 a0_1 n0_1)), (.slice a1_0 x1.length n1_0)] : List Value).toArray w0 (FRet w0 F0 fun F' v => v = (.bool r)) := by
 have hs0 := HS.start hF
 refine calls_of (n := 74) (c := bodyOf Try.f105) Try.func105 (by kernel_rfl) (by kernel_rfl) (by kernel_rfl) ?_
 refine Sq (Rg [0, 1] ?_)
 refine Bx 2 0 0 25 (kSystem x0 a0_0 n0_0 a0_1 n0_1) hs0 (fun b1 w2 (hs3 : HS w0 F0 w2 F0 [(sb b1 (kSystem x0 a0_0 n0_0 a0_1 n0_1) 25)]) => ?_)
 refine V 4 4 (mc (.bool false) (.bool false)) ?_
 refine Nss ?_
 refine Sq (Rg [0, 1, 2, 3, 4, 5, 6, 7] ?_)
 refine RWP.cut (fun f w => ∃ (F1 : Mem), HS w0 F0 w F1 [(sb b1 (kSystem x0 a0_0 n0_0 a0_1 n0_1) 25)] ∧ Mem.le F0 F1 ∧ f.d = [] ∧ f 1 = (.slice a1_0 x1.length n1_0) ∧ f 2 = (.pointer (some ⟨b1, 0, none⟩)) ∧ f 16 = (.bool ((decide ((x1.length : Int) < 1)) || (decide ((x1.length : Int) > 30000))))) ?_ ?_
 ·refine V 9 57 (mv 1 (.slice a1_0 x1.length n1_0)) ?_
  refine V 10 3 (ln 9 57 a1_0 x1.length n1_0 103 7 56) ?_
  refine V 11 4 (run_lss (t := 3) (t' := 3) (x := (.tmp 10)) (y := (.const (vi 1))) (k := .i64) (a := (x1.length : Int)) (b := 1) rfl rfl) ?_
  refine V 12 4 (mv 11 (.bool (decide ((x1.length : Int) < 1)))) ?_
  refine RWP.split (decide ((x1.length : Int) < 1)) (fun hb11 => ?_) (fun hb11 => ?_)
  ·refine Sk [13, 14, 15] 3 false 12 hb11 ?_
   refine V 16 4 (p1 12 (.const (.bool true)) (.tmp 15) (.bool true) hb11) ?_
   exact RWP.nil ⟨rfl, F0, hs3, (Mem.le.refl _), rfl, rfl, rfl, (congrArg Value.bool (or_t hb11 (rfl)))⟩
  ·refine Vg 13 57 3 false 12 hb11 (mv 1 (.slice a1_0 x1.length n1_0)) ?_
   refine Vg 14 3 3 false 12 hb11 (ln 13 57 a1_0 x1.length n1_0 103 7 56) ?_
   refine Vg 15 4 3 false 12 hb11 (run_gtr (t := 3) (t' := 3) (x := (.tmp 14)) (y := (.const (vi 30000))) (k := .i64) (a := (x1.length : Int)) (b := 30000) rfl rfl) ?_
   refine V 16 4 (p0 12 (.const (.bool true)) (.tmp 15) (.bool (decide ((x1.length : Int) > 30000))) hb11) ?_
   exact RWP.nil ⟨rfl, F0, hs3, (Mem.le.refl _), rfl, rfl, rfl, (congrArg Value.bool (or_f hb11 (rfl)))⟩
 ·rintro f w4 ⟨F1, hs5, le6, e7, e8, e9, e10⟩
  refine thenQ_nrm ?_
  refine CWP.cond (t := ((decide ((x1.length : Int) < 1)) || (decide ((x1.length : Int) > 30000)))) (by kernel_rfl) e10 (fun hb12 => ?_) (fun hb12 => ?_)
  ·have h13 := cond_t h hb12
   refine Sq (Rg [0] ?_)
   refine V 4 4 (mc (.bool false) (.bool false)) ?_
   refine Nt ?_
   refine CWP.ret (by kernel_rfl) ?_
   refine thenQ_ret ?_
   have hfin := some_inj h13
   subst hfin
   exact ⟨e7, (.bool false), res_of (l := [.tmp 4]) (by kernel_rfl) (vs := [(.bool false)]) ⟨rfl, trivial⟩, (.bool false), F1, rfl, hs5.clear, rfl⟩
  ·have h14 := cond_f h hb12
   refine Sc ?_
   refine thenQ_nrm ?_
   refine Sq (Rg [0, 1, 2] ?_)
   refine V 17 25 (ld 25 2 b1 0 true 3 (.agg (kSystem x0 a0_0 n0_0 a0_1 n0_1)) (hs5.ownAt (k := 0) rfl) e9) ?_
   obtain ⟨r15, hr16, h17⟩ := bind_some h14
   refine Cl 18 57 84 #[(.tmp 17)] #[25] co_ref03_bounds hs5 (c_ref03_bounds N w4 F1 hs5.pers (x0) a0_0 n0_0 hb0_0 (SlA.mono hs0_0 le6) a0_1 n0_1 hb0_1 (SlA.mono hs0_1 le6) _ hr16) ?_
   intro v18 F2 w19 hs20 le21 hp22
   obtain ⟨ar15_0_0, nr15_0_0, rfl, hbr15_0_0, hsr15_0_0⟩ := hp22
   refine V 5 57 (ma 18 (.slice ar15_0_0 r15.length nr15_0_0)) ?_
   refine Nss ?_
   refine Sq (Rg [0] ?_)
   refine V 6 3 (mc (vi 0) (vi 0)) ?_
   refine Nt ?_
   have hs23 : HS w0 F0 w19 F2 [] := hs20.drop 0
   obtain ⟨o24, ho25, h26⟩ := bind_some h17
   refine CWP.cut (fun f w => ∃ (s35 : Int) (F4 : Mem), o24 = .done s35 ∧ HS w0 F0 w F4 [] ∧ Mem.le F2 F4 ∧ f.d = []) ?_ ?_
   ·refine Bk ?_
    refine CWP.loop (by kernel_rfl) (fun m f w => ∃ (s27 : Int) (F3 : Mem), iter (ref03_chained_L0 N x0 x1 r15) m s27 = some o24 ∧ HS w0 F0 w F3 [] ∧ Mem.le F2 F3 ∧ f.d = [] ∧ f 1 = (.slice a1_0 x1.length n1_0) ∧ f 5 = (.slice ar15_0_0 r15.length nr15_0_0) ∧ f 6 = (vi s27)) N ⟨0, F2, ho25, hs23, (Mem.le.refl _), e7, e8, rfl, rfl⟩ ?_
    rintro m40 f w28 ⟨s27, F3, hit41, hs29, le30, e31, e32, e33, e34⟩
    obtain ⟨m42, fl43, rfl, hb44, hnx45⟩ := iter_step hit41
    refine Sq ?_
    refine Sq (Rg [0, 1, 2, 3] ?_)
    refine V 19 3 (mv 6 (vi s27) e34) ?_
    refine V 20 57 (mv 1 (.slice a1_0 x1.length n1_0) e32) ?_
    refine V 21 3 (ln 20 57 a1_0 x1.length n1_0 103 7 56) ?_
    refine V 22 4 (run_lss (t := 3) (t' := 3) (x := (.tmp 19)) (y := (.tmp 21)) (k := .i64) (a := s27) (b := (x1.length : Int)) rfl rfl) ?_
    refine Nt ?_
    refine CWP.cond (t := (decide (s27 < (x1.length : Int)))) (by kernel_rfl) rfl (fun hb46 => ?_) (fun hb46 => ?_)
    ·have h47 := cond_t hb44 hb46
     refine Sc ?_
     refine thenQ_nrm ?_
     refine Sq ?_
     refine Bk ?_
     refine Sq ?_
     refine Sq ?_
     obtain ⟨j53, hj59, h60⟩ := bind_some h47
     refine CWP.regionD (by kernel_rfl) (by kernel_rfl) (by kernel_rfl) (by kernel_rfl) (z := 16) (F := F3) (Lc := []) (Lz := []) (l := [false, false, false, false, false, false, false, false, false, false, false, false, false, false, false, false]) (fuel := 16) (by kernel_rfl) (by kernel_rfl) hs29 (by simp) (by simp) (fun f w => ∃ (F5 : Mem), HS w0 F0 w F5 [] ∧ Mem.le F3 F5 ∧ f.d = [] ∧ f 1 = (.slice a1_0 x1.length n1_0) ∧ f 5 = (.slice ar15_0_0 r15.length nr15_0_0) ∧ f 6 = (vi s27) ∧ f 40 = (.bool j53)) (fun wd48 hw49 => ?_) ?_
     ·refine Dt 0 25 3 _ (fun _ hq => mv 6 (vi s27) e34) ?_
      refine Dt 1 26 4 (.bool (decide (s27 > 0))) (fun _ hq => run_gtr (t := 3) (t' := 3) (x := (.tmp 25)) (y := (.const (vi 0))) (k := .i64) (a := s27) (b := 0) rfl rfl) ?_
      refine Dt 2 27 4 _ (fun _ hq => mv 26 (.bool (decide (s27 > 0)))) ?_
      refine DWP.split (decide (s27 > 0)) (fun hb61 => ?_) (fun hb61 => ?_)
      ·have h62 := cond_t hj59 hb61
       refine Dg 3 28 57 _ 2 true 27 hb61 (fun _ hq => mv 1 (.slice a1_0 x1.length n1_0) e32) ?_
       refine Dg 4 29 3 _ 2 true 27 hb61 (fun _ hq => mv 6 (vi s27) e34) ?_
       obtain ⟨x63, hx64, h66⟩ := bind_some h62
       obtain ⟨hi65, hx64'⟩ := idx_spec hx64
       obtain ⟨b67, o68, C69, E70, fz71, rfl, hF73, hE74⟩ := SlA.open (SlA.mono hs1_0 ((le6.trans le21).trans le30)) hx64'
       have hc76 := hE74 _ _ hx64'
       refine Dg 5 30 0 (.pointer (some ⟨b67, (o68 + (s27 : Int).toNat * 7), none⟩)) 2 true 27 hb61 (fun _ hq => ix 57 28 29 b67 o68 103 7 56 hi65) ?_
       refine Dg 6 31 0 (.pointer (some ⟨b67, (o68 + (s27 : Int).toNat * 7), none⟩)) 2 true 27 hb61 (fun _ hq => fa 103 30 0 0 2 b67 (o68 + (s27 : Int).toNat * 7) (o68 + (s27 : Int).toNat * 7)) ?_
       refine Dg 7 32 27 _ 2 true 27 hb61 (fun _ hq => lx 27 31 0 7 true 2 (.agg (kRef x63.From)) (hq.1.1 _ _ hF73) hc76) ?_
       refine Dg 8 33 57 _ 2 true 27 hb61 (fun _ hq => mv 1 (.slice (some ⟨b67, o68, none⟩) x1.length n1_0) e32) ?_
       refine Dg 9 34 3 _ 2 true 27 hb61 (fun _ hq => mv 6 (vi s27) e34) ?_
       refine Dg 10 35 3 (vi (W64 (s27 - 1))) 2 true 27 hb61 (fun _ hq => run_sub (t := 3) (t' := 3) (x := (.tmp 34)) (y := (.const (vi 1))) (k := .i64) (a := s27) (b := 1) rfl rfl) ?_
       obtain ⟨x77, hx78, h80⟩ := bind_some h66
       obtain ⟨hi79, hx78'⟩ := idx_spec hx78
       have hc82 := hE74 _ _ hx78'
       refine Dg 11 36 0 (.pointer (some ⟨b67, (o68 + ((W64 (s27 - 1)) : Int).toNat * 7), none⟩)) 2 true 27 hb61 (fun _ hq => ix 57 33 35 b67 o68 103 7 56 hi79) ?_
       refine Dg 12 37 0 (.pointer (some ⟨b67, ((o68 + ((W64 (s27 - 1)) : Int).toNat * 7) + 2), none⟩)) 2 true 27 hb61 (fun _ hq => fa 103 36 1 2 2 b67 (o68 + ((W64 (s27 - 1)) : Int).toNat * 7) ((o68 + ((W64 (s27 - 1)) : Int).toNat * 7) + 2)) ?_
       refine Dg 13 38 27 _ 2 true 27 hb61 (fun _ hq => lx 27 37 2 7 true 2 (.agg (kRef x77.To)) (hq.1.1 _ _ hF73) hc82) ?_
       refine Dg 14 39 4 (.bool (!((x63.From.Log == x77.To.Log) && ((x63.From.Line == x77.To.Line) && true)))) 2 true 27 hb61 (fun _ hq => run_nes (t := 27) (t' := 27) (x := (.tmp 32)) (y := (.tmp 38)) (xs := (kRef x63.From)) (ys := (kRef x77.To)) (b := ((x63.From.Log == x77.To.Log) && ((x63.From.Line == x77.To.Line) && true))) rfl rfl (by kernel_rfl) (by kernel_rfl)) ?_
       refine Dt 15 40 4 _ (fun _ hq => p1 27 (.tmp 39) (.const (.bool false)) (.bool (!((x63.From.Log == x77.To.Log) && ((x63.From.Line == x77.To.Line) && true)))) hb61) ?_
       obtain rfl := some_inj h80
       exact DWP.done (by kernel_rfl) ⟨F3, hw49, (Mem.le.refl _), e31, e32, e33, e34, rfl⟩
      ·have h83 := cond_f hj59 hb61
       refine Dk [(3, 28), (4, 29), (5, 30), (6, 31), (7, 32), (8, 33), (9, 34), (10, 35), (11, 36), (12, 37), (13, 38), (14, 39)] 2 true 27 hb61 ?_
       refine Dt 15 40 4 _ (fun _ hq => p0 27 (.tmp 39) (.const (.bool false)) (.bool false) hb61) ?_
       obtain rfl := some_inj h83
       exact DWP.done (by kernel_rfl) ⟨F3, hw49, (Mem.le.refl _), e31, e32, e33, e34, rfl⟩
     ·rintro f w50 ⟨F5, hs51, le52, e54, e55, e56, e57, e58⟩
      refine thenQ_nrm ?_
      refine CWP.cond (t := j53) (by kernel_rfl) e58 (fun hb84 => ?_) (fun hb84 => ?_)
      ·have h85 := cond_t h60 hb84
       refine Sq (Rg [0] ?_)
       refine V 4 4 (mc (.bool false) (.bool false)) ?_
       refine Nt ?_
       refine CWP.ret (by kernel_rfl) ?_
       refine thenQ_ret ?_
       refine blockQ_ret ?_
       refine thenQ_ret ?_
       refine thenQ_ret ?_
       refine blockQ_ret ?_
       have hret := iter_ret h85 hnx45
       subst hret
       refine .inr ?_
       refine thenQ_ret ?_
       have hfin := some_inj h26
       subst hfin
       exact ⟨e54, (.bool false), res_of (l := [.tmp 4]) (by kernel_rfl) (vs := [(.bool false)]) ⟨rfl, trivial⟩, (.bool false), F5, rfl, hs51.clear, rfl⟩
      ·have h86 := cond_f h60 hb84
       refine Sc ?_
       refine thenQ_nrm ?_
       refine Sq ?_
       obtain ⟨j92, hj98, h99⟩ := bind_some h86
       refine CWP.regionD (by kernel_rfl) (by kernel_rfl) (by kernel_rfl) (by kernel_rfl) (z := 13) (F := F5) (Lc := []) (Lz := []) (l := [false, false, false, false, false, false, false, false, false, false, false, false, false]) (fuel := 13) (by kernel_rfl) (by kernel_rfl) hs51 (by simp) (by simp) (fun f w => ∃ (F6 : Mem), HS w0 F0 w F6 [] ∧ Mem.le F5 F6 ∧ f.d = [] ∧ f 1 = (.slice a1_0 x1.length n1_0) ∧ f 5 = (.slice ar15_0_0 r15.length nr15_0_0) ∧ f 6 = (vi s27) ∧ f 7 = (.bool j92)) (fun wd87 hw88 => ?_) ?_
       ·refine Dt 0 41 3 _ (fun _ hq => mv 6 (vi s27) e57) ?_
        refine Dt 1 42 4 (.bool (decide (s27 > 0))) (fun _ hq => run_gtr (t := 3) (t' := 3) (x := (.tmp 41)) (y := (.const (vi 0))) (k := .i64) (a := s27) (b := 0) rfl rfl) ?_
        refine Dt 2 43 4 _ (fun _ hq => mv 42 (.bool (decide (s27 > 0)))) ?_
        refine DWP.split (decide (s27 > 0)) (fun hb100 => ?_) (fun hb100 => ?_)
        ·have h101 := cond_t hj98 hb100
         refine Dg 3 44 57 _ 2 true 43 hb100 (fun _ hq => mv 1 (.slice a1_0 x1.length n1_0) e55) ?_
         refine Dg 4 45 3 _ 2 true 43 hb100 (fun _ hq => mv 6 (vi s27) e57) ?_
         obtain ⟨x102, hx103, h105⟩ := bind_some h101
         obtain ⟨hi104, hx103'⟩ := idx_spec hx103
         obtain ⟨b106, o107, C108, E109, fz110, rfl, hF112, hE113⟩ := SlA.open (SlA.mono hs1_0 (((le6.trans le21).trans le30).trans le52)) hx103'
         have hc115 := hE113 _ _ hx103'
         refine Dg 5 46 0 (.pointer (some ⟨b106, (o107 + (s27 : Int).toNat * 7), none⟩)) 2 true 43 hb100 (fun _ hq => ix 57 44 45 b106 o107 103 7 56 hi104) ?_
         refine Dg 6 47 103 _ 2 true 43 hb100 (fun _ hq => lx 103 46 0 7 true 7 (.agg (kBound x102)) (hq.1.1 _ _ hF112) hc115) ?_
         refine Dg 7 48 57 _ 2 true 43 hb100 (fun _ hq => mv 1 (.slice (some ⟨b106, o107, none⟩) x1.length n1_0) e55) ?_
         obtain ⟨x116, hx117, h119⟩ := bind_some h105
         obtain ⟨hi118, hx117'⟩ := idx_spec hx117
         have hc121 := hE113 _ _ hx117'
         refine Dg 8 49 0 (.pointer (some ⟨b106, (o107 + (0 : Int).toNat * 7), none⟩)) 2 true 43 hb100 (fun _ hq => run_index (t := 57) (x := (.tmp 48)) (y := (.const (vi 0))) (b := b106) (o := o107) (E := 103) (s := 7) (by_ := 56) rfl rfl (by kernel_rfl) hi118) ?_
         refine Dg 9 50 103 _ 2 true 43 hb100 (fun _ hq => lx 103 49 0 7 true 7 (.agg (kBound x116)) (hq.1.1 _ _ hF112) hc121) ?_
         refine Dg 10 51 4 (.bool (((x102.From.Log == x116.From.Log) && ((x102.From.Line == x116.From.Line) && true)) && (((x102.To.Log == x116.To.Log) && ((x102.To.Line == x116.To.Line) && true)) && ((x102.Most == x116.Most) && ((x102.Kind == x116.Kind) && ((x102.ID == x116.ID) && true)))))) 2 true 43 hb100 (fun _ hq => run_eqs (t := 103) (t' := 103) (x := (.tmp 47)) (y := (.tmp 50)) (xs := (kBound x102)) (ys := (kBound x116)) (b := (((x102.From.Log == x116.From.Log) && ((x102.From.Line == x116.From.Line) && true)) && (((x102.To.Log == x116.To.Log) && ((x102.To.Line == x116.To.Line) && true)) && ((x102.Most == x116.Most) && ((x102.Kind == x116.Kind) && ((x102.ID == x116.ID) && true)))))) rfl rfl (by kernel_rfl) (by kernel_rfl)) ?_
         refine Dt 11 52 4 _ (fun _ hq => p1 43 (.tmp 51) (.const (.bool false)) (.bool (((x102.From.Log == x116.From.Log) && ((x102.From.Line == x116.From.Line) && true)) && (((x102.To.Log == x116.To.Log) && ((x102.To.Line == x116.To.Line) && true)) && ((x102.Most == x116.Most) && ((x102.Kind == x116.Kind) && ((x102.ID == x116.ID) && true)))))) hb100) ?_
         refine Dt 12 7 4 _ (fun _ hq => ma 52 (.bool (((x102.From.Log == x116.From.Log) && ((x102.From.Line == x116.From.Line) && true)) && (((x102.To.Log == x116.To.Log) && ((x102.To.Line == x116.To.Line) && true)) && ((x102.Most == x116.Most) && ((x102.Kind == x116.Kind) && ((x102.ID == x116.ID) && true))))))) ?_
         obtain rfl := some_inj h119
         exact DWP.done (by kernel_rfl) ⟨F5, hw88, (Mem.le.refl _), e54, e55, e56, e57, rfl⟩
        ·have h122 := cond_f hj98 hb100
         refine Dk [(3, 44), (4, 45), (5, 46), (6, 47), (7, 48), (8, 49), (9, 50), (10, 51)] 2 true 43 hb100 ?_
         refine Dt 11 52 4 _ (fun _ hq => p0 43 (.tmp 51) (.const (.bool false)) (.bool false) hb100) ?_
         refine Dt 12 7 4 _ (fun _ hq => ma 52 (.bool false)) ?_
         obtain rfl := some_inj h122
         exact DWP.done (by kernel_rfl) ⟨F5, hw88, (Mem.le.refl _), e54, e55, e56, e57, rfl⟩
       ·rintro f w89 ⟨F6, hs90, le91, e93, e94, e95, e96, e97⟩
        refine thenQ_nrm ?_
        refine Sq ?_
        refine Sq (Rg [0] ?_)
        refine V 8 3 (mc (vi 0) (vi 0)) ?_
        refine Nt ?_
        obtain ⟨o123, ho124, h125⟩ := bind_some h99
        refine CWP.cut (fun f w => ∃ (s136 : (Bool × Int)) (F8 : Mem), o123 = .done s136 ∧ HS w0 F0 w F8 [] ∧ Mem.le F6 F8 ∧ f.d = [] ∧ f 1 = (.slice a1_0 x1.length n1_0) ∧ f 5 = (.slice ar15_0_0 r15.length nr15_0_0) ∧ f 6 = (vi s27) ∧ f 7 = (.bool s136.1)) ?_ ?_
        ·refine Bk ?_
         refine CWP.loop (by kernel_rfl) (fun m f w => ∃ (s126 : (Bool × Int)) (F7 : Mem), iter (ref03_chained_L1 N x0 x1 r15 s27 j53 j92) m s126 = some o123 ∧ HS w0 F0 w F7 [] ∧ Mem.le F6 F7 ∧ f.d = [] ∧ f 1 = (.slice a1_0 x1.length n1_0) ∧ f 5 = (.slice ar15_0_0 r15.length nr15_0_0) ∧ f 6 = (vi s27) ∧ f 7 = (.bool s126.1) ∧ f 8 = (vi s126.2)) N ⟨(j92, 0), F6, ho124, hs90, (Mem.le.refl _), e93, e94, e95, e96, e97, rfl⟩ ?_
         rintro m145 f w127 ⟨s126, F7, hit146, hs128, le129, e130, e131, e132, e133, e134, e135⟩
         obtain ⟨m147, fl148, rfl, hb149, hnx150⟩ := iter_step hit146
         refine Sq ?_
         refine Sq (Rg [0, 1, 2, 3, 4, 5, 6, 7] ?_)
         refine RWP.cut (fun f w => ∃ (F9 : Mem), HS w0 F0 w F9 [] ∧ Mem.le F7 F9 ∧ f.d = [] ∧ f 1 = (.slice a1_0 x1.length n1_0) ∧ f 5 = (.slice ar15_0_0 r15.length nr15_0_0) ∧ f 6 = (vi s27) ∧ f 7 = (.bool s126.1) ∧ f 8 = (vi s126.2) ∧ f 60 = (.bool ((decide (s126.2 < (r15.length : Int))) && (!s126.1)))) ?_ ?_
         ·refine V 53 3 (mv 8 (vi s126.2) e135) ?_
          refine V 54 57 (mv 5 (.slice ar15_0_0 r15.length nr15_0_0) e132) ?_
          refine V 55 3 (ln 54 57 ar15_0_0 r15.length nr15_0_0 103 7 56) ?_
          refine V 56 4 (run_lss (t := 3) (t' := 3) (x := (.tmp 53)) (y := (.tmp 55)) (k := .i64) (a := s126.2) (b := (r15.length : Int)) rfl rfl) ?_
          refine V 57 4 (mv 56 (.bool (decide (s126.2 < (r15.length : Int))))) ?_
          refine RWP.split (decide (s126.2 < (r15.length : Int))) (fun hb161 => ?_) (fun hb161 => ?_)
          ·refine Vg 58 4 4 true 57 hb161 (mv 7 (.bool s126.1) e134) ?_
           refine Vg 59 4 4 true 57 hb161 (run_not (t := 4) (x := (.tmp 58)) (a := s126.1) rfl) ?_
           refine V 60 4 (p1 57 (.tmp 59) (.const (.bool false)) (.bool (!s126.1)) hb161) ?_
           exact RWP.nil ⟨rfl, F7, hs128, (Mem.le.refl _), e130, e131, e132, e133, e134, e135, (congrArg Value.bool (and_t hb161 (rfl)))⟩
          ·refine Sk [58, 59] 4 true 57 hb161 ?_
           refine V 60 4 (p0 57 (.tmp 59) (.const (.bool false)) (.bool false) hb161) ?_
           exact RWP.nil ⟨rfl, F7, hs128, (Mem.le.refl _), e130, e131, e132, e133, e134, e135, (congrArg Value.bool (and_f hb161 (rfl)))⟩
         ·rintro f w151 ⟨F9, hs152, le153, e154, e155, e156, e157, e158, e159, e160⟩
          refine thenQ_nrm ?_
          refine CWP.cond (t := ((decide (s126.2 < (r15.length : Int))) && (!s126.1))) (by kernel_rfl) e160 (fun hb162 => ?_) (fun hb162 => ?_)
          ·have h163 := cond_t hb149 hb162
           refine Sc ?_
           refine thenQ_nrm ?_
           refine Sq ?_
           refine Bk ?_
           obtain ⟨j169, hj176, h177⟩ := bind_some h163
           refine CWP.regionD (by kernel_rfl) (by kernel_rfl) (by kernel_rfl) (by kernel_rfl) (z := 10) (F := F9) (Lc := []) (Lz := []) (l := [false, false, false, false, false, false, false, false, false, false]) (fuel := 10) (by kernel_rfl) (by kernel_rfl) hs152 (by simp) (by simp) (fun f w => ∃ (F10 : Mem), HS w0 F0 w F10 [] ∧ Mem.le F9 F10 ∧ f.d = [] ∧ f 1 = (.slice a1_0 x1.length n1_0) ∧ f 5 = (.slice ar15_0_0 r15.length nr15_0_0) ∧ f 6 = (vi s27) ∧ f 7 = (.bool j169) ∧ f 8 = (vi s126.2)) (fun wd164 hw165 => ?_) ?_
           ·refine Dt 0 63 57 _ (fun _ hq => mv 5 (.slice ar15_0_0 r15.length nr15_0_0) e156) ?_
            refine Dt 1 64 3 _ (fun _ hq => mv 8 (vi s126.2) e159) ?_
            obtain ⟨x178, hx179, h181⟩ := bind_some hj176
            obtain ⟨hi180, hx179'⟩ := idx_spec hx179
            obtain ⟨b182, o183, C184, E185, fz186, rfl, hF188, hE189⟩ := SlA.open (SlA.mono hsr15_0_0 ((((le30.trans le52).trans le91).trans le129).trans le153)) hx179'
            have hc191 := hE189 _ _ hx179'
            refine Dt 2 65 0 (.pointer (some ⟨b182, (o183 + (s126.2 : Int).toNat * 7), none⟩)) (fun _ hq => ix 57 63 64 b182 o183 103 7 56 hi180) ?_
            refine Dt 3 66 103 _ (fun _ hq => lx 103 65 0 7 true 7 (.agg (kBound x178)) (hq.1.1 _ _ hF188) hc191) ?_
            refine Dt 4 67 57 _ (fun _ hq => mv 1 (.slice a1_0 x1.length n1_0) e155) ?_
            refine Dt 5 68 3 _ (fun _ hq => mv 6 (vi s27) e157) ?_
            obtain ⟨x192, hx193, h195⟩ := bind_some h181
            obtain ⟨hi194, hx193'⟩ := idx_spec hx193
            obtain ⟨b196, o197, C198, E199, fz200, rfl, hF202, hE203⟩ := SlA.open (SlA.mono hs1_0 ((((((le6.trans le21).trans le30).trans le52).trans le91).trans le129).trans le153)) hx193'
            have hc205 := hE203 _ _ hx193'
            refine Dt 6 69 0 (.pointer (some ⟨b196, (o197 + (s27 : Int).toNat * 7), none⟩)) (fun _ hq => ix 57 67 68 b196 o197 103 7 56 hi194) ?_
            refine Dt 7 70 103 _ (fun _ hq => lx 103 69 0 7 true 7 (.agg (kBound x192)) (hq.1.1 _ _ hF202) hc205) ?_
            refine Dt 8 71 4 (.bool (((x178.From.Log == x192.From.Log) && ((x178.From.Line == x192.From.Line) && true)) && (((x178.To.Log == x192.To.Log) && ((x178.To.Line == x192.To.Line) && true)) && ((x178.Most == x192.Most) && ((x178.Kind == x192.Kind) && ((x178.ID == x192.ID) && true)))))) (fun _ hq => run_eqs (t := 103) (t' := 103) (x := (.tmp 66)) (y := (.tmp 70)) (xs := (kBound x178)) (ys := (kBound x192)) (b := (((x178.From.Log == x192.From.Log) && ((x178.From.Line == x192.From.Line) && true)) && (((x178.To.Log == x192.To.Log) && ((x178.To.Line == x192.To.Line) && true)) && ((x178.Most == x192.Most) && ((x178.Kind == x192.Kind) && ((x178.ID == x192.ID) && true)))))) rfl rfl (by kernel_rfl) (by kernel_rfl)) ?_
            refine Dt 9 7 4 _ (fun _ hq => ma 71 (.bool (((x178.From.Log == x192.From.Log) && ((x178.From.Line == x192.From.Line) && true)) && (((x178.To.Log == x192.To.Log) && ((x178.To.Line == x192.To.Line) && true)) && ((x178.Most == x192.Most) && ((x178.Kind == x192.Kind) && ((x178.ID == x192.ID) && true))))))) ?_
            obtain rfl := some_inj h195
            exact DWP.done (by kernel_rfl) ⟨F9, hw165, (Mem.le.refl _), e154, e155, e156, e157, rfl, e159⟩
           ·rintro f w166 ⟨F10, hs167, le168, e170, e171, e172, e173, e174, e175⟩
            refine blockQ_nrm ?_
            refine thenQ_nrm ?_
            refine Rg [0, 1, 2] ?_
            refine V 61 3 (mv 8 (vi s126.2) e175) ?_
            refine V 62 3 (run_add (t := 3) (t' := 3) (x := (.tmp 61)) (y := (.const (vi 1))) (k := .i64) (a := s126.2) (b := 1) rfl rfl) ?_
            refine V 8 3 (ma 62 (vi (W64 (s126.2 + 1)))) ?_
            refine RWP.nil ?_
            have hn206 := iter_next h177 hnx150
            exact ⟨m147, Nat.lt_succ_self _, (j169, (W64 (s126.2 + 1))), F10, hn206, hs167, ((le129.trans le153).trans le168), e170, e171, e172, e173, e174, rfl⟩
          ·have h207 := cond_f hb149 hb162
           refine CWP.exit (by kernel_rfl) ?_
           refine thenQ_ex ?_
           refine thenQ_ex ?_
           refine blockQ_hit rfl ?_
           have ho208 := iter_done h207 hnx150
           exact .inl ⟨rfl, (s126.1, s126.2), F9, ho208, hs152, (le129.trans le153), e154, e155, e156, e157, e158⟩
        ·rintro f w137 ⟨s136, F8, rfl, hs138, le139, e140, e141, e142, e143, e144⟩
         have h209 := k_done h125
         refine thenQ_nrm ?_
         refine Sq (Rg [0, 1] ?_)
         refine V 72 4 (mv 7 (.bool s136.1) e144) ?_
         refine V 73 4 (run_not (t := 4) (x := (.tmp 72)) (a := s136.1) rfl) ?_
         refine Nt ?_
         refine CWP.cond (t := (!s136.1)) (by kernel_rfl) rfl (fun hb210 => ?_) (fun hb210 => ?_)
         ·have h211 := cond_t h209 hb210
          refine Sq (Rg [0] ?_)
          refine V 4 4 (mc (.bool false) (.bool false)) ?_
          refine Nt ?_
          refine CWP.ret (by kernel_rfl) ?_
          refine blockQ_ret ?_
          refine thenQ_ret ?_
          refine thenQ_ret ?_
          refine blockQ_ret ?_
          have hret := iter_ret h211 hnx45
          subst hret
          refine .inr ?_
          refine thenQ_ret ?_
          have hfin := some_inj h26
          subst hfin
          exact ⟨e140, (.bool false), res_of (l := [.tmp 4]) (by kernel_rfl) (vs := [(.bool false)]) ⟨rfl, trivial⟩, (.bool false), F8, rfl, hs138.clear, rfl⟩
         ·have h212 := cond_f h209 hb210
          refine Sc ?_
          refine blockQ_nrm ?_
          refine thenQ_nrm ?_
          refine Rg [0, 1, 2] ?_
          refine V 23 3 (mv 6 (vi s27) e143) ?_
          refine V 24 3 (run_add (t := 3) (t' := 3) (x := (.tmp 23)) (y := (.const (vi 1))) (k := .i64) (a := s27) (b := 1) rfl rfl) ?_
          refine V 6 3 (ma 24 (vi (W64 (s27 + 1)))) ?_
          refine RWP.nil ?_
          have hn213 := iter_next h212 hnx45
          exact ⟨m42, Nat.lt_succ_self _, (W64 (s27 + 1)), F8, hn213, hs138, (((le30.trans le52).trans le91).trans le139), e140, e141, e142, rfl⟩
    ·have h214 := cond_f hb44 hb46
     refine CWP.exit (by kernel_rfl) ?_
     refine thenQ_ex ?_
     refine thenQ_ex ?_
     refine blockQ_hit rfl ?_
     have ho215 := iter_done h214 hnx45
     exact .inl ⟨rfl, s27, F3, ho215, hs29, le30, e31⟩
   ·rintro f w36 ⟨s35, F4, rfl, hs37, le38, e39⟩
    have h216 := k_done h26
    refine thenQ_nrm ?_
    refine Sq (Rg [0] ?_)
    refine V 4 4 (mc (.bool true) (.bool true)) ?_
    refine Nt ?_
    refine CWP.ret (by kernel_rfl) ?_
    have hfin := some_inj h216
    subst hfin
    exact ⟨e39, (.bool true), res_of (l := [.tmp 4]) (by kernel_rfl) (vs := [(.bool true)]) ⟨rfl, trivial⟩, (.bool true), F4, rfl, hs37.clear, rfl⟩
end Go.Proofs.Ythbcnabeabcmlaa
namespace Go.Proofs.Ythbcnabeabcmlaa
open Go.Proofs
def ref03_sum_L0 (N : Nat) (x0 : (List Bound)) : (Int × Int) → Option (Flow Int (Int × Int)) := fun s4 =>
 (bif (decide (s4.2 < (x0.length : Int))) then ((idx x0 s4.2).bind fun x26 => some (.next ((W64 (s4.1 + x26.Most)), (W64 (s4.2 + 1))))) else some (.done (s4.1, s4.2)))
def ref03_sum (N : Nat) (x0 : (List Bound)) : Option Int :=
 ((iter (ref03_sum_L0 N x0) N (0, 0)).bind fun o => o.k (fun r => some r) (fun s12 => some s12.1))
theorem co_ref03_sum : CallOk Try.prog 106 := fun _ _ => by kernel_rfl
set_option maxHeartbeats 4000000 in
set_option maxRecDepth 100000 in
theorem c_ref03_sum (N : Nat) (w0 : World) (F0 : Mem) (hF : ∀ b o, F0 b = some o → w0.heap[b]? = some o) (x0 : (List Bound)) (a0_0 : Option Addr) (n0_0 : Nat) (hb0_0 : LC x0.length n0_0) (hs0_0 : SlA tBound F0 a0_0 x0) (r : Int) (h : ref03_sum N x0 = some r) :
  Calls Try.prog 106 ([(.slice a0_0 x0.length n0_0)] : List Value).toArray w0 (FRet w0 F0 fun F' v => v = (vi r)) := by
 have hs0 := HS.start hF
 refine calls_of (n := 19) (c := bodyOf Try.f106) Try.func106 (by kernel_rfl) (by kernel_rfl) (by kernel_rfl) ?_
 refine Sq (Rg [0] ?_)
 refine V 2 3 (mc (vi 0) (vi 0)) ?_
 refine Nss (Rg [0] ?_)
 refine V 3 3 (mc (vi 0) (vi 0)) ?_
 refine Nss ?_
 refine Sq (Rg [0] ?_)
 refine V 4 3 (mc (vi 0) (vi 0)) ?_
 refine Nt ?_
 obtain ⟨o1, ho2, h3⟩ := bind_some h
 refine CWP.cut (fun f w => ∃ (s12 : (Int × Int)) (F2 : Mem), o1 = .done s12 ∧ HS w0 F0 w F2 [] ∧ Mem.le F0 F2 ∧ f.d = [] ∧ f 3 = (vi s12.1)) ?_ ?_
 ·refine Bk ?_
  refine CWP.loop (by kernel_rfl) (fun m f w => ∃ (s4 : (Int × Int)) (F1 : Mem), iter (ref03_sum_L0 N x0) m s4 = some o1 ∧ HS w0 F0 w F1 [] ∧ Mem.le F0 F1 ∧ f.d = [] ∧ f 0 = (.slice a0_0 x0.length n0_0) ∧ f 3 = (vi s4.1) ∧ f 4 = (vi s4.2)) N ⟨(0, 0), F0, ho2, hs0, (Mem.le.refl _), rfl, rfl, rfl, rfl⟩ ?_
  rintro m18 f w5 ⟨s4, F1, hit19, hs6, le7, e8, e9, e10, e11⟩
  obtain ⟨m20, fl21, rfl, hb22, hnx23⟩ := iter_step hit19
  refine Sq ?_
  refine Sq (Rg [0, 1, 2, 3] ?_)
  refine V 5 3 (mv 4 (vi s4.2) e11) ?_
  refine V 6 57 (mv 0 (.slice a0_0 x0.length n0_0) e9) ?_
  refine V 7 3 (ln 6 57 a0_0 x0.length n0_0 103 7 56) ?_
  refine V 8 4 (run_lss (t := 3) (t' := 3) (x := (.tmp 5)) (y := (.tmp 7)) (k := .i64) (a := s4.2) (b := (x0.length : Int)) rfl rfl) ?_
  refine Nt ?_
  refine CWP.cond (t := (decide (s4.2 < (x0.length : Int)))) (by kernel_rfl) rfl (fun hb24 => ?_) (fun hb24 => ?_)
  ·have h25 := cond_t hb22 hb24
   refine Sc ?_
   refine thenQ_nrm ?_
   refine Sq ?_
   refine Bk ?_
   refine Rg [0, 1, 2, 3, 4, 5, 6, 7] ?_
   refine V 11 3 (mv 3 (vi s4.1) e10) ?_
   refine V 12 57 (mv 0 (.slice a0_0 x0.length n0_0) e9) ?_
   refine V 13 3 (mv 4 (vi s4.2) e11) ?_
   obtain ⟨x26, hx27, h29⟩ := bind_some h25
   obtain ⟨hi28, hx27'⟩ := idx_spec hx27
   obtain ⟨b30, o31, C32, E33, fz34, rfl, hF36, hE37⟩ := SlA.open (SlA.mono hs0_0 le7) hx27'
   have hc39 := hE37 _ _ hx27'
   refine V 14 0 (ix 57 12 13 b30 o31 103 7 56 hi28) ?_
   refine V 15 0 (fa 103 14 2 4 1 b30 (o31 + (s4.2 : Int).toNat * 7) ((o31 + (s4.2 : Int).toNat * 7) + 4)) ?_
   refine V 16 3 (lx 3 15 4 7 false 1 (vi x26.Most) (hs6.pers _ _ hF36) hc39) ?_
   refine V 17 3 (run_add (t := 3) (t' := 3) (x := (.tmp 11)) (y := (.tmp 16)) (k := .i64) (a := s4.1) (b := x26.Most) rfl rfl) ?_
   refine V 3 3 (ma 17 (vi (W64 (s4.1 + x26.Most)))) ?_
   refine RWP.nil ?_
   refine blockQ_nrm ?_
   refine thenQ_nrm ?_
   refine Rg [0, 1, 2] ?_
   refine V 9 3 (mv 4 (vi s4.2) e11) ?_
   refine V 10 3 (run_add (t := 3) (t' := 3) (x := (.tmp 9)) (y := (.const (vi 1))) (k := .i64) (a := s4.2) (b := 1) rfl rfl) ?_
   refine V 4 3 (ma 10 (vi (W64 (s4.2 + 1)))) ?_
   refine RWP.nil ?_
   have hn40 := iter_next h29 hnx23
   exact ⟨m20, Nat.lt_succ_self _, ((W64 (s4.1 + x26.Most)), (W64 (s4.2 + 1))), F1, hn40, hs6, le7, e8, e9, rfl, rfl⟩
  ·have h41 := cond_f hb22 hb24
   refine CWP.exit (by kernel_rfl) ?_
   refine thenQ_ex ?_
   refine thenQ_ex ?_
   refine blockQ_hit rfl ?_
   have ho42 := iter_done h41 hnx23
   exact .inl ⟨rfl, (s4.1, s4.2), F1, ho42, hs6, le7, e8, e10⟩
 ·rintro f w13 ⟨s12, F2, rfl, hs14, le15, e16, e17⟩
  have h43 := k_done h3
  refine thenQ_nrm ?_
  refine Sq (Rg [0, 1] ?_)
  refine V 18 3 (mv 3 (vi s12.1) e17) ?_
  refine V 2 3 (ma 18 (vi s12.1)) ?_
  refine Nt ?_
  refine CWP.ret (by kernel_rfl) ?_
  have hfin := some_inj h43
  subst hfin
  exact ⟨e16, (vi s12.1), res_of (l := [.tmp 2]) (by kernel_rfl) (vs := [(vi s12.1)]) ⟨rfl, trivial⟩, (vi s12.1), F2, rfl, hs14.clear, rfl⟩
end Go.Proofs.Ythbcnabeabcmlaa
namespace Go.Proofs.Ythbcnabeabcmlaa
open Go.Proofs
def ref03_ValidLoop (N : Nat) (x0 : System) (x1 : (List Bound)) : Option (Bool × Int) :=
 ((ref03_Check N x0).bind fun r4 => (bif (r4 != 0) then some (false, r4) else (((ref03_chained N x0 x1).bind fun r26 => (bif r26 then ((idx x1 (W64 ((x1.length : Int) - 1))).bind fun x36 => ((idx x1 0).bind fun x50 => (bif ((x36.To.Log == x50.From.Log) && ((x36.To.Line == x50.From.Line) && true)) then ((ref03_sum N x1).bind fun r58 => some (decide (r58 < 0))) else some false))) else some false)).bind fun j20 => some (j20, 0))))
theorem co_ref03_ValidLoop : CallOk Try.prog 60 := fun _ _ => by kernel_rfl
set_option maxHeartbeats 4000000 in
set_option maxRecDepth 100000 in
theorem c_ref03_ValidLoop (N : Nat) (w0 : World) (F0 : Mem) (hF : ∀ b o, F0 b = some o → w0.heap[b]? = some o) (x0 : System) (a0_0 : Option Addr) (n0_0 : Nat) (hb0_0 : LC x0.Tracks.length n0_0) (hs0_0 : SlA tTrack F0 a0_0 x0.Tracks) (a0_1 : Option Addr) (n0_1 : Nat) (hb0_1 : LC x0.Ties.length n0_1) (hs0_1 : SlA tTie F0 a0_1 x0.Ties) (x1 : (List Bound)) (a1_0 : Option Addr) (n1_0 : Nat) (hb1_0 : LC x1.length n1_0) (hs1_0 : SlA tBound F0 a1_0 x1) (r : (Bool × Int)) (h : ref03_ValidLoop N x0 x1 = some r) :
  Calls Try.prog 60 ([(.agg (kSystem x0 a0_0 n0_0 a0_1 n0_1)), (.slice a1_0 x1.length n1_0)] : List Value).toArray w0 (FRet w0 F0 fun F' v => v = (.tuple #[(.bool r.1), (vi r.2)])) := by
 have hs0 := HS.start hF
 refine calls_of (n := 34) (c := bodyOf Try.f60) Try.func60 (by kernel_rfl) (by kernel_rfl) (by kernel_rfl) ?_
 refine Sq (Rg [0, 1, 2] ?_)
 refine Bx 2 0 0 25 (kSystem x0 a0_0 n0_0 a0_1 n0_1) hs0 (fun b1 w2 (hs3 : HS w0 F0 w2 F0 [(sb b1 (kSystem x0 a0_0 n0_0 a0_1 n0_1) 25)]) => ?_)
 refine V 4 4 (mc (.bool false) (.bool false)) ?_
 refine V 5 30 (mc (vi 0) (vi 0)) ?_
 refine Nss (Rg [0, 1, 2] ?_)
 refine V 7 25 (ld 25 2 b1 0 true 3 (.agg (kSystem x0 a0_0 n0_0 a0_1 n0_1)) (hs3.ownAt (k := 0) rfl)) ?_
 obtain ⟨r4, hr5, h6⟩ := bind_some h
 refine Cl 8 30 40 #[(.tmp 7)] #[25] co_ref03_Check hs3 (c_ref03_Check N w2 F0 hs3.pers (x0) a0_0 n0_0 hb0_0 hs0_0 a0_1 n0_1 hb0_1 hs0_1 _ hr5) ?_
 intro v7 F1 w8 hs9 le10 hp11
 obtain rfl := hp11
 refine V 6 30 (ma 8 (vi r4)) ?_
 refine Nss ?_
 refine Sq (Rg [0, 1] ?_)
 refine V 9 30 (mv 6 (vi r4)) ?_
 refine V 10 4 (run_neq (t := 30) (t' := 30) (x := (.tmp 9)) (y := (.const (vi 0))) (k := .i64) (a := r4) (b := 0) rfl rfl) ?_
 refine Nt ?_
 refine CWP.cond (t := (r4 != 0)) (by kernel_rfl) rfl (fun hb12 => ?_) (fun hb12 => ?_)
 ·have h13 := cond_t h6 hb12
  refine Sq (Rg [0, 1, 2] ?_)
  refine V 11 30 (mv 6 (vi r4)) ?_
  refine V 4 4 (mc (.bool false) (.bool false)) ?_
  refine V 5 30 (ma 11 (vi r4)) ?_
  refine Nt ?_
  refine CWP.ret (by kernel_rfl) ?_
  refine thenQ_ret ?_
  have hfin := some_inj h13
  subst hfin
  exact ⟨rfl, (.tuple #[(.bool false), (vi r4)]), res_of (l := [.tmp 4, .tmp 5]) (by kernel_rfl) (vs := [(.bool false), (vi r4)]) ⟨rfl, ⟨rfl, trivial⟩⟩, (.tuple #[(.bool false), (vi r4)]), F1, rfl, hs9.clear, rfl⟩
 ·have h14 := cond_f h6 hb12
  refine Sc ?_
  refine thenQ_nrm ?_
  refine Sq ?_
  obtain ⟨j20, hj24, h25⟩ := bind_some h14
  refine CWP.regionD (by kernel_rfl) (by kernel_rfl) (by kernel_rfl) (by kernel_rfl) (z := 24) (F := F1) (Lc := [(sb b1 (kSystem x0 a0_0 n0_0 a0_1 n0_1) 25)]) (Lz := []) (l := [false, false, false, false, false, false, false, false, false, false, false, false, false, false, false, false, false, false, false, false, false, false, false, false]) (fuel := 24) (by kernel_rfl) (by kernel_rfl) hs9 (by simp) (by simp) (fun f w => ∃ (F2 : Mem), HS w0 F0 w F2 [] ∧ Mem.le F1 F2 ∧ f.d = [] ∧ f 4 = (.bool j20) ∧ f 5 = (vi 0)) (fun wd15 hw16 => ?_) ?_
  ·refine Dtl 0 12 25 _ [tt, ff, ff, ff, ff, ff, ff, ff, ff, ff, ff, ff, ff, ff, ff, ff, ff, ff, ff, ff, ff, ff, ff, ff] (fun _ hq => ld 25 2 b1 0 true 3 (.agg (kSystem x0 a0_0 n0_0 a0_1 n0_1)) (hq.1.2 0 _ _ rfl)) ?_
   refine Dtl 1 13 57 _ [tt, tt, ff, ff, ff, ff, ff, ff, ff, ff, ff, ff, ff, ff, ff, ff, ff, ff, ff, ff, ff, ff, ff, ff] (fun _ hq => mv 1 (.slice a1_0 x1.length n1_0)) ?_
   refine DWP.one (i := 2) (by kernel_rfl) ?_
   obtain ⟨r26, hr27, h28⟩ := bind_some hj24
   refine DStep.call (l' := [true, true, true, false, false, false, false, false, false, false, false, false, false, false, false, false, false, false, false, false, false, false, false, false]) (zd := true) (by kernel_rfl) (by kernel_rfl) (by kernel_rfl) (dst := (some 14)) (ty := 4) (g := none) (by kernel_rfl) rfl (f0 := (.func 105)) (aos := #[(.tmp 12), (.tmp 13)]) (ats := #[25, 57]) (fid := 105) (first := #[]) (cap := #[]) (args := [(.agg (kSystem x0 a0_0 n0_0 a0_1 n0_1)), (.slice a1_0 x1.length n1_0)]) rfl co_ref03_chained (rfl) hw16 (c_ref03_chained N wd15 F1 hw16.pers (x0) a0_0 n0_0 hb0_0 (SlA.mono hs0_0 le10) a0_1 n0_1 hb0_1 (SlA.mono hs0_1 le10) (x1) a1_0 n1_0 hb1_0 (SlA.mono hs1_0 le10) _ hr27) ?_
   intro v29 F3 w30 hs31 le32 hp33
   obtain rfl := hp33
   refine Dtl 3 15 4 _ [tt, tt, tt, tt, ff, ff, ff, ff, ff, ff, ff, ff, ff, ff, ff, ff, ff, ff, ff, ff, ff, ff, ff, ff] (fun _ hq => mv 14 (.bool r26)) ?_
   refine DWP.split r26 (fun hb34 => ?_) (fun hb34 => ?_)
   ·have h35 := cond_t h28 hb34
    refine Dgl 4 16 57 _ [tt, tt, tt, tt, tt, ff, ff, ff, ff, ff, ff, ff, ff, ff, ff, ff, ff, ff, ff, ff, ff, ff, ff, ff] 3 true 15 hb34 (fun _ hq => mv 1 (.slice a1_0 x1.length n1_0)) ?_
    refine Dgl 5 17 57 _ [tt, tt, tt, tt, tt, tt, ff, ff, ff, ff, ff, ff, ff, ff, ff, ff, ff, ff, ff, ff, ff, ff, ff, ff] 3 true 15 hb34 (fun _ hq => mv 1 (.slice a1_0 x1.length n1_0)) ?_
    refine Dgl 6 18 3 (vi (x1.length : Int)) [tt, tt, tt, tt, tt, tt, tt, ff, ff, ff, ff, ff, ff, ff, ff, ff, ff, ff, ff, ff, ff, ff, ff, ff] 3 true 15 hb34 (fun _ hq => ln 17 57 a1_0 x1.length n1_0 103 7 56) ?_
    refine Dgl 7 19 3 (vi (W64 ((x1.length : Int) - 1))) [tt, tt, tt, tt, tt, tt, tt, tt, ff, ff, ff, ff, ff, ff, ff, ff, ff, ff, ff, ff, ff, ff, ff, ff] 3 true 15 hb34 (fun _ hq => run_sub (t := 3) (t' := 3) (x := (.tmp 18)) (y := (.const (vi 1))) (k := .i64) (a := (x1.length : Int)) (b := 1) rfl rfl) ?_
    obtain ⟨x36, hx37, h39⟩ := bind_some h35
    obtain ⟨hi38, hx37'⟩ := idx_spec hx37
    obtain ⟨b40, o41, C42, E43, fz44, rfl, hF46, hE47⟩ := SlA.open (SlA.mono hs1_0 le10) hx37'
    have hc49 := hE47 _ _ hx37'
    refine Dgl 8 20 0 (.pointer (some ⟨b40, (o41 + ((W64 ((x1.length : Int) - 1)) : Int).toNat * 7), none⟩)) [tt, tt, tt, tt, tt, tt, tt, tt, tt, ff, ff, ff, ff, ff, ff, ff, ff, ff, ff, ff, ff, ff, ff, ff] 3 true 15 hb34 (fun _ hq => ix 57 16 19 b40 o41 103 7 56 hi38) ?_
    refine Dgl 9 21 0 (.pointer (some ⟨b40, ((o41 + ((W64 ((x1.length : Int) - 1)) : Int).toNat * 7) + 2), none⟩)) [tt, tt, tt, tt, tt, tt, tt, tt, tt, tt, ff, ff, ff, ff, ff, ff, ff, ff, ff, ff, ff, ff, ff, ff] 3 true 15 hb34 (fun _ hq => fa 103 20 1 2 2 b40 (o41 + ((W64 ((x1.length : Int) - 1)) : Int).toNat * 7) ((o41 + ((W64 ((x1.length : Int) - 1)) : Int).toNat * 7) + 2)) ?_
    refine Dgl 10 22 27 _ [tt, tt, tt, tt, tt, tt, tt, tt, tt, tt, tt, ff, ff, ff, ff, ff, ff, ff, ff, ff, ff, ff, ff, ff] 3 true 15 hb34 (fun _ hq => lx 27 21 2 7 true 2 (.agg (kRef x36.To)) (hq.1.1 _ _ hF46) hc49) ?_
    refine Dgl 11 23 57 _ [tt, tt, tt, tt, tt, tt, tt, tt, tt, tt, tt, tt, ff, ff, ff, ff, ff, ff, ff, ff, ff, ff, ff, ff] 3 true 15 hb34 (fun _ hq => mv 1 (.slice (some ⟨b40, o41, none⟩) x1.length n1_0)) ?_
    obtain ⟨x50, hx51, h53⟩ := bind_some h39
    obtain ⟨hi52, hx51'⟩ := idx_spec hx51
    have hc55 := hE47 _ _ hx51'
    refine Dgl 12 24 0 (.pointer (some ⟨b40, (o41 + (0 : Int).toNat * 7), none⟩)) [tt, tt, tt, tt, tt, tt, tt, tt, tt, tt, tt, tt, tt, ff, ff, ff, ff, ff, ff, ff, ff, ff, ff, ff] 3 true 15 hb34 (fun _ hq => run_index (t := 57) (x := (.tmp 23)) (y := (.const (vi 0))) (b := b40) (o := o41) (E := 103) (s := 7) (by_ := 56) rfl rfl (by kernel_rfl) hi52) ?_
    refine Dgl 13 25 0 (.pointer (some ⟨b40, (o41 + (0 : Int).toNat * 7), none⟩)) [tt, tt, tt, tt, tt, tt, tt, tt, tt, tt, tt, tt, tt, tt, ff, ff, ff, ff, ff, ff, ff, ff, ff, ff] 3 true 15 hb34 (fun _ hq => fa 103 24 0 0 2 b40 (o41 + (0 : Int).toNat * 7) (o41 + (0 : Int).toNat * 7)) ?_
    refine Dgl 14 26 27 _ [tt, tt, tt, tt, tt, tt, tt, tt, tt, tt, tt, tt, tt, tt, tt, ff, ff, ff, ff, ff, ff, ff, ff, ff] 3 true 15 hb34 (fun _ hq => lx 27 25 0 7 true 2 (.agg (kRef x50.From)) (hq.1.1 _ _ hF46) hc55) ?_
    refine Dgl 15 27 4 (.bool ((x36.To.Log == x50.From.Log) && ((x36.To.Line == x50.From.Line) && true))) [tt, tt, tt, tt, tt, tt, tt, tt, tt, tt, tt, tt, tt, tt, tt, tt, ff, ff, ff, ff, ff, ff, ff, ff] 3 true 15 hb34 (fun _ hq => run_eqs (t := 27) (t' := 27) (x := (.tmp 22)) (y := (.tmp 26)) (xs := (kRef x36.To)) (ys := (kRef x50.From)) (b := ((x36.To.Log == x50.From.Log) && ((x36.To.Line == x50.From.Line) && true))) rfl rfl (by kernel_rfl) (by kernel_rfl)) ?_
    refine Dtl 16 28 4 _ [tt, tt, tt, tt, tt, tt, tt, tt, tt, tt, tt, tt, tt, tt, tt, tt, tt, ff, ff, ff, ff, ff, ff, ff] (fun _ hq => p1 15 (.tmp 27) (.const (.bool false)) (.bool ((x36.To.Log == x50.From.Log) && ((x36.To.Line == x50.From.Line) && true))) hb34) ?_
    refine Dtl 17 29 4 _ [tt, tt, tt, tt, tt, tt, tt, tt, tt, tt, tt, tt, tt, tt, tt, tt, tt, tt, ff, ff, ff, ff, ff, ff] (fun _ hq => mv 28 (.bool ((x36.To.Log == x50.From.Log) && ((x36.To.Line == x50.From.Line) && true)))) ?_
    refine DWP.split ((x36.To.Log == x50.From.Log) && ((x36.To.Line == x50.From.Line) && true)) (fun hb56 => ?_) (fun hb56 => ?_)
    ·have h57 := cond_t h53 hb56
     refine Dgl 18 30 57 _ [tt, tt, tt, tt, tt, tt, tt, tt, tt, tt, tt, tt, tt, tt, tt, tt, tt, tt, tt, ff, ff, ff, ff, ff] 17 true 29 hb56 (fun _ hq => mv 1 (.slice (some ⟨b40, o41, none⟩) x1.length n1_0)) ?_
     refine DWP.one (i := 19) (by kernel_rfl) ?_
     obtain ⟨r58, hr59, h60⟩ := bind_some h57
     refine DStep.call (l' := [true, true, true, true, true, true, true, true, true, true, true, true, true, true, true, true, true, true, true, true, false, false, false, false]) (zd := true) (by kernel_rfl) (by kernel_rfl) (by kernel_rfl) (dst := (some 31)) (ty := 3) (g := (some (17, true))) (by kernel_rfl) (gd_y (d := 29) (by kernel_rfl) rfl hb56) (f0 := (.func 106)) (aos := #[(.tmp 30)]) (ats := #[57]) (fid := 106) (first := #[]) (cap := #[]) (args := [(.slice (some ⟨b40, o41, none⟩) x1.length n1_0)]) rfl co_ref03_sum (rfl) hs31 (c_ref03_sum N w30 F3 hs31.pers (x1) (some ⟨b40, o41, none⟩) n1_0 hb1_0 (SlA.mono hs1_0 (le10.trans le32)) _ hr59) ?_
     intro v61 F4 w62 hs63 le64 hp65
     obtain rfl := hp65
     refine Dgl 20 32 4 (.bool (decide (r58 < 0))) [tt, tt, tt, tt, tt, tt, tt, tt, tt, tt, tt, tt, tt, tt, tt, tt, tt, tt, tt, tt, tt, ff, ff, ff] 17 true 29 hb56 (fun _ hq => run_lss (t := 3) (t' := 3) (x := (.tmp 31)) (y := (.const (vi 0))) (k := .i64) (a := r58) (b := 0) rfl rfl) ?_
     refine Dtl 21 33 4 _ [tt, tt, tt, tt, tt, tt, tt, tt, tt, tt, tt, tt, tt, tt, tt, tt, tt, tt, tt, tt, tt, tt, ff, ff] (fun _ hq => p1 29 (.tmp 32) (.const (.bool false)) (.bool (decide (r58 < 0))) hb56) ?_
     refine Dtl 22 4 4 _ [tt, tt, tt, tt, tt, tt, tt, tt, tt, tt, tt, tt, tt, tt, tt, tt, tt, tt, tt, tt, tt, tt, tt, ff] (fun _ hq => ma 33 (.bool (decide (r58 < 0)))) ?_
     refine Dtl 23 5 30 _ [tt, tt, tt, tt, tt, tt, tt, tt, tt, tt, tt, tt, tt, tt, tt, tt, tt, tt, tt, tt, tt, tt, tt, tt] (fun _ hq => mc (vi 0) (vi 0)) ?_
     obtain rfl := some_inj h60
     have hs66 : HS w0 F0 w62 F4 [] := hs63.drop 0
     exact DWP.done (by kernel_rfl) ⟨F4, hs66, (le32.trans le64), rfl, rfl, rfl⟩
    ·have h67 := cond_f h53 hb56
     refine Dkl [(18, 30), (19, 31), (20, 32)] 17 true 29 hb56 [tt, tt, tt, tt, tt, tt, tt, tt, tt, tt, tt, tt, tt, tt, tt, tt, tt, tt, tt, tt, tt, ff, ff, ff] ?_
     refine Dtl 21 33 4 _ [tt, tt, tt, tt, tt, tt, tt, tt, tt, tt, tt, tt, tt, tt, tt, tt, tt, tt, tt, tt, tt, tt, ff, ff] (fun _ hq => p0 29 (.tmp 32) (.const (.bool false)) (.bool false) hb56) ?_
     refine Dtl 22 4 4 _ [tt, tt, tt, tt, tt, tt, tt, tt, tt, tt, tt, tt, tt, tt, tt, tt, tt, tt, tt, tt, tt, tt, tt, ff] (fun _ hq => ma 33 (.bool false)) ?_
     refine Dtl 23 5 30 _ [tt, tt, tt, tt, tt, tt, tt, tt, tt, tt, tt, tt, tt, tt, tt, tt, tt, tt, tt, tt, tt, tt, tt, tt] (fun _ hq => mc (vi 0) (vi 0)) ?_
     obtain rfl := some_inj h67
     have hs68 : HS w0 F0 w30 F3 [] := hs31.drop 0
     exact DWP.done (by kernel_rfl) ⟨F3, hs68, le32, rfl, rfl, rfl⟩
   ·have h69 := cond_f h28 hb34
    refine Dkl [(4, 16), (5, 17), (6, 18), (7, 19), (8, 20), (9, 21)] 3 true 15 hb34 [tt, tt, tt, tt, tt, tt, tt, tt, tt, tt, ff, ff, ff, ff, ff, ff, ff, ff, ff, ff, ff, ff, ff, ff] ?_
    refine Dkl [(10, 22), (11, 23), (12, 24), (13, 25), (14, 26), (15, 27)] 3 true 15 hb34 [tt, tt, tt, tt, tt, tt, tt, tt, tt, tt, tt, tt, tt, tt, tt, tt, ff, ff, ff, ff, ff, ff, ff, ff] ?_
    refine Dtl 16 28 4 _ [tt, tt, tt, tt, tt, tt, tt, tt, tt, tt, tt, tt, tt, tt, tt, tt, tt, ff, ff, ff, ff, ff, ff, ff] (fun _ hq => p0 15 (.tmp 27) (.const (.bool false)) (.bool false) hb34) ?_
    refine Dtl 17 29 4 _ [tt, tt, tt, tt, tt, tt, tt, tt, tt, tt, tt, tt, tt, tt, tt, tt, tt, tt, ff, ff, ff, ff, ff, ff] (fun _ hq => mv 28 (.bool false)) ?_
    refine Dkl [(18, 30), (19, 31), (20, 32)] 17 true 29 rfl [tt, tt, tt, tt, tt, tt, tt, tt, tt, tt, tt, tt, tt, tt, tt, tt, tt, tt, tt, tt, tt, ff, ff, ff] ?_
    refine Dtl 21 33 4 _ [tt, tt, tt, tt, tt, tt, tt, tt, tt, tt, tt, tt, tt, tt, tt, tt, tt, tt, tt, tt, tt, tt, ff, ff] (fun _ hq => p0 29 (.tmp 32) (.const (.bool false)) (.bool false) rfl) ?_
    refine Dtl 22 4 4 _ [tt, tt, tt, tt, tt, tt, tt, tt, tt, tt, tt, tt, tt, tt, tt, tt, tt, tt, tt, tt, tt, tt, tt, ff] (fun _ hq => ma 33 (.bool false)) ?_
    refine Dtl 23 5 30 _ [tt, tt, tt, tt, tt, tt, tt, tt, tt, tt, tt, tt, tt, tt, tt, tt, tt, tt, tt, tt, tt, tt, tt, tt] (fun _ hq => mc (vi 0) (vi 0)) ?_
    obtain rfl := some_inj h69
    have hs70 : HS w0 F0 w30 F3 [] := hs31.drop 0
    exact DWP.done (by kernel_rfl) ⟨F3, hs70, le32, rfl, rfl, rfl⟩
  ·rintro f w17 ⟨F2, hs18, le19, e21, e22, e23⟩
   refine thenQ_nrm ?_
   refine CWP.ret (by kernel_rfl) ?_
   have hfin := some_inj h25
   subst hfin
   exact ⟨e21, (.tuple #[(.bool j20), (vi 0)]), res_of (l := [.tmp 4, .tmp 5]) (by kernel_rfl) (vs := [(.bool j20), (vi 0)]) ⟨e22, ⟨e23, trivial⟩⟩, (.tuple #[(.bool j20), (vi 0)]), F2, rfl, hs18.clear, rfl⟩
end Go.Proofs.Ythbcnabeabcmlaa
namespace Go.Proofs.Ythbcnabeabcmlaa
open Go.Proofs
def ref03_ValidPath (N : Nat) (x0 : System) (x1 : Ref) (x2 : Bool) (x3 : (List Bound)) : Option (Int × Int) :=
 ((ref03_Check N x0).bind fun r7 => (bif (r7 != 0) then some (0, r7) else ((ref03_Has N x0 x1).bind fun r18 => (bif (!r18) then some (0, 3) else ((ref03_Beginning N ).bind fun r29 => ((bif (!x2) then ((ref03_Beginning N ).bind fun r63 => some (x1.Log, x1.Line, r63.Log, r63.Line)) else some (r29.Log, r29.Line, x1.Log, x1.Line)).bind fun j50 => (((ref03_chained N x0 x3).bind fun r88 => (bif (!r88) then some true else ((idx x3 0).bind fun x102 => (bif (!((x102.From.Log == j50.1) && ((x102.From.Line == j50.2.1) && true))) then some true else ((idx x3 (W64 ((x3.length : Int) - 1))).bind fun x122 => some (!((x122.To.Log == j50.2.2.1) && ((x122.To.Line == j50.2.2.2) && true)))))))).bind fun j81 => (bif j81 then some (0, 32) else (bif x2 then ((ref03_sum N x3).bind fun r136 => some (r136, 0)) else ((ref03_sum N x3).bind fun r145 => some ((W64 (0 - r145)), 0)))))))))))
theorem co_ref03_ValidPath : CallOk Try.prog 62 := fun _ _ => by kernel_rfl
set_option maxHeartbeats 4000000 in
set_option maxRecDepth 100000 in
theorem c_ref03_ValidPath (N : Nat) (w0 : World) (F0 : Mem) (hF : ∀ b o, F0 b = some o → w0.heap[b]? = some o) (x0 : System) (a0_0 : Option Addr) (n0_0 : Nat) (hb0_0 : LC x0.Tracks.length n0_0) (hs0_0 : SlA tTrack F0 a0_0 x0.Tracks) (a0_1 : Option Addr) (n0_1 : Nat) (hb0_1 : LC x0.Ties.length n0_1) (hs0_1 : SlA tTie F0 a0_1 x0.Ties) (x1 : Ref) (x2 : Bool) (x3 : (List Bound)) (a3_0 : Option Addr) (n3_0 : Nat) (hb3_0 : LC x3.length n3_0) (hs3_0 : SlA tBound F0 a3_0 x3) (r : (Int × Int)) (h : ref03_ValidPath N x0 x1 x2 x3 = some r) :
  Calls Try.prog 62 ([(.agg (kSystem x0 a0_0 n0_0 a0_1 n0_1)), (.agg (kRef x1)), (.bool x2), (.slice a3_0 x3.length n3_0)] : List Value).toArray w0 (FRet w0 F0 fun F' v => v = (.tuple #[(vi r.1), (vi r.2)])) := by
 have hs0 := HS.start hF
 refine calls_of (n := 57) (c := bodyOf Try.f62) Try.func62 (by kernel_rfl) (by kernel_rfl) (by kernel_rfl) ?_
 refine Sq (Rg [0, 1, 2, 3] ?_)
 refine Bx 4 0 0 25 (kSystem x0 a0_0 n0_0 a0_1 n0_1) hs0 (fun b1 w2 (hs3 : HS w0 F0 w2 F0 [(sb b1 (kSystem x0 a0_0 n0_0 a0_1 n0_1) 25)]) => ?_)
 refine Bx 5 0 1 27 (kRef x1) hs3 (fun b4 w5 (hs6 : HS w0 F0 w5 F0 [(sb b4 (kRef x1) 27), (sb b1 (kSystem x0 a0_0 n0_0 a0_1 n0_1) 25)]) => ?_)
 refine V 8 3 (mc (vi 0) (vi 0)) ?_
 refine V 9 30 (mc (vi 0) (vi 0)) ?_
 refine Nss (Rg [0, 1, 2] ?_)
 refine V 13 25 (ld 25 4 b1 0 true 3 (.agg (kSystem x0 a0_0 n0_0 a0_1 n0_1)) (hs6.ownAt (k := 1) rfl)) ?_
 obtain ⟨r7, hr8, h9⟩ := bind_some h
 refine Cl 14 30 40 #[(.tmp 13)] #[25] co_ref03_Check hs6 (c_ref03_Check N w5 F0 hs6.pers (x0) a0_0 n0_0 hb0_0 hs0_0 a0_1 n0_1 hb0_1 hs0_1 _ hr8) ?_
 intro v10 F1 w11 hs12 le13 hp14
 obtain rfl := hp14
 refine V 10 30 (ma 14 (vi r7)) ?_
 refine Nss ?_
 refine Sq (Rg [0, 1] ?_)
 refine V 15 30 (mv 10 (vi r7)) ?_
 refine V 16 4 (run_neq (t := 30) (t' := 30) (x := (.tmp 15)) (y := (.const (vi 0))) (k := .i64) (a := r7) (b := 0) rfl rfl) ?_
 refine Nt ?_
 refine CWP.cond (t := (r7 != 0)) (by kernel_rfl) rfl (fun hb15 => ?_) (fun hb15 => ?_)
 ·have h16 := cond_t h9 hb15
  refine Sq (Rg [0, 1, 2] ?_)
  refine V 17 30 (mv 10 (vi r7)) ?_
  refine V 8 3 (mc (vi 0) (vi 0)) ?_
  refine V 9 30 (ma 17 (vi r7)) ?_
  refine Nt ?_
  refine CWP.ret (by kernel_rfl) ?_
  refine thenQ_ret ?_
  have hfin := some_inj h16
  subst hfin
  exact ⟨rfl, (.tuple #[(vi 0), (vi r7)]), res_of (l := [.tmp 8, .tmp 9]) (by kernel_rfl) (vs := [(vi 0), (vi r7)]) ⟨rfl, ⟨rfl, trivial⟩⟩, (.tuple #[(vi 0), (vi r7)]), F1, rfl, hs12.clear, rfl⟩
 ·have h17 := cond_f h9 hb15
  refine Sc ?_
  refine thenQ_nrm ?_
  refine Sq ?_
  refine Sq (Rg [0, 1, 2, 3] ?_)
  refine V 18 25 (ld 25 4 b1 0 true 3 (.agg (kSystem x0 a0_0 n0_0 a0_1 n0_1)) (hs12.ownAt (k := 1) rfl)) ?_
  refine V 19 27 (ld 27 5 b4 0 true 2 (.agg (kRef x1)) (hs12.ownAt (k := 0) rfl)) ?_
  obtain ⟨r18, hr19, h20⟩ := bind_some h17
  refine Cl 20 4 85 #[(.tmp 18), (.tmp 19)] #[25, 27] co_ref03_Has hs12 (c_ref03_Has N w11 F1 hs12.pers (x0) a0_0 n0_0 hb0_0 (SlA.mono hs0_0 le13) a0_1 n0_1 hb0_1 (SlA.mono hs0_1 le13) (x1) _ hr19) ?_
  intro v21 F2 w22 hs23 le24 hp25
  obtain rfl := hp25
  refine V 21 4 (run_not (t := 4) (x := (.tmp 20)) (a := r18) rfl) ?_
  refine Nt ?_
  refine CWP.cond (t := (!r18)) (by kernel_rfl) rfl (fun hb26 => ?_) (fun hb26 => ?_)
  ·have h27 := cond_t h20 hb26
   refine Sq (Rg [0, 1] ?_)
   refine V 8 3 (mc (vi 0) (vi 0)) ?_
   refine V 9 30 (mc (vi 3) (vi 3)) ?_
   refine Nt ?_
   refine CWP.ret (by kernel_rfl) ?_
   refine thenQ_ret ?_
   have hfin := some_inj h27
   subst hfin
   exact ⟨rfl, (.tuple #[(vi 0), (vi 3)]), res_of (l := [.tmp 8, .tmp 9]) (by kernel_rfl) (vs := [(vi 0), (vi 3)]) ⟨rfl, ⟨rfl, trivial⟩⟩, (.tuple #[(vi 0), (vi 3)]), F2, rfl, hs23.clear, rfl⟩
  ·have h28 := cond_f h20 hb26
   refine Sc ?_
   refine thenQ_nrm ?_
   refine Sq (Rg [0, 1, 2] ?_)
   obtain ⟨r29, hr30, h31⟩ := bind_some h28
   refine Cl 22 27 109 #[] #[] co_ref03_Beginning hs23 (c_ref03_Beginning N w22 F2 hs23.pers  _ hr30) ?_
   intro v32 F3 w33 hs34 le35 hp36
   obtain rfl := hp36
   refine Al 11 0 27 #[(vi 0), (vi 0)] hs34 (fun b37 w38 (hs39 : HS w0 F0 w38 F3 [(sb b37 #[(vi 0), (vi 0)] 27), (sb b4 (kRef x1) 27), (sb b1 (kSystem x0 a0_0 n0_0 a0_1 n0_1) 25)]) => ?_)
   refine RWP.store (ty := 0) (g := none) (by kernel_rfl) rfl (x := (.tmp 11)) (y := (.tmp 22)) (t := 27) (gg := true) (s := 2) (v := (.agg (kRef r29))) (b := b37) (o := 0) (C := #[(vi 0), (vi 0)]) rfl rfl (by kernel_rfl) hs39 (k := 0) rfl rfl rfl rfl (C' := (kRef r29)) rfl (fun w40 (hs41 : HS w0 F0 w40 F3 [(sb b37 (kRef r29) 27), (sb b4 (kRef x1) 27), (sb b1 (kSystem x0 a0_0 n0_0 a0_1 n0_1) 25)]) => ?_)
   refine Nss (Rg [0, 1, 2] ?_)
   refine V 23 27 (ld 27 5 b4 0 true 2 (.agg (kRef x1)) (hs41.ownAt (k := 1) rfl)) ?_
   refine Al 12 0 27 #[(vi 0), (vi 0)] hs41 (fun b42 w43 (hs44 : HS w0 F0 w43 F3 [(sb b42 #[(vi 0), (vi 0)] 27), (sb b37 (kRef r29) 27), (sb b4 (kRef x1) 27), (sb b1 (kSystem x0 a0_0 n0_0 a0_1 n0_1) 25)]) => ?_)
   refine RWP.store (ty := 0) (g := none) (by kernel_rfl) rfl (x := (.tmp 12)) (y := (.tmp 23)) (t := 27) (gg := true) (s := 2) (v := (.agg (kRef x1))) (b := b42) (o := 0) (C := #[(vi 0), (vi 0)]) rfl rfl (by kernel_rfl) hs44 (k := 0) rfl rfl rfl rfl (C' := (kRef x1)) rfl (fun w45 (hs46 : HS w0 F0 w45 F3 [(sb b42 (kRef x1) 27), (sb b37 (kRef r29) 27), (sb b4 (kRef x1) 27), (sb b1 (kSystem x0 a0_0 n0_0 a0_1 n0_1) 25)]) => ?_)
   refine Nss ?_
   refine Sq (Rg [0, 1] ?_)
   refine V 24 4 (mv 2 (.bool x2)) ?_
   refine V 25 4 (run_not (t := 4) (x := (.tmp 24)) (a := x2) rfl) ?_
   refine Nt ?_
   obtain ⟨j50, hj57, h58⟩ := bind_some h31
   refine CWP.cut (fun f w => ∃ (F4 : Mem), HS w0 F0 w F4 [(sb b42 #[(vi j50.2.2.1), (vi j50.2.2.2)] 27), (sb b37 #[(vi j50.1), (vi j50.2.1)] 27), (sb b1 (kSystem x0 a0_0 n0_0 a0_1 n0_1) 25)] ∧ Mem.le F3 F4 ∧ f.d = [] ∧ f 2 = (.bool x2) ∧ f 3 = (.slice a3_0 x3.length n3_0) ∧ f 4 = (.pointer (some ⟨b1, 0, none⟩)) ∧ f 11 = (.pointer (some ⟨b37, 0, none⟩)) ∧ f 12 = (.pointer (some ⟨b42, 0, none⟩))) ?_ ?_
   ·refine CWP.cond (t := (!x2)) (by kernel_rfl) rfl (fun hb59 => ?_) (fun hb59 => ?_)
    ·have h60 := cond_t hj57 hb59
     refine Sq (Rg [0, 1] ?_)
     refine V 26 27 (ld 27 5 b4 0 true 2 (.agg (kRef x1)) (hs46.ownAt (k := 2) rfl)) ?_
     refine RWP.store (ty := 0) (g := none) (by kernel_rfl) rfl (x := (.tmp 11)) (y := (.tmp 26)) (t := 27) (gg := true) (s := 2) (v := (.agg (kRef x1))) (b := b37) (o := 0) (C := (kRef r29)) rfl rfl (by kernel_rfl) hs46 (k := 1) rfl rfl rfl rfl (C' := (kRef x1)) rfl (fun w61 (hs62 : HS w0 F0 w61 F3 [(sb b42 (kRef x1) 27), (sb b37 (kRef x1) 27), (sb b4 (kRef x1) 27), (sb b1 (kSystem x0 a0_0 n0_0 a0_1 n0_1) 25)]) => ?_)
     refine Nt ?_
     refine Rg [0, 1] ?_
     obtain ⟨r63, hr64, h65⟩ := bind_some h60
     refine Cl 27 27 109 #[] #[] co_ref03_Beginning hs62 (c_ref03_Beginning N w61 F3 hs62.pers  _ hr64) ?_
     intro v66 F5 w67 hs68 le69 hp70
     obtain rfl := hp70
     refine RWP.store (ty := 0) (g := none) (by kernel_rfl) rfl (x := (.tmp 12)) (y := (.tmp 27)) (t := 27) (gg := true) (s := 2) (v := (.agg (kRef r63))) (b := b42) (o := 0) (C := (kRef x1)) rfl rfl (by kernel_rfl) hs68 (k := 0) rfl rfl rfl rfl (C' := (kRef r63)) rfl (fun w71 (hs72 : HS w0 F0 w71 F5 [(sb b42 (kRef r63) 27), (sb b37 (kRef x1) 27), (sb b4 (kRef x1) 27), (sb b1 (kSystem x0 a0_0 n0_0 a0_1 n0_1) 25)]) => ?_)
     refine RWP.nil ?_
     obtain rfl := some_inj h65
     have hs73 : HS w0 F0 w71 F5 [(sb b42 (kRef r63) 27), (sb b37 (kRef x1) 27), (sb b1 (kSystem x0 a0_0 n0_0 a0_1 n0_1) 25)] := hs72.drop 2
     exact .inl ⟨rfl, F5, hs73, le69, rfl, rfl, rfl, rfl, rfl, rfl⟩
    ·have h74 := cond_f hj57 hb59
     refine Sc ?_
     obtain rfl := some_inj h74
     have hs75 : HS w0 F0 w45 F3 [(sb b42 (kRef x1) 27), (sb b37 (kRef r29) 27), (sb b1 (kSystem x0 a0_0 n0_0 a0_1 n0_1) 25)] := hs46.drop 2
     exact .inl ⟨rfl, F3, hs75, (Mem.le.refl _), rfl, rfl, rfl, rfl, rfl, rfl⟩
   ·rintro f w47 ⟨F4, hs48, le49, e51, e52, e53, e54, e55, e56⟩
    refine thenQ_nrm ?_
    refine Sq ?_
    refine Sq ?_
    obtain ⟨j81, hj86, h87⟩ := bind_some h58
    refine CWP.regionD (by kernel_rfl) (by kernel_rfl) (by kernel_rfl) (by kernel_rfl) (z := 23) (F := F4) (Lc := [(sb b42 #[(vi j50.2.2.1), (vi j50.2.2.2)] 27), (sb b37 #[(vi j50.1), (vi j50.2.1)] 27), (sb b1 (kSystem x0 a0_0 n0_0 a0_1 n0_1) 25)]) (Lz := []) (l := [false, false, false, false, false, false, false, false, false, false, false, false, false, false, false, false, false, false, false, false, false, false, false]) (fuel := 23) (by kernel_rfl) (by kernel_rfl) hs48 (by simp) (by simp) (fun f w => ∃ (F6 : Mem), HS w0 F0 w F6 [] ∧ Mem.le F4 F6 ∧ f.d = [] ∧ f 2 = (.bool x2) ∧ f 3 = (.slice a3_0 x3.length n3_0) ∧ f 50 = (.bool j81)) (fun wd76 hw77 => ?_) ?_
    ·refine Dtl 0 28 25 _ [tt, ff, ff, ff, ff, ff, ff, ff, ff, ff, ff, ff, ff, ff, ff, ff, ff, ff, ff, ff, ff, ff, ff] (fun _ hq => ld 25 4 b1 0 true 3 (.agg (kSystem x0 a0_0 n0_0 a0_1 n0_1)) (hq.1.2 2 _ _ rfl) e54) ?_
     refine Dtl 1 29 57 _ [tt, tt, ff, ff, ff, ff, ff, ff, ff, ff, ff, ff, ff, ff, ff, ff, ff, ff, ff, ff, ff, ff, ff] (fun _ hq => mv 3 (.slice a3_0 x3.length n3_0) e53) ?_
     refine DWP.one (i := 2) (by kernel_rfl) ?_
     obtain ⟨r88, hr89, h90⟩ := bind_some hj86
     refine DStep.call (l' := [true, true, true, false, false, false, false, false, false, false, false, false, false, false, false, false, false, false, false, false, false, false, false]) (zd := true) (by kernel_rfl) (by kernel_rfl) (by kernel_rfl) (dst := (some 30)) (ty := 4) (g := none) (by kernel_rfl) rfl (f0 := (.func 105)) (aos := #[(.tmp 28), (.tmp 29)]) (ats := #[25, 57]) (fid := 105) (first := #[]) (cap := #[]) (args := [(.agg (kSystem x0 a0_0 n0_0 a0_1 n0_1)), (.slice a3_0 x3.length n3_0)]) rfl co_ref03_chained (rfl) hw77 (c_ref03_chained N wd76 F4 hw77.pers (x0) a0_0 n0_0 hb0_0 (SlA.mono hs0_0 (((le13.trans le24).trans le35).trans le49)) a0_1 n0_1 hb0_1 (SlA.mono hs0_1 (((le13.trans le24).trans le35).trans le49)) (x3) a3_0 n3_0 hb3_0 (SlA.mono hs3_0 (((le13.trans le24).trans le35).trans le49)) _ hr89) ?_
     intro v91 F7 w92 hs93 le94 hp95
     obtain rfl := hp95
     refine Dtl 3 31 4 (.bool (!r88)) [tt, tt, tt, tt, ff, ff, ff, ff, ff, ff, ff, ff, ff, ff, ff, ff, ff, ff, ff, ff, ff, ff, ff] (fun _ hq => run_not (t := 4) (x := (.tmp 30)) (a := r88) rfl) ?_
     refine Dtl 4 32 4 _ [tt, tt, tt, tt, tt, ff, ff, ff, ff, ff, ff, ff, ff, ff, ff, ff, ff, ff, ff, ff, ff, ff, ff] (fun _ hq => mv 31 (.bool (!r88))) ?_
     refine DWP.split (!r88) (fun hb96 => ?_) (fun hb96 => ?_)
     ·have h97 := cond_t h90 hb96
      refine Dkl [(5, 33), (6, 34), (7, 35), (8, 36), (9, 37), (10, 38)] 4 false 32 hb96 [tt, tt, tt, tt, tt, tt, tt, tt, tt, tt, tt, ff, ff, ff, ff, ff, ff, ff, ff, ff, ff, ff, ff] ?_
      refine Dtl 11 39 4 _ [tt, tt, tt, tt, tt, tt, tt, tt, tt, tt, tt, tt, ff, ff, ff, ff, ff, ff, ff, ff, ff, ff, ff] (fun _ hq => p1 32 (.const (.bool true)) (.tmp 38) (.bool true) hb96) ?_
      refine Dtl 12 40 4 _ [tt, tt, tt, tt, tt, tt, tt, tt, tt, tt, tt, tt, tt, ff, ff, ff, ff, ff, ff, ff, ff, ff, ff] (fun _ hq => mv 39 (.bool true)) ?_
      refine Dkl [(13, 41), (14, 42), (15, 43), (16, 44), (17, 45), (18, 46)] 12 false 40 rfl [tt, tt, tt, tt, tt, tt, tt, tt, tt, tt, tt, tt, tt, tt, tt, tt, tt, tt, tt, ff, ff, ff, ff] ?_
      refine Dkl [(19, 47), (20, 48), (21, 49)] 12 false 40 rfl [tt, tt, tt, tt, tt, tt, tt, tt, tt, tt, tt, tt, tt, tt, tt, tt, tt, tt, tt, tt, tt, tt, ff] ?_
      refine Dtl 22 50 4 _ [tt, tt, tt, tt, tt, tt, tt, tt, tt, tt, tt, tt, tt, tt, tt, tt, tt, tt, tt, tt, tt, tt, tt] (fun _ hq => p1 40 (.const (.bool true)) (.tmp 49) (.bool true) rfl) ?_
      obtain rfl := some_inj h97
      have hs98 : HS w0 F0 w92 F7 [(sb b37 #[(vi j50.1), (vi j50.2.1)] 27), (sb b1 (kSystem x0 a0_0 n0_0 a0_1 n0_1) 25)] := hs93.drop 0
      have hs99 : HS w0 F0 w92 F7 [(sb b1 (kSystem x0 a0_0 n0_0 a0_1 n0_1) 25)] := hs98.drop 0
      have hs100 : HS w0 F0 w92 F7 [] := hs99.drop 0
      exact DWP.done (by kernel_rfl) ⟨F7, hs100, le94, e51, e52, e53, rfl⟩
     ·have h101 := cond_f h90 hb96
      refine Dgl 5 33 57 _ [tt, tt, tt, tt, tt, tt, ff, ff, ff, ff, ff, ff, ff, ff, ff, ff, ff, ff, ff, ff, ff, ff, ff] 4 false 32 hb96 (fun _ hq => mv 3 (.slice a3_0 x3.length n3_0) e53) ?_
      obtain ⟨x102, hx103, h105⟩ := bind_some h101
      obtain ⟨hi104, hx103'⟩ := idx_spec hx103
      obtain ⟨b106, o107, C108, E109, fz110, rfl, hF112, hE113⟩ := SlA.open (SlA.mono hs3_0 (((le13.trans le24).trans le35).trans le49)) hx103'
      have hc115 := hE113 _ _ hx103'
      refine Dgl 6 34 0 (.pointer (some ⟨b106, (o107 + (0 : Int).toNat * 7), none⟩)) [tt, tt, tt, tt, tt, tt, tt, ff, ff, ff, ff, ff, ff, ff, ff, ff, ff, ff, ff, ff, ff, ff, ff] 4 false 32 hb96 (fun _ hq => run_index (t := 57) (x := (.tmp 33)) (y := (.const (vi 0))) (b := b106) (o := o107) (E := 103) (s := 7) (by_ := 56) rfl rfl (by kernel_rfl) hi104) ?_
      refine Dgl 7 35 0 (.pointer (some ⟨b106, (o107 + (0 : Int).toNat * 7), none⟩)) [tt, tt, tt, tt, tt, tt, tt, tt, ff, ff, ff, ff, ff, ff, ff, ff, ff, ff, ff, ff, ff, ff, ff] 4 false 32 hb96 (fun _ hq => fa 103 34 0 0 2 b106 (o107 + (0 : Int).toNat * 7) (o107 + (0 : Int).toNat * 7)) ?_
      refine Dgl 8 36 27 _ [tt, tt, tt, tt, tt, tt, tt, tt, tt, ff, ff, ff, ff, ff, ff, ff, ff, ff, ff, ff, ff, ff, ff] 4 false 32 hb96 (fun _ hq => lx 27 35 0 7 true 2 (.agg (kRef x102.From)) (hq.1.1 _ _ hF112) hc115) ?_
      refine Dgl 9 37 27 _ [tt, tt, tt, tt, tt, tt, tt, tt, tt, tt, ff, ff, ff, ff, ff, ff, ff, ff, ff, ff, ff, ff, ff] 4 false 32 hb96 (fun _ hq => ld 27 11 b37 0 true 2 (.agg #[(vi j50.1), (vi j50.2.1)]) (hq.1.2 1 _ _ rfl) e55) ?_
      refine Dgl 10 38 4 (.bool (!((x102.From.Log == j50.1) && ((x102.From.Line == j50.2.1) && true)))) [tt, tt, tt, tt, tt, tt, tt, tt, tt, tt, tt, ff, ff, ff, ff, ff, ff, ff, ff, ff, ff, ff, ff] 4 false 32 hb96 (fun _ hq => run_nes (t := 27) (t' := 27) (x := (.tmp 36)) (y := (.tmp 37)) (xs := (kRef x102.From)) (ys := #[(vi j50.1), (vi j50.2.1)]) (b := ((x102.From.Log == j50.1) && ((x102.From.Line == j50.2.1) && true))) rfl rfl (by kernel_rfl) (by kernel_rfl)) ?_
      refine Dtl 11 39 4 _ [tt, tt, tt, tt, tt, tt, tt, tt, tt, tt, tt, tt, ff, ff, ff, ff, ff, ff, ff, ff, ff, ff, ff] (fun _ hq => p0 32 (.const (.bool true)) (.tmp 38) (.bool (!((x102.From.Log == j50.1) && ((x102.From.Line == j50.2.1) && true)))) hb96) ?_
      refine Dtl 12 40 4 _ [tt, tt, tt, tt, tt, tt, tt, tt, tt, tt, tt, tt, tt, ff, ff, ff, ff, ff, ff, ff, ff, ff, ff] (fun _ hq => mv 39 (.bool (!((x102.From.Log == j50.1) && ((x102.From.Line == j50.2.1) && true))))) ?_
      refine DWP.split (!((x102.From.Log == j50.1) && ((x102.From.Line == j50.2.1) && true))) (fun hb116 => ?_) (fun hb116 => ?_)
      ·have h117 := cond_t h105 hb116
       refine Dkl [(13, 41), (14, 42), (15, 43), (16, 44), (17, 45), (18, 46)] 12 false 40 hb116 [tt, tt, tt, tt, tt, tt, tt, tt, tt, tt, tt, tt, tt, tt, tt, tt, tt, tt, tt, ff, ff, ff, ff] ?_
       refine Dkl [(19, 47), (20, 48), (21, 49)] 12 false 40 hb116 [tt, tt, tt, tt, tt, tt, tt, tt, tt, tt, tt, tt, tt, tt, tt, tt, tt, tt, tt, tt, tt, tt, ff] ?_
       refine Dtl 22 50 4 _ [tt, tt, tt, tt, tt, tt, tt, tt, tt, tt, tt, tt, tt, tt, tt, tt, tt, tt, tt, tt, tt, tt, tt] (fun _ hq => p1 40 (.const (.bool true)) (.tmp 49) (.bool true) hb116) ?_
       obtain rfl := some_inj h117
       have hs118 : HS w0 F0 w92 F7 [(sb b37 #[(vi j50.1), (vi j50.2.1)] 27), (sb b1 (kSystem x0 a0_0 n0_0 a0_1 n0_1) 25)] := hs93.drop 0
       have hs119 : HS w0 F0 w92 F7 [(sb b1 (kSystem x0 a0_0 n0_0 a0_1 n0_1) 25)] := hs118.drop 0
       have hs120 : HS w0 F0 w92 F7 [] := hs119.drop 0
       exact DWP.done (by kernel_rfl) ⟨F7, hs120, le94, e51, e52, e53, rfl⟩
      ·have h121 := cond_f h105 hb116
       refine Dgl 13 41 57 _ [tt, tt, tt, tt, tt, tt, tt, tt, tt, tt, tt, tt, tt, tt, ff, ff, ff, ff, ff, ff, ff, ff, ff] 12 false 40 hb116 (fun _ hq => mv 3 (.slice (some ⟨b106, o107, none⟩) x3.length n3_0) e53) ?_
       refine Dgl 14 42 57 _ [tt, tt, tt, tt, tt, tt, tt, tt, tt, tt, tt, tt, tt, tt, tt, ff, ff, ff, ff, ff, ff, ff, ff] 12 false 40 hb116 (fun _ hq => mv 3 (.slice (some ⟨b106, o107, none⟩) x3.length n3_0) e53) ?_
       refine Dgl 15 43 3 (vi (x3.length : Int)) [tt, tt, tt, tt, tt, tt, tt, tt, tt, tt, tt, tt, tt, tt, tt, tt, ff, ff, ff, ff, ff, ff, ff] 12 false 40 hb116 (fun _ hq => ln 42 57 (some ⟨b106, o107, none⟩) x3.length n3_0 103 7 56) ?_
       refine Dgl 16 44 3 (vi (W64 ((x3.length : Int) - 1))) [tt, tt, tt, tt, tt, tt, tt, tt, tt, tt, tt, tt, tt, tt, tt, tt, tt, ff, ff, ff, ff, ff, ff] 12 false 40 hb116 (fun _ hq => run_sub (t := 3) (t' := 3) (x := (.tmp 43)) (y := (.const (vi 1))) (k := .i64) (a := (x3.length : Int)) (b := 1) rfl rfl) ?_
       obtain ⟨x122, hx123, h125⟩ := bind_some h121
       obtain ⟨hi124, hx123'⟩ := idx_spec hx123
       have hc127 := hE113 _ _ hx123'
       refine Dgl 17 45 0 (.pointer (some ⟨b106, (o107 + ((W64 ((x3.length : Int) - 1)) : Int).toNat * 7), none⟩)) [tt, tt, tt, tt, tt, tt, tt, tt, tt, tt, tt, tt, tt, tt, tt, tt, tt, tt, ff, ff, ff, ff, ff] 12 false 40 hb116 (fun _ hq => ix 57 41 44 b106 o107 103 7 56 hi124) ?_
       refine Dgl 18 46 0 (.pointer (some ⟨b106, ((o107 + ((W64 ((x3.length : Int) - 1)) : Int).toNat * 7) + 2), none⟩)) [tt, tt, tt, tt, tt, tt, tt, tt, tt, tt, tt, tt, tt, tt, tt, tt, tt, tt, tt, ff, ff, ff, ff] 12 false 40 hb116 (fun _ hq => fa 103 45 1 2 2 b106 (o107 + ((W64 ((x3.length : Int) - 1)) : Int).toNat * 7) ((o107 + ((W64 ((x3.length : Int) - 1)) : Int).toNat * 7) + 2)) ?_
       refine Dgl 19 47 27 _ [tt, tt, tt, tt, tt, tt, tt, tt, tt, tt, tt, tt, tt, tt, tt, tt, tt, tt, tt, tt, ff, ff, ff] 12 false 40 hb116 (fun _ hq => lx 27 46 2 7 true 2 (.agg (kRef x122.To)) (hq.1.1 _ _ hF112) hc127) ?_
       refine Dgl 20 48 27 _ [tt, tt, tt, tt, tt, tt, tt, tt, tt, tt, tt, tt, tt, tt, tt, tt, tt, tt, tt, tt, tt, ff, ff] 12 false 40 hb116 (fun _ hq => ld 27 12 b42 0 true 2 (.agg #[(vi j50.2.2.1), (vi j50.2.2.2)]) (hq.1.2 0 _ _ rfl) e56) ?_
       refine Dgl 21 49 4 (.bool (!((x122.To.Log == j50.2.2.1) && ((x122.To.Line == j50.2.2.2) && true)))) [tt, tt, tt, tt, tt, tt, tt, tt, tt, tt, tt, tt, tt, tt, tt, tt, tt, tt, tt, tt, tt, tt, ff] 12 false 40 hb116 (fun _ hq => run_nes (t := 27) (t' := 27) (x := (.tmp 47)) (y := (.tmp 48)) (xs := (kRef x122.To)) (ys := #[(vi j50.2.2.1), (vi j50.2.2.2)]) (b := ((x122.To.Log == j50.2.2.1) && ((x122.To.Line == j50.2.2.2) && true))) rfl rfl (by kernel_rfl) (by kernel_rfl)) ?_
       refine Dtl 22 50 4 _ [tt, tt, tt, tt, tt, tt, tt, tt, tt, tt, tt, tt, tt, tt, tt, tt, tt, tt, tt, tt, tt, tt, tt] (fun _ hq => p0 40 (.const (.bool true)) (.tmp 49) (.bool (!((x122.To.Log == j50.2.2.1) && ((x122.To.Line == j50.2.2.2) && true)))) hb116) ?_
       obtain rfl := some_inj h125
       have hs128 : HS w0 F0 w92 F7 [(sb b37 #[(vi j50.1), (vi j50.2.1)] 27), (sb b1 (kSystem x0 a0_0 n0_0 a0_1 n0_1) 25)] := hs93.drop 0
       have hs129 : HS w0 F0 w92 F7 [(sb b1 (kSystem x0 a0_0 n0_0 a0_1 n0_1) 25)] := hs128.drop 0
       have hs130 : HS w0 F0 w92 F7 [] := hs129.drop 0
       exact DWP.done (by kernel_rfl) ⟨F7, hs130, le94, e51, e52, e53, rfl⟩
    ·rintro f w78 ⟨F6, hs79, le80, e82, e83, e84, e85⟩
     refine thenQ_nrm ?_
     refine CWP.cond (t := j81) (by kernel_rfl) e85 (fun hb131 => ?_) (fun hb131 => ?_)
     ·have h132 := cond_t h87 hb131
      refine Sq (Rg [0, 1] ?_)
      refine V 8 3 (mc (vi 0) (vi 0)) ?_
      refine V 9 30 (mc (vi 32) (vi 32)) ?_
      refine Nt ?_
      refine CWP.ret (by kernel_rfl) ?_
      refine thenQ_ret ?_
      have hfin := some_inj h132
      subst hfin
      exact ⟨e82, (.tuple #[(vi 0), (vi 32)]), res_of (l := [.tmp 8, .tmp 9]) (by kernel_rfl) (vs := [(vi 0), (vi 32)]) ⟨rfl, ⟨rfl, trivial⟩⟩, (.tuple #[(vi 0), (vi 32)]), F6, rfl, hs79.clear, rfl⟩
     ·have h133 := cond_f h87 hb131
      refine Sc ?_
      refine thenQ_nrm ?_
      refine Sq ?_
      refine Sq (Rg [0] ?_)
      refine V 51 4 (mv 2 (.bool x2) e83) ?_
      refine Nt ?_
      refine CWP.cond (t := x2) (by kernel_rfl) rfl (fun hb134 => ?_) (fun hb134 => ?_)
      ·have h135 := cond_t h133 hb134
       refine Sq (Rg [0, 1, 2, 3] ?_)
       refine V 52 57 (mv 3 (.slice a3_0 x3.length n3_0) e84) ?_
       obtain ⟨r136, hr137, h138⟩ := bind_some h135
       refine Cl 53 3 106 #[(.tmp 52)] #[57] co_ref03_sum hs79 (c_ref03_sum N w78 F6 hs79.pers (x3) a3_0 n3_0 hb3_0 (SlA.mono hs3_0 ((((le13.trans le24).trans le35).trans le49).trans le80)) _ hr137) ?_
       intro v139 F8 w140 hs141 le142 hp143
       obtain rfl := hp143
       refine V 8 3 (ma 53 (vi r136)) ?_
       refine V 9 30 (mc (vi 0) (vi 0)) ?_
       refine Nt ?_
       refine CWP.ret (by kernel_rfl) ?_
       refine thenQ_ret ?_
       have hfin := some_inj h138
       subst hfin
       exact ⟨e82, (.tuple #[(vi r136), (vi 0)]), res_of (l := [.tmp 8, .tmp 9]) (by kernel_rfl) (vs := [(vi r136), (vi 0)]) ⟨rfl, ⟨rfl, trivial⟩⟩, (.tuple #[(vi r136), (vi 0)]), F8, rfl, hs141.clear, rfl⟩
      ·have h144 := cond_f h133 hb134
       refine Sc ?_
       refine thenQ_nrm ?_
       refine Sq (Rg [0, 1, 2, 3, 4] ?_)
       refine V 54 57 (mv 3 (.slice a3_0 x3.length n3_0) e84) ?_
       obtain ⟨r145, hr146, h147⟩ := bind_some h144
       refine Cl 55 3 106 #[(.tmp 54)] #[57] co_ref03_sum hs79 (c_ref03_sum N w78 F6 hs79.pers (x3) a3_0 n3_0 hb3_0 (SlA.mono hs3_0 ((((le13.trans le24).trans le35).trans le49).trans le80)) _ hr146) ?_
       intro v148 F9 w149 hs150 le151 hp152
       obtain rfl := hp152
       refine V 56 3 (run_sub (t := 3) (t' := 3) (x := (.const (vi 0))) (y := (.tmp 55)) (k := .i64) (a := 0) (b := r145) rfl rfl) ?_
       refine V 8 3 (ma 56 (vi (W64 (0 - r145)))) ?_
       refine V 9 30 (mc (vi 0) (vi 0)) ?_
       refine Nt ?_
       refine CWP.ret (by kernel_rfl) ?_
       have hfin := some_inj h147
       subst hfin
       exact ⟨e82, (.tuple #[(vi (W64 (0 - r145))), (vi 0)]), res_of (l := [.tmp 8, .tmp 9]) (by kernel_rfl) (vs := [(vi (W64 (0 - r145))), (vi 0)]) ⟨rfl, ⟨rfl, trivial⟩⟩, (.tuple #[(vi (W64 (0 - r145))), (vi 0)]), F9, rfl, hs150.clear, rfl⟩
end Go.Proofs.Ythbcnabeabcmlaa
namespace Go.Proofs.Ythbcnabeabcmlaa
section
variable {N : Nat} {s : System}
def bndB (a b : Bound) : Bool := refB a.From b.From && (refB a.To b.To && ((a.Most == b.Most) && ((a.Kind == b.Kind) && ((a.ID == b.ID) && true))))
theorem bndB_eq (a b : Bound) : bndB a b = decide (a = b) := by
 obtain ⟨a1, a2, a3, a4, a5⟩ := a
 obtain ⟨b1, b2, b3, b4, b5⟩ := b
 unfold bndB
 simp only [refB_eq, Bool.and_true, Bound.mk.injEq]
 rw [Bool.eq_iff_iff]
 simp
theorem known_r {x1 own : List Bound} {i : Nat} (hi : i < x1.length) {a b : Bool} (hN : own.length < N) (hl : own.length < 1000000) (k0 : Bool) :
  ∃ j, iter (ref03_chained_L1 N s x1 own (i : Int) a b) N (k0, 0) = some (.done (k0 || decide (x1[i] ∈ own), j)) := by
 obtain ⟨o, ho, j, rfl⟩ := iter_ex (body := ref03_chained_L1 N s x1 own (i : Int) a b) own.length (fun j q => q.2 = (j : Int) ∧ (q.1 = true → (k0 || decide (x1[i] ∈ own)) = true) ∧ (q.1 = false → k0 = false ∧ x1[i] ∉ own.take j))
  (fun o => ∃ j, o = .done (k0 || decide (x1[i] ∈ own), j)) (by
  rintro j ⟨k, j'⟩ hj ⟨hj', h1, h2⟩
  simp only at hj' h1 h2
  subst hj'
  unfold ref03_chained_L1
  simp only
  cases k with
  | true =>
   right
   simp only [Bool.not_true, Bool.and_false, cond_false]
   exact ⟨_, rfl, (fun _ h => by cases h), _, by rw [h1 rfl]⟩
  | false =>
   obtain ⟨h3, h4⟩ := h2 rfl
   by_cases hlt : j < own.length
   ·left
    rw [lt_t hlt]
    simp only [Bool.not_false, Bool.and_self, cond_true, idx_nat hlt, idx_nat hi, Option.bind_some]
    rw [W64_succ (by omega)]
    have e := bndB_eq own[j] x1[i]
    unfold bndB refB at e
    rw [e]
    refine ⟨_, rfl, ⟨rfl, fun hk => ?_, fun hk => ?_⟩, hlt⟩
    ·simp only [decide_eq_true_eq] at hk
     have : x1[i] ∈ own := by rw [← hk]; exact List.getElem_mem hlt
     simp [this]
    ·simp only [decide_eq_false_iff_not] at hk
     refine ⟨h3, ?_⟩
     rw [List.take_succ_eq_append_getElem hlt, List.mem_append, List.mem_singleton]
     rintro (h | h)
     ·exact h4 h
     ·exact hk h.symm
   ·have : j = own.length := by omega
    subst this
    right
    rw [lt_f, Bool.false_and, cond_false]
    refine ⟨_, rfl, (fun _ h => by cases h), (own.length : Int), ?_⟩
    have : x1[i] ∉ own := by simpa using h4
    simp [h3, this]) own.length N 0 (k0, 0) (by omega) ⟨rfl, fun h => by simp only at h; simp [h], fun h => ⟨h, by simp⟩⟩ hN
 exact ⟨j, ho⟩
theorem chained_r (hN : 1000000 ≤ N) (hf : FitS N s) (h : vCheck s = 0) {c : List Bound} (hc : Fit N c.length) : ref03_chained N s c = some (vChain (bnds s) c) := by
 unfold ref03_chained vChain
 have h1 := hc.1
 by_cases hr : (c.length : Int) < 1 ∨ (c.length : Int) > 30000
 ·have e : (decide ((c.length : Int) < 1) || decide ((c.length : Int) > 30000)) = true := by simpa using hr
  have e2 : (decide ((c.length : Int) ≥ 1) && decide ((c.length : Int) ≤ 30000)) = false := by
   rw [Bool.and_eq_false_iff]; simp; omega
  rw [e, e2]; simp
 ·have e : (decide ((c.length : Int) < 1) || decide ((c.length : Int) > 30000)) = false := by simpa using hr
  have e2 : (decide ((c.length : Int) ≥ 1) && decide ((c.length : Int) ≤ 30000)) = true := by simp; omega
  have hbl := bnds_len' h
  rw [e, e2, cond_false, bounds_r hf h, Option.bind_some, Bool.and_true]
  obtain ⟨o, ho, hR⟩ := iter_ex (body := ref03_chained_L0 N s c (bnds s)) c.length (fun i q => q = (i : Int) ∧ ∀ k, k < i → okC (bnds s) c k = true)
   (fun o => (allB c.length (okC (bnds s) c) = true ∧ ∃ q, o = .done q) ∨ (allB c.length (okC (bnds s) c) = false ∧ o = .ret false)) (by
   rintro i q hi ⟨rfl, hk⟩
   unfold ref03_chained_L0
   by_cases hlt : i < c.length
   ·rw [lt_t hlt, cond_true]
    have hok := okC_at (l := bnds s) hlt
    cases i with
    | zero =>
     have hp : decide (((0 : Nat) : Int) > 0) = false := by simp
     obtain ⟨j, hj⟩ := known_r (N := N) (s := s) (x1 := c) (own := bnds s) hlt (a := false) (b := false) (by omega) (by omega) false
     simp only [hp, cond_false, Option.bind_some, hj, Flow.k, Bool.false_or]
     simp only [prevOk, Bool.and_true] at hok
     by_cases hm : c[0] ∈ bnds s
     ·left
      simp only [hm, decide_true, Bool.not_true, cond_false]
      rw [W64_succ (by omega)]
      refine ⟨_, rfl, ⟨rfl, fun k hk' => ?_⟩, hlt⟩
      have : k = 0 := by omega
      subst this
      rw [hok]; simp [hm]
     ·right
      simp only [hm, decide_false, Bool.not_false, cond_true]
      exact ⟨_, rfl, (fun _ h => by cases h), .inr ⟨allB_f hlt (by rw [hok]; simp [hm]), rfl⟩⟩
    | succ k =>
     have hp : decide (((k + 1 : Nat) : Int) > 0) = true := by simp
     have hkl : k < c.length := by omega
     have h0l : 0 < c.length := by omega
     simp only [prevOk, List.getElem?_eq_getElem hkl] at hok
     rw [hp, cond_true, pred_nat (by omega), idx_nat hlt, idx_nat hkl]
     simp only [Option.bind_some]
     rw [show ((c[k + 1].From.Log == c[k].To.Log) && ((c[k + 1].From.Line == c[k].To.Line) && true)) = refB c[k + 1].From c[k].To from rfl, refB_eq]
     by_cases he : c[k + 1].From = c[k].To
     ·simp only [he, decide_true, Bool.not_true, cond_false]
      rw [cond_true, show (0 : Int) = ((0 : Nat) : Int) from rfl, idx_nat h0l]
      simp only [Option.bind_some]
      have e5 := bndB_eq c[k + 1] c[0]
      unfold bndB refB at e5
      rw [he] at e5
      rw [e5]
      obtain ⟨j, hj⟩ := known_r (N := N) (s := s) (x1 := c) (own := bnds s) hlt (a := false) (b := decide (c[k + 1] = c[0])) (by omega) (by omega) (decide (c[k + 1] = c[0]))
      rw [show ((0 : Nat) : Int) = (0 : Int) from rfl, hj]
      have h00 : c[0] ∈ bnds s := by
       have := hk 0 (by omega)
       rw [okC_at h0l] at this
       simpa [prevOk] using this
      have hor : (decide (c[k + 1] = c[0]) || decide (c[k + 1] ∈ bnds s)) = decide (c[k + 1] ∈ bnds s) := by
       by_cases h2 : c[k + 1] = c[0]
       ·rw [h2]; simp [h00]
       ·simp [h2]
      simp only [Option.bind_some, Flow.k, hor]
      by_cases hm : c[k + 1] ∈ bnds s
      ·left
       simp only [hm, decide_true, Bool.not_true, cond_false]
       rw [W64_succ (by omega)]
       refine ⟨_, rfl, ⟨rfl, fun q hq => ?_⟩, hlt⟩
       by_cases hqk : q = k + 1
       ·subst hqk; rw [hok]; simp [hm, he]
       ·exact hk q (by omega)
      ·right
       simp only [hm, decide_false, Bool.not_false, cond_true]
       exact ⟨_, rfl, (fun _ h => by cases h), .inr ⟨allB_f hlt (by rw [hok]; simp [hm]), rfl⟩⟩
     ·right
      simp only [he, decide_false, Bool.not_false, cond_true]
      exact ⟨_, rfl, (fun _ h => by cases h), .inr ⟨allB_f hlt (by rw [hok]; simp [he]), rfl⟩⟩
   ·have : i = c.length := by omega
    subst this
    right
    rw [lt_f, cond_false]
    exact ⟨_, rfl, (fun _ h => by cases h), .inl ⟨allB_of hk, _, rfl⟩⟩) c.length N 0 0 (by omega) ⟨rfl, fun k hk => by omega⟩ hc.2
  rw [ho]
  rcases hR with ⟨h2, q, rfl⟩ | ⟨h2, rfl⟩
  ·rw [h2]; rfl
  ·rw [h2]; rfl
theorem sum_r (l : List Bound) : ref03_sum N l = clocks_sum N l := rfl
theorem ValidLoop_r (hN : 1000000 ≤ N) (hf : FitS N s) {c : List Bound} (hc : Fit N c.length) : ref03_ValidLoop N s c = some (vLoop s c) := by
 unfold ref03_ValidLoop vLoop
 rw [check_r hf, Option.bind_some]
 by_cases h : vCheck s = 0
 ·rw [if_neg (by omega)]
  have e : (vCheck s != 0) = false := by simp [h]
  rw [e, cond_false, chained_r hN hf h hc, Option.bind_some]
  cases hv : vChain (bnds s) c with
  | false => rfl
  | true =>
   obtain ⟨_, h1, h2⟩ := vChain_mem hv
   obtain ⟨e1, e2⟩ := ends_at h1 hc.1
   simp only [cond_true, e1, e2, Option.bind_some, sum_r, sum_c hc]
   rw [show (((lastB c).To.Log == (firstB c).From.Log) && (((lastB c).To.Line == (firstB c).From.Line) && true)) = refB (lastB c).To (firstB c).From from rfl, refB_eq]
   by_cases he : (firstB c).From = (lastB c).To
   ·simp [he]
   ·have he' : ¬ (lastB c).To = (firstB c).From := fun h => he h.symm
    simp [he, he']
 ·rw [if_pos h]
  have e : (vCheck s != 0) = true := by simpa using h
  rw [e]; rfl
theorem ValidPath_r (hN : 1000000 ≤ N) (hf : FitS N s) (r : Ref) (late : Bool) {c : List Bound} (hc : Fit N c.length) : ref03_ValidPath N s r late c = some (vPath s r late c) := by
 unfold ref03_ValidPath vPath
 rw [check_r hf, Option.bind_some]
 by_cases h : vCheck s = 0
 ·rw [if_neg (by omega)]
  have e : (vCheck s != 0) = false := by simp [h]
  rw [e, cond_false, has_r hf, Option.bind_some]
  cases hr : vHas s r with
  | false => rfl
  | true =>
   rw [if_neg (by simp)]
   simp only [Bool.not_true, cond_false, ref03_Beginning, Option.bind_some, chained_r hN hf h hc, sum_r, sum_c hc]
   cases hv : vChain (bnds s) c with
   | false => cases late <;> rfl
   | true =>
    obtain ⟨_, h1, h2⟩ := vChain_mem hv
    obtain ⟨e1, e2⟩ := ends_at h1 hc.1
    simp only [e1, e2, Option.bind_some, Bool.not_true, cond_false, Bool.true_and]
    cases late with
    | true =>
     simp only [Bool.not_true, cond_false, cond_true, Option.bind_some]
     rw [show (((firstB c).From.Log == -1) && (((firstB c).From.Line == 0) && true)) = refB (firstB c).From beg from rfl, show (((lastB c).To.Log == r.Log) && (((lastB c).To.Line == r.Line) && true)) = refB (lastB c).To r from rfl, refB_eq, refB_eq]
     by_cases g1 : (firstB c).From = beg
     ·by_cases g2 : (lastB c).To = r
      ·simp [g1, g2]
      ·simp [g1, g2]
     ·simp [g1]
    | false =>
     simp only [Bool.not_false, cond_false, cond_true, Option.bind_some]
     rw [show (((firstB c).From.Log == r.Log) && (((firstB c).From.Line == r.Line) && true)) = refB (firstB c).From r from rfl, show (((lastB c).To.Log == -1) && (((lastB c).To.Line == 0) && true)) = refB (lastB c).To beg from rfl, refB_eq, refB_eq]
     by_cases g1 : (firstB c).From = r
     ·by_cases g2 : (lastB c).To = beg
      ·simp [g1, g2]
      ·simp [g1, g2]
     ·simp [g1]
 ·rw [if_pos h]
  have e : (vCheck s != 0) = true := by simpa using h
  rw [e]; rfl
theorem minute_r {l : List (List Int)} (hv : vForm s l = true) {r : Ref} (hr : Nd s r) : ref03_minute N l r = some (mAt l r) := by
 unfold ref03_minute
 rcases hr with rfl | hr
 ·unfold mAt; rw [if_pos rfl]; rfl
 ·obtain ⟨i, t, j, rfl, ht, hj⟩ := li_has hr
  obtain ⟨row, h1, h2, h3⟩ := form_at hv ht
  have hne : ¬ li i j = beg := by intro h; have : (i : Int) = -1 := congrArg Ref.Log h; omega
  have e : decide ((li i j).Log < 0) = false := by simp [li]
  have hd : l.getD i [] = row := by rw [List.getD_eq_getElem?_getD, h1]; rfl
  unfold mAt
  rw [e, if_neg hne]
  simp only [cond_false, li, idx_nat', h1, Option.bind_some, List.getElem?_eq_getElem (show j < row.length by omega), Int.toNat_natCast, hd]
  rw [getD_at (show j < row.length by omega)]
theorem Keeps_r (hN : 1000000 ≤ N) (hf : FitS N s) (l : List (List Int)) : ref03_Keeps N s l = some (vKeeps s l) := by
 unfold ref03_Keeps vKeeps
 rw [check_r hf, Option.bind_some]
 by_cases h : vCheck s = 0
 ·rw [if_neg (by omega)]
  have e : (vCheck s != 0) = false := by simp [h]
  rw [e, cond_false]
  have hn := (check_ok h).1
  by_cases hl : l.length = s.Tracks.length
  ·have e2 : ((l.length : Int) != (s.Tracks.length : Int)) = false := by simp [hl]
   rw [e2, cond_false]
   have hform : vForm s l = allB l.length (okRow s l) := by unfold vForm; simp [hl]
   rw [iter_check' (n := l.length) (okRow s l) (false, 0) (fun i hi => by
    unfold ref03_Keeps_L0
    have hit : i < s.Tracks.length := by omega
    have ht := List.getElem?_eq_getElem hit
    rw [lt_t hi, cond_true, idx_nat hi, idx_nat hit]
    simp only [Option.bind_some]
    unfold okRow
    rw [ht, List.getElem?_eq_getElem hi]
    simp only
    by_cases hlen : l[i].length = s.Tracks[i].Times.length
    ·have h400 := (track_facts (track_at h ht)).2.2
     have e3 : ((l[i].length : Int) != (s.Tracks[i].Times.length : Int)) = false := by simp [hlen]
     rw [e3, cond_false]
     rw [iter_check' (n := l[i].length) (atB l[i] fun n => inr n (-1000000) 1000000) (false, 0) (fun j hj => by
      unfold ref03_Keeps_L1
      simp only [idx_nat hi, Option.bind_some, lt_t hj, cond_true, idx_nat hj, within_r, atB_at hj]
      rw [W64_succ (by omega)]
      cases inr l[i][j] (-1000000) 1000000 <;> rfl) (by unfold ref03_Keeps_L1; simp only [idx_nat hi, Option.bind_some, lt_f, cond_false]) (by omega)]
     rw [← all_allB, W64_succ (by omega)]
     simp only [hlen, decide_true, Bool.true_and]
     cases l[i].all fun n => inr n (-1000000) 1000000 <;> rfl
    ·have e3 : ((l[i].length : Int) != (s.Tracks[i].Times.length : Int)) = true := by simp; omega
     rw [e3]; simp [hlen]) (by unfold ref03_Keeps_L0; rw [lt_f]; rfl) (by omega)]
   cases hv : vForm s l with
   | false => rw [← hform, hv]; rfl
   | true =>
    rw [← hform, hv, cond_true, bounds_r hf h, Option.bind_some]
    have hbl := bnds_len' h
    rw [iter_check' (n := (bnds s).length) (atB (bnds s) (keepB l)) (false, 0) (fun i hi => by
     have hb := List.getElem_mem hi
     obtain ⟨n1, n2⟩ := bnd_ends h hb
     have i1 := mAt_in hv n1
     have i2 := bnd_most h _ hb
     unfold ref03_Keeps_L2
     rw [lt_t hi, cond_true, idx_nat hi]
     simp only [Option.bind_some, minute_r hv n1, minute_r hv n2, atB_at hi]
     rw [W64_id (by omega) (by omega), W64_succ (by omega)]
     unfold keepB
     by_cases hk : mAt l (bnds s)[i].To ≤ mAt l (bnds s)[i].From + (bnds s)[i].Most
     ·have : decide (mAt l (bnds s)[i].To > mAt l (bnds s)[i].From + (bnds s)[i].Most) = false := by simp; omega
      simp [hk, this]
     ·have : decide (mAt l (bnds s)[i].To > mAt l (bnds s)[i].From + (bnds s)[i].Most) = true := by simp; omega
      simp [hk, this]) (by unfold ref03_Keeps_L2; rw [lt_f]; rfl) (by omega)]
    rw [← all_allB]
    cases (bnds s).all (keepB l) <;> rfl
  ·have e2 : ((l.length : Int) != (s.Tracks.length : Int)) = true := by simp; omega
   have : vForm s l = false := by unfold vForm; simp [hl]
   rw [e2, this]; rfl
 ·rw [if_pos h]
  have e : (vCheck s != 0) = true := by simpa using h
  rw [e]; rfl
end
end Go.Proofs.Ythbcnabeabcmlaa
namespace Go.Proofs.Ythbcnabeabcmlaa
open Go.Proofs
def clocks_Offset (N : Nat) (x0 : System) (x1 : Ref) : Option (Span × Int) :=
 ((clocks_Interval N x0 x1).bind fun r10 => (bif (r10.2 != 0) then some (({ Lo := 0, Hi := 0 } : Span), r10.2) else (((idx x0.Tracks x1.Log).bind fun x40 => ((idx x40.Times x1.Line).bind fun x54 => some x54)).bind fun j33 => some (({ Lo := (W64 (j33 - r10.1.Hi)), Hi := (W64 (j33 - r10.1.Lo)) } : Span), 0))))
theorem co_clocks_Offset : CallOk Try.prog 24 := fun _ _ => by kernel_rfl
set_option maxHeartbeats 4000000 in
set_option maxRecDepth 100000 in
theorem c_clocks_Offset (N : Nat) (w0 : World) (F0 : Mem) (hF : ∀ b o, F0 b = some o → w0.heap[b]? = some o) (x0 : System) (a0_0 : Option Addr) (n0_0 : Nat) (hb0_0 : LC x0.Tracks.length n0_0) (hs0_0 : SlA tTrack F0 a0_0 x0.Tracks) (a0_1 : Option Addr) (n0_1 : Nat) (hb0_1 : LC x0.Ties.length n0_1) (hs0_1 : SlA tTie F0 a0_1 x0.Ties) (x1 : Ref) (r : (Span × Int)) (h : clocks_Offset N x0 x1 = some r) :
  Calls Try.prog 24 ([(.agg (kSystem x0 a0_0 n0_0 a0_1 n0_1)), (.agg (kRef x1))] : List Value).toArray w0 (FRet w0 F0 fun F' v => v = (.tuple #[(.agg (kSpan r.1)), (vi r.2)])) := by
 have hs0 := HS.start hF
 refine calls_of (n := 39) (c := bodyOf Try.f24) Try.func24 (by kernel_rfl) (by kernel_rfl) (by kernel_rfl) ?_
 refine Sq (Rg [0, 1, 2, 3] ?_)
 refine Bx 2 0 0 25 (kSystem x0 a0_0 n0_0 a0_1 n0_1) hs0 (fun b1 w2 (hs3 : HS w0 F0 w2 F0 [(sb b1 (kSystem x0 a0_0 n0_0 a0_1 n0_1) 25)]) => ?_)
 refine Bx 3 0 1 27 (kRef x1) hs3 (fun b4 w5 (hs6 : HS w0 F0 w5 F0 [(sb b4 (kRef x1) 27), (sb b1 (kSystem x0 a0_0 n0_0 a0_1 n0_1) 25)]) => ?_)
 refine Al 4 0 38 #[(vi 0), (vi 0)] hs6 (fun b7 w8 (hs9 : HS w0 F0 w8 F0 [(sb b7 #[(vi 0), (vi 0)] 38), (sb b4 (kRef x1) 27), (sb b1 (kSystem x0 a0_0 n0_0 a0_1 n0_1) 25)]) => ?_)
 refine V 5 30 (mc (vi 0) (vi 0)) ?_
 refine Nss (Rg [0, 1, 2, 3, 4, 5, 6, 7, 8] ?_)
 refine V 10 25 (ld 25 2 b1 0 true 3 (.agg (kSystem x0 a0_0 n0_0 a0_1 n0_1)) (hs9.ownAt (k := 2) rfl)) ?_
 refine V 11 27 (ld 27 3 b4 0 true 2 (.agg (kRef x1)) (hs9.ownAt (k := 1) rfl)) ?_
 obtain ⟨r10, hr11, h12⟩ := bind_some h
 refine Cl 12 39 21 #[(.tmp 10), (.tmp 11)] #[25, 27] co_clocks_Interval hs9 (c_clocks_Interval N w8 F0 hs9.pers (x0) a0_0 n0_0 hb0_0 hs0_0 a0_1 n0_1 hb0_1 hs0_1 (x1) _ hr11) ?_
 intro v13 F1 w14 hs15 le16 hp17
 obtain rfl := hp17
 refine V 9 39 (mv 12 (.tuple #[(.agg (kSpan r10.1)), (vi r10.2)])) ?_
 refine V 13 38 (ex 9 0 (.agg (kSpan r10.1)) (vs := #[(.agg (kSpan r10.1)), (vi r10.2)])) ?_
 refine V 14 30 (ex 9 1 (vi r10.2) (vs := #[(.agg (kSpan r10.1)), (vi r10.2)])) ?_
 refine Al 6 0 38 #[(vi 0), (vi 0)] hs15 (fun b18 w19 (hs20 : HS w0 F0 w19 F1 [(sb b18 #[(vi 0), (vi 0)] 38), (sb b7 #[(vi 0), (vi 0)] 38), (sb b4 (kRef x1) 27), (sb b1 (kSystem x0 a0_0 n0_0 a0_1 n0_1) 25)]) => ?_)
 refine RWP.store (ty := 0) (g := none) (by kernel_rfl) rfl (x := (.tmp 6)) (y := (.tmp 13)) (t := 38) (gg := true) (s := 2) (v := (.agg (kSpan r10.1))) (b := b18) (o := 0) (C := #[(vi 0), (vi 0)]) rfl rfl (by kernel_rfl) hs20 (k := 0) rfl rfl rfl rfl (C' := (kSpan r10.1)) rfl (fun w21 (hs22 : HS w0 F0 w21 F1 [(sb b18 (kSpan r10.1) 38), (sb b7 #[(vi 0), (vi 0)] 38), (sb b4 (kRef x1) 27), (sb b1 (kSystem x0 a0_0 n0_0 a0_1 n0_1) 25)]) => ?_)
 refine V 7 30 (ma 14 (vi r10.2)) ?_
 refine Nss ?_
 refine Sq (Rg [0, 1] ?_)
 refine V 15 30 (mv 7 (vi r10.2)) ?_
 refine V 16 4 (run_neq (t := 30) (t' := 30) (x := (.tmp 15)) (y := (.const (vi 0))) (k := .i64) (a := r10.2) (b := 0) rfl rfl) ?_
 refine Nt ?_
 refine CWP.cond (t := (r10.2 != 0)) (by kernel_rfl) rfl (fun hb23 => ?_) (fun hb23 => ?_)
 ·have h24 := cond_t h12 hb23
  refine Sq (Rg [0, 1, 2, 3] ?_)
  refine V 17 38 (run_build2 (t := 38) (parts := #[]) (vs := []) (rfl) (cs := [(vi 0), (vi 0)]) (by kernel_rfl)) ?_
  refine V 18 30 (mv 7 (vi r10.2)) ?_
  refine RWP.store (ty := 0) (g := none) (by kernel_rfl) rfl (x := (.tmp 4)) (y := (.tmp 17)) (t := 38) (gg := true) (s := 2) (v := (.agg #[(vi 0), (vi 0)])) (b := b7) (o := 0) (C := #[(vi 0), (vi 0)]) rfl rfl (by kernel_rfl) hs22 (k := 1) rfl rfl rfl rfl (C' := #[(vi 0), (vi 0)]) rfl (fun w25 (hs26 : HS w0 F0 w25 F1 [(sb b18 (kSpan r10.1) 38), (sb b7 #[(vi 0), (vi 0)] 38), (sb b4 (kRef x1) 27), (sb b1 (kSystem x0 a0_0 n0_0 a0_1 n0_1) 25)]) => ?_)
  refine V 5 30 (ma 18 (vi r10.2)) ?_
  refine Nt ?_
  refine CWP.ret (by kernel_rfl) ?_
  refine thenQ_ret ?_
  have hfin := some_inj h24
  subst hfin
  exact ⟨rfl, (.tuple #[(.agg #[(vi 0), (vi 0)]), (vi r10.2)]), res_of (l := [.cell 4 38, .tmp 5]) (by kernel_rfl) (vs := [(.agg #[(vi 0), (vi 0)]), (vi r10.2)]) ⟨b7, 0, rfl, run_loadVar' (t := 38) (g := true) (s := 2) (by kernel_rfl) (hs26.ownAt (k := 1) rfl) rfl (by decide), ⟨rfl, trivial⟩⟩, (.tuple #[(.agg #[(vi 0), (vi 0)]), (vi r10.2)]), F1, rfl, hs26.clear, rfl⟩
 ·have h27 := cond_f h12 hb23
  refine Sc ?_
  refine thenQ_nrm ?_
  refine Sq ?_
  obtain ⟨j33, hj38, h39⟩ := bind_some h27
  refine CWP.regionD (by kernel_rfl) (by kernel_rfl) (by kernel_rfl) (by kernel_rfl) (z := 12) (F := F1) (Lc := [(sb b18 (kSpan r10.1) 38), (sb b7 #[(vi 0), (vi 0)] 38), (sb b4 (kRef x1) 27), (sb b1 (kSystem x0 a0_0 n0_0 a0_1 n0_1) 25)]) (Lz := []) (l := [false, false, false, false, false, false, false, false, false, false, false, false]) (fuel := 12) (by kernel_rfl) (by kernel_rfl) hs22 (by simp) (by simp) (fun f w => ∃ (F2 : Mem), HS w0 F0 w F2 [(sb b18 (kSpan r10.1) 38), (sb b7 #[(vi 0), (vi 0)] 38)] ∧ Mem.le F1 F2 ∧ f.d = [] ∧ f 4 = (.pointer (some ⟨b7, 0, none⟩)) ∧ f 6 = (.pointer (some ⟨b18, 0, none⟩)) ∧ f 8 = (vi j33)) (fun wd28 hw29 => ?_) ?_
  ·refine Dt 0 19 0 (.pointer (some ⟨b1, 0, none⟩)) (fun _ hq => fa 25 2 0 0 1 b1 0 0) ?_
   refine Dt 1 20 22 _ (fun _ hq => ld 22 19 b1 0 false 1 (.slice a0_0 x0.Tracks.length n0_0) (hq.1.2 3 _ _ rfl)) ?_
   refine Dt 2 21 0 (.pointer (some ⟨b4, 0, none⟩)) (fun _ hq => fa 27 3 0 0 1 b4 0 0) ?_
   refine Dt 3 22 3 _ (fun _ hq => ld 3 21 b4 0 false 1 (vi x1.Log) (hq.1.2 2 _ _ rfl)) ?_
   obtain ⟨x40, hx41, h43⟩ := bind_some hj38
   obtain ⟨hi42, hx41'⟩ := idx_spec hx41
   obtain ⟨b44, o45, C46, E47, fz48, rfl, hF50, hE51⟩ := SlA.open (SlA.mono hs0_0 le16) hx41'
   obtain ⟨ae52_2, ne52_2, ae52_3, ne52_3, hc53, hbe52_2, hse52_2, hbe52_3, hse52_3⟩ := hE51 _ _ hx41'
   refine Dt 4 23 0 (.pointer (some ⟨b44, (o45 + (x1.Log : Int).toNat * 4), none⟩)) (fun _ hq => ix 22 20 22 b44 o45 54 4 64 hi42) ?_
   refine Dt 5 24 0 (.pointer (some ⟨b44, ((o45 + (x1.Log : Int).toNat * 4) + 3), none⟩)) (fun _ hq => fa 54 23 1 3 1 b44 (o45 + (x1.Log : Int).toNat * 4) ((o45 + (x1.Log : Int).toNat * 4) + 3)) ?_
   refine Dt 6 25 50 _ (fun _ hq => lx 50 24 3 4 false 1 (.slice ae52_3 x40.Times.length ne52_3) (hq.1.1 _ _ hF50) hc53) ?_
   refine Dt 7 26 0 (.pointer (some ⟨b4, 1, none⟩)) (fun _ hq => fa 27 3 1 1 1 b4 0 1) ?_
   refine Dt 8 27 3 _ (fun _ hq => ld 3 26 b4 1 false 1 (vi x1.Line) (hq.1.2 2 _ _ rfl)) ?_
   obtain ⟨x54, hx55, h57⟩ := bind_some h43
   obtain ⟨hi56, hx55'⟩ := idx_spec hx55
   obtain ⟨b58, o59, C60, E61, fz62, rfl, hF64, hE65⟩ := SlA.open hse52_3 hx55'
   have hc67 := hE65 _ _ hx55'
   refine Dt 9 28 0 (.pointer (some ⟨b58, (o59 + (x1.Line : Int).toNat * 1), none⟩)) (fun _ hq => ix 50 25 27 b58 o59 3 1 8 hi56) ?_
   refine Dt 10 29 3 _ (fun _ hq => lx 3 28 0 1 false 1 (vi x54) (hq.1.1 _ _ hF64) hc67) ?_
   refine Dt 11 8 3 _ (fun _ hq => ma 29 (vi x54)) ?_
   obtain rfl := some_inj h57
   have hs68 : HS w0 F0 wd28 F1 [(sb b18 (kSpan r10.1) 38), (sb b7 #[(vi 0), (vi 0)] 38), (sb b1 (kSystem x0 (some ⟨b44, o45, none⟩) n0_0 a0_1 n0_1) 25)] := hw29.drop 2
   have hs69 : HS w0 F0 wd28 F1 [(sb b18 (kSpan r10.1) 38), (sb b7 #[(vi 0), (vi 0)] 38)] := hs68.drop 2
   exact DWP.done (by kernel_rfl) ⟨F1, hs69, (Mem.le.refl _), rfl, rfl, rfl, rfl⟩
  ·rintro f w30 ⟨F2, hs31, le32, e34, e35, e36, e37⟩
   refine thenQ_nrm ?_
   refine Sq (Rg [0, 1, 2, 3, 4, 5, 6, 7, 8, 9, 10] ?_)
   refine V 30 3 (mv 8 (vi j33) e37) ?_
   refine V 31 0 (fa 38 6 1 1 1 b18 0 1 e36) ?_
   refine V 32 3 (ld 3 31 b18 1 false 1 (vi r10.1.Hi) (hs31.ownAt (k := 0) rfl)) ?_
   refine V 33 3 (run_sub (t := 3) (t' := 3) (x := (.tmp 30)) (y := (.tmp 32)) (k := .i64) (a := j33) (b := r10.1.Hi) rfl rfl) ?_
   refine V 34 3 (mv 8 (vi j33) e37) ?_
   refine V 35 0 (fa 38 6 0 0 1 b18 0 0 e36) ?_
   refine V 36 3 (ld 3 35 b18 0 false 1 (vi r10.1.Lo) (hs31.ownAt (k := 0) rfl)) ?_
   refine V 37 3 (run_sub (t := 3) (t' := 3) (x := (.tmp 34)) (y := (.tmp 36)) (k := .i64) (a := j33) (b := r10.1.Lo) rfl rfl) ?_
   refine V 38 38 (run_build2 (t := 38) (parts := #[(0, (.tmp 33)), (1, (.tmp 37))]) (vs := [(0, (vi (W64 (j33 - r10.1.Hi)))), (1, (vi (W64 (j33 - r10.1.Lo))))]) (rfl) (cs := [(vi (W64 (j33 - r10.1.Hi))), (vi (W64 (j33 - r10.1.Lo)))]) (by kernel_rfl)) ?_
   refine RWP.store (ty := 0) (g := none) (by kernel_rfl) rfl (x := (.tmp 4)) (y := (.tmp 38)) (t := 38) (gg := true) (s := 2) (v := (.agg #[(vi (W64 (j33 - r10.1.Hi))), (vi (W64 (j33 - r10.1.Lo)))])) (b := b7) (o := 0) (C := #[(vi 0), (vi 0)]) e35 rfl (by kernel_rfl) hs31 (k := 1) rfl rfl rfl rfl (C' := #[(vi (W64 (j33 - r10.1.Hi))), (vi (W64 (j33 - r10.1.Lo)))]) rfl (fun w70 (hs71 : HS w0 F0 w70 F2 [(sb b18 (kSpan r10.1) 38), (sb b7 #[(vi (W64 (j33 - r10.1.Hi))), (vi (W64 (j33 - r10.1.Lo)))] 38)]) => ?_)
   refine V 5 30 (mc (vi 0) (vi 0)) ?_
   refine Nt ?_
   refine CWP.ret (by kernel_rfl) ?_
   have hfin := some_inj h39
   subst hfin
   exact ⟨e34, (.tuple #[(.agg #[(vi (W64 (j33 - r10.1.Hi))), (vi (W64 (j33 - r10.1.Lo)))]), (vi 0)]), res_of (l := [.cell 4 38, .tmp 5]) (by kernel_rfl) (vs := [(.agg #[(vi (W64 (j33 - r10.1.Hi))), (vi (W64 (j33 - r10.1.Lo)))]), (vi 0)]) ⟨b7, 0, e35, run_loadVar' (t := 38) (g := true) (s := 2) (by kernel_rfl) (hs71.ownAt (k := 1) rfl) rfl (by decide), ⟨rfl, trivial⟩⟩, (.tuple #[(.agg #[(vi (W64 (j33 - r10.1.Hi))), (vi (W64 (j33 - r10.1.Lo)))]), (vi 0)]), F2, rfl, hs71.clear, rfl⟩
end Go.Proofs.Ythbcnabeabcmlaa
namespace Go.Proofs.Ythbcnabeabcmlaa
open Go.Proofs
def clocks_Before (N : Nat) (x0 : System) (x1 : Ref) (x2 : Ref) : Option (Bool × Int) :=
 ((clocks_Relation N x0 x1 x2).bind fun r10 => some (((r10.2 == 0) && (decide (r10.1.Lo > 0))), r10.2))
theorem co_clocks_Before : CallOk Try.prog 30 := fun _ _ => by kernel_rfl
set_option maxHeartbeats 4000000 in
set_option maxRecDepth 100000 in
theorem c_clocks_Before (N : Nat) (w0 : World) (F0 : Mem) (hF : ∀ b o, F0 b = some o → w0.heap[b]? = some o) (x0 : System) (a0_0 : Option Addr) (n0_0 : Nat) (hb0_0 : LC x0.Tracks.length n0_0) (hs0_0 : SlA tTrack F0 a0_0 x0.Tracks) (a0_1 : Option Addr) (n0_1 : Nat) (hb0_1 : LC x0.Ties.length n0_1) (hs0_1 : SlA tTie F0 a0_1 x0.Ties) (x1 : Ref) (x2 : Ref) (r : (Bool × Int)) (h : clocks_Before N x0 x1 x2 = some r) :
  Calls Try.prog 30 ([(.agg (kSystem x0 a0_0 n0_0 a0_1 n0_1)), (.agg (kRef x1)), (.agg (kRef x2))] : List Value).toArray w0 (FRet w0 F0 fun F' v => v = (.tuple #[(.bool r.1), (vi r.2)])) := by
 have hs0 := HS.start hF
 refine calls_of (n := 25) (c := bodyOf Try.f30) Try.func30 (by kernel_rfl) (by kernel_rfl) (by kernel_rfl) ?_
 refine Sq (Rg [0, 1, 2, 3, 4] ?_)
 refine Bx 3 0 0 25 (kSystem x0 a0_0 n0_0 a0_1 n0_1) hs0 (fun b1 w2 (hs3 : HS w0 F0 w2 F0 [(sb b1 (kSystem x0 a0_0 n0_0 a0_1 n0_1) 25)]) => ?_)
 refine Bx 4 0 1 27 (kRef x1) hs3 (fun b4 w5 (hs6 : HS w0 F0 w5 F0 [(sb b4 (kRef x1) 27), (sb b1 (kSystem x0 a0_0 n0_0 a0_1 n0_1) 25)]) => ?_)
 refine Bx 5 0 2 27 (kRef x2) hs6 (fun b7 w8 (hs9 : HS w0 F0 w8 F0 [(sb b7 (kRef x2) 27), (sb b4 (kRef x1) 27), (sb b1 (kSystem x0 a0_0 n0_0 a0_1 n0_1) 25)]) => ?_)
 refine V 6 4 (mc (.bool false) (.bool false)) ?_
 refine V 7 30 (mc (vi 0) (vi 0)) ?_
 refine Nss (Rg [0, 1, 2, 3, 4, 5, 6, 7, 8, 9] ?_)
 refine V 11 25 (ld 25 3 b1 0 true 3 (.agg (kSystem x0 a0_0 n0_0 a0_1 n0_1)) (hs9.ownAt (k := 2) rfl)) ?_
 refine V 12 27 (ld 27 4 b4 0 true 2 (.agg (kRef x1)) (hs9.ownAt (k := 1) rfl)) ?_
 refine V 13 27 (ld 27 5 b7 0 true 2 (.agg (kRef x2)) (hs9.ownAt (k := 0) rfl)) ?_
 obtain ⟨r10, hr11, h12⟩ := bind_some h
 refine Cl 14 39 20 #[(.tmp 11), (.tmp 12), (.tmp 13)] #[25, 27, 27] co_clocks_Relation hs9 (c_clocks_Relation N w8 F0 hs9.pers (x0) a0_0 n0_0 hb0_0 hs0_0 a0_1 n0_1 hb0_1 hs0_1 (x1) (x2) _ hr11) ?_
 intro v13 F1 w14 hs15 le16 hp17
 obtain rfl := hp17
 refine V 10 39 (mv 14 (.tuple #[(.agg (kSpan r10.1)), (vi r10.2)])) ?_
 refine V 15 38 (ex 10 0 (.agg (kSpan r10.1)) (vs := #[(.agg (kSpan r10.1)), (vi r10.2)])) ?_
 refine V 16 30 (ex 10 1 (vi r10.2) (vs := #[(.agg (kSpan r10.1)), (vi r10.2)])) ?_
 refine Al 8 0 38 #[(vi 0), (vi 0)] hs15 (fun b18 w19 (hs20 : HS w0 F0 w19 F1 [(sb b18 #[(vi 0), (vi 0)] 38), (sb b7 (kRef x2) 27), (sb b4 (kRef x1) 27), (sb b1 (kSystem x0 a0_0 n0_0 a0_1 n0_1) 25)]) => ?_)
 refine RWP.store (ty := 0) (g := none) (by kernel_rfl) rfl (x := (.tmp 8)) (y := (.tmp 15)) (t := 38) (gg := true) (s := 2) (v := (.agg (kSpan r10.1))) (b := b18) (o := 0) (C := #[(vi 0), (vi 0)]) rfl rfl (by kernel_rfl) hs20 (k := 0) rfl rfl rfl rfl (C' := (kSpan r10.1)) rfl (fun w21 (hs22 : HS w0 F0 w21 F1 [(sb b18 (kSpan r10.1) 38), (sb b7 (kRef x2) 27), (sb b4 (kRef x1) 27), (sb b1 (kSystem x0 a0_0 n0_0 a0_1 n0_1) 25)]) => ?_)
 refine V 9 30 (ma 16 (vi r10.2)) ?_
 refine Nss (Rg [0, 1, 2, 3, 4, 5, 6, 7, 8, 9] ?_)
 refine RWP.cut (fun f w => ∃ (F2 : Mem), HS w0 F0 w F2 [] ∧ Mem.le F1 F2 ∧ f.d = [] ∧ f 6 = (.bool ((r10.2 == 0) && (decide (r10.1.Lo > 0)))) ∧ f 7 = (vi r10.2)) ?_ ?_
 ·refine V 17 30 (mv 9 (vi r10.2)) ?_
  refine V 18 4 (run_eql (t := 30) (t' := 30) (x := (.tmp 17)) (y := (.const (vi 0))) (k := .i64) (a := r10.2) (b := 0) rfl rfl) ?_
  refine V 19 4 (mv 18 (.bool (r10.2 == 0))) ?_
  refine RWP.split (r10.2 == 0) (fun hb29 => ?_) (fun hb29 => ?_)
  ·refine Vg 20 0 2 true 19 hb29 (fa 38 8 0 0 1 b18 0 0) ?_
   refine Vg 21 3 2 true 19 hb29 (ld 3 20 b18 0 false 1 (vi r10.1.Lo) (hs22.ownAt (k := 0) rfl)) ?_
   refine Vg 22 4 2 true 19 hb29 (run_gtr (t := 3) (t' := 3) (x := (.tmp 21)) (y := (.const (vi 0))) (k := .i64) (a := r10.1.Lo) (b := 0) rfl rfl) ?_
   refine V 23 4 (p1 19 (.tmp 22) (.const (.bool false)) (.bool (decide (r10.1.Lo > 0))) hb29) ?_
   refine V 24 30 (mv 9 (vi r10.2)) ?_
   refine V 6 4 (ma 23 (.bool (decide (r10.1.Lo > 0)))) ?_
   refine V 7 30 (ma 24 (vi r10.2)) ?_
   have hs30 : HS w0 F0 w21 F1 [(sb b7 (kRef x2) 27), (sb b4 (kRef x1) 27), (sb b1 (kSystem x0 a0_0 n0_0 a0_1 n0_1) 25)] := hs22.drop 0
   have hs31 : HS w0 F0 w21 F1 [(sb b4 (kRef x1) 27), (sb b1 (kSystem x0 a0_0 n0_0 a0_1 n0_1) 25)] := hs30.drop 0
   have hs32 : HS w0 F0 w21 F1 [(sb b1 (kSystem x0 a0_0 n0_0 a0_1 n0_1) 25)] := hs31.drop 0
   have hs33 : HS w0 F0 w21 F1 [] := hs32.drop 0
   exact RWP.nil ⟨rfl, F1, hs33, (Mem.le.refl _), rfl, (congrArg Value.bool (and_t hb29 (rfl))), rfl⟩
  ·refine Sk [20, 21, 22] 2 true 19 hb29 ?_
   refine V 23 4 (p0 19 (.tmp 22) (.const (.bool false)) (.bool false) hb29) ?_
   refine V 24 30 (mv 9 (vi r10.2)) ?_
   refine V 6 4 (ma 23 (.bool false)) ?_
   refine V 7 30 (ma 24 (vi r10.2)) ?_
   have hs34 : HS w0 F0 w21 F1 [(sb b7 (kRef x2) 27), (sb b4 (kRef x1) 27), (sb b1 (kSystem x0 a0_0 n0_0 a0_1 n0_1) 25)] := hs22.drop 0
   have hs35 : HS w0 F0 w21 F1 [(sb b4 (kRef x1) 27), (sb b1 (kSystem x0 a0_0 n0_0 a0_1 n0_1) 25)] := hs34.drop 0
   have hs36 : HS w0 F0 w21 F1 [(sb b1 (kSystem x0 a0_0 n0_0 a0_1 n0_1) 25)] := hs35.drop 0
   have hs37 : HS w0 F0 w21 F1 [] := hs36.drop 0
   exact RWP.nil ⟨rfl, F1, hs37, (Mem.le.refl _), rfl, (congrArg Value.bool (and_f hb29 (rfl))), rfl⟩
 ·rintro f w23 ⟨F2, hs24, le25, e26, e27, e28⟩
  refine thenQ_nrm ?_
  refine CWP.ret (by kernel_rfl) ?_
  have hfin := some_inj h12
  subst hfin
  exact ⟨e26, (.tuple #[(.bool ((r10.2 == 0) && (decide (r10.1.Lo > 0)))), (vi r10.2)]), res_of (l := [.tmp 6, .tmp 7]) (by kernel_rfl) (vs := [(.bool ((r10.2 == 0) && (decide (r10.1.Lo > 0)))), (vi r10.2)]) ⟨e27, ⟨e28, trivial⟩⟩, (.tuple #[(.bool ((r10.2 == 0) && (decide (r10.1.Lo > 0)))), (vi r10.2)]), F2, rfl, hs24.clear, rfl⟩
end Go.Proofs.Ythbcnabeabcmlaa
namespace Go.Proofs.Ythbcnabeabcmlaa
open Go.Proofs
def slices_Clone_api_Tie_api_Tie (N : Nat) (x0 : List Tie) : Option (List Tie) := apnd [] x0
theorem co_slices_Clone_api_Tie_api_Tie : CallOk Try.prog 128 := fun _ _ => by kernel_rfl
set_option maxRecDepth 100000 in
theorem c_slices_Clone_api_Tie_api_Tie (N : Nat) (w0 : World) (F0 : Mem) (hF : ∀ b o, F0 b = some o → w0.heap[b]? = some o) (x0 : List Tie) (a0_0 : Option Addr) (n0_0 : Nat) (hb0_0 : LC x0.length n0_0) (hs0_0 : SlA tTie F0 a0_0 x0) (r : List Tie) (h : slices_Clone_api_Tie_api_Tie N x0 = some r) :
  Calls Try.prog 128 ([.slice a0_0 x0.length n0_0] : List Value).toArray w0 (FRetO w0 F0 fun F' v L' => ∃ (a : Option Addr) (n : Nat) (e : Option Nat × Obj), v = .slice a r.length n ∧ L' = [e] ∧ RowR tTie 46 F' a n r e) := by
 have hs0 := HS.start hF
 obtain ⟨hlen, hr⟩ := apnd_spec h
 refine calls_of (n := 8) (c := bodyOf Try.f128) Try.func128 (by kernel_rfl) (by kernel_rfl) (by kernel_rfl) ?_
 refine CWP.seq (by kernel_rfl) ?_
 refine CWP.region (l := [0]) (by kernel_rfl) (by kernel_rfl) (by kernel_rfl) ?_
 refine RWP.val (dst := (some 2)) (ty := 23) (g := none) (by kernel_rfl) rfl (run_assign (x := (.const (.slice none 0 0))) (v := (.slice none 0 0)) rfl) ?_
 refine RWP.nil ?_
 refine thenQ_nrm ?_
 refine CWP.seq (by kernel_rfl) ?_
 refine CWP.seq (by kernel_rfl) ?_
 refine CWP.region (l := [0, 1]) (by kernel_rfl) (by kernel_rfl) (by kernel_rfl) ?_
 refine RWP.val (dst := (some 3)) (ty := 23) (g := none) (by kernel_rfl) rfl (run_move (x := (.tmp 0)) (v := (.slice a0_0 x0.length n0_0)) rfl) ?_
 refine RWP.val (dst := (some 4)) (ty := 4) (g := none) (by kernel_rfl) rfl (run_eqnil (e := 46) (t := 23) (t' := 23) (x := (.tmp 3)) (y := (.const (.slice none 0 0))) rfl rfl (by kernel_rfl)) ?_
 refine RWP.nil ?_
 refine thenQ_nrm ?_
 refine CWP.cond (t := a0_0.isNone) (by kernel_rfl) rfl (fun hc => ?_) (fun hc => ?_)
 ·have hn : a0_0 = none := by simpa using hc
  subst hn
  have hx : x0 = [] := by
   rcases hs0_0 with h | ⟨b, o, C, E, fz, ha, _⟩
   ·exact h
   ·cases ha
  subst hx
  simp at hr
  subst hr
  refine CWP.seq (by kernel_rfl) ?_
  refine CWP.region (l := [0]) (by kernel_rfl) (by kernel_rfl) (by kernel_rfl) ?_
  refine RWP.val (dst := (some 2)) (ty := 23) (g := none) (by kernel_rfl) rfl (run_assign (x := (.const (.slice none 0 0))) (v := (.slice none 0 0)) rfl) ?_
  refine RWP.nil ?_
  refine thenQ_nrm ?_
  refine CWP.ret (by kernel_rfl) ?_
  refine thenQ_ret ?_
  exact ⟨rfl, (.slice none 0 0), res_of (l := [.tmp 2]) (by kernel_rfl) (vs := [(.slice none 0 0)]) ⟨rfl, trivial⟩, (.slice none 0 0), F0, _, rfl, hs0.dummy (oc #[] 0), none, 0, _, rfl, rfl, RowR.nil _ _ _ _⟩
 ·refine CWP.skip (by kernel_rfl) ?_
  refine thenQ_nrm ?_
  refine CWP.seq (by kernel_rfl) ?_
  refine CWP.region (l := [0, 1, 2, 3]) (by kernel_rfl) (by kernel_rfl) (by kernel_rfl) ?_
  refine RWP.buildSlice (dst := (some 5)) (ty := 23) (g := none) (by kernel_rfl) rfl (t := 23) (len := 0) (parts := #[]) (vs := []) rfl (E := 46) (cs := []) (by kernel_rfl) hs0 (fun b w1 (hs1 : HS w0 F0 w1 F0 [(some b, .cells ([] : List Value).toArray 46 (0, 0))]) => ?_)
  have hr1 : RowR tTie 46 F0 (some ⟨b, 0, none⟩) 0 [] (some b, .cells ([] : List Value).toArray 46 (0, 0)) := RowR.lit rfl (by simp)
  refine RWP.val (dst := (some 6)) (ty := 23) (g := none) (by kernel_rfl) rfl (run_move (x := (.tmp 0)) (v := (.slice a0_0 x0.length n0_0)) rfl) ?_
  refine RWP.append (dst := (some 7)) (ty := 23) (g := none) (by kernel_rfl) rfl (x := (.tmp 5)) (y := (.tmp 6)) (t := 23) (t2 := 23) (by_ := 32) (z := (.agg #[(vi 0), (vi 0), (vi 0), (vi 0)])) (a2 := a0_0) (c2 := n0_0) (m := x0) (T := tTie) (E := 46) (a := (some ⟨b, 0, none⟩)) (cap := 0) (l := []) rfl rfl (by kernel_rfl) (by decide) (by kernel_rfl) (by kernel_rfl) rfl oTie hs1 (k := 0) rfl hr1 (SlA.rd hs1 hs0_0) (r := r) h (fun a2 n2 e2 w2 (hs2 : HS w0 F0 w2 F0 [e2]) hr2 => ?_)
  refine RWP.val (dst := (some 2)) (ty := 23) (g := none) (by kernel_rfl) rfl (run_assign (x := (.tmp 7)) (v := (.slice a2 r.length n2)) rfl) ?_
  refine RWP.nil ?_
  refine thenQ_nrm ?_
  refine CWP.ret (by kernel_rfl) ?_
  exact ⟨rfl, (.slice a2 r.length n2), res_of (l := [.tmp 2]) (by kernel_rfl) (vs := [(.slice a2 r.length n2)]) ⟨rfl, trivial⟩, (.slice a2 r.length n2), F0, _, rfl, hs2, a2, n2, e2, rfl, rfl, hr2⟩
end Go.Proofs.Ythbcnabeabcmlaa
namespace Go.Proofs.Ythbcnabeabcmlaa
open Go.Proofs
def clocks_added_1_L0 {σ : Type} (N : Nat) (y : (σ → (Bool × (List Bound)) → Option (Bool × σ))) (z0 : System) (z1 : (List Tie)) (s : σ) (r1 : (List Tie)) : (Int × List Tie × σ) → Option (Flow σ (Int × List Tie × σ)) := fun s20 =>
 (bif (decide (s20.1 < (z1.length : Int))) then ((idx z1 s20.1).bind fun x47 => ((apnd s20.2.1 [x47]).bind fun r71 => ((clocks_loopOf N ({ Tracks := z0.Tracks, Ties := r71, Window := z0.Window } : System)).bind fun r82 => ((y s20.2.2 ((r82.isEmpty), r82)).bind fun q93 => (bif (!q93.1) then some (.ret q93.2) else ((bif (!r82.isEmpty) then ((sub r71 0 (W64 ((r71.length : Int) - 1))).bind fun r123 => some r123) else some r71).bind fun j112 => some (.next ((W64 (s20.1 + 1)), j112, q93.2)))))))) else some (.done (s20.1, s20.2.1, s20.2.2)))
def clocks_added_1 {σ : Type} (N : Nat) (y : σ → (Bool × (List Bound)) → Option (Bool × σ)) (z0 : System) (z1 : (List Tie)) (s : σ) : Option σ :=
 ((slices_Clone_api_Tie_api_Tie N z0.Ties).bind fun r1 => ((iter (clocks_added_1_L0 N y z0 z1 s r1) N (0, r1, s)).bind fun o => o.k (fun r => some r) (fun s32 => some s32.2.2)))
theorem co_clocks_added_1 : CallOk Try.prog 127 := fun _ _ => by kernel_rfl
set_option maxHeartbeats 4000000 in
set_option maxRecDepth 100000 in
theorem c_clocks_added_1 (N : Nat) (F0 : Mem) (z0 : System) (az0_0 : Option Addr) (nz0_0 : Nat) (hbz0_0 : LC z0.Tracks.length nz0_0) (hsz0_0 : SlA tTrack F0 az0_0 z0.Tracks) (az0_1 : Option Addr) (nz0_1 : Nat) (hbz0_1 : LC z0.Ties.length nz0_1) (hsz0_1 : SlA tTie F0 az0_1 z0.Ties) (bz0 : Nat) (z1 : (List Tie)) (az1_0 : Option Addr) (nz1_0 : Nat) (hbz1_0 : LC z1.length nz1_0) (hsz1_0 : SlA tTie F0 az1_0 z1) (bz1 : Nat) (hz1 : F0 bz1 = some (oc #[(.slice az1_0 z1.length nz1_0)] 23)) :
  SeqOk Try.prog 127 [(.pointer (some ⟨bz0, 0, none⟩)), (.pointer (some ⟨bz1, 0, none⟩))] F0 [(sb bz0 (kSystem z0 az0_0 nz0_0 az0_1 nz0_1) 25)] enc155 ok155 px155 (fun {_} y s => clocks_added_1 N y z0 z1 s) := by
 intro σ wb w0 Fb F1 l y J s r Lf le01 hJm hs0 hJ hY h
 have hs0 : HS wb Fb w0 F1 ((sb bz0 (kSystem z0 az0_0 nz0_0 az0_1 nz0_1) 25) :: Lf) := hs0
 refine calls_of (n := 42) (c := bodyOf Try.f127) Try.func127 (by kernel_rfl) (by kernel_rfl) (by kernel_rfl) ?_
 refine Sq (Rg [0, 1, 2, 3, 4] ?_)
 refine V 7 0 (fa 25 1 1 1 1 bz0 0 1) ?_
 refine V 8 23 (ld 23 7 bz0 1 false 1 (.slice az0_1 z0.Ties.length nz0_1) (hs0.ownAt (k := 0) rfl)) ?_
 obtain ⟨r1, hr2, h3⟩ := bind_some h
 refine RWP.callO (dst := (some 9)) (ty := 23) (g := none) (by kernel_rfl) rfl (f0 := (.func 128)) (aos := #[(.tmp 8)]) (ats := #[23]) (fid := 128) (first := #[]) (cap := #[]) (args := [(.slice az0_1 z0.Ties.length nz0_1)]) rfl co_slices_Clone_api_Tie_api_Tie (rfl) hs0 (c_slices_Clone_api_Tie_api_Tie N w0 F1 hs0.pers (z0.Ties) az0_1 nz0_1 hbz0_1 (SlA.mono hsz0_1 le01) _ hr2) ?_
 rintro _ F2 w5 _ hs6 le7 ⟨a9, n10, e11, rfl, rfl, hr12⟩
 have hs14 : HS wb Fb w5 F2 (e11 :: (sb bz0 (kSystem z0 az0_0 nz0_0 az0_1 nz0_1) 25) :: Lf) := hs6
 refine V 10 0 (fa 25 1 1 1 1 bz0 0 1) ?_
 refine RWP.store (ty := 0) (g := none) (by kernel_rfl) rfl (x := (.tmp 10)) (y := (.tmp 9)) (t := 23) (gg := false) (s := 1) (v := (.slice a9 r1.length n10)) (b := bz0) (o := 1) (C := (kSystem z0 az0_0 nz0_0 az0_1 nz0_1)) rfl rfl (by kernel_rfl) hs14 (k := 1) rfl rfl rfl rfl (C' := #[(.slice az0_0 z0.Tracks.length nz0_0), (.slice a9 r1.length n10), (vi z0.Window)]) rfl (fun w15 (hs16 : HS wb Fb w15 F2 (e11 :: (sb bz0 #[(.slice az0_0 z0.Tracks.length nz0_0), (.slice a9 r1.length n10), (vi z0.Window)] 25) :: Lf)) => ?_)
 refine Nss (Rg [0, 1, 2] ?_)
 refine V 11 23 (ld 23 2 bz1 0 false 1 (.slice az1_0 z1.length nz1_0) (hs16.pers _ _ ((le01.trans le7) _ _ hz1))) ?_
 refine V 12 3 (ln 11 23 az1_0 z1.length nz1_0 46 4 32) ?_
 refine V 13 3 (run_move (x := (.const (vi 0))) (v := (vi 0)) rfl) ?_
 refine Nt ?_
 obtain ⟨o17, ho18, h19⟩ := bind_some h3
 refine CWP.cut (fun f w => ∃ (s32 : (Int × List Tie × σ)) (F4 : Mem) (Lf36 : Own), o17 = .done s32 ∧ HS wb Fb w F4 Lf36 ∧ Mem.le F2 F4 ∧ f.d = [] ∧ J s32.2.2 F4 Lf36) ?_ ?_
 ·refine Bk ?_
  refine CWP.loop (by kernel_rfl) (fun m f w => ∃ (s20 : (Int × List Tie × σ)) (F3 : Mem) (as20_1 : Option Addr) (ns20_1 : Nat) (es20_1 : Option Nat × Obj) (Lf24 : Own), iter (clocks_added_1_L0 N y z0 z1 s r1) m s20 = some o17 ∧ HS wb Fb w F3 (es20_1 :: (sb bz0 #[(.slice az0_0 z0.Tracks.length nz0_0), (.slice as20_1 s20.2.1.length ns20_1), (vi z0.Window)] 25) :: Lf24) ∧ Mem.le F2 F3 ∧ f.d = [] ∧ f 0 = (.func (.yield l) #[] #[]) ∧ f 1 = (.pointer (some ⟨bz0, 0, none⟩)) ∧ f 11 = (.slice az1_0 z1.length nz1_0) ∧ f 12 = (vi (z1.length : Int)) ∧ f 13 = (vi s20.1) ∧ RowR tTie 46 F3 as20_1 ns20_1 s20.2.1 es20_1 ∧ J s20.2.2 F3 Lf24) N ⟨(0, r1, s), F2, a9, n10, e11, Lf, ho18, hs16, (Mem.le.refl _), rfl, rfl, rfl, rfl, rfl, rfl, hr12, (hJm _ _ _ _ hJ le7)⟩ ?_
  rintro m39 f w21 ⟨s20, F3, as20_1, ns20_1, es20_1, Lf24, hit40, hs22, le23, e26, e27, e28, e29, e30, e31, hrs20_1, hJ25⟩
  obtain ⟨m41, fl42, rfl, hb43, hnx44⟩ := iter_step hit40
  refine Sq (Rg [0] ?_)
  refine V 14 0 (run_lss (t := 3) (t' := 3) (x := (.tmp 13)) (y := (.tmp 12)) (k := .i64) (a := s20.1) (b := (z1.length : Int)) e31 e30) ?_
  refine Nss ?_
  refine CWP.cond (t := (decide (s20.1 < (z1.length : Int)))) (by kernel_rfl) rfl (fun hb45 => ?_) (fun hb45 => ?_)
  ·have h46 := cond_t hb43 hb45
   refine Sc ?_
   refine thenQ_nrm ?_
   refine Sq ?_
   refine Bk ?_
   refine Sq (Rg [0, 1, 2, 3] ?_)
   obtain ⟨x47, hx48, h50⟩ := bind_some h46
   obtain ⟨hi49, hx48'⟩ := idx_spec hx48
   obtain ⟨b51, o52, C53, E54, fz55, rfl, hF57, hE58⟩ := SlA.open (SlA.mono hsz1_0 ((le01.trans le7).trans le23)) hx48'
   have hc60 := hE58 _ _ hx48'
   refine V 15 0 (run_index (t := 23) (x := (.tmp 11)) (y := (.tmp 13)) (b := b51) (o := o52) (E := 46) (s := 4) (by_ := 32) e29 e31 (by kernel_rfl) hi49) ?_
   refine V 16 46 (lx 46 15 0 4 true 4 (.agg (kTie x47)) (hs22.pers _ _ hF57) hc60) ?_
   refine Al 5 0 46 #[(vi 0), (vi 0), (vi 0), (vi 0)] hs22 (fun b61 w62 (hs63 : HS wb Fb w62 F3 ((sb b61 #[(vi 0), (vi 0), (vi 0), (vi 0)] 46) :: es20_1 :: (sb bz0 #[(.slice az0_0 z0.Tracks.length nz0_0), (.slice as20_1 s20.2.1.length ns20_1), (vi z0.Window)] 25) :: Lf24)) => ?_)
   refine RWP.store (ty := 0) (g := none) (by kernel_rfl) rfl (x := (.tmp 5)) (y := (.tmp 16)) (t := 46) (gg := true) (s := 4) (v := (.agg (kTie x47))) (b := b61) (o := 0) (C := #[(vi 0), (vi 0), (vi 0), (vi 0)]) rfl rfl (by kernel_rfl) hs63 (k := 0) rfl rfl rfl rfl (C' := (kTie x47)) rfl (fun w64 (hs65 : HS wb Fb w64 F3 ((sb b61 (kTie x47) 46) :: es20_1 :: (sb bz0 #[(.slice az0_0 z0.Tracks.length nz0_0), (.slice as20_1 s20.2.1.length ns20_1), (vi z0.Window)] 25) :: Lf24)) => ?_)
   refine Nss (Rg [0, 1, 2, 3, 4, 5, 6] ?_)
   refine V 17 0 (fa 25 1 1 1 1 bz0 0 1 e28) ?_
   refine V 18 23 (ld 23 17 bz0 1 false 1 (.slice as20_1 s20.2.1.length ns20_1) (hs65.ownAt (k := 2) rfl)) ?_
   refine V 19 46 (ld 46 5 b61 0 true 4 (.agg (kTie x47)) (hs65.ownAt (k := 0) rfl)) ?_
   refine RWP.buildSlice (dst := (some 20)) (ty := 23) (g := none) (by kernel_rfl) rfl (t := 23) (len := 1) (parts := #[(0, (.tmp 19))]) (vs := [(0, (.agg (kTie x47)))]) (rfl) (E := 46) (cs := [(vi x47.A.Log), (vi x47.A.Line), (vi x47.B.Log), (vi x47.B.Line)]) (by kernel_rfl) hs65 (fun b66 w67 (hs68 : HS wb Fb w67 F3 ((some b66, .cells ([(vi x47.A.Log), (vi x47.A.Line), (vi x47.B.Log), (vi x47.B.Line)] : List Value).toArray 46 (0, 0)) :: (sb b61 (kTie x47) 46) :: es20_1 :: (sb bz0 #[(.slice az0_0 z0.Tracks.length nz0_0), (.slice as20_1 s20.2.1.length ns20_1), (vi z0.Window)] 25) :: Lf24)) => ?_)
   have hr70 : RowR tTie 46 F3 (some ⟨b66, 0, none⟩) 1 [x47] (some b66, .cells ([(vi x47.A.Log), (vi x47.A.Line), (vi x47.B.Log), (vi x47.B.Line)] : List Value).toArray 46 (0, 0)) := RowR.lit ⟨rfl, rfl⟩ (by simp)
   obtain ⟨r71, hap72, h73⟩ := bind_some h50
   refine RWP.append (dst := (some 21)) (ty := 23) (g := none) (by kernel_rfl) rfl (x := (.tmp 18)) (y := (.tmp 20)) (t := 23) (t2 := 23) (by_ := 32) (z := (.agg #[(vi 0), (vi 0), (vi 0), (vi 0)])) (a2 := (some ⟨b66, 0, none⟩)) (c2 := 1) (m := [x47]) (T := tTie) (E := 46) (a := as20_1) (cap := ns20_1) (l := s20.2.1) rfl rfl (by kernel_rfl) (by decide) (by kernel_rfl) (by kernel_rfl) rfl oTie hs68 (k := 2) rfl hrs20_1 (RowR.rd hs68 (k := 0) rfl hr70) (r := r71) hap72 (fun a74 n75 e76 w77 (hs78 : HS wb Fb w77 F3 ((some b66, .cells ([(vi x47.A.Log), (vi x47.A.Line), (vi x47.B.Log), (vi x47.B.Line)] : List Value).toArray 46 (0, 0)) :: (sb b61 (kTie x47) 46) :: e76 :: (sb bz0 #[(.slice az0_0 z0.Tracks.length nz0_0), (.slice as20_1 s20.2.1.length ns20_1), (vi z0.Window)] 25) :: Lf24)) hr79 => ?_)
   refine V 22 0 (fa 25 1 1 1 1 bz0 0 1 e28) ?_
   refine RWP.store (ty := 0) (g := none) (by kernel_rfl) rfl (x := (.tmp 22)) (y := (.tmp 21)) (t := 23) (gg := false) (s := 1) (v := (.slice a74 r71.length n75)) (b := bz0) (o := 1) (C := #[(.slice az0_0 z0.Tracks.length nz0_0), (.slice as20_1 s20.2.1.length ns20_1), (vi z0.Window)]) rfl rfl (by kernel_rfl) hs78 (k := 3) rfl rfl rfl rfl (C' := #[(.slice az0_0 z0.Tracks.length nz0_0), (.slice a74 r71.length n75), (vi z0.Window)]) rfl (fun w80 (hs81 : HS wb Fb w80 F3 ((some b66, .cells ([(vi x47.A.Log), (vi x47.A.Line), (vi x47.B.Log), (vi x47.B.Line)] : List Value).toArray 46 (0, 0)) :: (sb b61 (kTie x47) 46) :: e76 :: (sb bz0 #[(.slice az0_0 z0.Tracks.length nz0_0), (.slice a74 r71.length n75), (vi z0.Window)] 25) :: Lf24)) => ?_)
   refine Nss (Rg [0, 1, 2] ?_)
   refine V 23 25 (ld 25 1 bz0 0 true 3 (.agg #[(.slice az0_0 z0.Tracks.length nz0_0), (.slice a74 r71.length n75), (vi z0.Window)]) (hs81.ownAt (k := 3) rfl) e28) ?_
   obtain ⟨r82, hr83, h84⟩ := bind_some h73
   refine RWP.callLent (q := 2) (T := tBound) (r := r82) (dst := (some 24)) (ty := 57) (g := none) (by kernel_rfl) rfl (f0 := (.func 103)) (aos := #[(.tmp 23)]) (ats := #[25]) (fid := 103) (first := #[]) (cap := #[]) (args := [(.agg #[(.slice az0_0 z0.Tracks.length nz0_0), (.slice a74 r71.length n75), (vi z0.Window)])]) rfl co_clocks_loopOf (rfl) hs81 rfl (fun _ _ _ _ h => h) (c_clocks_loopOf N w80 (addF F3 e76) (HS.lend hs81 (q := 2) rfl).2 ({ Tracks := z0.Tracks, Ties := r71, Window := z0.Window } : System) az0_0 nz0_0 hbz0_0 (SlA.mono (SlA.mono hsz0_0 ((le01.trans le7).trans le23)) (HS.lend hs81 (q := 2) rfl).1) a74 n75 (RowR.bound hr79) (RowR.freeze hr79 (HS.lend hs81 (q := 2) rfl).1) _ hr83) (fun a85 n86 F5 w87 (hs88 : HS wb Fb w87 F5 ((some b66, .cells ([(vi x47.A.Log), (vi x47.A.Line), (vi x47.B.Log), (vi x47.B.Line)] : List Value).toArray 46 (0, 0)) :: (sb b61 (kTie x47) 46) :: e76 :: (sb bz0 #[(.slice az0_0 z0.Tracks.length nz0_0), (.slice a74 r71.length n75), (vi z0.Window)] 25) :: Lf24)) le89 hb90 hl91 nf92 => ?_)
   refine V 6 57 (ma 24 (.slice a85 r82.length n86)) ?_
   refine Nss ?_
   refine Sq (Rg [0, 1, 2, 3, 4, 5] ?_)
   refine V 25 155 (mv 0 (.func (.yield l) #[] #[]) e27) ?_
   refine V 26 57 (mv 6 (.slice a85 r82.length n86)) ?_
   refine V 27 4 (run_eqnil' (e := 103) (t := 57) (t' := 57) (x := (.tmp 26)) (y := (.const (.slice none 0 0))) hl91 nf92 rfl rfl (by kernel_rfl)) ?_
   refine V 28 57 (mv 6 (.slice a85 r82.length n86)) ?_
   obtain ⟨q93, hq94, h95⟩ := bind_some h84
   refine RWP.yield (dst := (some 29)) (ty := 4) (g := none) (by kernel_rfl) rfl (f0 := (.tmp 25)) (aos := #[(.tmp 27), (.tmp 28)]) (ats := #[4, 57]) (l := l) (args := [(.bool (r82.isEmpty)), (.slice a85 r82.length n86)]) rfl (rfl) (hY s20.2.2 ((r82.isEmpty), r82, a85, n86) w87 F5 [(some b66, .cells ([(vi x47.A.Log), (vi x47.A.Line), (vi x47.B.Log), (vi x47.B.Line)] : List Value).toArray 46 (0, 0)), (sb b61 (kTie x47) 46), e76, (sb bz0 #[(.slice az0_0 z0.Tracks.length nz0_0), (.slice a74 r71.length n75), (vi z0.Window)] 25)] Lf24 q93 ((le7.trans le23).trans le89) ⟨hb90, hl91⟩ (hJm _ _ _ _ hJ25 le89) hs88 hq94) ?_
   rintro _ w96 ⟨F6, Lf100, rfl, hs97, le98, hJ99⟩
   have hs101 : HS wb Fb w96 F6 ((some b66, .cells ([(vi x47.A.Log), (vi x47.A.Line), (vi x47.B.Log), (vi x47.B.Line)] : List Value).toArray 46 (0, 0)) :: (sb b61 (kTie x47) 46) :: e76 :: (sb bz0 #[(.slice az0_0 z0.Tracks.length nz0_0), (.slice a74 r71.length n75), (vi z0.Window)] 25) :: Lf100) := hs97
   refine ⟨_, rfl, ?_⟩
   refine V 30 4 (run_not (t := 4) (x := (.tmp 29)) (a := q93.1) rfl) ?_
   refine Nt ?_
   refine CWP.cond (t := (!q93.1)) (by kernel_rfl) rfl (fun hb102 => ?_) (fun hb102 => ?_)
   ·have h103 := cond_t h95 hb102
    refine CWP.ret (by kernel_rfl) ?_
    refine thenQ_ret ?_
    refine blockQ_ret ?_
    refine thenQ_ret ?_
    refine thenQ_ret ?_
    refine blockQ_ret ?_
    have hret := iter_ret h103 hnx44
    subst hret
    refine .inr ?_
    have hs104 : HS wb Fb w96 F6 ((sb b61 (kTie x47) 46) :: e76 :: (sb bz0 #[(.slice az0_0 z0.Tracks.length nz0_0), (.slice a74 r71.length n75), (vi z0.Window)] 25) :: Lf100) := hs101.drop 0
    have hs105 : HS wb Fb w96 F6 (e76 :: (sb bz0 #[(.slice az0_0 z0.Tracks.length nz0_0), (.slice a74 r71.length n75), (vi z0.Window)] 25) :: Lf100) := hs104.drop 0
    have hs106 : HS wb Fb w96 F6 ((sb bz0 #[(.slice az0_0 z0.Tracks.length nz0_0), (.slice a74 r71.length n75), (vi z0.Window)] 25) :: Lf100) := hs105.drop 0
    have hs107 : HS wb Fb w96 F6 Lf100 := hs106.drop 0
    have hfin := some_inj h19
    subst hfin
    exact ⟨e26, .tuple #[], res_of (l := []) (by kernel_rfl) (vs := []) trivial, F6, Lf100, rfl, hs107, (((le7.trans le23).trans le89).trans le98), hJ99⟩
   ·have h108 := cond_f h95 hb102
    refine Sc ?_
    refine thenQ_nrm ?_
    refine Sq (Rg [0, 1] ?_)
    refine V 31 57 (mv 6 (.slice a85 r82.length n86)) ?_
    refine V 32 4 (run_nenil' (e := 103) (t := 57) (t' := 57) (x := (.tmp 31)) (y := (.const (.slice none 0 0))) (SlA.mono hl91 le98) nf92 rfl rfl (by kernel_rfl)) ?_
    refine Nt ?_
    obtain ⟨j112, hj119, h120⟩ := bind_some h108
    refine CWP.cut (fun f w => ∃ (F7 : Mem) (aj112_0 : Option Addr) (nj112_0 : Nat) (ej112_0 : Option Nat × Obj), HS wb Fb w F7 (ej112_0 :: (sb bz0 #[(.slice az0_0 z0.Tracks.length nz0_0), (.slice aj112_0 j112.length nj112_0), (vi z0.Window)] 25) :: Lf100) ∧ Mem.le F6 F7 ∧ f.d = [] ∧ f 0 = (.func (.yield l) #[] #[]) ∧ f 1 = (.pointer (some ⟨bz0, 0, none⟩)) ∧ f 11 = (.slice (some ⟨b51, o52, none⟩) z1.length nz1_0) ∧ f 12 = (vi (z1.length : Int)) ∧ f 13 = (vi s20.1) ∧ RowR tTie 46 F7 aj112_0 nj112_0 j112 ej112_0) ?_ ?_
    ·refine CWP.cond (t := (!r82.isEmpty)) (by kernel_rfl) rfl (fun hb121 => ?_) (fun hb121 => ?_)
     ·have h122 := cond_t hj119 hb121
      refine Rg [0, 1, 2, 3, 4, 5, 6, 7, 8] ?_
      refine V 33 0 (fa 25 1 1 1 1 bz0 0 1 e28) ?_
      refine V 34 23 (ld 23 33 bz0 1 false 1 (.slice a74 r71.length n75) (hs101.ownAt (k := 3) rfl)) ?_
      refine V 35 0 (fa 25 1 1 1 1 bz0 0 1 e28) ?_
      refine V 36 23 (ld 23 35 bz0 1 false 1 (.slice a74 r71.length n75) (hs101.ownAt (k := 3) rfl)) ?_
      refine V 37 3 (ln 36 23 a74 r71.length n75 46 4 32) ?_
      refine V 38 3 (run_sub (t := 3) (t' := 3) (x := (.tmp 37)) (y := (.const (vi 1))) (k := .i64) (a := (r71.length : Int)) (b := 1) rfl rfl) ?_
      obtain ⟨r123, hr124, h125⟩ := bind_some h122
      refine RWP.sliceRow (T := tTie) (x := (.tmp 34)) (y := (.tmp 38)) (t := 23) (E := 46) (by_ := 32) (c := n75) (a := a74) (l := r71) (r := r123) (ih := (W64 ((r71.length : Int) - 1))) (dst := (some 39)) (ty := 23) (g := none) (by kernel_rfl) rfl rfl (by kernel_rfl) (by kernel_rfl) (hr79.mono (le89.trans le98)) rfl hr124 (fun hr126 => ?_)
      refine V 40 0 (fa 25 1 1 1 1 bz0 0 1 e28) ?_
      refine RWP.store (ty := 0) (g := none) (by kernel_rfl) rfl (x := (.tmp 40)) (y := (.tmp 39)) (t := 23) (gg := false) (s := 1) (v := (.slice a74 r123.length n75)) (b := bz0) (o := 1) (C := #[(.slice az0_0 z0.Tracks.length nz0_0), (.slice a74 r71.length n75), (vi z0.Window)]) rfl rfl (by kernel_rfl) hs101 (k := 3) rfl rfl rfl rfl (C' := #[(.slice az0_0 z0.Tracks.length nz0_0), (.slice a74 r123.length n75), (vi z0.Window)]) rfl (fun w127 (hs128 : HS wb Fb w127 F6 ((some b66, .cells ([(vi x47.A.Log), (vi x47.A.Line), (vi x47.B.Log), (vi x47.B.Line)] : List Value).toArray 46 (0, 0)) :: (sb b61 (kTie x47) 46) :: e76 :: (sb bz0 #[(.slice az0_0 z0.Tracks.length nz0_0), (.slice a74 r123.length n75), (vi z0.Window)] 25) :: Lf100)) => ?_)
      refine RWP.nil ?_
      obtain rfl := some_inj h125
      have hs129 : HS wb Fb w127 F6 ((sb b61 (kTie x47) 46) :: e76 :: (sb bz0 #[(.slice az0_0 z0.Tracks.length nz0_0), (.slice a74 r123.length n75), (vi z0.Window)] 25) :: Lf100) := hs128.drop 0
      have hs130 : HS wb Fb w127 F6 (e76 :: (sb bz0 #[(.slice az0_0 z0.Tracks.length nz0_0), (.slice a74 r123.length n75), (vi z0.Window)] 25) :: Lf100) := hs129.drop 0
      exact .inl ⟨rfl, F6, a74, n75, e76, hs130, (Mem.le.refl _), e26, e27, e28, e29, e30, e31, hr126⟩
     ·have h131 := cond_f hj119 hb121
      refine Sc ?_
      obtain rfl := some_inj h131
      have hs132 : HS wb Fb w96 F6 ((sb b61 (kTie x47) 46) :: e76 :: (sb bz0 #[(.slice az0_0 z0.Tracks.length nz0_0), (.slice a74 r71.length n75), (vi z0.Window)] 25) :: Lf100) := hs101.drop 0
      have hs133 : HS wb Fb w96 F6 (e76 :: (sb bz0 #[(.slice az0_0 z0.Tracks.length nz0_0), (.slice a74 r71.length n75), (vi z0.Window)] 25) :: Lf100) := hs132.drop 0
      exact .inl ⟨rfl, F6, a74, n75, e76, hs133, (Mem.le.refl _), e26, e27, e28, e29, e30, e31, (hr79.mono (le89.trans le98))⟩
    ·rintro f w109 ⟨F7, aj112_0, nj112_0, ej112_0, hs110, le111, e113, e114, e115, e116, e117, e118, hrj112_0⟩
     refine blockQ_nrm ?_
     refine thenQ_nrm ?_
     refine Rg [0, 1] ?_
     refine V 41 3 (run_add (t := 3) (t' := 3) (x := (.tmp 13)) (y := (.const (vi 1))) (k := .i64) (a := s20.1) (b := 1) e118 rfl) ?_
     refine V 13 3 (mv 41 (vi (W64 (s20.1 + 1)))) ?_
     refine RWP.nil ?_
     have hn134 := iter_next h120 hnx44
     exact ⟨m41, Nat.lt_succ_self _, ((W64 (s20.1 + 1)), j112, q93.2), F7, aj112_0, nj112_0, ej112_0, Lf100, hn134, hs110, (((le23.trans le89).trans le98).trans le111), e113, e114, e115, e116, e117, rfl, hrj112_0, (hJm _ _ _ _ hJ99 le111)⟩
  ·have h135 := cond_f hb43 hb45
   refine CWP.exit (by kernel_rfl) ?_
   refine thenQ_ex ?_
   refine thenQ_ex ?_
   refine blockQ_hit rfl ?_
   have hs136 : HS wb Fb w21 F3 ((sb bz0 #[(.slice az0_0 z0.Tracks.length nz0_0), (.slice as20_1 s20.2.1.length ns20_1), (vi z0.Window)] 25) :: Lf24) := hs22.drop 0
   have hs137 : HS wb Fb w21 F3 Lf24 := hs136.drop 0
   have ho138 := iter_done h135 hnx44
   exact .inl ⟨rfl, (s20.1, s20.2.1, s20.2.2), F3, Lf24, ho138, hs137, le23, e26, hJ25⟩
 ·rintro f w33 ⟨s32, F4, Lf36, rfl, hs34, le35, e38, hJ37⟩
  have h139 := k_done h19
  have hfin := some_inj h139
  subst hfin
  exact ⟨e38, .tuple #[], res_of (l := []) (by kernel_rfl) (vs := []) trivial, F4, Lf36, rfl, hs34, (le7.trans le35), hJ37⟩
end Go.Proofs.Ythbcnabeabcmlaa
namespace Go.Proofs.Ythbcnabeabcmlaa
open Go.Proofs
def clocks_offered_1 (N : Nat) (x0 : Tie) (z0 : System) : Option Bool :=
 (((clocks_has N z0 x0.A).bind fun r12 => (bif (!r12) then some true else ((clocks_has N z0 x0.B).bind fun r24 => some (!r24)))).bind fun j7 => some j7)
theorem co_clocks_offered_1 : CallOk Try.prog 125 := fun _ _ => by kernel_rfl
set_option maxHeartbeats 4000000 in
set_option maxRecDepth 100000 in
theorem c_clocks_offered_1 (N : Nat) (w0 : World) (F0 : Mem) (hF : ∀ b o, F0 b = some o → w0.heap[b]? = some o) (x0 : Tie) (bz0 : Nat) (z0 : System) (az0_0 : Option Addr) (nz0_0 : Nat) (hbz0_0 : LC z0.Tracks.length nz0_0) (hsz0_0 : SlA tTrack F0 az0_0 z0.Tracks) (az0_1 : Option Addr) (nz0_1 : Nat) (hbz0_1 : LC z0.Ties.length nz0_1) (hsz0_1 : SlA tTie F0 az0_1 z0.Ties) (hz0 : F0 bz0 = some (oc (kSystem z0 az0_0 nz0_0 az0_1 nz0_1) 25)) (r : Bool) (h : clocks_offered_1 N x0 z0 = some r) :
  Calls Try.prog 125 ([(.agg (kTie x0)), (.pointer (some ⟨bz0, 0, none⟩))] : List Value).toArray w0 (FRet w0 F0 fun F' v => v = (.bool r)) := by
 have hs0 := HS.start hF
 refine calls_of (n := 16) (c := bodyOf Try.f125) Try.func125 (by kernel_rfl) (by kernel_rfl) (by kernel_rfl) ?_
 refine Sq (Rg [0, 1] ?_)
 refine Bx 2 0 0 46 (kTie x0) hs0 (fun b1 w2 (hs3 : HS w0 F0 w2 F0 [(sb b1 (kTie x0) 46)]) => ?_)
 refine V 3 4 (mc (.bool false) (.bool false)) ?_
 refine Nss (Rg [0, 1, 2, 3, 4, 5, 6, 7, 8, 9, 10, 11, 12] ?_)
 obtain ⟨j7, hj10, h11⟩ := bind_some h
 refine RWP.cut (fun f w => ∃ (F1 : Mem), HS w0 F0 w F1 [] ∧ Mem.le F0 F1 ∧ f.d = [] ∧ f 3 = (.bool j7)) ?_ ?_
 ·refine V 4 25 (ld 25 1 bz0 0 true 3 (.agg (kSystem z0 az0_0 nz0_0 az0_1 nz0_1)) (hs3.pers _ _ hz0)) ?_
  refine V 5 0 (fa 46 2 0 0 2 b1 0 0) ?_
  refine V 6 27 (ld 27 5 b1 0 true 2 (.agg (kRef x0.A)) (hs3.ownAt (k := 0) rfl)) ?_
  obtain ⟨r12, hr13, h14⟩ := bind_some hj10
  refine Cl 7 4 107 #[(.tmp 4), (.tmp 6)] #[25, 27] co_clocks_has hs3 (c_clocks_has N w2 F0 hs3.pers (z0) az0_0 nz0_0 hbz0_0 hsz0_0 az0_1 nz0_1 hbz0_1 hsz0_1 (x0.A) _ hr13) ?_
  intro v15 F2 w16 hs17 le18 hp19
  obtain rfl := hp19
  refine V 8 4 (run_not (t := 4) (x := (.tmp 7)) (a := r12) rfl) ?_
  refine V 9 4 (mv 8 (.bool (!r12))) ?_
  refine RWP.split (!r12) (fun hb20 => ?_) (fun hb20 => ?_)
  ·have h21 := cond_t h14 hb20
   refine Sk [10, 11, 12, 13, 14] 5 false 9 hb20 ?_
   refine V 15 4 (p1 9 (.const (.bool true)) (.tmp 14) (.bool true) hb20) ?_
   refine V 3 4 (ma 15 (.bool true)) ?_
   obtain rfl := some_inj h21
   have hs22 : HS w0 F0 w16 F2 [] := hs17.drop 0
   exact RWP.nil ⟨rfl, F2, hs22, le18, rfl, rfl⟩
  ·have h23 := cond_f h14 hb20
   refine Vg 10 25 5 false 9 hb20 (ld 25 1 bz0 0 true 3 (.agg (kSystem z0 az0_0 nz0_0 az0_1 nz0_1)) (hs17.pers _ _ (le18 _ _ hz0))) ?_
   refine Vg 11 0 5 false 9 hb20 (fa 46 2 1 2 2 b1 0 2) ?_
   refine Vg 12 27 5 false 9 hb20 (ld 27 11 b1 2 true 2 (.agg (kRef x0.B)) (hs17.ownAt (k := 0) rfl)) ?_
   obtain ⟨r24, hr25, h26⟩ := bind_some h23
   refine RWP.call (dst := (some 13)) (ty := 4) (g := (some (5, false))) (by kernel_rfl) (gd_y (d := 9) (by kernel_rfl) rfl hb20) (f0 := (.func 107)) (aos := #[(.tmp 10), (.tmp 12)]) (ats := #[25, 27]) (fid := 107) (first := #[]) (cap := #[]) (args := [(.agg (kSystem z0 az0_0 nz0_0 az0_1 nz0_1)), (.agg (kRef x0.B))]) rfl co_clocks_has (rfl) hs17 (c_clocks_has N w16 F2 hs17.pers (z0) az0_0 nz0_0 hbz0_0 (SlA.mono hsz0_0 le18) az0_1 nz0_1 hbz0_1 (SlA.mono hsz0_1 le18) (x0.B) _ hr25) ?_
   intro v27 F3 w28 hs29 le30 hp31
   obtain rfl := hp31
   refine Vg 14 4 5 false 9 hb20 (run_not (t := 4) (x := (.tmp 13)) (a := r24) rfl) ?_
   refine V 15 4 (p0 9 (.const (.bool true)) (.tmp 14) (.bool (!r24)) hb20) ?_
   refine V 3 4 (ma 15 (.bool (!r24))) ?_
   obtain rfl := some_inj h26
   have hs32 : HS w0 F0 w28 F3 [] := hs29.drop 0
   exact RWP.nil ⟨rfl, F3, hs32, (le18.trans le30), rfl, rfl⟩
 ·rintro f w4 ⟨F1, hs5, le6, e8, e9⟩
  refine thenQ_nrm ?_
  refine CWP.ret (by kernel_rfl) ?_
  have hfin := some_inj h11
  subst hfin
  exact ⟨e8, (.bool j7), res_of (l := [.tmp 3]) (by kernel_rfl) (vs := [(.bool j7)]) ⟨e9, trivial⟩, (.bool j7), F1, rfl, hs5.clear, rfl⟩
end Go.Proofs.Ythbcnabeabcmlaa
namespace Go.Proofs.Ythbcnabeabcmlaa
open Go.Proofs
def clocks_offered_2 (N : Nat) (x0 : Tie) (z0 : System) : Option Bool :=
 ((clocks_tied N z0 x0).bind fun r4 => some (!r4))
theorem co_clocks_offered_2 : CallOk Try.prog 126 := fun _ _ => by kernel_rfl
set_option maxHeartbeats 4000000 in
set_option maxRecDepth 100000 in
theorem c_clocks_offered_2 (N : Nat) (w0 : World) (F0 : Mem) (hF : ∀ b o, F0 b = some o → w0.heap[b]? = some o) (x0 : Tie) (bz0 : Nat) (z0 : System) (az0_0 : Option Addr) (nz0_0 : Nat) (hbz0_0 : LC z0.Tracks.length nz0_0) (hsz0_0 : SlA tTrack F0 az0_0 z0.Tracks) (az0_1 : Option Addr) (nz0_1 : Nat) (hbz0_1 : LC z0.Ties.length nz0_1) (hsz0_1 : SlA tTie F0 az0_1 z0.Ties) (hz0 : F0 bz0 = some (oc (kSystem z0 az0_0 nz0_0 az0_1 nz0_1) 25)) (r : Bool) (h : clocks_offered_2 N x0 z0 = some r) :
  Calls Try.prog 126 ([(.agg (kTie x0)), (.pointer (some ⟨bz0, 0, none⟩))] : List Value).toArray w0 (FRet w0 F0 fun F' v => v = (.bool r)) := by
 have hs0 := HS.start hF
 refine calls_of (n := 8) (c := bodyOf Try.f126) Try.func126 (by kernel_rfl) (by kernel_rfl) (by kernel_rfl) ?_
 refine Sq (Rg [0, 1] ?_)
 refine Bx 2 0 0 46 (kTie x0) hs0 (fun b1 w2 (hs3 : HS w0 F0 w2 F0 [(sb b1 (kTie x0) 46)]) => ?_)
 refine V 3 4 (mc (.bool false) (.bool false)) ?_
 refine Nss (Rg [0, 1, 2, 3, 4] ?_)
 refine V 4 25 (ld 25 1 bz0 0 true 3 (.agg (kSystem z0 az0_0 nz0_0 az0_1 nz0_1)) (hs3.pers _ _ hz0)) ?_
 refine V 5 46 (ld 46 2 b1 0 true 4 (.agg (kTie x0)) (hs3.ownAt (k := 0) rfl)) ?_
 obtain ⟨r4, hr5, h6⟩ := bind_some h
 refine Cl 6 4 70 #[(.tmp 4), (.tmp 5)] #[25, 46] co_clocks_tied hs3 (c_clocks_tied N w2 F0 hs3.pers (z0) az0_0 nz0_0 hbz0_0 hsz0_0 az0_1 nz0_1 hbz0_1 hsz0_1 (x0) _ hr5) ?_
 intro v7 F1 w8 hs9 le10 hp11
 obtain rfl := hp11
 refine V 7 4 (run_not (t := 4) (x := (.tmp 6)) (a := r4) rfl) ?_
 refine V 3 4 (ma 7 (.bool (!r4))) ?_
 refine Nt ?_
 refine CWP.ret (by kernel_rfl) ?_
 have hfin := some_inj h6
 subst hfin
 exact ⟨rfl, (.bool (!r4)), res_of (l := [.tmp 3]) (by kernel_rfl) (vs := [(.bool (!r4))]) ⟨rfl, trivial⟩, (.bool (!r4)), F1, rfl, hs9.clear, rfl⟩
end Go.Proofs.Ythbcnabeabcmlaa
namespace Go.Proofs.Ythbcnabeabcmlaa
open Go.Proofs
def clocks_offered (N : Nat) (x0 : System) (x1 : (List Tie)) (x2 : Bool) : Option Int :=
 ((clocks_Check N x0).bind fun r4 => (bif (r4 != 0) then some r4 else ((slices_ContainsFunc_api_Tie_api_Tie N x1 (fun y0 => clocks_offered_1 N y0 x0)).bind fun r18 => (bif r18 then some 3 else ((bif (!x2) then some true else ((slices_ContainsFunc_api_Tie_api_Tie N x1 (fun y0 => clocks_offered_2 N y0 x0)).bind fun r42 => some r42)).bind fun j32 => (bif j32 then some 1 else ((clocks_loopOf N x0).bind fun r53 => (bif (!r53.isEmpty) then some 31 else (bif (decide ((W64 ((x0.Ties.length : Int) + (x1.length : Int))) > 400)) then some 2 else some 0)))))))))
theorem co_clocks_offered : CallOk Try.prog 86 := fun _ _ => by kernel_rfl
set_option maxHeartbeats 4000000 in
set_option maxRecDepth 100000 in
theorem c_clocks_offered (N : Nat) (w0 : World) (F0 : Mem) (hF : ∀ b o, F0 b = some o → w0.heap[b]? = some o) (x0 : System) (a0_0 : Option Addr) (n0_0 : Nat) (hb0_0 : LC x0.Tracks.length n0_0) (hs0_0 : SlA tTrack F0 a0_0 x0.Tracks) (a0_1 : Option Addr) (n0_1 : Nat) (hb0_1 : LC x0.Ties.length n0_1) (hs0_1 : SlA tTie F0 a0_1 x0.Ties) (x1 : (List Tie)) (a1_0 : Option Addr) (n1_0 : Nat) (hb1_0 : LC x1.length n1_0) (hs1_0 : SlA tTie F0 a1_0 x1) (x2 : Bool) (r : Int) (h : clocks_offered N x0 x1 x2 = some r) :
  Calls Try.prog 86 ([(.agg (kSystem x0 a0_0 n0_0 a0_1 n0_1)), (.slice a1_0 x1.length n1_0), (.bool x2)] : List Value).toArray w0 (FRet w0 F0 fun F' v => v = (vi r)) := by
 have hs0 := HS.start hF
 refine calls_of (n := 36) (c := bodyOf Try.f86) Try.func86 (by kernel_rfl) (by kernel_rfl) (by kernel_rfl) ?_
 refine Sq (Rg [0, 1] ?_)
 refine Bx 3 0 0 25 (kSystem x0 a0_0 n0_0 a0_1 n0_1) hs0 (fun b1 w2 (hs3 : HS w0 F0 w2 F0 [(sb b1 (kSystem x0 a0_0 n0_0 a0_1 n0_1) 25)]) => ?_)
 refine V 6 30 (mc (vi 0) (vi 0)) ?_
 refine Nss ?_
 refine Sq (Rg [0, 1, 2] ?_)
 refine V 8 25 (ld 25 3 b1 0 true 3 (.agg (kSystem x0 a0_0 n0_0 a0_1 n0_1)) (hs3.ownAt (k := 0) rfl)) ?_
 obtain ⟨r4, hr5, h6⟩ := bind_some h
 refine Cl 9 30 17 #[(.tmp 8)] #[25] co_clocks_Check hs3 (c_clocks_Check N w2 F0 hs3.pers (x0) a0_0 n0_0 hb0_0 hs0_0 a0_1 n0_1 hb0_1 hs0_1 _ hr5) ?_
 intro v7 F1 w8 hs9 le10 hp11
 obtain rfl := hp11
 refine V 7 30 (ma 9 (vi r4)) ?_
 refine Nss (Rg [0, 1] ?_)
 refine V 10 30 (mv 7 (vi r4)) ?_
 refine V 11 4 (run_neq (t := 30) (t' := 30) (x := (.tmp 10)) (y := (.const (vi 0))) (k := .i64) (a := r4) (b := 0) rfl rfl) ?_
 refine Nt ?_
 refine CWP.cond (t := (r4 != 0)) (by kernel_rfl) rfl (fun hb12 => ?_) (fun hb12 => ?_)
 ·have h13 := cond_t h6 hb12
  refine Sq (Rg [0, 1] ?_)
  refine V 12 30 (mv 7 (vi r4)) ?_
  refine V 6 30 (ma 12 (vi r4)) ?_
  refine Nt ?_
  refine CWP.ret (by kernel_rfl) ?_
  refine thenQ_ret ?_
  have hfin := some_inj h13
  subst hfin
  exact ⟨rfl, (vi r4), res_of (l := [.tmp 6]) (by kernel_rfl) (vs := [(vi r4)]) ⟨rfl, trivial⟩, (vi r4), F1, rfl, hs9.clear, rfl⟩
 ·have h14 := cond_f h6 hb12
  refine Sc ?_
  refine thenQ_nrm ?_
  refine Sq ?_
  refine Sq (Rg [0, 1, 2] ?_)
  refine V 13 23 (mv 1 (.slice a1_0 x1.length n1_0)) ?_
  refine V 14 91 (run_makeFunc (fn := .func 125) (first := #[]) (cap := #[(.tmp 3)]) (fl := []) (cl := [(.pointer (some ⟨b1, 0, none⟩))]) rfl (rfl)) ?_
  obtain ⟨F2, hs15, le16, hF17⟩ : ∃ Fq, HS w0 F0 w8 Fq [] ∧ Mem.le F1 Fq ∧ Fq b1 = some (oc (kSystem x0 a0_0 n0_0 a0_1 n0_1) 25) := HS.freezeC hs9 (k := 0) rfl
  obtain ⟨r18, hr19, h20⟩ := bind_some h14
  refine Cl 15 4 68 #[(.tmp 13), (.tmp 14)] #[23, 91] co_slices_ContainsFunc_api_Tie_api_Tie hs15 (c_slices_ContainsFunc_api_Tie_api_Tie N w8 F2 hs15.pers (x1) a1_0 n1_0 hb1_0 (SlA.mono hs1_0 (le10.trans le16)) 125 [] [(.pointer (some ⟨b1, 0, none⟩))] (fun y0 => clocks_offered_1 N y0 x0) co_clocks_offered_1 (fun w1 F1 y0 r le1 pe1 hr1 => c_clocks_offered_1 N w1 F1 pe1  y0 b1 x0 a0_0 n0_0 hb0_0 (SlA.mono (SlA.mono hs0_0 (le10.trans le16)) le1) a0_1 n0_1 hb0_1 (SlA.mono (SlA.mono hs0_1 (le10.trans le16)) le1) (le1 _ _ hF17) r hr1) _ hr19) ?_
  intro v21 F3 w22 hs23 le24 hp25
  obtain rfl := hp25
  refine Nt ?_
  refine CWP.cond (t := r18) (by kernel_rfl) rfl (fun hb26 => ?_) (fun hb26 => ?_)
  ·have h27 := cond_t h20 hb26
   refine Sq (Rg [0] ?_)
   refine V 6 30 (mc (vi 3) (vi 3)) ?_
   refine Nt ?_
   refine CWP.ret (by kernel_rfl) ?_
   refine thenQ_ret ?_
   have hfin := some_inj h27
   subst hfin
   exact ⟨rfl, (vi 3), res_of (l := [.tmp 6]) (by kernel_rfl) (vs := [(vi 3)]) ⟨rfl, trivial⟩, (vi 3), F3, rfl, hs23.clear, rfl⟩
  ·have h28 := cond_f h20 hb26
   refine Sc ?_
   refine thenQ_nrm ?_
   refine Sq ?_
   refine Bk ?_
   refine Sq (Rg [0, 1, 2, 3, 4, 5, 6, 7] ?_)
   obtain ⟨j32, hj37, h38⟩ := bind_some h28
   refine RWP.cut (fun f w => ∃ (F4 : Mem), HS w0 F0 w F4 [] ∧ Mem.le F3 F4 ∧ f.d = [] ∧ f 1 = (.slice a1_0 x1.length n1_0) ∧ f 3 = (.pointer (some ⟨b1, 0, none⟩)) ∧ f 16 = (.bool j32)) ?_ ?_
   ·refine V 17 4 (mv 2 (.bool x2)) ?_
    refine V 18 4 (run_not (t := 4) (x := (.tmp 17)) (a := x2) rfl) ?_
    refine V 19 4 (mv 18 (.bool (!x2))) ?_
    refine RWP.split (!x2) (fun hb39 => ?_) (fun hb39 => ?_)
    ·have h40 := cond_t hj37 hb39
     refine Sk [20, 21, 22] 2 false 19 hb39 ?_
     refine V 23 4 (p1 19 (.const (.bool true)) (.tmp 22) (.bool true) hb39) ?_
     refine V 16 4 (ma 23 (.bool true)) ?_
     obtain rfl := some_inj h40
     exact RWP.nil ⟨rfl, F3, hs23, (Mem.le.refl _), rfl, rfl, rfl, rfl⟩
    ·have h41 := cond_f hj37 hb39
     refine Vg 20 23 2 false 19 hb39 (mv 1 (.slice a1_0 x1.length n1_0)) ?_
     refine Vg 21 91 2 false 19 hb39 (run_makeFunc (fn := .func 126) (first := #[]) (cap := #[(.tmp 3)]) (fl := []) (cl := [(.pointer (some ⟨b1, 0, none⟩))]) rfl (rfl)) ?_
     obtain ⟨r42, hr43, h44⟩ := bind_some h41
     refine RWP.call (dst := (some 22)) (ty := 4) (g := (some (2, false))) (by kernel_rfl) (gd_y (d := 19) (by kernel_rfl) rfl hb39) (f0 := (.func 68)) (aos := #[(.tmp 20), (.tmp 21)]) (ats := #[23, 91]) (fid := 68) (first := #[]) (cap := #[]) (args := [(.slice a1_0 x1.length n1_0), (.func (.func 126) #[] #[(.pointer (some ⟨b1, 0, none⟩))])]) rfl co_slices_ContainsFunc_api_Tie_api_Tie (rfl) hs23 (c_slices_ContainsFunc_api_Tie_api_Tie N w22 F3 hs23.pers (x1) a1_0 n1_0 hb1_0 (SlA.mono hs1_0 ((le10.trans le16).trans le24)) 126 [] [(.pointer (some ⟨b1, 0, none⟩))] (fun y0 => clocks_offered_2 N y0 x0) co_clocks_offered_2 (fun w1 F1 y0 r le1 pe1 hr1 => c_clocks_offered_2 N w1 F1 pe1  y0 b1 x0 a0_0 n0_0 hb0_0 (SlA.mono (SlA.mono hs0_0 ((le10.trans le16).trans le24)) le1) a0_1 n0_1 hb0_1 (SlA.mono (SlA.mono hs0_1 ((le10.trans le16).trans le24)) le1) (le1 _ _ (le24 _ _ hF17)) r hr1) _ hr43) ?_
     intro v45 F5 w46 hs47 le48 hp49
     obtain rfl := hp49
     refine V 23 4 (p0 19 (.const (.bool true)) (.tmp 22) (.bool r42) hb39) ?_
     refine V 16 4 (ma 23 (.bool r42)) ?_
     obtain rfl := some_inj h44
     exact RWP.nil ⟨rfl, F5, hs47, le48, rfl, rfl, rfl, rfl⟩
   ·rintro f w29 ⟨F4, hs30, le31, e33, e34, e35, e36⟩
    refine thenQ_nrm ?_
    refine CWP.cond (t := j32) (by kernel_rfl) e36 (fun hb50 => ?_) (fun hb50 => ?_)
    ·have h51 := cond_t h38 hb50
     refine Sq (Rg [0] ?_)
     refine V 6 30 (mc (vi 1) (vi 1)) ?_
     refine Nt ?_
     refine CWP.ret (by kernel_rfl) ?_
     refine blockQ_ret ?_
     refine thenQ_ret ?_
     have hfin := some_inj h51
     subst hfin
     exact ⟨e33, (vi 1), res_of (l := [.tmp 6]) (by kernel_rfl) (vs := [(vi 1)]) ⟨rfl, trivial⟩, (vi 1), F4, rfl, hs30.clear, rfl⟩
    ·have h52 := cond_f h38 hb50
     refine Sq (Rg [0, 1, 2, 3] ?_)
     refine V 25 25 (ld 25 3 b1 0 true 3 (.agg (kSystem x0 a0_0 n0_0 a0_1 n0_1)) (hs30.pers _ _ ((le24.trans le31) _ _ hF17)) e35) ?_
     obtain ⟨r53, hr54, h55⟩ := bind_some h52
     refine Cl 26 57 103 #[(.tmp 25)] #[25] co_clocks_loopOf hs30 (c_clocks_loopOf N w29 F4 hs30.pers (x0) a0_0 n0_0 hb0_0 (SlA.mono hs0_0 (((le10.trans le16).trans le24).trans le31)) a0_1 n0_1 hb0_1 (SlA.mono hs0_1 (((le10.trans le16).trans le24).trans le31)) _ hr54) ?_
     intro v56 F6 w57 hs58 le59 hp60
     obtain ⟨ar53_0_0, nr53_0_0, rfl, hbr53_0_0, hsr53_0_0, nf61, fr62⟩ := hp60
     refine V 27 4 (run_nenil' (e := 103) (t := 57) (t' := 57) (x := (.tmp 26)) (y := (.const (.slice none 0 0))) hsr53_0_0 nf61 rfl rfl (by kernel_rfl)) ?_
     refine V 24 4 (ma 27 (.bool (!r53.isEmpty))) ?_
     refine Nt ?_
     refine CWP.cond (t := (!r53.isEmpty)) (by kernel_rfl) rfl (fun hb63 => ?_) (fun hb63 => ?_)
     ·have h64 := cond_t h55 hb63
      refine Sq (Rg [0] ?_)
      refine V 6 30 (mc (vi 31) (vi 31)) ?_
      refine Nt ?_
      refine CWP.ret (by kernel_rfl) ?_
      refine blockQ_ret ?_
      refine thenQ_ret ?_
      have hfin := some_inj h64
      subst hfin
      exact ⟨e33, (vi 31), res_of (l := [.tmp 6]) (by kernel_rfl) (vs := [(vi 31)]) ⟨rfl, trivial⟩, (vi 31), F6, rfl, hs58.clear, rfl⟩
     ·have h65 := cond_f h55 hb63
      refine Sq (Rg [0, 1, 2, 3, 4, 5, 6, 7] ?_)
      refine V 29 0 (fa 25 3 1 1 1 b1 0 1 e35) ?_
      refine V 30 23 (ld 23 29 b1 1 false 1 (.slice a0_1 x0.Ties.length n0_1) (hs58.pers _ _ (((le24.trans le31).trans le59) _ _ hF17))) ?_
      refine V 31 3 (ln 30 23 a0_1 x0.Ties.length n0_1 46 4 32) ?_
      refine V 32 23 (mv 1 (.slice a1_0 x1.length n1_0) e34) ?_
      refine V 33 3 (ln 32 23 a1_0 x1.length n1_0 46 4 32) ?_
      refine V 34 3 (run_add (t := 3) (t' := 3) (x := (.tmp 31)) (y := (.tmp 33)) (k := .i64) (a := (x0.Ties.length : Int)) (b := (x1.length : Int)) rfl rfl) ?_
      refine V 35 4 (run_gtr (t := 3) (t' := 3) (x := (.tmp 34)) (y := (.const (vi 400))) (k := .i64) (a := (W64 ((x0.Ties.length : Int) + (x1.length : Int)))) (b := 400) rfl rfl) ?_
      refine V 28 4 (ma 35 (.bool (decide ((W64 ((x0.Ties.length : Int) + (x1.length : Int))) > 400)))) ?_
      refine Nt ?_
      refine CWP.cond (t := (decide ((W64 ((x0.Ties.length : Int) + (x1.length : Int))) > 400))) (by kernel_rfl) rfl (fun hb66 => ?_) (fun hb66 => ?_)
      ·have h67 := cond_t h65 hb66
       refine Sq (Rg [0] ?_)
       refine V 6 30 (mc (vi 2) (vi 2)) ?_
       refine Nt ?_
       refine CWP.ret (by kernel_rfl) ?_
       refine blockQ_ret ?_
       refine thenQ_ret ?_
       have hfin := some_inj h67
       subst hfin
       exact ⟨e33, (vi 2), res_of (l := [.tmp 6]) (by kernel_rfl) (vs := [(vi 2)]) ⟨rfl, trivial⟩, (vi 2), F6, rfl, hs58.clear, rfl⟩
      ·have h68 := cond_f h65 hb66
       refine Sc ?_
       refine blockQ_nrm ?_
       refine thenQ_nrm ?_
       refine Sq (Rg [0] ?_)
       refine V 6 30 (mc (vi 0) (vi 0)) ?_
       refine Nt ?_
       refine CWP.ret (by kernel_rfl) ?_
       have hfin := some_inj h68
       subst hfin
       exact ⟨e33, (vi 0), res_of (l := [.tmp 6]) (by kernel_rfl) (vs := [(vi 0)]) ⟨rfl, trivial⟩, (vi 0), F6, rfl, hs58.clear, rfl⟩
end Go.Proofs.Ythbcnabeabcmlaa
namespace Go.Proofs.Ythbcnabeabcmlaa
open Go.Proofs
theorem co_clocks_added : CallOk Try.prog 87 := fun _ _ => by kernel_rfl
set_option maxRecDepth 100000 in
theorem c_clocks_added (w0 : World) (F0 : Mem) (hF : ∀ b o, F0 b = some o → w0.heap[b]? = some o) (x0 : System) (a0_0 : Option Addr) (n0_0 : Nat) (_ : LC x0.Tracks.length n0_0) (_ : SlA tTrack F0 a0_0 x0.Tracks) (a0_1 : Option Addr) (n0_1 : Nat) (_ : LC x0.Ties.length n0_1) (_ : SlA tTie F0 a0_1 x0.Ties) (x1 : List Tie) (a1_0 : Option Addr) (n1_0 : Nat) (_ : LC x1.length n1_0) (_ : SlA tTie F0 a1_0 x1) :
  Calls Try.prog 87 ([(.agg (kSystem x0 a0_0 n0_0 a0_1 n0_1)), (.slice a1_0 x1.length n1_0)] : List Value).toArray w0 (FRetO w0 F0 fun _ v L' => ∃ (b0 b1 : Nat), v = .func (.func 127) #[] #[.pointer (some ⟨b0, 0, none⟩), .pointer (some ⟨b1, 0, none⟩)] ∧ L' = [(some b1, .cells #[(.slice a1_0 x1.length n1_0)] 23 (0, 0)), (some b0, .cells (kSystem x0 a0_0 n0_0 a0_1 n0_1) 25 (0, 0))]) := by
 have hs0 := HS.start hF
 refine calls_of (n := 6) (c := bodyOf Try.f87) Try.func87 (by kernel_rfl) (by kernel_rfl) (by kernel_rfl) ?_
 refine CWP.seq (by kernel_rfl) ?_
 refine CWP.region (l := [0, 1, 2]) (by kernel_rfl) (by kernel_rfl) (by kernel_rfl) ?_
 refine RWP.box (dst := (some 2)) (ty := 0) (g := none) (by kernel_rfl) rfl (x := (.tmp 0)) (t := 25) (v := (.agg (kSystem x0 a0_0 n0_0 a0_1 n0_1))) rfl (C := (kSystem x0 a0_0 n0_0 a0_1 n0_1)) rfl hs0 (fun b0 w1 hs1 => ?_)
 refine RWP.box (dst := (some 3)) (ty := 0) (g := none) (by kernel_rfl) rfl (x := (.tmp 1)) (t := 23) (v := (.slice a1_0 x1.length n1_0)) rfl (C := #[(.slice a1_0 x1.length n1_0)]) rfl hs1 (fun b1 w2 hs2 => ?_)
 refine RWP.val (dst := (some 4)) (ty := 120) (g := none) (by kernel_rfl) rfl (run_assign (x := (.const .nilFunc)) (v := .nilFunc) rfl) ?_
 refine RWP.nil ?_
 refine thenQ_nrm ?_
 refine CWP.seq (by kernel_rfl) ?_
 refine CWP.region (l := [0, 1]) (by kernel_rfl) (by kernel_rfl) (by kernel_rfl) ?_
 refine RWP.val (dst := some 5) (ty := 119) (g := none) (by kernel_rfl) rfl (run_makeFunc (fn := .func 127) (first := #[]) (cap := #[.tmp 2, .tmp 3]) (fl := []) (cl := [.pointer (some ⟨b0, 0, none⟩), .pointer (some ⟨b1, 0, none⟩)]) rfl rfl) ?_
 refine RWP.val (dst := (some 4)) (ty := 120) (g := none) (by kernel_rfl) rfl (run_assign (x := (.tmp 5)) (v := .func (.func 127) #[] #[.pointer (some ⟨b0, 0, none⟩), .pointer (some ⟨b1, 0, none⟩)]) rfl) ?_
 refine RWP.nil ?_
 refine thenQ_nrm ?_
 refine CWP.ret (by kernel_rfl) ?_
 exact ⟨rfl, _, res_of (l := [.tmp 4]) (by kernel_rfl) (vs := [.func (.func 127) #[] #[.pointer (some ⟨b0, 0, none⟩), .pointer (some ⟨b1, 0, none⟩)]]) ⟨rfl, trivial⟩, _, F0, _, rfl, hs2, b0, b1, rfl, rfl⟩
end Go.Proofs.Ythbcnabeabcmlaa
namespace Go.Proofs.Ythbcnabeabcmlaa
open Go.Proofs
def clocks_Accept_L0 (N : Nat) (x0 : System) (x1 : (List Tie)) (r4 : Int) : (List Bool) → (Bool × (List Bound)) → Option (List Bool) := fun s33 ⟨y55, y56⟩ =>
 ((apnd s33 [y55]).bind fun r68 => some r68)
def clocks_Accept (N : Nat) (x0 : System) (x1 : (List Tie)) : Option ((List Bool) × Int) :=
 ((clocks_offered N x0 x1 true).bind fun r4 => (bif (r4 != 0) then some (([] : List Bool), r4) else ((clocks_added_1 N (fun st x => ((clocks_Accept_L0 N x0 x1 r4) st x).map fun t => (true, t)) x0 x1 ([] : List Bool)).bind fun r41 => some (r41, 0))))
theorem co_clocks_Accept : CallOk Try.prog 42 := fun _ _ => by kernel_rfl
set_option maxHeartbeats 4000000 in
set_option maxRecDepth 100000 in
theorem c_clocks_Accept (N : Nat) (w0 : World) (F0 : Mem) (hF : ∀ b o, F0 b = some o → w0.heap[b]? = some o) (x0 : System) (a0_0 : Option Addr) (n0_0 : Nat) (hb0_0 : LC x0.Tracks.length n0_0) (hs0_0 : SlA tTrack F0 a0_0 x0.Tracks) (a0_1 : Option Addr) (n0_1 : Nat) (hb0_1 : LC x0.Ties.length n0_1) (hs0_1 : SlA tTie F0 a0_1 x0.Ties) (x1 : (List Tie)) (a1_0 : Option Addr) (n1_0 : Nat) (hb1_0 : LC x1.length n1_0) (hs1_0 : SlA tTie F0 a1_0 x1) (r : ((List Bool) × Int)) (h : clocks_Accept N x0 x1 = some r) :
  Calls Try.prog 42 ([(.agg (kSystem x0 a0_0 n0_0 a0_1 n0_1)), (.slice a1_0 x1.length n1_0)] : List Value).toArray w0 (FRet w0 F0 fun F' v => ∃ (aq0_0 : Option Addr) (nq0_0 : Nat), v = (.tuple #[(.slice aq0_0 r.1.length nq0_0), (vi r.2)]) ∧ LC r.1.length nq0_0 ∧ SlA tBool F' aq0_0 r.1) := by
 have hs0 := HS.start hF
 refine calls_ofM (n := 25) (c := bodyOf Try.f42) Try.func42 (by kernel_rfl) (by kernel_rfl) (by kernel_rfl) ?_
 refine Sq (Rg [0, 1, 2] ?_)
 refine Bx 2 0 0 25 (kSystem x0 a0_0 n0_0 a0_1 n0_1) hs0 (fun b1 w2 (hs3 : HS w0 F0 w2 F0 [(sb b1 (kSystem x0 a0_0 n0_0 a0_1 n0_1) 25)]) => ?_)
 refine V 4 64 (mc (.slice none 0 0) (.slice none ([] : List Bool).length 0)) ?_
 refine V 5 30 (mc (vi 0) (vi 0)) ?_
 refine Nss ?_
 refine Sq (Rg [0, 1, 2, 3] ?_)
 refine V 9 25 (ld 25 2 b1 0 true 3 (.agg (kSystem x0 a0_0 n0_0 a0_1 n0_1)) (hs3.ownAt (k := 0) rfl)) ?_
 refine V 10 23 (mv 1 (.slice a1_0 x1.length n1_0)) ?_
 obtain ⟨r4, hr5, h6⟩ := bind_some h
 refine Cl 11 30 86 #[(.tmp 9), (.tmp 10), (.const (.bool true))] #[25, 23, 4] co_clocks_offered hs3 (c_clocks_offered N w2 F0 hs3.pers (x0) a0_0 n0_0 hb0_0 hs0_0 a0_1 n0_1 hb0_1 hs0_1 (x1) a1_0 n1_0 hb1_0 hs1_0 (true) _ hr5) ?_
 intro v7 F1 w8 hs9 le10 hp11
 obtain rfl := hp11
 refine V 6 30 (ma 11 (vi r4)) ?_
 refine Nss (Rg [0, 1] ?_)
 refine V 12 30 (mv 6 (vi r4)) ?_
 refine V 13 4 (run_neq (t := 30) (t' := 30) (x := (.tmp 12)) (y := (.const (vi 0))) (k := .i64) (a := r4) (b := 0) rfl rfl) ?_
 refine Nt ?_
 refine CWP.cond (t := (r4 != 0)) (by kernel_rfl) rfl (fun hb12 => ?_) (fun hb12 => ?_)
 ·have h13 := cond_t h6 hb12
  refine Sq (Rg [0, 1, 2] ?_)
  refine V 14 30 (mv 6 (vi r4)) ?_
  refine V 4 64 (mc (.slice none 0 0) (.slice none ([] : List Bool).length 0)) ?_
  refine V 5 30 (ma 14 (vi r4)) ?_
  refine Nt ?_
  refine CWP.ret (by kernel_rfl) ?_
  refine thenQ_ret ?_
  have hfin := some_inj h13
  subst hfin
  exact .inl ⟨rfl, (.tuple #[(.slice none ([] : List Bool).length 0), (vi r4)]), res_of (l := [.tmp 4, .tmp 5]) (by kernel_rfl) (vs := [(.slice none ([] : List Bool).length 0), (vi r4)]) ⟨rfl, ⟨rfl, trivial⟩⟩, (.tuple #[(.slice none ([] : List Bool).length 0), (vi r4)]), F1, rfl, hs9.clear, ⟨none, 0, rfl, LC.nil, (.inl rfl)⟩⟩
 ·have h14 := cond_f h6 hb12
  refine Sc ?_
  refine thenQ_nrm ?_
  refine Sq (Rg [0] ?_)
  refine RWP.alloc (dst := (some 7)) (ty := 0) (g := none) (by kernel_rfl) rfl (t := 64) (z := (.slice none ([] : List Bool).length 0)) (by kernel_rfl) (C := #[(.slice none ([] : List Bool).length 0)]) rfl hs9 (fun b15 w16 (hs17 : HS w0 F0 w16 F1 [(sb b15 #[(.slice none ([] : List Bool).length 0)] 64), (sb b1 (kSystem x0 a0_0 n0_0 a0_1 n0_1) 25)]) => ?_)
  refine Nss ?_
  refine Sq (Rg [0, 1, 2] ?_)
  refine V 15 25 (ld 25 2 b1 0 true 3 (.agg (kSystem x0 a0_0 n0_0 a0_1 n0_1)) (hs17.ownAt (k := 1) rfl)) ?_
  refine V 16 23 (mv 1 (.slice a1_0 x1.length n1_0)) ?_
  refine RWP.callO (dst := (some 17)) (ty := 120) (g := none) (by kernel_rfl) rfl (f0 := (.func 87)) (aos := #[(.tmp 15), (.tmp 16)]) (ats := #[25, 23]) (fid := 87) (first := #[]) (cap := #[]) (args := [(.agg (kSystem x0 a0_0 n0_0 a0_1 n0_1)), (.slice a1_0 x1.length n1_0)]) rfl co_clocks_added (rfl) hs17 (c_clocks_added w16 F1 hs17.pers (x0) a0_0 n0_0 hb0_0 (SlA.mono hs0_0 le10) a0_1 n0_1 hb0_1 (SlA.mono hs0_1 le10) (x1) a1_0 n1_0 hb1_0 (SlA.mono hs1_0 le10)) ?_
  rintro _ F2 w20 _ hs21 le22 ⟨b18, b19, rfl, rfl⟩
  have hs23 : HS w0 F0 w20 F2 [(sb b19 #[(.slice a1_0 x1.length n1_0)] 23), (sb b18 (kSystem x0 a0_0 n0_0 a0_1 n0_1) 25), (sb b15 #[(.slice none ([] : List Bool).length 0)] 64), (sb b1 (kSystem x0 a0_0 n0_0 a0_1 n0_1) 25)] := hs21
  refine Nt ?_
  refine Bk ?_
  obtain ⟨F3, hs24, le25, hF26⟩ : ∃ Fq, HS w0 F0 w20 Fq [(sb b18 (kSystem x0 a0_0 n0_0 a0_1 n0_1) 25), (sb b15 #[(.slice none ([] : List Bool).length 0)] 64), (sb b1 (kSystem x0 a0_0 n0_0 a0_1 n0_1) 25)] ∧ Mem.le F2 Fq ∧ Fq b19 = some (oc #[(.slice a1_0 x1.length n1_0)] 23) := HS.freezeC hs23 (k := 0) rfl
  have hs27 : HS w0 F0 w20 F3 [(sb b18 (kSystem x0 a0_0 n0_0 a0_1 n0_1) 25), (sb b15 #[(.slice none ([] : List Bool).length 0)] 64)] := hs24.drop 2
  have hs28 : HS w0 F0 w20 F3 [(none, .cells #[] 0 (0, 0)), (sb b18 (kSystem x0 a0_0 n0_0 a0_1 n0_1) 25), (sb b15 #[(.slice none ([] : List Bool).length 0)] 64)] := hs27.dummy _
  have hs30 : HS w0 F0 w20 F3 [(sb b15 #[(.slice none ([] : List Bool).length 0)] 64), (none, .cells #[] 0 (0, 0)), (sb b18 (kSystem x0 a0_0 n0_0 a0_1 n0_1) 25)] := hs28.pick (k := 2) rfl
  have hs31 : HS w0 F0 w20 F3 [(none, .cells #[] 0 (0, 0)), (sb b15 #[(.slice none ([] : List Bool).length 0)] 64), (sb b18 (kSystem x0 a0_0 n0_0 a0_1 n0_1) 25)] := hs30.pick (k := 1) rfl
  have hs32 : HS w0 F0 w20 F3 [(sb b18 (kSystem x0 a0_0 n0_0 a0_1 n0_1) 25), (none, .cells #[] 0 (0, 0)), (sb b15 #[(.slice none ([] : List Bool).length 0)] 64)] := hs31.pick (k := 2) rfl
  obtain ⟨r41, hr42, h43⟩ := bind_some h14
  refine CWP.rangeFunc (enc := enc155) (ok := ok155) (px := px155) (m := fun {_} y s => clocks_added_1 N y x0 x1 s) (L := [(none, .cells #[] 0 (0, 0)), (sb b15 #[(.slice none ([] : List Bool).length 0)] 64)]) (B := [(sb b18 (kSystem x0 a0_0 n0_0 a0_1 n0_1) 25)]) (ps := [18, 19]) (by kernel_rfl) (gf := 127) (cap := [(.pointer (some ⟨b18, 0, none⟩)), (.pointer (some ⟨b19, 0, none⟩))]) rfl co_clocks_added_1 rfl (by kernel_rfl) (by kernel_rfl) (by rintro ⟨_, _, _, _⟩; rfl) hs32 (c_clocks_added_1 N F3 x0 a0_0 n0_0 hb0_0 (SlA.mono hs0_0 ((le10.trans le22).trans le25)) a0_1 n0_1 hb0_1 (SlA.mono hs0_1 ((le10.trans le22).trans le25)) b18 x1 a1_0 n1_0 hb1_0 (SlA.mono hs1_0 ((le10.trans le22).trans le25)) b19 hF26) (fun st x => ((clocks_Accept_L0 N x0 x1 r4) st x).map fun t => (true, t)) (fun (s33 : (List Bool)) (F4 : Mem) (Lq : Own) => ∃ (as33_0 : Option Addr) (ns33_0 : Nat) (es33_0 : Option Nat × Obj), Lq = [es33_0, (sb b15 #[(.slice as33_0 s33.length ns33_0)] 64)] ∧ RowR tBool 4 F4 as33_0 ns33_0 s33 es33_0) ?_ (s := ([] : List Bool)) (r := r41) ?_ hr42 (fun _ _ _ h => (map_true h).1) ?_ ?_
  ·rintro s F F' L ⟨as33_0, ns33_0, es33_0, rfl, hrs33_0⟩ hl
   exact ⟨as33_0, ns33_0, es33_0, rfl, (hrs33_0.mono hl)⟩
  ·exact ⟨none, 0, (none, .cells #[] 0 (0, 0)), rfl, (RowR.nil tBool 4 F3 _)⟩
  ·rintro l44 s33 ⟨y55, y56, ay56_0, ny56_0⟩ w47 F4 _ Rf49 ⟨_, q50⟩ le51 ⟨hby56_0, hsy56_0⟩ ⟨as33_0, ns33_0, es33_0, rfl, hrs33_0⟩ hs53 hy54
   have h57 := (map_true hy54).2
   have hs58 : HS w0 F0 w47 F4 (es33_0 :: (sb b15 #[(.slice as33_0 s33.length ns33_0)] 64) :: Rf49) := hs53
   refine Rg [0] ?_
   refine V 8 4 (ma 18 (.bool y55)) ?_
   refine RWP.nil ?_
   refine ⟨rfl, F4, [es33_0, (sb b15 #[(.slice as33_0 s33.length ns33_0)] 64)], hs58, fun w59 Rf60 hs61 => ?_⟩
   have hs62 : HS w0 F0 w59 F4 (es33_0 :: (sb b15 #[(.slice as33_0 s33.length ns33_0)] 64) :: Rf60) := hs61
   refine Bk ?_
   refine Rg [0, 1, 2, 3, 4] ?_
   refine V 20 64 (ld 64 7 b15 0 false 1 (.slice as33_0 s33.length ns33_0) (hs62.ownAt (k := 1) rfl)) ?_
   refine V 21 4 (mv 8 (.bool y55)) ?_
   refine RWP.buildSlice (dst := (some 22)) (ty := 64) (g := none) (by kernel_rfl) rfl (t := 64) (len := 1) (parts := #[(0, (.tmp 21))]) (vs := [(0, (.bool y55))]) (rfl) (E := 4) (cs := [(.bool y55)]) (by kernel_rfl) hs62 (fun b63 w64 (hs65 : HS w0 F0 w64 F4 ((some b63, .cells ([(.bool y55)] : List Value).toArray 4 (0, 0)) :: es33_0 :: (sb b15 #[(.slice as33_0 s33.length ns33_0)] 64) :: Rf60)) => ?_)
   have hr67 : RowR tBool 4 F4 (some ⟨b63, 0, none⟩) 1 [y55] (some b63, .cells ([(.bool y55)] : List Value).toArray 4 (0, 0)) := RowR.lit ⟨rfl, rfl⟩ (by simp)
   obtain ⟨r68, hap69, h70⟩ := bind_some h57
   refine RWP.append (dst := (some 23)) (ty := 64) (g := none) (by kernel_rfl) rfl (x := (.tmp 20)) (y := (.tmp 22)) (t := 64) (t2 := 64) (by_ := 1) (z := (.bool false)) (a2 := (some ⟨b63, 0, none⟩)) (c2 := 1) (m := [y55]) (T := tBool) (E := 4) (a := as33_0) (cap := ns33_0) (l := s33) rfl rfl (by kernel_rfl) (by decide) (by kernel_rfl) (by kernel_rfl) rfl oBool hs65 (k := 1) rfl hrs33_0 (RowR.rd hs65 (k := 0) rfl hr67) (r := r68) hap69 (fun a71 n72 e73 w74 (hs75 : HS w0 F0 w74 F4 ((some b63, .cells ([(.bool y55)] : List Value).toArray 4 (0, 0)) :: e73 :: (sb b15 #[(.slice as33_0 s33.length ns33_0)] 64) :: Rf60)) hr76 => ?_)
   refine RWP.store (ty := 0) (g := none) (by kernel_rfl) rfl (x := (.tmp 7)) (y := (.tmp 23)) (t := 64) (gg := false) (s := 1) (v := (.slice a71 r68.length n72)) (b := b15) (o := 0) (C := #[(.slice as33_0 s33.length ns33_0)]) rfl rfl (by kernel_rfl) hs75 (k := 2) rfl rfl rfl rfl (C' := #[(.slice a71 r68.length n72)]) rfl (fun w77 (hs78 : HS w0 F0 w77 F4 ((some b63, .cells ([(.bool y55)] : List Value).toArray 4 (0, 0)) :: e73 :: (sb b15 #[(.slice a71 r68.length n72)] 64) :: Rf60)) => ?_)
   refine RWP.nil ?_
   refine blockQ_nrm ?_
   have hs79 : HS w0 F0 w77 F4 (e73 :: (sb b15 #[(.slice a71 r68.length n72)] 64) :: Rf60) := hs78.drop 0
   obtain rfl := some_inj h70
   exact ⟨rfl, F4, [e73, (sb b15 #[(.slice a71 r68.length n72)] 64)], hs79, (Mem.le.refl _), ⟨a71, n72, e73, rfl, hr76⟩⟩
  ·rintro D81 w82 F5 _ hs83 le84 ⟨as37_0, ns37_0, es37_0, rfl, hrs37_0⟩
   have hs85 : HS w0 F0 w82 F5 [(some D81, (.deferred (some []))), es37_0, (sb b15 #[(.slice as37_0 r41.length ns37_0)] 64)] := hs83
   refine blockQ_nrm ?_
   refine thenQ_nrm ?_
   refine Sq (Rg [0, 1, 2] ?_)
   refine V 24 64 (ld 64 7 b15 0 false 1 (.slice as37_0 r41.length ns37_0) (hs85.ownAt (k := 2) rfl)) ?_
   refine V 4 64 (ma 24 (.slice as37_0 r41.length ns37_0)) ?_
   refine V 5 30 (mc (vi 0) (vi 0)) ?_
   refine Nt ?_
   refine CWP.ret (by kernel_rfl) ?_
   have hb89 := RowR.bound hrs37_0
   obtain ⟨F6, hs86, le87, hs88⟩ : ∃ Fq, HS w0 F0 w82 Fq [(some D81, (.deferred (some []))), (sb b15 #[(.slice as37_0 r41.length ns37_0)] 64)] ∧ Mem.le F5 Fq ∧ SlA tBool Fq as37_0 r41 := HS.freezeRow hs85 (k := 1) rfl hrs37_0
   have hs90 := hs86.put (k := 0) rfl (.deferred none)
   have hs91 : HS w0 F0 (putB w82 D81 (.deferred none)) F6 [(sb b15 #[(.slice as37_0 r41.length ns37_0)] 64)] := hs90.drop 0
   have hfin := some_inj h43
   subst hfin
   exact .inr ⟨D81, rfl, hs86.ownAt (k := 0) rfl, (.tuple #[(.slice as37_0 r41.length ns37_0), (vi 0)]), res_of (l := [.tmp 4, .tmp 5]) (by kernel_rfl) (vs := [(.slice as37_0 r41.length ns37_0), (vi 0)]) ⟨rfl, ⟨rfl, trivial⟩⟩, (.tuple #[(.slice as37_0 r41.length ns37_0), (vi 0)]), F6, rfl, hs91.clear, ⟨as37_0, ns37_0, rfl, hb89, hs88⟩⟩
end Go.Proofs.Ythbcnabeabcmlaa
