/- Lemmas of the claim ClocksKeeps, printed by a program of the claimant and by hand. No statement of the seat is proved here. -/
import Derived.Test.YthbcnabeabcmlaaA3
set_option linter.unusedVariables false
set_option linter.unusedSimpArgs false
set_option linter.unusedSectionVars false
namespace Go.Proofs.Ythbcnabeabcmlaa
open Go.Proofs
def clocks_chained_L0 (N : Nat) (x0 : System) (x1 : (List Bound)) (r15 : System) : (List (Bound × Bool)) → Bound → Option (List (Bound × Bool)) := fun s24 x37 =>
 some (mput s24 x37 true)
def clocks_chained_L1 (N : Nat) (x0 : System) (x1 : (List Bound)) (r15 : System) (r32 : (List (Bound × Bool))) : Int → Option (Flow Bool Int) := fun s71 =>
 (bif (decide (s71 < (x1.length : Int))) then ((idx x1 s71).bind fun x95 => ((bif (!(mgetD r32 x95 false)) then some true else (bif (decide (s71 > 0)) then ((idx x1 (W64 (s71 - 1))).bind fun x135 => some (!((x95.From.Log == x135.To.Log) && ((x95.From.Line == x135.To.Line) && true)))) else some false)).bind fun j119 => (bif j119 then some (.ret false) else some (.next (W64 (s71 + 1)))))) else some (.done s71))
def clocks_chained (N : Nat) (x0 : System) (x1 : (List Bound)) : Option Bool :=
 ((clocks_bounds N x0).bind fun r15 => ((clocks_bounds_1 N (fun st x => ((clocks_chained_L0 N x0 x1 r15) st x).map fun t => (true, t)) r15 ([] : List (Bound × Bool))).bind fun r32 => ((iter (clocks_chained_L1 N x0 x1 r15 r32) N 0).bind fun o => o.k (fun r => some r) (fun s81 => ((clocks_within N (x1.length : Int) 1 30000).bind fun r155 => some r155)))))
theorem co_clocks_chained : CallOk Try.prog 98 := fun _ _ => by kernel_rfl
set_option maxHeartbeats 4000000 in
set_option maxRecDepth 100000 in
theorem c_clocks_chained (N : Nat) (w0 : World) (F0 : Mem) (hF : ∀ b o, F0 b = some o → w0.heap[b]? = some o) (x0 : System) (a0_0 : Option Addr) (n0_0 : Nat) (hb0_0 : LC x0.Tracks.length n0_0) (hs0_0 : SlA tTrack F0 a0_0 x0.Tracks) (a0_1 : Option Addr) (n0_1 : Nat) (hb0_1 : LC x0.Ties.length n0_1) (hs0_1 : SlA tTie F0 a0_1 x0.Ties) (x1 : (List Bound)) (a1_0 : Option Addr) (n1_0 : Nat) (hb1_0 : LC x1.length n1_0) (hs1_0 : SlA tBound F0 a1_0 x1) (r : Bool) (h : clocks_chained N x0 x1 = some r) :
  Calls Try.prog 98 ([(.agg (kSystem x0 a0_0 n0_0 a0_1 n0_1)), (.slice a1_0 x1.length n1_0)] : List Value).toArray w0 (FRet w0 F0 fun F' v => v = (.bool r)) := by
 have hs0 := HS.start hF
 refine calls_ofM (n := 45) (c := bodyOf Try.f98) Try.func98 (by kernel_rfl) (by kernel_rfl) (by kernel_rfl) ?_
 refine Sq (Rg [0, 1] ?_)
 refine Bx 2 0 0 25 (kSystem x0 a0_0 n0_0 a0_1 n0_1) hs0 (fun b1 w2 (hs3 : HS w0 F0 w2 F0 [(sb b1 (kSystem x0 a0_0 n0_0 a0_1 n0_1) 25)]) => ?_)
 refine V 4 4 (mc (.bool false) (.bool false)) ?_
 refine Nss (Rg [0, 1, 2] ?_)
 refine RWP.makeMap (t := 157) (K := tBound) (T := tBool) (dst := (some 9)) (ty := 157) (g := none) (by kernel_rfl) rfl hs3 (fun b5 e6 w7 (hs8 : HS w0 F0 w7 F0 [e6, (sb b1 (kSystem x0 a0_0 n0_0 a0_1 n0_1) 25)]) hr9 => ?_)
 refine RWP.alloc (dst := (some 5)) (ty := 0) (g := none) (by kernel_rfl) rfl (t := 157) (z := (.map none)) (by kernel_rfl) (C := #[(.map none)]) rfl hs8 (fun b10 w11 (hs12 : HS w0 F0 w11 F0 [(sb b10 #[(.map none)] 157), e6, (sb b1 (kSystem x0 a0_0 n0_0 a0_1 n0_1) 25)]) => ?_)
 refine RWP.store (ty := 0) (g := none) (by kernel_rfl) rfl (x := (.tmp 5)) (y := (.tmp 9)) (t := 157) (gg := false) (s := 1) (v := (.map (some b5))) (b := b10) (o := 0) (C := #[(.map none)]) rfl rfl (by kernel_rfl) hs12 (k := 0) rfl rfl rfl rfl (C' := #[(.map (some b5))]) rfl (fun w13 (hs14 : HS w0 F0 w13 F0 [(sb b10 #[(.map (some b5))] 157), e6, (sb b1 (kSystem x0 a0_0 n0_0 a0_1 n0_1) 25)]) => ?_)
 refine Nss ?_
 refine Sq (Rg [0, 1] ?_)
 refine V 10 25 (ld 25 2 b1 0 true 3 (.agg (kSystem x0 a0_0 n0_0 a0_1 n0_1)) (hs14.ownAt (k := 2) rfl)) ?_
 obtain ⟨r15, hr16, h17⟩ := bind_some h
 refine Cl 11 105 76 #[(.tmp 10)] #[25] co_clocks_bounds hs14 (c_clocks_bounds N w13 F0 hs14.pers (x0) a0_0 n0_0 hb0_0 hs0_0 a0_1 n0_1 hb0_1 hs0_1 _ hr16) ?_
 intro v18 F1 w19 hs20 le21 hp22
 obtain ⟨ar15_0_0_0, nr15_0_0_0, ar15_0_0_1, nr15_0_0_1, br15_0_0, rfl, hbr15_0_0_0, hsr15_0_0_0, hbr15_0_0_1, hsr15_0_0_1, hFr15_0_0⟩ := hp22
 refine Nt ?_
 refine Bk ?_
 have hs23 : HS w0 F0 w19 F1 [(sb b10 #[(.map (some b5))] 157), e6] := hs20.drop 2
 obtain ⟨r32, hr33, h34⟩ := bind_some h17
 refine CWP.rangeFunc (enc := enc134) (ok := ok134) (px := px134) (m := fun {_} y s => clocks_bounds_1 N y r15 s) (L := [(sb b10 #[(.map (some b5))] 157), e6]) (B := []) (ps := [12]) (by kernel_rfl) (gf := 120) (cap := [(.pointer (some ⟨br15_0_0, 0, none⟩))]) rfl co_clocks_bounds_1 rfl (by kernel_rfl) (by kernel_rfl) (fun _ => rfl) hs23 (c_clocks_bounds_1 N F1 r15 ar15_0_0_0 nr15_0_0_0 hbr15_0_0_0 hsr15_0_0_0 ar15_0_0_1 nr15_0_0_1 hbr15_0_0_1 hsr15_0_0_1 br15_0_0 hFr15_0_0) (fun st x => ((clocks_chained_L0 N x0 x1 r15) st x).map fun t => (true, t)) (fun (s24 : (List (Bound × Bool))) (F2 : Mem) (Lq : Own) => ∃ (es24_0 : Option Nat × Obj), Lq = [(sb b10 #[(.map (some b5))] 157), es24_0] ∧ MapR tBound tBool F2 b5 s24 es24_0) ?_ (s := ([] : List (Bound × Bool))) (r := r32) ?_ hr33 (fun _ _ _ h => (map_true h).1) ?_ ?_
 ·rintro s F F' L ⟨es24_0, rfl, hrs24_0⟩ hl
  exact ⟨es24_0, rfl, (hrs24_0.mono hl)⟩
 ·exact ⟨e6, rfl, (hr9.mono le21)⟩
 ·rintro l35 s24 x37 w38 F2 _ Rf40 ⟨_, q41⟩ le42 ok43 ⟨es24_0, rfl, hrs24_0⟩ hs44 hy45
  have h46 := (map_true hy45).2
  have hs47 : HS w0 F0 w38 F2 ((sb b10 #[(.map (some b5))] 157) :: es24_0 :: Rf40) := hs44
  refine Rg [0, 1] ?_
  refine Al 6 0 103 #[(vi 0), (vi 0), (vi 0), (vi 0), (vi 0), (vi 0), (vi 0)] hs47 (fun b48 w49 (hs50 : HS w0 F0 w49 F2 ((sb b48 #[(vi 0), (vi 0), (vi 0), (vi 0), (vi 0), (vi 0), (vi 0)] 103) :: (sb b10 #[(.map (some b5))] 157) :: es24_0 :: Rf40)) => ?_)
  refine RWP.store (ty := 0) (g := none) (by kernel_rfl) rfl (x := (.tmp 6)) (y := (.tmp 12)) (t := 103) (gg := true) (s := 7) (v := (.agg (kBound x37))) (b := b48) (o := 0) (C := #[(vi 0), (vi 0), (vi 0), (vi 0), (vi 0), (vi 0), (vi 0)]) rfl rfl (by kernel_rfl) hs50 (k := 0) rfl rfl rfl rfl (C' := (kBound x37)) rfl (fun w51 (hs52 : HS w0 F0 w51 F2 ((sb b48 (kBound x37) 103) :: (sb b10 #[(.map (some b5))] 157) :: es24_0 :: Rf40)) => ?_)
  refine RWP.nil ?_
  refine ⟨rfl, F2, [(sb b48 (kBound x37) 103), (sb b10 #[(.map (some b5))] 157), es24_0], hs52, fun w53 Rf54 hs55 => ?_⟩
  have hs56 : HS w0 F0 w53 F2 ((sb b48 (kBound x37) 103) :: (sb b10 #[(.map (some b5))] 157) :: es24_0 :: Rf54) := hs55
  refine Bk ?_
  refine Rg [0, 1, 2] ?_
  refine V 13 157 (ld 157 5 b10 0 false 1 (.map (some b5)) (hs56.ownAt (k := 1) rfl)) ?_
  refine V 14 103 (ld 103 6 b48 0 true 7 (.agg (kBound x37)) (hs56.ownAt (k := 0) rfl)) ?_
  refine RWP.mapPut kl103 (ty := 0) (g := none) (mt := 157) (k := 103) (vt := 4) (m := (.tmp 13)) (x := (.tmp 14)) (y := (.const (.bool true))) (b := b5) (kx := x37) (u := true) (kv := (.agg (kBound x37))) (v := (.bool true)) (K := tBound) (T := tBool) (by kernel_rfl) rfl rfl rfl rfl ⟨_, rfl, rfl⟩ ⟨_, rfl, rfl⟩ (by kernel_rfl) hs56 (q := 2) rfl hrs24_0 (fun e57 w58 (hs59 : HS w0 F0 w58 F2 ((sb b48 (kBound x37) 103) :: (sb b10 #[(.map (some b5))] 157) :: e57 :: Rf54)) hr60 => ?_)
  refine RWP.nil ?_
  refine blockQ_nrm ?_
  have hs61 : HS w0 F0 w58 F2 ((sb b10 #[(.map (some b5))] 157) :: e57 :: Rf54) := hs59.drop 0
  obtain rfl := some_inj h46
  exact ⟨rfl, F2, [(sb b10 #[(.map (some b5))] 157), e57], hs61, (Mem.le.refl _), ⟨e57, rfl, hr60⟩⟩
 ·rintro D63 w64 F3 _ hs65 le66 ⟨es28_0, rfl, hrs28_0⟩
  have hs67 : HS w0 F0 w64 F3 [(some D63, (.deferred (some []))), (sb b10 #[(.map (some b5))] 157), es28_0] := hs65
  refine blockQ_nrm ?_
  refine thenQ_nrm ?_
  refine Sq ?_
  refine Sq (Rg [0, 1, 2] ?_)
  refine V 15 57 (mv 1 (.slice a1_0 x1.length n1_0)) ?_
  refine V 16 3 (ln 15 57 a1_0 x1.length n1_0 103 7 56) ?_
  refine V 17 3 (run_move (x := (.const (vi 0))) (v := (vi 0)) rfl) ?_
  refine Nt ?_
  obtain ⟨o68, ho69, h70⟩ := bind_some h34
  refine CWP.cut (fun f w => ∃ (s81 : Int) (F5 : Mem), o68 = .done s81 ∧ HS w0 F0 w F5 [(some D63, (.deferred (some [])))] ∧ Mem.le F3 F5 ∧ f.d = [{ target := .collected D63, args := #[] }] ∧ f 1 = (.slice a1_0 x1.length n1_0)) ?_ ?_
  ·refine Bk ?_
   refine CWP.loop (by kernel_rfl) (fun m f w => ∃ (s71 : Int) (F4 : Mem), iter (clocks_chained_L1 N x0 x1 r15 r32) m s71 = some o68 ∧ HS w0 F0 w F4 [(some D63, (.deferred (some []))), (sb b10 #[(.map (some b5))] 157), es28_0] ∧ Mem.le F3 F4 ∧ f.d = [{ target := .collected D63, args := #[] }] ∧ f 1 = (.slice a1_0 x1.length n1_0) ∧ f 5 = (.pointer (some ⟨b10, 0, none⟩)) ∧ f 15 = (.slice a1_0 x1.length n1_0) ∧ f 16 = (vi (x1.length : Int)) ∧ f 17 = (vi s71)) N ⟨0, F3, ho69, hs67, (Mem.le.refl _), rfl, rfl, rfl, rfl, rfl, rfl⟩ ?_
   rintro m87 f w72 ⟨s71, F4, hit88, hs73, le74, e75, e76, e77, e78, e79, e80⟩
   obtain ⟨m89, fl90, rfl, hb91, hnx92⟩ := iter_step hit88
   refine Sq (Rg [0] ?_)
   refine V 18 0 (run_lss (t := 3) (t' := 3) (x := (.tmp 17)) (y := (.tmp 16)) (k := .i64) (a := s71) (b := (x1.length : Int)) e80 e79) ?_
   refine Nss ?_
   refine CWP.cond (t := (decide (s71 < (x1.length : Int)))) (by kernel_rfl) rfl (fun hb93 => ?_) (fun hb93 => ?_)
   ·have h94 := cond_t hb91 hb93
    refine Sc ?_
    refine thenQ_nrm ?_
    refine Sq ?_
    refine Bk ?_
    refine Sq (Rg [0, 1, 2, 3, 4, 5] ?_)
    refine V 19 3 (mv 17 (vi s71) e80) ?_
    obtain ⟨x95, hx96, h98⟩ := bind_some h94
    obtain ⟨hi97, hx96'⟩ := idx_spec hx96
    obtain ⟨b99, o100, C101, E102, fz103, rfl, hF105, hE106⟩ := SlA.open (SlA.mono hs1_0 ((le21.trans le66).trans le74)) hx96'
    have hc108 := hE106 _ _ hx96'
    refine V 20 0 (run_index (t := 57) (x := (.tmp 15)) (y := (.tmp 17)) (b := b99) (o := o100) (E := 103) (s := 7) (by_ := 56) e78 e80 (by kernel_rfl) hi97) ?_
    refine V 21 103 (lx 103 20 0 7 true 7 (.agg (kBound x95)) (hs73.pers _ _ hF105) hc108) ?_
    refine Al 8 0 103 #[(vi 0), (vi 0), (vi 0), (vi 0), (vi 0), (vi 0), (vi 0)] hs73 (fun b109 w110 (hs111 : HS w0 F0 w110 F4 [(sb b109 #[(vi 0), (vi 0), (vi 0), (vi 0), (vi 0), (vi 0), (vi 0)] 103), (some D63, (.deferred (some []))), (sb b10 #[(.map (some b5))] 157), es28_0]) => ?_)
    refine V 7 3 (ma 19 (vi s71)) ?_
    refine RWP.store (ty := 0) (g := none) (by kernel_rfl) rfl (x := (.tmp 8)) (y := (.tmp 21)) (t := 103) (gg := true) (s := 7) (v := (.agg (kBound x95))) (b := b109) (o := 0) (C := #[(vi 0), (vi 0), (vi 0), (vi 0), (vi 0), (vi 0), (vi 0)]) rfl rfl (by kernel_rfl) hs111 (k := 0) rfl rfl rfl rfl (C' := (kBound x95)) rfl (fun w112 (hs113 : HS w0 F0 w112 F4 [(sb b109 (kBound x95) 103), (some D63, (.deferred (some []))), (sb b10 #[(.map (some b5))] 157), es28_0]) => ?_)
    refine Nss ?_
    obtain ⟨j119, hj127, h128⟩ := bind_some h98
    refine CWP.regionD (by kernel_rfl) (by kernel_rfl) (by kernel_rfl) (by kernel_rfl) (z := 19) (F := F4) (Lc := [(sb b109 (kBound x95) 103), (some D63, (.deferred (some []))), (sb b10 #[(.map (some b5))] 157), es28_0]) (Lz := []) (l := [false, false, false, false, false, false, false, false, false, false, false, false, false, false, false, false, false, false, false]) (fuel := 19) (by kernel_rfl) (by kernel_rfl) hs113 (by simp) (by simp) (fun f w => ∃ (F6 : Mem), HS w0 F0 w F6 [(some D63, (.deferred (some []))), (sb b10 #[(.map (some b5))] 157), es28_0] ∧ Mem.le F4 F6 ∧ f.d = [{ target := .collected D63, args := #[] }] ∧ f 1 = (.slice (some ⟨b99, o100, none⟩) x1.length n1_0) ∧ f 5 = (.pointer (some ⟨b10, 0, none⟩)) ∧ f 15 = (.slice (some ⟨b99, o100, none⟩) x1.length n1_0) ∧ f 16 = (vi (x1.length : Int)) ∧ f 17 = (vi s71) ∧ f 40 = (.bool j119)) (fun wd114 hw115 => ?_) ?_
    ·refine Dtl 0 22 157 _ [tt, ff, ff, ff, ff, ff, ff, ff, ff, ff, ff, ff, ff, ff, ff, ff, ff, ff, ff] (fun _ hq => ld 157 5 b10 0 false 1 (.map (some b5)) (hq.1.2 2 _ _ rfl) e77) ?_
     refine Dtl 1 23 103 _ [tt, tt, ff, ff, ff, ff, ff, ff, ff, ff, ff, ff, ff, ff, ff, ff, ff, ff, ff] (fun _ hq => ld 103 8 b109 0 true 7 (.agg (kBound x95)) (hq.1.2 0 _ _ rfl)) ?_
     refine Dtl 2 24 4 (.bool (mgetD r32 x95 false)) [tt, tt, tt, ff, ff, ff, ff, ff, ff, ff, ff, ff, ff, ff, ff, ff, ff, ff, ff] (fun _ hq => run_lookV1 (mt := 157) (k := 103) (vt := 4) (m := (.tmp 22)) (x := (.tmp 23)) (kv := (.agg (kBound x95))) (kx := x95) (z := (.bool false)) (zx := false) (K := tBound) (T := tBool) kl103 rfl rfl ⟨_, rfl, rfl⟩ (by kernel_rfl) (by kernel_rfl) ⟨_, rfl, rfl⟩ (MapR.mpwD (i := 3) hq.1 rfl (hrs28_0.mono le74)) (fun h => by obtain ⟨_, rfl, rfl⟩ := h; rfl)) ?_
     refine Dtl 3 25 4 (.bool (!(mgetD r32 x95 false))) [tt, tt, tt, tt, ff, ff, ff, ff, ff, ff, ff, ff, ff, ff, ff, ff, ff, ff, ff] (fun _ hq => run_not (t := 4) (x := (.tmp 24)) (a := (mgetD r32 x95 false)) rfl) ?_
     refine Dtl 4 26 4 _ [tt, tt, tt, tt, tt, ff, ff, ff, ff, ff, ff, ff, ff, ff, ff, ff, ff, ff, ff] (fun _ hq => mv 25 (.bool (!(mgetD r32 x95 false)))) ?_
     refine DWP.split (!(mgetD r32 x95 false)) (fun hb129 => ?_) (fun hb129 => ?_)
     ·have h130 := cond_t hj127 hb129
      refine Dkl [(5, 27), (6, 28), (7, 29)] 4 false 26 hb129 [tt, tt, tt, tt, tt, tt, tt, tt, ff, ff, ff, ff, ff, ff, ff, ff, ff, ff, ff] ?_
      refine Dul [(8, 30), (9, 31), (10, 32), (11, 33), (12, 34), (13, 35)] 7 true 29 [tt, tt, tt, tt, tt, tt, tt, tt, tt, tt, tt, tt, tt, tt, ff, ff, ff, ff, ff] ?_
      refine Dul [(14, 36), (15, 37), (16, 38)] 7 true 29 [tt, tt, tt, tt, tt, tt, tt, tt, tt, tt, tt, tt, tt, tt, tt, tt, tt, ff, ff] ?_
      refine Dkl [(17, 39)] 4 false 26 hb129 [tt, tt, tt, tt, tt, tt, tt, tt, tt, tt, tt, tt, tt, tt, tt, tt, tt, tt, ff] ?_
      refine Dtl 18 40 4 _ [tt, tt, tt, tt, tt, tt, tt, tt, tt, tt, tt, tt, tt, tt, tt, tt, tt, tt, tt] (fun _ hq => p1 26 (.const (.bool true)) (.tmp 39) (.bool true) hb129) ?_
      obtain rfl := some_inj h130
      have hs131 : HS w0 F0 wd114 F4 [(some D63, (.deferred (some []))), (sb b10 #[(.map (some b5))] 157), es28_0] := hw115.drop 0
      exact DWP.done (by kernel_rfl) ⟨F4, hs131, (Mem.le.refl _), e75, e76, e77, e78, e79, e80, rfl⟩
     ·have h132 := cond_f hj127 hb129
      refine Dgl 5 27 3 _ [tt, tt, tt, tt, tt, tt, ff, ff, ff, ff, ff, ff, ff, ff, ff, ff, ff, ff, ff] 4 false 26 hb129 (fun _ hq => mv 7 (vi s71)) ?_
      refine Dgl 6 28 4 (.bool (decide (s71 > 0))) [tt, tt, tt, tt, tt, tt, tt, ff, ff, ff, ff, ff, ff, ff, ff, ff, ff, ff, ff] 4 false 26 hb129 (fun _ hq => run_gtr (t := 3) (t' := 3) (x := (.tmp 27)) (y := (.const (vi 0))) (k := .i64) (a := s71) (b := 0) rfl rfl) ?_
      refine Dgl 7 29 4 _ [tt, tt, tt, tt, tt, tt, tt, tt, ff, ff, ff, ff, ff, ff, ff, ff, ff, ff, ff] 4 false 26 hb129 (fun _ hq => mv 28 (.bool (decide (s71 > 0)))) ?_
      refine DWP.split (decide (s71 > 0)) (fun hb133 => ?_) (fun hb133 => ?_)
      ·have h134 := cond_t h132 hb133
       refine Dgl 8 30 0 (.pointer (some ⟨b109, 0, none⟩)) [tt, tt, tt, tt, tt, tt, tt, tt, tt, ff, ff, ff, ff, ff, ff, ff, ff, ff, ff] 7 true 29 hb133 (fun _ hq => fa 103 8 0 0 2 b109 0 0) ?_
       refine Dgl 9 31 27 _ [tt, tt, tt, tt, tt, tt, tt, tt, tt, tt, ff, ff, ff, ff, ff, ff, ff, ff, ff] 7 true 29 hb133 (fun _ hq => ld 27 30 b109 0 true 2 (.agg (kRef x95.From)) (hq.1.2 0 _ _ rfl)) ?_
       refine Dgl 10 32 57 _ [tt, tt, tt, tt, tt, tt, tt, tt, tt, tt, tt, ff, ff, ff, ff, ff, ff, ff, ff] 7 true 29 hb133 (fun _ hq => mv 1 (.slice (some ⟨b99, o100, none⟩) x1.length n1_0) e76) ?_
       refine Dgl 11 33 3 _ [tt, tt, tt, tt, tt, tt, tt, tt, tt, tt, tt, tt, ff, ff, ff, ff, ff, ff, ff] 7 true 29 hb133 (fun _ hq => mv 7 (vi s71)) ?_
       refine Dgl 12 34 3 (vi (W64 (s71 - 1))) [tt, tt, tt, tt, tt, tt, tt, tt, tt, tt, tt, tt, tt, ff, ff, ff, ff, ff, ff] 7 true 29 hb133 (fun _ hq => run_sub (t := 3) (t' := 3) (x := (.tmp 33)) (y := (.const (vi 1))) (k := .i64) (a := s71) (b := 1) rfl rfl) ?_
       obtain ⟨x135, hx136, h138⟩ := bind_some h134
       obtain ⟨hi137, hx136'⟩ := idx_spec hx136
       have hc140 := hE106 _ _ hx136'
       refine Dgl 13 35 0 (.pointer (some ⟨b99, (o100 + ((W64 (s71 - 1)) : Int).toNat * 7), none⟩)) [tt, tt, tt, tt, tt, tt, tt, tt, tt, tt, tt, tt, tt, tt, ff, ff, ff, ff, ff] 7 true 29 hb133 (fun _ hq => ix 57 32 34 b99 o100 103 7 56 hi137) ?_
       refine Dgl 14 36 0 (.pointer (some ⟨b99, ((o100 + ((W64 (s71 - 1)) : Int).toNat * 7) + 2), none⟩)) [tt, tt, tt, tt, tt, tt, tt, tt, tt, tt, tt, tt, tt, tt, tt, ff, ff, ff, ff] 7 true 29 hb133 (fun _ hq => fa 103 35 1 2 2 b99 (o100 + ((W64 (s71 - 1)) : Int).toNat * 7) ((o100 + ((W64 (s71 - 1)) : Int).toNat * 7) + 2)) ?_
       refine Dgl 15 37 27 _ [tt, tt, tt, tt, tt, tt, tt, tt, tt, tt, tt, tt, tt, tt, tt, tt, ff, ff, ff] 7 true 29 hb133 (fun _ hq => lx 27 36 2 7 true 2 (.agg (kRef x135.To)) (hq.1.1 _ _ hF105) hc140) ?_
       refine Dgl 16 38 4 (.bool (!((x95.From.Log == x135.To.Log) && ((x95.From.Line == x135.To.Line) && true)))) [tt, tt, tt, tt, tt, tt, tt, tt, tt, tt, tt, tt, tt, tt, tt, tt, tt, ff, ff] 7 true 29 hb133 (fun _ hq => run_nes (t := 27) (t' := 27) (x := (.tmp 31)) (y := (.tmp 37)) (xs := (kRef x95.From)) (ys := (kRef x135.To)) (b := ((x95.From.Log == x135.To.Log) && ((x95.From.Line == x135.To.Line) && true))) rfl rfl (by kernel_rfl) (by kernel_rfl)) ?_
       refine Dgl 17 39 4 _ [tt, tt, tt, tt, tt, tt, tt, tt, tt, tt, tt, tt, tt, tt, tt, tt, tt, tt, ff] 4 false 26 hb129 (fun _ hq => p1 29 (.tmp 38) (.const (.bool false)) (.bool (!((x95.From.Log == x135.To.Log) && ((x95.From.Line == x135.To.Line) && true)))) hb133) ?_
       refine Dtl 18 40 4 _ [tt, tt, tt, tt, tt, tt, tt, tt, tt, tt, tt, tt, tt, tt, tt, tt, tt, tt, tt] (fun _ hq => p0 26 (.const (.bool true)) (.tmp 39) (.bool (!((x95.From.Log == x135.To.Log) && ((x95.From.Line == x135.To.Line) && true)))) hb129) ?_
       obtain rfl := some_inj h138
       have hs141 : HS w0 F0 wd114 F4 [(some D63, (.deferred (some []))), (sb b10 #[(.map (some b5))] 157), es28_0] := hw115.drop 0
       exact DWP.done (by kernel_rfl) ⟨F4, hs141, (Mem.le.refl _), e75, e76, e77, e78, e79, e80, rfl⟩
      ·have h142 := cond_f h132 hb133
       refine Dkl [(8, 30), (9, 31), (10, 32), (11, 33), (12, 34), (13, 35)] 7 true 29 hb133 [tt, tt, tt, tt, tt, tt, tt, tt, tt, tt, tt, tt, tt, tt, ff, ff, ff, ff, ff] ?_
       refine Dkl [(14, 36), (15, 37), (16, 38)] 7 true 29 hb133 [tt, tt, tt, tt, tt, tt, tt, tt, tt, tt, tt, tt, tt, tt, tt, tt, tt, ff, ff] ?_
       refine Dgl 17 39 4 _ [tt, tt, tt, tt, tt, tt, tt, tt, tt, tt, tt, tt, tt, tt, tt, tt, tt, tt, ff] 4 false 26 hb129 (fun _ hq => p0 29 (.tmp 38) (.const (.bool false)) (.bool false) hb133) ?_
       refine Dtl 18 40 4 _ [tt, tt, tt, tt, tt, tt, tt, tt, tt, tt, tt, tt, tt, tt, tt, tt, tt, tt, tt] (fun _ hq => p0 26 (.const (.bool true)) (.tmp 39) (.bool false) hb129) ?_
       obtain rfl := some_inj h142
       have hs143 : HS w0 F0 wd114 F4 [(some D63, (.deferred (some []))), (sb b10 #[(.map (some b5))] 157), es28_0] := hw115.drop 0
       exact DWP.done (by kernel_rfl) ⟨F4, hs143, (Mem.le.refl _), e75, e76, e77, e78, e79, e80, rfl⟩
    ·rintro f w116 ⟨F6, hs117, le118, e120, e121, e122, e123, e124, e125, e126⟩
     refine thenQ_nrm ?_
     refine CWP.cond (t := j119) (by kernel_rfl) e126 (fun hb144 => ?_) (fun hb144 => ?_)
     ·have h145 := cond_t h128 hb144
      refine Sq (Rg [0] ?_)
      refine V 4 4 (mc (.bool false) (.bool false)) ?_
      refine Nt ?_
      refine CWP.ret (by kernel_rfl) ?_
      refine blockQ_ret ?_
      refine thenQ_ret ?_
      refine thenQ_ret ?_
      refine blockQ_ret ?_
      have hret := iter_ret h145 hnx92
      subst hret
      refine .inr ?_
      refine thenQ_ret ?_
      have hs146 := hs117.put (k := 0) rfl (.deferred none)
      have hs147 : HS w0 F0 (putB w116 D63 (.deferred none)) F6 [(sb b10 #[(.map (some b5))] 157), es28_0] := hs146.drop 0
      have hfin := some_inj h70
      subst hfin
      exact .inr ⟨D63, e120, hs117.ownAt (k := 0) rfl, (.bool false), res_of (l := [.tmp 4]) (by kernel_rfl) (vs := [(.bool false)]) ⟨rfl, trivial⟩, (.bool false), F6, rfl, hs147.clear, rfl⟩
     ·have h148 := cond_f h128 hb144
      refine Sc ?_
      refine blockQ_nrm ?_
      refine thenQ_nrm ?_
      refine Rg [0, 1] ?_
      refine V 41 3 (run_add (t := 3) (t' := 3) (x := (.tmp 17)) (y := (.const (vi 1))) (k := .i64) (a := s71) (b := 1) e125 rfl) ?_
      refine V 17 3 (mv 41 (vi (W64 (s71 + 1)))) ?_
      refine RWP.nil ?_
      have hn149 := iter_next h148 hnx92
      exact ⟨m89, Nat.lt_succ_self _, (W64 (s71 + 1)), F6, hn149, hs117, (le74.trans le118), e120, e121, e122, e123, e124, rfl⟩
   ·have h150 := cond_f hb91 hb93
    refine CWP.exit (by kernel_rfl) ?_
    refine thenQ_ex ?_
    refine thenQ_ex ?_
    refine blockQ_hit rfl ?_
    have hs151 : HS w0 F0 w72 F4 [(some D63, (.deferred (some []))), es28_0] := hs73.drop 1
    have hs152 : HS w0 F0 w72 F4 [(some D63, (.deferred (some [])))] := hs151.drop 1
    have ho153 := iter_done h150 hnx92
    exact .inl ⟨rfl, s71, F4, ho153, hs152, le74, e75, e76⟩
  ·rintro f w82 ⟨s81, F5, rfl, hs83, le84, e85, e86⟩
   have h154 := k_done h70
   refine thenQ_nrm ?_
   refine Sq (Rg [0, 1, 2, 3] ?_)
   refine V 42 57 (mv 1 (.slice a1_0 x1.length n1_0) e86) ?_
   refine V 43 3 (ln 42 57 a1_0 x1.length n1_0 103 7 56) ?_
   obtain ⟨r155, hr156, h157⟩ := bind_some h154
   refine Cl 44 4 67 #[(.tmp 43), (.const (vi 1)), (.const (vi 30000))] #[3, 3, 3] co_clocks_within hs83 (c_clocks_within N w82 F5 hs83.pers ((x1.length : Int)) (1) (30000) _ hr156) ?_
   intro v158 F7 w159 hs160 le161 hp162
   obtain rfl := hp162
   refine V 4 4 (ma 44 (.bool r155)) ?_
   refine Nt ?_
   refine CWP.ret (by kernel_rfl) ?_
   have hs163 := hs160.put (k := 0) rfl (.deferred none)
   have hs164 : HS w0 F0 (putB w159 D63 (.deferred none)) F7 [] := hs163.drop 0
   have hfin := some_inj h157
   subst hfin
   exact .inr ⟨D63, e85, hs160.ownAt (k := 0) rfl, (.bool r155), res_of (l := [.tmp 4]) (by kernel_rfl) (vs := [(.bool r155)]) ⟨rfl, trivial⟩, (.bool r155), F7, rfl, hs164.clear, rfl⟩
end Go.Proofs.Ythbcnabeabcmlaa
namespace Go.Proofs.Ythbcnabeabcmlaa
open Go.Proofs
def clocks_sum_L0 (N : Nat) (x0 : (List Bound)) : (Int × Int) → Option (Flow Int (Int × Int)) := fun s4 =>
 (bif (decide (s4.2 < (x0.length : Int))) then ((idx x0 s4.2).bind fun x27 => some (.next ((W64 (s4.1 + x27.Most)), (W64 (s4.2 + 1))))) else some (.done (s4.1, s4.2)))
def clocks_sum (N : Nat) (x0 : (List Bound)) : Option Int :=
 ((iter (clocks_sum_L0 N x0) N (0, 0)).bind fun o => o.k (fun r => some r) (fun s13 => some s13.1))
theorem co_clocks_sum : CallOk Try.prog 99 := fun _ _ => by kernel_rfl
set_option maxHeartbeats 4000000 in
set_option maxRecDepth 100000 in
theorem c_clocks_sum (N : Nat) (w0 : World) (F0 : Mem) (hF : ∀ b o, F0 b = some o → w0.heap[b]? = some o) (x0 : (List Bound)) (a0_0 : Option Addr) (n0_0 : Nat) (hb0_0 : LC x0.length n0_0) (hs0_0 : SlA tBound F0 a0_0 x0) (r : Int) (h : clocks_sum N x0 = some r) :
  Calls Try.prog 99 ([(.slice a0_0 x0.length n0_0)] : List Value).toArray w0 (FRet w0 F0 fun F' v => v = (vi r)) := by
 have hs0 := HS.start hF
 refine calls_of (n := 18) (c := bodyOf Try.f99) Try.func99 (by kernel_rfl) (by kernel_rfl) (by kernel_rfl) ?_
 refine Sq (Rg [0] ?_)
 refine V 2 3 (mc (vi 0) (vi 0)) ?_
 refine Nss (Rg [0] ?_)
 refine V 3 3 (mc (vi 0) (vi 0)) ?_
 refine Nss ?_
 refine Sq (Rg [0, 1, 2] ?_)
 refine V 6 57 (mv 0 (.slice a0_0 x0.length n0_0)) ?_
 refine V 7 3 (ln 6 57 a0_0 x0.length n0_0 103 7 56) ?_
 refine V 8 3 (run_move (x := (.const (vi 0))) (v := (vi 0)) rfl) ?_
 refine Nt ?_
 obtain ⟨o1, ho2, h3⟩ := bind_some h
 refine CWP.cut (fun f w => ∃ (s13 : (Int × Int)) (F2 : Mem), o1 = .done s13 ∧ HS w0 F0 w F2 [] ∧ Mem.le F0 F2 ∧ f.d = [] ∧ f 3 = (vi s13.1)) ?_ ?_
 ·refine Bk ?_
  refine CWP.loop (by kernel_rfl) (fun m f w => ∃ (s4 : (Int × Int)) (F1 : Mem), iter (clocks_sum_L0 N x0) m s4 = some o1 ∧ HS w0 F0 w F1 [] ∧ Mem.le F0 F1 ∧ f.d = [] ∧ f 3 = (vi s4.1) ∧ f 6 = (.slice a0_0 x0.length n0_0) ∧ f 7 = (vi (x0.length : Int)) ∧ f 8 = (vi s4.2)) N ⟨(0, 0), F0, ho2, hs0, (Mem.le.refl _), rfl, rfl, rfl, rfl, rfl⟩ ?_
  rintro m19 f w5 ⟨s4, F1, hit20, hs6, le7, e8, e9, e10, e11, e12⟩
  obtain ⟨m21, fl22, rfl, hb23, hnx24⟩ := iter_step hit20
  refine Sq (Rg [0] ?_)
  refine V 9 0 (run_lss (t := 3) (t' := 3) (x := (.tmp 8)) (y := (.tmp 7)) (k := .i64) (a := s4.2) (b := (x0.length : Int)) e12 e11) ?_
  refine Nss ?_
  refine CWP.cond (t := (decide (s4.2 < (x0.length : Int)))) (by kernel_rfl) rfl (fun hb25 => ?_) (fun hb25 => ?_)
  ·have h26 := cond_t hb23 hb25
   refine Sc ?_
   refine thenQ_nrm ?_
   refine Sq ?_
   refine Bk ?_
   refine Sq (Rg [0, 1, 2, 3] ?_)
   obtain ⟨x27, hx28, h30⟩ := bind_some h26
   obtain ⟨hi29, hx28'⟩ := idx_spec hx28
   obtain ⟨b31, o32, C33, E34, fz35, rfl, hF37, hE38⟩ := SlA.open (SlA.mono hs0_0 le7) hx28'
   have hc40 := hE38 _ _ hx28'
   refine V 10 0 (run_index (t := 57) (x := (.tmp 6)) (y := (.tmp 8)) (b := b31) (o := o32) (E := 103) (s := 7) (by_ := 56) e10 e12 (by kernel_rfl) hi29) ?_
   refine V 11 103 (lx 103 10 0 7 true 7 (.agg (kBound x27)) (hs6.pers _ _ hF37) hc40) ?_
   refine Al 5 0 103 #[(vi 0), (vi 0), (vi 0), (vi 0), (vi 0), (vi 0), (vi 0)] hs6 (fun b41 w42 (hs43 : HS w0 F0 w42 F1 [(sb b41 #[(vi 0), (vi 0), (vi 0), (vi 0), (vi 0), (vi 0), (vi 0)] 103)]) => ?_)
   refine RWP.store (ty := 0) (g := none) (by kernel_rfl) rfl (x := (.tmp 5)) (y := (.tmp 11)) (t := 103) (gg := true) (s := 7) (v := (.agg (kBound x27))) (b := b41) (o := 0) (C := #[(vi 0), (vi 0), (vi 0), (vi 0), (vi 0), (vi 0), (vi 0)]) rfl rfl (by kernel_rfl) hs43 (k := 0) rfl rfl rfl rfl (C' := (kBound x27)) rfl (fun w44 (hs45 : HS w0 F0 w44 F1 [(sb b41 (kBound x27) 103)]) => ?_)
   refine Nt ?_
   refine Rg [0, 1, 2, 3, 4] ?_
   refine V 12 3 (mv 3 (vi s4.1) e9) ?_
   refine V 13 0 (fa 103 5 2 4 1 b41 0 4) ?_
   refine V 14 3 (ld 3 13 b41 4 false 1 (vi x27.Most) (hs45.ownAt (k := 0) rfl)) ?_
   refine V 15 3 (run_add (t := 3) (t' := 3) (x := (.tmp 12)) (y := (.tmp 14)) (k := .i64) (a := s4.1) (b := x27.Most) rfl rfl) ?_
   refine V 3 3 (ma 15 (vi (W64 (s4.1 + x27.Most)))) ?_
   refine RWP.nil ?_
   refine blockQ_nrm ?_
   refine thenQ_nrm ?_
   refine Rg [0, 1] ?_
   refine V 16 3 (run_add (t := 3) (t' := 3) (x := (.tmp 8)) (y := (.const (vi 1))) (k := .i64) (a := s4.2) (b := 1) e12 rfl) ?_
   refine V 8 3 (mv 16 (vi (W64 (s4.2 + 1)))) ?_
   refine RWP.nil ?_
   have hs46 : HS w0 F0 w44 F1 [] := hs45.drop 0
   have hn47 := iter_next h30 hnx24
   exact ⟨m21, Nat.lt_succ_self _, ((W64 (s4.1 + x27.Most)), (W64 (s4.2 + 1))), F1, hn47, hs46, le7, e8, rfl, e10, e11, rfl⟩
  ·have h48 := cond_f hb23 hb25
   refine CWP.exit (by kernel_rfl) ?_
   refine thenQ_ex ?_
   refine thenQ_ex ?_
   refine blockQ_hit rfl ?_
   have ho49 := iter_done h48 hnx24
   exact .inl ⟨rfl, (s4.1, s4.2), F1, ho49, hs6, le7, e8, e9⟩
 ·rintro f w14 ⟨s13, F2, rfl, hs15, le16, e17, e18⟩
  have h50 := k_done h3
  refine thenQ_nrm ?_
  refine Sq (Rg [0, 1] ?_)
  refine V 17 3 (mv 3 (vi s13.1) e18) ?_
  refine V 2 3 (ma 17 (vi s13.1)) ?_
  refine Nt ?_
  refine CWP.ret (by kernel_rfl) ?_
  have hfin := some_inj h50
  subst hfin
  exact ⟨e17, (vi s13.1), res_of (l := [.tmp 2]) (by kernel_rfl) (vs := [(vi s13.1)]) ⟨rfl, trivial⟩, (vi s13.1), F2, rfl, hs15.clear, rfl⟩
end Go.Proofs.Ythbcnabeabcmlaa
namespace Go.Proofs.Ythbcnabeabcmlaa
open Go.Proofs
def clocks_ValidLoop (N : Nat) (x0 : System) (x1 : (List Bound)) : Option (Bool × Int) :=
 ((clocks_Check N x0).bind fun r4 => (bif (r4 != 0) then some (false, r4) else (((clocks_chained N x0 x1).bind fun r26 => (bif r26 then ((idx x1 0).bind fun x36 => ((idx x1 (W64 ((x1.length : Int) - 1))).bind fun x50 => (bif ((x36.From.Log == x50.To.Log) && ((x36.From.Line == x50.To.Line) && true)) then ((clocks_sum N x1).bind fun r58 => some (decide (r58 < 0))) else some false))) else some false)).bind fun j20 => some (j20, 0))))
theorem co_clocks_ValidLoop : CallOk Try.prog 54 := fun _ _ => by kernel_rfl
set_option maxHeartbeats 4000000 in
set_option maxRecDepth 100000 in
theorem c_clocks_ValidLoop (N : Nat) (w0 : World) (F0 : Mem) (hF : ∀ b o, F0 b = some o → w0.heap[b]? = some o) (x0 : System) (a0_0 : Option Addr) (n0_0 : Nat) (hb0_0 : LC x0.Tracks.length n0_0) (hs0_0 : SlA tTrack F0 a0_0 x0.Tracks) (a0_1 : Option Addr) (n0_1 : Nat) (hb0_1 : LC x0.Ties.length n0_1) (hs0_1 : SlA tTie F0 a0_1 x0.Ties) (x1 : (List Bound)) (a1_0 : Option Addr) (n1_0 : Nat) (hb1_0 : LC x1.length n1_0) (hs1_0 : SlA tBound F0 a1_0 x1) (r : (Bool × Int)) (h : clocks_ValidLoop N x0 x1 = some r) :
  Calls Try.prog 54 ([(.agg (kSystem x0 a0_0 n0_0 a0_1 n0_1)), (.slice a1_0 x1.length n1_0)] : List Value).toArray w0 (FRet w0 F0 fun F' v => v = (.tuple #[(.bool r.1), (vi r.2)])) := by
 have hs0 := HS.start hF
 refine calls_of (n := 34) (c := bodyOf Try.f54) Try.func54 (by kernel_rfl) (by kernel_rfl) (by kernel_rfl) ?_
 refine Sq (Rg [0, 1, 2] ?_)
 refine Bx 2 0 0 25 (kSystem x0 a0_0 n0_0 a0_1 n0_1) hs0 (fun b1 w2 (hs3 : HS w0 F0 w2 F0 [(sb b1 (kSystem x0 a0_0 n0_0 a0_1 n0_1) 25)]) => ?_)
 refine V 4 4 (mc (.bool false) (.bool false)) ?_
 refine V 5 30 (mc (vi 0) (vi 0)) ?_
 refine Nss ?_
 refine Sq (Rg [0, 1, 2] ?_)
 refine V 7 25 (ld 25 2 b1 0 true 3 (.agg (kSystem x0 a0_0 n0_0 a0_1 n0_1)) (hs3.ownAt (k := 0) rfl)) ?_
 obtain ⟨r4, hr5, h6⟩ := bind_some h
 refine Cl 8 30 17 #[(.tmp 7)] #[25] co_clocks_Check hs3 (c_clocks_Check N w2 F0 hs3.pers (x0) a0_0 n0_0 hb0_0 hs0_0 a0_1 n0_1 hb0_1 hs0_1 _ hr5) ?_
 intro v7 F1 w8 hs9 le10 hp11
 obtain rfl := hp11
 refine V 6 30 (ma 8 (vi r4)) ?_
 refine Nss (Rg [0, 1] ?_)
 refine V 9 30 (mv 6 (vi r4)) ?_
 refine V 10 4 (run_neq (t := 30) (t' := 30) (x := (.tmp 9)) (y := (.const (vi 0))) (k := .i64) (a := r4) (b := 0) rfl rfl) ?_
 refine Nt ?_
 refine CWP.cond (t := (r4 != 0)) (by kernel_rfl) rfl (fun hb12 => ?_) (fun hb12 => ?_)
 ·have h13 := cond_t h6 hb12
  refine Sq (Rg [0, 1, 2] ?_)
  refine V 11 30 (mv 6 (vi r4)) ?_
  refine V 4 4 (mc (.bool false) (.bool false)) ?_
  refine V 5 30 (ma 11 (vi r4)) ?_
  refine Nt ?_
  refine CWP.ret (by kernel_rfl) ?_
  refine thenQ_ret ?_
  have hfin := some_inj h13
  subst hfin
  exact ⟨rfl, (.tuple #[(.bool false), (vi r4)]), res_of (l := [.tmp 4, .tmp 5]) (by kernel_rfl) (vs := [(.bool false), (vi r4)]) ⟨rfl, ⟨rfl, trivial⟩⟩, (.tuple #[(.bool false), (vi r4)]), F1, rfl, hs9.clear, rfl⟩
 ·have h14 := cond_f h6 hb12
  refine Sc ?_
  refine thenQ_nrm ?_
  refine Sq ?_
  obtain ⟨j20, hj24, h25⟩ := bind_some h14
  refine CWP.regionD (by kernel_rfl) (by kernel_rfl) (by kernel_rfl) (by kernel_rfl) (z := 24) (F := F1) (Lc := [(sb b1 (kSystem x0 a0_0 n0_0 a0_1 n0_1) 25)]) (Lz := []) (l := [false, false, false, false, false, false, false, false, false, false, false, false, false, false, false, false, false, false, false, false, false, false, false, false]) (fuel := 24) (by kernel_rfl) (by kernel_rfl) hs9 (by simp) (by simp) (fun f w => ∃ (F2 : Mem), HS w0 F0 w F2 [] ∧ Mem.le F1 F2 ∧ f.d = [] ∧ f 4 = (.bool j20) ∧ f 5 = (vi 0)) (fun wd15 hw16 => ?_) ?_
  ·refine Dtl 0 12 25 _ [tt, ff, ff, ff, ff, ff, ff, ff, ff, ff, ff, ff, ff, ff, ff, ff, ff, ff, ff, ff, ff, ff, ff, ff] (fun _ hq => ld 25 2 b1 0 true 3 (.agg (kSystem x0 a0_0 n0_0 a0_1 n0_1)) (hq.1.2 0 _ _ rfl)) ?_
   refine Dtl 1 13 57 _ [tt, tt, ff, ff, ff, ff, ff, ff, ff, ff, ff, ff, ff, ff, ff, ff, ff, ff, ff, ff, ff, ff, ff, ff] (fun _ hq => mv 1 (.slice a1_0 x1.length n1_0)) ?_
   refine DWP.one (i := 2) (by kernel_rfl) ?_
   obtain ⟨r26, hr27, h28⟩ := bind_some hj24
   refine DStep.call (l' := [true, true, true, false, false, false, false, false, false, false, false, false, false, false, false, false, false, false, false, false, false, false, false, false]) (zd := true) (by kernel_rfl) (by kernel_rfl) (by kernel_rfl) (dst := (some 14)) (ty := 4) (g := none) (by kernel_rfl) rfl (f0 := (.func 98)) (aos := #[(.tmp 12), (.tmp 13)]) (ats := #[25, 57]) (fid := 98) (first := #[]) (cap := #[]) (args := [(.agg (kSystem x0 a0_0 n0_0 a0_1 n0_1)), (.slice a1_0 x1.length n1_0)]) rfl co_clocks_chained (rfl) hw16 (c_clocks_chained N wd15 F1 hw16.pers (x0) a0_0 n0_0 hb0_0 (SlA.mono hs0_0 le10) a0_1 n0_1 hb0_1 (SlA.mono hs0_1 le10) (x1) a1_0 n1_0 hb1_0 (SlA.mono hs1_0 le10) _ hr27) ?_
   intro v29 F3 w30 hs31 le32 hp33
   obtain rfl := hp33
   refine Dtl 3 15 4 _ [tt, tt, tt, tt, ff, ff, ff, ff, ff, ff, ff, ff, ff, ff, ff, ff, ff, ff, ff, ff, ff, ff, ff, ff] (fun _ hq => mv 14 (.bool r26)) ?_
   refine DWP.split r26 (fun hb34 => ?_) (fun hb34 => ?_)
   ·have h35 := cond_t h28 hb34
    refine Dgl 4 16 57 _ [tt, tt, tt, tt, tt, ff, ff, ff, ff, ff, ff, ff, ff, ff, ff, ff, ff, ff, ff, ff, ff, ff, ff, ff] 3 true 15 hb34 (fun _ hq => mv 1 (.slice a1_0 x1.length n1_0)) ?_
    obtain ⟨x36, hx37, h39⟩ := bind_some h35
    obtain ⟨hi38, hx37'⟩ := idx_spec hx37
    obtain ⟨b40, o41, C42, E43, fz44, rfl, hF46, hE47⟩ := SlA.open (SlA.mono hs1_0 le10) hx37'
    have hc49 := hE47 _ _ hx37'
    refine Dgl 5 17 0 (.pointer (some ⟨b40, (o41 + (0 : Int).toNat * 7), none⟩)) [tt, tt, tt, tt, tt, tt, ff, ff, ff, ff, ff, ff, ff, ff, ff, ff, ff, ff, ff, ff, ff, ff, ff, ff] 3 true 15 hb34 (fun _ hq => run_index (t := 57) (x := (.tmp 16)) (y := (.const (vi 0))) (b := b40) (o := o41) (E := 103) (s := 7) (by_ := 56) rfl rfl (by kernel_rfl) hi38) ?_
    refine Dgl 6 18 0 (.pointer (some ⟨b40, (o41 + (0 : Int).toNat * 7), none⟩)) [tt, tt, tt, tt, tt, tt, tt, ff, ff, ff, ff, ff, ff, ff, ff, ff, ff, ff, ff, ff, ff, ff, ff, ff] 3 true 15 hb34 (fun _ hq => fa 103 17 0 0 2 b40 (o41 + (0 : Int).toNat * 7) (o41 + (0 : Int).toNat * 7)) ?_
    refine Dgl 7 19 27 _ [tt, tt, tt, tt, tt, tt, tt, tt, ff, ff, ff, ff, ff, ff, ff, ff, ff, ff, ff, ff, ff, ff, ff, ff] 3 true 15 hb34 (fun _ hq => lx 27 18 0 7 true 2 (.agg (kRef x36.From)) (hq.1.1 _ _ hF46) hc49) ?_
    refine Dgl 8 20 57 _ [tt, tt, tt, tt, tt, tt, tt, tt, tt, ff, ff, ff, ff, ff, ff, ff, ff, ff, ff, ff, ff, ff, ff, ff] 3 true 15 hb34 (fun _ hq => mv 1 (.slice (some ⟨b40, o41, none⟩) x1.length n1_0)) ?_
    refine Dgl 9 21 57 _ [tt, tt, tt, tt, tt, tt, tt, tt, tt, tt, ff, ff, ff, ff, ff, ff, ff, ff, ff, ff, ff, ff, ff, ff] 3 true 15 hb34 (fun _ hq => mv 1 (.slice (some ⟨b40, o41, none⟩) x1.length n1_0)) ?_
    refine Dgl 10 22 3 (vi (x1.length : Int)) [tt, tt, tt, tt, tt, tt, tt, tt, tt, tt, tt, ff, ff, ff, ff, ff, ff, ff, ff, ff, ff, ff, ff, ff] 3 true 15 hb34 (fun _ hq => ln 21 57 (some ⟨b40, o41, none⟩) x1.length n1_0 103 7 56) ?_
    refine Dgl 11 23 3 (vi (W64 ((x1.length : Int) - 1))) [tt, tt, tt, tt, tt, tt, tt, tt, tt, tt, tt, tt, ff, ff, ff, ff, ff, ff, ff, ff, ff, ff, ff, ff] 3 true 15 hb34 (fun _ hq => run_sub (t := 3) (t' := 3) (x := (.tmp 22)) (y := (.const (vi 1))) (k := .i64) (a := (x1.length : Int)) (b := 1) rfl rfl) ?_
    obtain ⟨x50, hx51, h53⟩ := bind_some h39
    obtain ⟨hi52, hx51'⟩ := idx_spec hx51
    have hc55 := hE47 _ _ hx51'
    refine Dgl 12 24 0 (.pointer (some ⟨b40, (o41 + ((W64 ((x1.length : Int) - 1)) : Int).toNat * 7), none⟩)) [tt, tt, tt, tt, tt, tt, tt, tt, tt, tt, tt, tt, tt, ff, ff, ff, ff, ff, ff, ff, ff, ff, ff, ff] 3 true 15 hb34 (fun _ hq => ix 57 20 23 b40 o41 103 7 56 hi52) ?_
    refine Dgl 13 25 0 (.pointer (some ⟨b40, ((o41 + ((W64 ((x1.length : Int) - 1)) : Int).toNat * 7) + 2), none⟩)) [tt, tt, tt, tt, tt, tt, tt, tt, tt, tt, tt, tt, tt, tt, ff, ff, ff, ff, ff, ff, ff, ff, ff, ff] 3 true 15 hb34 (fun _ hq => fa 103 24 1 2 2 b40 (o41 + ((W64 ((x1.length : Int) - 1)) : Int).toNat * 7) ((o41 + ((W64 ((x1.length : Int) - 1)) : Int).toNat * 7) + 2)) ?_
    refine Dgl 14 26 27 _ [tt, tt, tt, tt, tt, tt, tt, tt, tt, tt, tt, tt, tt, tt, tt, ff, ff, ff, ff, ff, ff, ff, ff, ff] 3 true 15 hb34 (fun _ hq => lx 27 25 2 7 true 2 (.agg (kRef x50.To)) (hq.1.1 _ _ hF46) hc55) ?_
    refine Dgl 15 27 4 (.bool ((x36.From.Log == x50.To.Log) && ((x36.From.Line == x50.To.Line) && true))) [tt, tt, tt, tt, tt, tt, tt, tt, tt, tt, tt, tt, tt, tt, tt, tt, ff, ff, ff, ff, ff, ff, ff, ff] 3 true 15 hb34 (fun _ hq => run_eqs (t := 27) (t' := 27) (x := (.tmp 19)) (y := (.tmp 26)) (xs := (kRef x36.From)) (ys := (kRef x50.To)) (b := ((x36.From.Log == x50.To.Log) && ((x36.From.Line == x50.To.Line) && true))) rfl rfl (by kernel_rfl) (by kernel_rfl)) ?_
    refine Dtl 16 28 4 _ [tt, tt, tt, tt, tt, tt, tt, tt, tt, tt, tt, tt, tt, tt, tt, tt, tt, ff, ff, ff, ff, ff, ff, ff] (fun _ hq => p1 15 (.tmp 27) (.const (.bool false)) (.bool ((x36.From.Log == x50.To.Log) && ((x36.From.Line == x50.To.Line) && true))) hb34) ?_
    refine Dtl 17 29 4 _ [tt, tt, tt, tt, tt, tt, tt, tt, tt, tt, tt, tt, tt, tt, tt, tt, tt, tt, ff, ff, ff, ff, ff, ff] (fun _ hq => mv 28 (.bool ((x36.From.Log == x50.To.Log) && ((x36.From.Line == x50.To.Line) && true)))) ?_
    refine DWP.split ((x36.From.Log == x50.To.Log) && ((x36.From.Line == x50.To.Line) && true)) (fun hb56 => ?_) (fun hb56 => ?_)
    ·have h57 := cond_t h53 hb56
     refine Dgl 18 30 57 _ [tt, tt, tt, tt, tt, tt, tt, tt, tt, tt, tt, tt, tt, tt, tt, tt, tt, tt, tt, ff, ff, ff, ff, ff] 17 true 29 hb56 (fun _ hq => mv 1 (.slice (some ⟨b40, o41, none⟩) x1.length n1_0)) ?_
     refine DWP.one (i := 19) (by kernel_rfl) ?_
     obtain ⟨r58, hr59, h60⟩ := bind_some h57
     refine DStep.call (l' := [true, true, true, true, true, true, true, true, true, true, true, true, true, true, true, true, true, true, true, true, false, false, false, false]) (zd := true) (by kernel_rfl) (by kernel_rfl) (by kernel_rfl) (dst := (some 31)) (ty := 3) (g := (some (17, true))) (by kernel_rfl) (gd_y (d := 29) (by kernel_rfl) rfl hb56) (f0 := (.func 99)) (aos := #[(.tmp 30)]) (ats := #[57]) (fid := 99) (first := #[]) (cap := #[]) (args := [(.slice (some ⟨b40, o41, none⟩) x1.length n1_0)]) rfl co_clocks_sum (rfl) hs31 (c_clocks_sum N w30 F3 hs31.pers (x1) (some ⟨b40, o41, none⟩) n1_0 hb1_0 (SlA.mono hs1_0 (le10.trans le32)) _ hr59) ?_
     intro v61 F4 w62 hs63 le64 hp65
     obtain rfl := hp65
     refine Dgl 20 32 4 (.bool (decide (r58 < 0))) [tt, tt, tt, tt, tt, tt, tt, tt, tt, tt, tt, tt, tt, tt, tt, tt, tt, tt, tt, tt, tt, ff, ff, ff] 17 true 29 hb56 (fun _ hq => run_lss (t := 3) (t' := 3) (x := (.tmp 31)) (y := (.const (vi 0))) (k := .i64) (a := r58) (b := 0) rfl rfl) ?_
     refine Dtl 21 33 4 _ [tt, tt, tt, tt, tt, tt, tt, tt, tt, tt, tt, tt, tt, tt, tt, tt, tt, tt, tt, tt, tt, tt, ff, ff] (fun _ hq => p1 29 (.tmp 32) (.const (.bool false)) (.bool (decide (r58 < 0))) hb56) ?_
     refine Dtl 22 4 4 _ [tt, tt, tt, tt, tt, tt, tt, tt, tt, tt, tt, tt, tt, tt, tt, tt, tt, tt, tt, tt, tt, tt, tt, ff] (fun _ hq => ma 33 (.bool (decide (r58 < 0)))) ?_
     refine Dtl 23 5 30 _ [tt, tt, tt, tt, tt, tt, tt, tt, tt, tt, tt, tt, tt, tt, tt, tt, tt, tt, tt, tt, tt, tt, tt, tt] (fun _ hq => mc (vi 0) (vi 0)) ?_
     obtain rfl := some_inj h60
     have hs66 : HS w0 F0 w62 F4 [] := hs63.drop 0
     exact DWP.done (by kernel_rfl) ⟨F4, hs66, (le32.trans le64), rfl, rfl, rfl⟩
    ·have h67 := cond_f h53 hb56
     refine Dkl [(18, 30), (19, 31), (20, 32)] 17 true 29 hb56 [tt, tt, tt, tt, tt, tt, tt, tt, tt, tt, tt, tt, tt, tt, tt, tt, tt, tt, tt, tt, tt, ff, ff, ff] ?_
     refine Dtl 21 33 4 _ [tt, tt, tt, tt, tt, tt, tt, tt, tt, tt, tt, tt, tt, tt, tt, tt, tt, tt, tt, tt, tt, tt, ff, ff] (fun _ hq => p0 29 (.tmp 32) (.const (.bool false)) (.bool false) hb56) ?_
     refine Dtl 22 4 4 _ [tt, tt, tt, tt, tt, tt, tt, tt, tt, tt, tt, tt, tt, tt, tt, tt, tt, tt, tt, tt, tt, tt, tt, ff] (fun _ hq => ma 33 (.bool false)) ?_
     refine Dtl 23 5 30 _ [tt, tt, tt, tt, tt, tt, tt, tt, tt, tt, tt, tt, tt, tt, tt, tt, tt, tt, tt, tt, tt, tt, tt, tt] (fun _ hq => mc (vi 0) (vi 0)) ?_
     obtain rfl := some_inj h67
     have hs68 : HS w0 F0 w30 F3 [] := hs31.drop 0
     exact DWP.done (by kernel_rfl) ⟨F3, hs68, le32, rfl, rfl, rfl⟩
   ·have h69 := cond_f h28 hb34
    refine Dkl [(4, 16), (5, 17), (6, 18), (7, 19), (8, 20), (9, 21)] 3 true 15 hb34 [tt, tt, tt, tt, tt, tt, tt, tt, tt, tt, ff, ff, ff, ff, ff, ff, ff, ff, ff, ff, ff, ff, ff, ff] ?_
    refine Dkl [(10, 22), (11, 23), (12, 24), (13, 25), (14, 26), (15, 27)] 3 true 15 hb34 [tt, tt, tt, tt, tt, tt, tt, tt, tt, tt, tt, tt, tt, tt, tt, tt, ff, ff, ff, ff, ff, ff, ff, ff] ?_
    refine Dtl 16 28 4 _ [tt, tt, tt, tt, tt, tt, tt, tt, tt, tt, tt, tt, tt, tt, tt, tt, tt, ff, ff, ff, ff, ff, ff, ff] (fun _ hq => p0 15 (.tmp 27) (.const (.bool false)) (.bool false) hb34) ?_
    refine Dtl 17 29 4 _ [tt, tt, tt, tt, tt, tt, tt, tt, tt, tt, tt, tt, tt, tt, tt, tt, tt, tt, ff, ff, ff, ff, ff, ff] (fun _ hq => mv 28 (.bool false)) ?_
    refine Dkl [(18, 30), (19, 31), (20, 32)] 17 true 29 rfl [tt, tt, tt, tt, tt, tt, tt, tt, tt, tt, tt, tt, tt, tt, tt, tt, tt, tt, tt, tt, tt, ff, ff, ff] ?_
    refine Dtl 21 33 4 _ [tt, tt, tt, tt, tt, tt, tt, tt, tt, tt, tt, tt, tt, tt, tt, tt, tt, tt, tt, tt, tt, tt, ff, ff] (fun _ hq => p0 29 (.tmp 32) (.const (.bool false)) (.bool false) rfl) ?_
    refine Dtl 22 4 4 _ [tt, tt, tt, tt, tt, tt, tt, tt, tt, tt, tt, tt, tt, tt, tt, tt, tt, tt, tt, tt, tt, tt, tt, ff] (fun _ hq => ma 33 (.bool false)) ?_
    refine Dtl 23 5 30 _ [tt, tt, tt, tt, tt, tt, tt, tt, tt, tt, tt, tt, tt, tt, tt, tt, tt, tt, tt, tt, tt, tt, tt, tt] (fun _ hq => mc (vi 0) (vi 0)) ?_
    obtain rfl := some_inj h69
    have hs70 : HS w0 F0 w30 F3 [] := hs31.drop 0
    exact DWP.done (by kernel_rfl) ⟨F3, hs70, le32, rfl, rfl, rfl⟩
  ·rintro f w17 ⟨F2, hs18, le19, e21, e22, e23⟩
   refine thenQ_nrm ?_
   refine CWP.ret (by kernel_rfl) ?_
   have hfin := some_inj h25
   subst hfin
   exact ⟨e21, (.tuple #[(.bool j20), (vi 0)]), res_of (l := [.tmp 4, .tmp 5]) (by kernel_rfl) (vs := [(.bool j20), (vi 0)]) ⟨e22, ⟨e23, trivial⟩⟩, (.tuple #[(.bool j20), (vi 0)]), F2, rfl, hs18.clear, rfl⟩
end Go.Proofs.Ythbcnabeabcmlaa
namespace Go.Proofs.Ythbcnabeabcmlaa
open Go.Proofs
def slices_IndexFunc_int_int_L0 (N : Nat) (x0 : (List Int)) (x1 : (Int → Option Bool)) : Int → Option (Flow Int Int) := fun s4 =>
 (bif (decide (s4 < (x0.length : Int))) then ((idx x0 s4).bind fun x26 => ((x1 x26).bind fun r40 => (bif r40 then some (.ret s4) else some (.next (W64 (s4 + 1)))))) else some (.done s4))
def slices_IndexFunc_int_int (N : Nat) (x0 : (List Int)) (x1 : (Int → Option Bool)) : Option Int :=
 ((iter (slices_IndexFunc_int_int_L0 N x0 x1) N 0).bind fun o => o.k (fun r => some r) (fun s13 => some (-1)))
theorem co_slices_IndexFunc_int_int : CallOk Try.prog 139 := fun _ _ => by kernel_rfl
set_option maxHeartbeats 4000000 in
set_option maxRecDepth 100000 in
theorem c_slices_IndexFunc_int_int (N : Nat) (w0 : World) (F0 : Mem) (hF : ∀ b o, F0 b = some o → w0.heap[b]? = some o) (x0 : (List Int)) (a0_0 : Option Addr) (n0_0 : Nat) (hb0_0 : LC x0.length n0_0) (hs0_0 : SlA tInt F0 a0_0 x0) (gx1 : FuncId) (fx1 kx1 : List Value) (x1 : Int → Option Bool) (hox1 : CallOk Try.prog gx1) (hpx1 : ∀ (w' : World) (F' : Mem) (y0 : Int) (r : Bool), Mem.le F0 F' → (∀ b o, F' b = some o → w'.heap[b]? = some o) → x1 y0 = some r → Calls Try.prog gx1 (fx1 ++ (([(vi y0)] : List Value) ++ kx1)).toArray w' (FRet w' F' fun F'' v => v = (.bool r))) (r : Int) (h : slices_IndexFunc_int_int N x0 x1 = some r) :
  Calls Try.prog 139 ([(.slice a0_0 x0.length n0_0), (.func (.func gx1) fx1.toArray kx1.toArray)] : List Value).toArray w0 (FRet w0 F0 fun F' v => v = (vi r)) := by
 have hs0 := HS.start hF
 refine calls_of (n := 19) (c := bodyOf Try.f139) Try.func139 (by kernel_rfl) (by kernel_rfl) (by kernel_rfl) ?_
 refine Sq (Rg [0] ?_)
 refine V 4 3 (mc (vi 0) (vi 0)) ?_
 refine Nss ?_
 refine Sq (Rg [0, 1, 2] ?_)
 refine V 6 50 (mv 0 (.slice a0_0 x0.length n0_0)) ?_
 refine V 7 3 (ln 6 50 a0_0 x0.length n0_0 3 1 8) ?_
 refine V 8 3 (run_move (x := (.const (vi 0))) (v := (vi 0)) rfl) ?_
 refine Nt ?_
 obtain ⟨o1, ho2, h3⟩ := bind_some h
 refine CWP.cut (fun f w => ∃ (s13 : Int) (F2 : Mem), o1 = .done s13 ∧ HS w0 F0 w F2 [] ∧ Mem.le F0 F2 ∧ f.d = []) ?_ ?_
 ·refine Bk ?_
  refine CWP.loop (by kernel_rfl) (fun m f w => ∃ (s4 : Int) (F1 : Mem), iter (slices_IndexFunc_int_int_L0 N x0 x1) m s4 = some o1 ∧ HS w0 F0 w F1 [] ∧ Mem.le F0 F1 ∧ f.d = [] ∧ f 0 = (.slice a0_0 x0.length n0_0) ∧ f 1 = (.func (.func gx1) fx1.toArray kx1.toArray) ∧ f 7 = (vi (x0.length : Int)) ∧ f 8 = (vi s4)) N ⟨0, F0, ho2, hs0, (Mem.le.refl _), rfl, rfl, rfl, rfl, rfl⟩ ?_
  rintro m18 f w5 ⟨s4, F1, hit19, hs6, le7, e8, e9, e10, e11, e12⟩
  obtain ⟨m20, fl21, rfl, hb22, hnx23⟩ := iter_step hit19
  refine Sq (Rg [0] ?_)
  refine V 9 0 (run_lss (t := 3) (t' := 3) (x := (.tmp 8)) (y := (.tmp 7)) (k := .i64) (a := s4) (b := (x0.length : Int)) e12 e11) ?_
  refine Nss ?_
  refine CWP.cond (t := (decide (s4 < (x0.length : Int)))) (by kernel_rfl) rfl (fun hb24 => ?_) (fun hb24 => ?_)
  ·have h25 := cond_t hb22 hb24
   refine Sc ?_
   refine thenQ_nrm ?_
   refine Sq ?_
   refine Bk ?_
   refine Sq (Rg [0, 1] ?_)
   refine V 10 3 (mv 8 (vi s4) e12) ?_
   refine V 5 3 (ma 10 (vi s4)) ?_
   refine Nss (Rg [0, 1, 2, 3, 4, 5] ?_)
   refine V 11 159 (mv 1 (.func (.func gx1) fx1.toArray kx1.toArray) e10) ?_
   refine V 12 50 (mv 0 (.slice a0_0 x0.length n0_0) e9) ?_
   refine V 13 3 (mv 5 (vi s4)) ?_
   obtain ⟨x26, hx27, h29⟩ := bind_some h25
   obtain ⟨hi28, hx27'⟩ := idx_spec hx27
   obtain ⟨b30, o31, C32, E33, fz34, rfl, hF36, hE37⟩ := SlA.open (SlA.mono hs0_0 le7) hx27'
   have hc39 := hE37 _ _ hx27'
   refine V 14 0 (ix 50 12 13 b30 o31 3 1 8 hi28) ?_
   refine V 15 3 (lx 3 14 0 1 false 1 (vi x26) (hs6.pers _ _ hF36) hc39) ?_
   obtain ⟨r40, hr41, h42⟩ := bind_some h29
   refine RWP.call (dst := (some 16)) (ty := 4) (g := none) (by kernel_rfl) rfl (f0 := (.tmp 11)) (aos := #[(.tmp 15)]) (ats := #[3]) (fid := gx1) (first := fx1.toArray) (cap := kx1.toArray) (args := (fx1 ++ (([(vi x26)] : List Value) ++ kx1))) rfl hox1 (app_args2 (l := [(vi x26)]) (fi := fx1) (k := kx1) (rfl)) hs6 (hpx1 w5 F1 (x26) _ le7 hs6.pers hr41) ?_
   intro v43 F3 w44 hs45 le46 hp47
   obtain rfl := hp47
   refine Nt ?_
   refine CWP.cond (t := r40) (by kernel_rfl) rfl (fun hb48 => ?_) (fun hb48 => ?_)
   ·have h49 := cond_t h42 hb48
    refine Sq (Rg [0, 1] ?_)
    refine V 17 3 (mv 5 (vi s4)) ?_
    refine V 4 3 (ma 17 (vi s4)) ?_
    refine Nt ?_
    refine CWP.ret (by kernel_rfl) ?_
    refine blockQ_ret ?_
    refine thenQ_ret ?_
    refine thenQ_ret ?_
    refine blockQ_ret ?_
    have hret := iter_ret h49 hnx23
    subst hret
    refine .inr ?_
    refine thenQ_ret ?_
    have hfin := some_inj h3
    subst hfin
    exact ⟨e8, (vi s4), res_of (l := [.tmp 4]) (by kernel_rfl) (vs := [(vi s4)]) ⟨rfl, trivial⟩, (vi s4), F3, rfl, hs45.clear, rfl⟩
   ·have h50 := cond_f h42 hb48
    refine Sc ?_
    refine blockQ_nrm ?_
    refine thenQ_nrm ?_
    refine Rg [0, 1] ?_
    refine V 18 3 (run_add (t := 3) (t' := 3) (x := (.tmp 8)) (y := (.const (vi 1))) (k := .i64) (a := s4) (b := 1) e12 rfl) ?_
    refine V 8 3 (mv 18 (vi (W64 (s4 + 1)))) ?_
    refine RWP.nil ?_
    have hn51 := iter_next h50 hnx23
    exact ⟨m20, Nat.lt_succ_self _, (W64 (s4 + 1)), F3, hn51, hs45, (le7.trans le46), e8, e9, e10, e11, rfl⟩
  ·have h52 := cond_f hb22 hb24
   refine CWP.exit (by kernel_rfl) ?_
   refine thenQ_ex ?_
   refine thenQ_ex ?_
   refine blockQ_hit rfl ?_
   have ho53 := iter_done h52 hnx23
   exact .inl ⟨rfl, s4, F1, ho53, hs6, le7, e8⟩
 ·rintro f w14 ⟨s13, F2, rfl, hs15, le16, e17⟩
  have h54 := k_done h3
  refine thenQ_nrm ?_
  refine Sq (Rg [0] ?_)
  refine V 4 3 (mc (vi (-1)) (vi (-1))) ?_
  refine Nt ?_
  refine CWP.ret (by kernel_rfl) ?_
  have hfin := some_inj h54
  subst hfin
  exact ⟨e17, (vi (-1)), res_of (l := [.tmp 4]) (by kernel_rfl) (vs := [(vi (-1))]) ⟨rfl, trivial⟩, (vi (-1)), F2, rfl, hs15.clear, rfl⟩
end Go.Proofs.Ythbcnabeabcmlaa
namespace Go.Proofs.Ythbcnabeabcmlaa
open Go.Proofs
def slices_ContainsFunc_int_int (N : Nat) (x0 : (List Int)) (x1 : (Int → Option Bool)) : Option Bool :=
 ((slices_IndexFunc_int_int N x0 x1).bind fun r1 => some (decide (r1 ≥ 0)))
theorem co_slices_ContainsFunc_int_int : CallOk Try.prog 129 := fun _ _ => by kernel_rfl
set_option maxHeartbeats 4000000 in
set_option maxRecDepth 100000 in
theorem c_slices_ContainsFunc_int_int (N : Nat) (w0 : World) (F0 : Mem) (hF : ∀ b o, F0 b = some o → w0.heap[b]? = some o) (x0 : (List Int)) (a0_0 : Option Addr) (n0_0 : Nat) (hb0_0 : LC x0.length n0_0) (hs0_0 : SlA tInt F0 a0_0 x0) (gx1 : FuncId) (fx1 kx1 : List Value) (x1 : Int → Option Bool) (hox1 : CallOk Try.prog gx1) (hpx1 : ∀ (w' : World) (F' : Mem) (y0 : Int) (r : Bool), Mem.le F0 F' → (∀ b o, F' b = some o → w'.heap[b]? = some o) → x1 y0 = some r → Calls Try.prog gx1 (fx1 ++ (([(vi y0)] : List Value) ++ kx1)).toArray w' (FRet w' F' fun F'' v => v = (.bool r))) (r : Bool) (h : slices_ContainsFunc_int_int N x0 x1 = some r) :
  Calls Try.prog 129 ([(.slice a0_0 x0.length n0_0), (.func (.func gx1) fx1.toArray kx1.toArray)] : List Value).toArray w0 (FRet w0 F0 fun F' v => v = (.bool r)) := by
 have hs0 := HS.start hF
 refine calls_of (n := 9) (c := bodyOf Try.f129) Try.func129 (by kernel_rfl) (by kernel_rfl) (by kernel_rfl) ?_
 refine Sq (Rg [0] ?_)
 refine V 4 4 (mc (.bool false) (.bool false)) ?_
 refine Nss (Rg [0, 1, 2, 3, 4] ?_)
 refine V 5 50 (mv 0 (.slice a0_0 x0.length n0_0)) ?_
 refine V 6 159 (mv 1 (.func (.func gx1) fx1.toArray kx1.toArray)) ?_
 obtain ⟨r1, hr2, h3⟩ := bind_some h
 refine Cl 7 3 139 #[(.tmp 5), (.tmp 6)] #[50, 159] co_slices_IndexFunc_int_int hs0 (c_slices_IndexFunc_int_int N w0 F0 hs0.pers (x0) a0_0 n0_0 hb0_0 hs0_0 gx1 fx1 kx1 x1 hox1 (fun w1 F1 y0 r le1 pe1 hr1 => hpx1 w1 F1 y0 r (le1) pe1 hr1) _ hr2) ?_
 intro v4 F1 w5 hs6 le7 hp8
 obtain rfl := hp8
 refine V 8 4 (run_geq (t := 3) (t' := 3) (x := (.tmp 7)) (y := (.const (vi 0))) (k := .i64) (a := r1) (b := 0) rfl rfl) ?_
 refine V 4 4 (ma 8 (.bool (decide (r1 ≥ 0)))) ?_
 refine Nt ?_
 refine CWP.ret (by kernel_rfl) ?_
 have hfin := some_inj h3
 subst hfin
 exact ⟨rfl, (.bool (decide (r1 ≥ 0))), res_of (l := [.tmp 4]) (by kernel_rfl) (vs := [(.bool (decide (r1 ≥ 0)))]) ⟨rfl, trivial⟩, (.bool (decide (r1 ≥ 0))), F1, rfl, hs6.clear, rfl⟩
end Go.Proofs.Ythbcnabeabcmlaa
namespace Go.Proofs.Ythbcnabeabcmlaa
open Go.Proofs
def clocks_minutes_formed_1 (N : Nat) (x0 : Int) : Option Bool :=
 ((clocks_within N x0 (-1000000) 1000000).bind fun r1 => some (!r1))
theorem co_clocks_minutes_formed_1 : CallOk Try.prog 130 := fun _ _ => by kernel_rfl
set_option maxHeartbeats 4000000 in
set_option maxRecDepth 100000 in
theorem c_clocks_minutes_formed_1 (N : Nat) (w0 : World) (F0 : Mem) (hF : ∀ b o, F0 b = some o → w0.heap[b]? = some o) (x0 : Int) (r : Bool) (h : clocks_minutes_formed_1 N x0 = some r) :
  Calls Try.prog 130 ([(vi x0)] : List Value).toArray w0 (FRet w0 F0 fun F' v => v = (.bool r)) := by
 have hs0 := HS.start hF
 refine calls_of (n := 6) (c := bodyOf Try.f130) Try.func130 (by kernel_rfl) (by kernel_rfl) (by kernel_rfl) ?_
 refine Sq (Rg [0] ?_)
 refine V 2 4 (mc (.bool false) (.bool false)) ?_
 refine Nss (Rg [0, 1, 2, 3] ?_)
 refine V 3 3 (mv 0 (vi x0)) ?_
 obtain ⟨r1, hr2, h3⟩ := bind_some h
 refine Cl 4 4 67 #[(.tmp 3), (.const (vi (-1000000))), (.const (vi 1000000))] #[3, 3, 3] co_clocks_within hs0 (c_clocks_within N w0 F0 hs0.pers (x0) ((-1000000)) (1000000) _ hr2) ?_
 intro v4 F1 w5 hs6 le7 hp8
 obtain rfl := hp8
 refine V 5 4 (run_not (t := 4) (x := (.tmp 4)) (a := r1) rfl) ?_
 refine V 2 4 (ma 5 (.bool (!r1))) ?_
 refine Nt ?_
 refine CWP.ret (by kernel_rfl) ?_
 have hfin := some_inj h3
 subst hfin
 exact ⟨rfl, (.bool (!r1)), res_of (l := [.tmp 2]) (by kernel_rfl) (vs := [(.bool (!r1))]) ⟨rfl, trivial⟩, (.bool (!r1)), F1, rfl, hs6.clear, rfl⟩
end Go.Proofs.Ythbcnabeabcmlaa
namespace Go.Proofs.Ythbcnabeabcmlaa
open Go.Proofs
def clocks_minutes_formed_L0 (N : Nat) (x0 : (List (List Int))) (x1 : System) : Int → Option (Flow Bool Int) := fun s11 =>
 (bif (decide (s11 < (x1.Tracks.length : Int))) then ((idx x1.Tracks s11).bind fun x33 => (((idx x0 s11).bind fun x66 => (bif ((x66.length : Int) != (x33.Times.length : Int)) then some true else ((idx x0 s11).bind fun x84 => ((slices_ContainsFunc_int_int N x84 (fun y0 => clocks_minutes_formed_1 N y0)).bind fun r90 => some r90)))).bind fun j57 => (bif j57 then some (.ret false) else some (.next (W64 (s11 + 1)))))) else some (.done s11))
def clocks_minutes_formed (N : Nat) (x0 : (List (List Int))) (x1 : System) : Option Bool :=
 (bif ((x0.length : Int) != (x1.Tracks.length : Int)) then some false else ((iter (clocks_minutes_formed_L0 N x0 x1) N 0).bind fun o => o.k (fun r => some r) (fun s20 => some true)))
theorem co_clocks_minutes_formed : CallOk Try.prog 100 := fun _ _ => by kernel_rfl
set_option maxHeartbeats 4000000 in
set_option maxRecDepth 100000 in
theorem c_clocks_minutes_formed (N : Nat) (w0 : World) (F0 : Mem) (hF : ∀ b o, F0 b = some o → w0.heap[b]? = some o) (x0 : (List (List Int))) (a0_0 : Option Addr) (n0_0 : Nat) (hb0_0 : LC x0.length n0_0) (hs0_0 : SlA (tSl tInt) F0 a0_0 x0) (x1 : System) (a1_0 : Option Addr) (n1_0 : Nat) (hb1_0 : LC x1.Tracks.length n1_0) (hs1_0 : SlA tTrack F0 a1_0 x1.Tracks) (a1_1 : Option Addr) (n1_1 : Nat) (hb1_1 : LC x1.Ties.length n1_1) (hs1_1 : SlA tTie F0 a1_1 x1.Ties) (r : Bool) (h : clocks_minutes_formed N x0 x1 = some r) :
  Calls Try.prog 100 ([(.slice a0_0 x0.length n0_0), (.agg (kSystem x1 a1_0 n1_0 a1_1 n1_1))] : List Value).toArray w0 (FRet w0 F0 fun F' v => v = (.bool r)) := by
 have hs0 := HS.start hF
 refine calls_of (n := 38) (c := bodyOf Try.f100) Try.func100 (by kernel_rfl) (by kernel_rfl) (by kernel_rfl) ?_
 refine Sq (Rg [0, 1] ?_)
 refine Bx 3 0 1 25 (kSystem x1 a1_0 n1_0 a1_1 n1_1) hs0 (fun b1 w2 (hs3 : HS w0 F0 w2 F0 [(sb b1 (kSystem x1 a1_0 n1_0 a1_1 n1_1) 25)]) => ?_)
 refine V 4 4 (mc (.bool false) (.bool false)) ?_
 refine Nss ?_
 refine Sq (Rg [0, 1, 2, 3, 4, 5] ?_)
 refine V 7 133 (mv 0 (.slice a0_0 x0.length n0_0)) ?_
 refine V 8 3 (ln 7 133 a0_0 x0.length n0_0 50 1 24) ?_
 refine V 9 0 (fa 25 3 0 0 1 b1 0 0) ?_
 refine V 10 22 (ld 22 9 b1 0 false 1 (.slice a1_0 x1.Tracks.length n1_0) (hs3.ownAt (k := 0) rfl)) ?_
 refine V 11 3 (ln 10 22 a1_0 x1.Tracks.length n1_0 54 4 64) ?_
 refine V 12 4 (run_neq (t := 3) (t' := 3) (x := (.tmp 8)) (y := (.tmp 11)) (k := .i64) (a := (x0.length : Int)) (b := (x1.Tracks.length : Int)) rfl rfl) ?_
 refine Nt ?_
 refine CWP.cond (t := ((x0.length : Int) != (x1.Tracks.length : Int))) (by kernel_rfl) rfl (fun hb4 => ?_) (fun hb4 => ?_)
 ·have h5 := cond_t h hb4
  refine Sq (Rg [0] ?_)
  refine V 4 4 (mc (.bool false) (.bool false)) ?_
  refine Nt ?_
  refine CWP.ret (by kernel_rfl) ?_
  refine thenQ_ret ?_
  have hfin := some_inj h5
  subst hfin
  exact ⟨rfl, (.bool false), res_of (l := [.tmp 4]) (by kernel_rfl) (vs := [(.bool false)]) ⟨rfl, trivial⟩, (.bool false), F0, rfl, hs3.clear, rfl⟩
 ·have h6 := cond_f h hb4
  refine Sc ?_
  refine thenQ_nrm ?_
  refine Sq ?_
  refine Sq (Rg [0, 1, 2, 3] ?_)
  refine V 13 0 (fa 25 3 0 0 1 b1 0 0) ?_
  refine V 14 22 (ld 22 13 b1 0 false 1 (.slice a1_0 x1.Tracks.length n1_0) (hs3.ownAt (k := 0) rfl)) ?_
  refine V 15 3 (ln 14 22 a1_0 x1.Tracks.length n1_0 54 4 64) ?_
  refine V 16 3 (run_move (x := (.const (vi 0))) (v := (vi 0)) rfl) ?_
  refine Nt ?_
  have hs7 : HS w0 F0 w2 F0 [] := hs3.drop 0
  obtain ⟨o8, ho9, h10⟩ := bind_some h6
  refine CWP.cut (fun f w => ∃ (s20 : Int) (F2 : Mem), o8 = .done s20 ∧ HS w0 F0 w F2 [] ∧ Mem.le F0 F2 ∧ f.d = []) ?_ ?_
  ·refine Bk ?_
   refine CWP.loop (by kernel_rfl) (fun m f w => ∃ (s11 : Int) (F1 : Mem), iter (clocks_minutes_formed_L0 N x0 x1) m s11 = some o8 ∧ HS w0 F0 w F1 [] ∧ Mem.le F0 F1 ∧ f.d = [] ∧ f 0 = (.slice a0_0 x0.length n0_0) ∧ f 14 = (.slice a1_0 x1.Tracks.length n1_0) ∧ f 15 = (vi (x1.Tracks.length : Int)) ∧ f 16 = (vi s11)) N ⟨0, F0, ho9, hs7, (Mem.le.refl _), rfl, rfl, rfl, rfl, rfl⟩ ?_
   rintro m25 f w12 ⟨s11, F1, hit26, hs13, le14, e15, e16, e17, e18, e19⟩
   obtain ⟨m27, fl28, rfl, hb29, hnx30⟩ := iter_step hit26
   refine Sq (Rg [0] ?_)
   refine V 17 0 (run_lss (t := 3) (t' := 3) (x := (.tmp 16)) (y := (.tmp 15)) (k := .i64) (a := s11) (b := (x1.Tracks.length : Int)) e19 e18) ?_
   refine Nss ?_
   refine CWP.cond (t := (decide (s11 < (x1.Tracks.length : Int)))) (by kernel_rfl) rfl (fun hb31 => ?_) (fun hb31 => ?_)
   ·have h32 := cond_t hb29 hb31
    refine Sc ?_
    refine thenQ_nrm ?_
    refine Sq ?_
    refine Bk ?_
    refine Sq (Rg [0, 1, 2, 3, 4, 5] ?_)
    refine V 18 3 (mv 16 (vi s11) e19) ?_
    obtain ⟨x33, hx34, h36⟩ := bind_some h32
    obtain ⟨hi35, hx34'⟩ := idx_spec hx34
    obtain ⟨b37, o38, C39, E40, fz41, rfl, hF43, hE44⟩ := SlA.open (SlA.mono hs1_0 le14) hx34'
    obtain ⟨ae45_2, ne45_2, ae45_3, ne45_3, hc46, hbe45_2, hse45_2, hbe45_3, hse45_3⟩ := hE44 _ _ hx34'
    refine V 19 0 (run_index (t := 22) (x := (.tmp 14)) (y := (.tmp 16)) (b := b37) (o := o38) (E := 54) (s := 4) (by_ := 64) e17 e19 (by kernel_rfl) hi35) ?_
    refine V 20 54 (lx 54 19 0 4 true 4 (.agg (kTrack x33 ae45_2 ne45_2 ae45_3 ne45_3)) (hs13.pers _ _ hF43) hc46) ?_
    refine Al 6 0 54 #[(vi 0), (vi 0), (.slice none ([] : List Int).length 0), (.slice none ([] : List Int).length 0)] hs13 (fun b47 w48 (hs49 : HS w0 F0 w48 F1 [(sb b47 #[(vi 0), (vi 0), (.slice none ([] : List Int).length 0), (.slice none ([] : List Int).length 0)] 54)]) => ?_)
    refine V 5 3 (ma 18 (vi s11)) ?_
    refine RWP.store (ty := 0) (g := none) (by kernel_rfl) rfl (x := (.tmp 6)) (y := (.tmp 20)) (t := 54) (gg := true) (s := 4) (v := (.agg (kTrack x33 ae45_2 ne45_2 ae45_3 ne45_3))) (b := b47) (o := 0) (C := #[(vi 0), (vi 0), (.slice none ([] : List Int).length 0), (.slice none ([] : List Int).length 0)]) rfl rfl (by kernel_rfl) hs49 (k := 0) rfl rfl rfl rfl (C' := (kTrack x33 ae45_2 ne45_2 ae45_3 ne45_3)) rfl (fun w50 (hs51 : HS w0 F0 w50 F1 [(sb b47 (kTrack x33 ae45_2 ne45_2 ae45_3 ne45_3) 54)]) => ?_)
    refine Nss ?_
    obtain ⟨j57, hj64, h65⟩ := bind_some h36
    refine CWP.regionD (by kernel_rfl) (by kernel_rfl) (by kernel_rfl) (by kernel_rfl) (z := 16) (F := F1) (Lc := [(sb b47 (kTrack x33 ae45_2 ne45_2 ae45_3 ne45_3) 54)]) (Lz := []) (l := [false, false, false, false, false, false, false, false, false, false, false, false, false, false, false, false]) (fuel := 16) (by kernel_rfl) (by kernel_rfl) hs51 (by simp) (by simp) (fun f w => ∃ (F3 : Mem), HS w0 F0 w F3 [] ∧ Mem.le F1 F3 ∧ f.d = [] ∧ f 0 = (.slice a0_0 x0.length n0_0) ∧ f 14 = (.slice (some ⟨b37, o38, none⟩) x1.Tracks.length n1_0) ∧ f 15 = (vi (x1.Tracks.length : Int)) ∧ f 16 = (vi s11) ∧ f 36 = (.bool j57)) (fun wd52 hw53 => ?_) ?_
    ·refine Dt 0 21 133 _ (fun _ hq => mv 0 (.slice a0_0 x0.length n0_0) e16) ?_
     refine Dt 1 22 3 _ (fun _ hq => mv 5 (vi s11)) ?_
     obtain ⟨x66, hx67, h69⟩ := bind_some hj64
     obtain ⟨hi68, hx67'⟩ := idx_spec hx67
     obtain ⟨b70, o71, C72, E73, fz74, rfl, hF76, hE77⟩ := SlA.open (SlA.mono hs0_0 le14) hx67'
     obtain ⟨ae78_0, ne78_0, hc79, hbe78_0, hse78_0⟩ := hE77 _ _ hx67'
     refine Dt 2 23 0 (.pointer (some ⟨b70, (o71 + (s11 : Int).toNat * 1), none⟩)) (fun _ hq => ix 133 21 22 b70 o71 50 1 24 hi68) ?_
     refine Dt 3 24 50 _ (fun _ hq => lx 50 23 0 1 false 1 (.slice ae78_0 x66.length ne78_0) (hq.1.1 _ _ hF76) hc79) ?_
     refine Dt 4 25 3 (vi (x66.length : Int)) (fun _ hq => ln 24 50 ae78_0 x66.length ne78_0 3 1 8) ?_
     refine Dt 5 26 0 (.pointer (some ⟨b47, 3, none⟩)) (fun _ hq => fa 54 6 1 3 1 b47 0 3) ?_
     refine Dt 6 27 50 _ (fun _ hq => ld 50 26 b47 3 false 1 (.slice ae45_3 x33.Times.length ne45_3) (hq.1.2 0 _ _ rfl)) ?_
     refine Dt 7 28 3 (vi (x33.Times.length : Int)) (fun _ hq => ln 27 50 ae45_3 x33.Times.length ne45_3 3 1 8) ?_
     refine Dt 8 29 4 (.bool ((x66.length : Int) != (x33.Times.length : Int))) (fun _ hq => run_neq (t := 3) (t' := 3) (x := (.tmp 25)) (y := (.tmp 28)) (k := .i64) (a := (x66.length : Int)) (b := (x33.Times.length : Int)) rfl rfl) ?_
     refine Dt 9 30 4 _ (fun _ hq => mv 29 (.bool ((x66.length : Int) != (x33.Times.length : Int)))) ?_
     refine DWP.split ((x66.length : Int) != (x33.Times.length : Int)) (fun hb80 => ?_) (fun hb80 => ?_)
     ·have h81 := cond_t h69 hb80
      refine Dk [(10, 31), (11, 32), (12, 33), (13, 34), (14, 35)] 9 false 30 hb80 ?_
      refine Dt 15 36 4 _ (fun _ hq => p1 30 (.const (.bool true)) (.tmp 35) (.bool true) hb80) ?_
      obtain rfl := some_inj h81
      have hs82 : HS w0 F0 wd52 F1 [] := hw53.drop 0
      exact DWP.done (by kernel_rfl) ⟨F1, hs82, (Mem.le.refl _), e15, e16, e17, e18, e19, rfl⟩
     ·have h83 := cond_f h69 hb80
      refine Dg 10 31 133 _ 9 false 30 hb80 (fun _ hq => mv 0 (.slice (some ⟨b70, o71, none⟩) x0.length n0_0) e16) ?_
      refine Dg 11 32 3 _ 9 false 30 hb80 (fun _ hq => mv 5 (vi s11)) ?_
      obtain ⟨x84, hx85, h87⟩ := bind_some h83
      obtain ⟨hi86, hx85'⟩ := idx_spec hx85
      obtain ⟨ae88_0, ne88_0, hc89, hbe88_0, hse88_0⟩ := hE77 _ _ hx85'
      refine Dg 12 33 0 (.pointer (some ⟨b70, (o71 + (s11 : Int).toNat * 1), none⟩)) 9 false 30 hb80 (fun _ hq => ix 133 31 32 b70 o71 50 1 24 hi86) ?_
      refine Dg 13 34 50 _ 9 false 30 hb80 (fun _ hq => lx 50 33 0 1 false 1 (.slice ae88_0 x84.length ne88_0) (hq.1.1 _ _ hF76) hc89) ?_
      refine DWP.one (i := 14) (by kernel_rfl) ?_
      obtain ⟨r90, hr91, h92⟩ := bind_some h87
      refine DStep.call (l' := [true, true, true, true, true, true, true, true, true, true, true, true, true, true, true, false]) (zd := true) (by kernel_rfl) (by kernel_rfl) (by kernel_rfl) (dst := (some 35)) (ty := 4) (g := (some (9, false))) (by kernel_rfl) (gd_y (d := 30) (by kernel_rfl) rfl hb80) (f0 := (.func 129)) (aos := #[(.tmp 34), (.func 130)]) (ats := #[50, 159]) (fid := 129) (first := #[]) (cap := #[]) (args := [(.slice ae88_0 x84.length ne88_0), (.func (.func 130) #[] #[])]) rfl co_slices_ContainsFunc_int_int (rfl) hw53 (c_slices_ContainsFunc_int_int N wd52 F1 hw53.pers (x84) ae88_0 ne88_0 hbe88_0 hse88_0 130 [] [] (fun y0 => clocks_minutes_formed_1 N y0) co_clocks_minutes_formed_1 (fun w1 F1 y0 r le1 pe1 hr1 => c_clocks_minutes_formed_1 N w1 F1 pe1  y0  r hr1) _ hr91) ?_
      intro v93 F4 w94 hs95 le96 hp97
      obtain rfl := hp97
      refine Dt 15 36 4 _ (fun _ hq => p0 30 (.const (.bool true)) (.tmp 35) (.bool r90) hb80) ?_
      obtain rfl := some_inj h92
      have hs98 : HS w0 F0 w94 F4 [] := hs95.drop 0
      exact DWP.done (by kernel_rfl) ⟨F4, hs98, le96, e15, e16, e17, e18, e19, rfl⟩
    ·rintro f w54 ⟨F3, hs55, le56, e58, e59, e60, e61, e62, e63⟩
     refine thenQ_nrm ?_
     refine CWP.cond (t := j57) (by kernel_rfl) e63 (fun hb99 => ?_) (fun hb99 => ?_)
     ·have h100 := cond_t h65 hb99
      refine Sq (Rg [0] ?_)
      refine V 4 4 (mc (.bool false) (.bool false)) ?_
      refine Nt ?_
      refine CWP.ret (by kernel_rfl) ?_
      refine blockQ_ret ?_
      refine thenQ_ret ?_
      refine thenQ_ret ?_
      refine blockQ_ret ?_
      have hret := iter_ret h100 hnx30
      subst hret
      refine .inr ?_
      refine thenQ_ret ?_
      have hfin := some_inj h10
      subst hfin
      exact ⟨e58, (.bool false), res_of (l := [.tmp 4]) (by kernel_rfl) (vs := [(.bool false)]) ⟨rfl, trivial⟩, (.bool false), F3, rfl, hs55.clear, rfl⟩
     ·have h101 := cond_f h65 hb99
      refine Sc ?_
      refine blockQ_nrm ?_
      refine thenQ_nrm ?_
      refine Rg [0, 1] ?_
      refine V 37 3 (run_add (t := 3) (t' := 3) (x := (.tmp 16)) (y := (.const (vi 1))) (k := .i64) (a := s11) (b := 1) e62 rfl) ?_
      refine V 16 3 (mv 37 (vi (W64 (s11 + 1)))) ?_
      refine RWP.nil ?_
      have hn102 := iter_next h101 hnx30
      exact ⟨m27, Nat.lt_succ_self _, (W64 (s11 + 1)), F3, hn102, hs55, (le14.trans le56), e58, e59, e60, e61, rfl⟩
   ·have h103 := cond_f hb29 hb31
    refine CWP.exit (by kernel_rfl) ?_
    refine thenQ_ex ?_
    refine thenQ_ex ?_
    refine blockQ_hit rfl ?_
    have ho104 := iter_done h103 hnx30
    exact .inl ⟨rfl, s11, F1, ho104, hs13, le14, e15⟩
  ·rintro f w21 ⟨s20, F2, rfl, hs22, le23, e24⟩
   have h105 := k_done h10
   refine thenQ_nrm ?_
   refine Sq (Rg [0] ?_)
   refine V 4 4 (mc (.bool true) (.bool true)) ?_
   refine Nt ?_
   refine CWP.ret (by kernel_rfl) ?_
   have hfin := some_inj h105
   subst hfin
   exact ⟨e24, (.bool true), res_of (l := [.tmp 4]) (by kernel_rfl) (vs := [(.bool true)]) ⟨rfl, trivial⟩, (.bool true), F2, rfl, hs22.clear, rfl⟩
end Go.Proofs.Ythbcnabeabcmlaa
namespace Go.Proofs.Ythbcnabeabcmlaa
open Go.Proofs
def clocks_minutes_at (N : Nat) (x0 : (List (List Int))) (x1 : Ref) : Option Int :=
 (((clocks_beginning N ).bind fun r16 => some ((x1.Log == r16.Log) && ((x1.Line == r16.Line) && true))).bind fun j9 => (bif j9 then some 0 else (((idx x0 x1.Log).bind fun x37 => ((idx x37 x1.Line).bind fun x51 => some x51)).bind fun j32 => some j32)))
theorem co_clocks_minutes_at : CallOk Try.prog 131 := fun _ _ => by kernel_rfl
set_option maxHeartbeats 4000000 in
set_option maxRecDepth 100000 in
theorem c_clocks_minutes_at (N : Nat) (w0 : World) (F0 : Mem) (hF : ∀ b o, F0 b = some o → w0.heap[b]? = some o) (x0 : (List (List Int))) (a0_0 : Option Addr) (n0_0 : Nat) (hb0_0 : LC x0.length n0_0) (hs0_0 : SlA (tSl tInt) F0 a0_0 x0) (x1 : Ref) (r : Int) (h : clocks_minutes_at N x0 x1 = some r) :
  Calls Try.prog 131 ([(.slice a0_0 x0.length n0_0), (.agg (kRef x1))] : List Value).toArray w0 (FRet w0 F0 fun F' v => v = (vi r)) := by
 have hs0 := HS.start hF
 refine calls_of (n := 17) (c := bodyOf Try.f131) Try.func131 (by kernel_rfl) (by kernel_rfl) (by kernel_rfl) ?_
 refine Sq (Rg [0, 1] ?_)
 refine Bx 3 0 1 27 (kRef x1) hs0 (fun b1 w2 (hs3 : HS w0 F0 w2 F0 [(sb b1 (kRef x1) 27)]) => ?_)
 refine V 4 3 (mc (vi 0) (vi 0)) ?_
 refine Nss ?_
 refine Sq ?_
 obtain ⟨j9, hj14, h15⟩ := bind_some h
 refine CWP.regionD (by kernel_rfl) (by kernel_rfl) (by kernel_rfl) (by kernel_rfl) (z := 3) (F := F0) (Lc := [(sb b1 (kRef x1) 27)]) (Lz := []) (l := [false, false, false]) (fuel := 3) (by kernel_rfl) (by kernel_rfl) hs3 (by simp) (by simp) (fun f w => ∃ (F1 : Mem), HS w0 F0 w F1 [(sb b1 (kRef x1) 27)] ∧ Mem.le F0 F1 ∧ f.d = [] ∧ f 0 = (.slice a0_0 x0.length n0_0) ∧ f 3 = (.pointer (some ⟨b1, 0, none⟩)) ∧ f 7 = (.bool j9)) (fun wd4 hw5 => ?_) ?_
 ·refine Dt 0 5 27 _ (fun _ hq => ld 27 3 b1 0 true 2 (.agg (kRef x1)) (hq.1.2 0 _ _ rfl)) ?_
  refine DWP.one (i := 1) (by kernel_rfl) ?_
  obtain ⟨r16, hr17, h18⟩ := bind_some hj14
  refine DStep.call (l' := [true, true, false]) (zd := true) (by kernel_rfl) (by kernel_rfl) (by kernel_rfl) (dst := (some 6)) (ty := 27) (g := none) (by kernel_rfl) rfl (f0 := (.func 108)) (aos := #[]) (ats := #[]) (fid := 108) (first := #[]) (cap := #[]) (args := []) rfl co_clocks_beginning (rfl) hw5 (c_clocks_beginning N wd4 F0 hw5.pers  _ hr17) ?_
  intro v19 F2 w20 hs21 le22 hp23
  obtain rfl := hp23
  refine Dt 2 7 4 (.bool ((x1.Log == r16.Log) && ((x1.Line == r16.Line) && true))) (fun _ hq => run_eqs (t := 27) (t' := 27) (x := (.tmp 5)) (y := (.tmp 6)) (xs := (kRef x1)) (ys := (kRef r16)) (b := ((x1.Log == r16.Log) && ((x1.Line == r16.Line) && true))) rfl rfl (by kernel_rfl) (by kernel_rfl)) ?_
  obtain rfl := some_inj h18
  exact DWP.done (by kernel_rfl) ⟨F2, hs21, le22, rfl, rfl, rfl, rfl⟩
 ·rintro f w6 ⟨F1, hs7, le8, e10, e11, e12, e13⟩
  refine thenQ_nrm ?_
  refine CWP.cond (t := j9) (by kernel_rfl) e13 (fun hb24 => ?_) (fun hb24 => ?_)
  ·have h25 := cond_t h15 hb24
   refine Sq (Rg [0] ?_)
   refine V 4 3 (mc (vi 0) (vi 0)) ?_
   refine Nt ?_
   refine CWP.ret (by kernel_rfl) ?_
   refine thenQ_ret ?_
   have hfin := some_inj h25
   subst hfin
   exact ⟨e10, (vi 0), res_of (l := [.tmp 4]) (by kernel_rfl) (vs := [(vi 0)]) ⟨rfl, trivial⟩, (vi 0), F1, rfl, hs7.clear, rfl⟩
  ·have h26 := cond_f h15 hb24
   refine Sc ?_
   refine thenQ_nrm ?_
   refine Sq ?_
   obtain ⟨j32, hj35, h36⟩ := bind_some h26
   refine CWP.regionD (by kernel_rfl) (by kernel_rfl) (by kernel_rfl) (by kernel_rfl) (z := 10) (F := F1) (Lc := [(sb b1 (kRef x1) 27)]) (Lz := []) (l := [false, false, false, false, false, false, false, false, false, false]) (fuel := 10) (by kernel_rfl) (by kernel_rfl) hs7 (by simp) (by simp) (fun f w => ∃ (F3 : Mem), HS w0 F0 w F3 [] ∧ Mem.le F1 F3 ∧ f.d = [] ∧ f 4 = (vi j32)) (fun wd27 hw28 => ?_) ?_
   ·refine Dt 0 8 133 _ (fun _ hq => mv 0 (.slice a0_0 x0.length n0_0) e11) ?_
    refine Dt 1 9 0 (.pointer (some ⟨b1, 0, none⟩)) (fun _ hq => fa 27 3 0 0 1 b1 0 0 e12) ?_
    refine Dt 2 10 3 _ (fun _ hq => ld 3 9 b1 0 false 1 (vi x1.Log) (hq.1.2 0 _ _ rfl)) ?_
    obtain ⟨x37, hx38, h40⟩ := bind_some hj35
    obtain ⟨hi39, hx38'⟩ := idx_spec hx38
    obtain ⟨b41, o42, C43, E44, fz45, rfl, hF47, hE48⟩ := SlA.open (SlA.mono hs0_0 le8) hx38'
    obtain ⟨ae49_0, ne49_0, hc50, hbe49_0, hse49_0⟩ := hE48 _ _ hx38'
    refine Dt 3 11 0 (.pointer (some ⟨b41, (o42 + (x1.Log : Int).toNat * 1), none⟩)) (fun _ hq => ix 133 8 10 b41 o42 50 1 24 hi39) ?_
    refine Dt 4 12 50 _ (fun _ hq => lx 50 11 0 1 false 1 (.slice ae49_0 x37.length ne49_0) (hq.1.1 _ _ hF47) hc50) ?_
    refine Dt 5 13 0 (.pointer (some ⟨b1, 1, none⟩)) (fun _ hq => fa 27 3 1 1 1 b1 0 1 e12) ?_
    refine Dt 6 14 3 _ (fun _ hq => ld 3 13 b1 1 false 1 (vi x1.Line) (hq.1.2 0 _ _ rfl)) ?_
    obtain ⟨x51, hx52, h54⟩ := bind_some h40
    obtain ⟨hi53, hx52'⟩ := idx_spec hx52
    obtain ⟨b55, o56, C57, E58, fz59, rfl, hF61, hE62⟩ := SlA.open hse49_0 hx52'
    have hc64 := hE62 _ _ hx52'
    refine Dt 7 15 0 (.pointer (some ⟨b55, (o56 + (x1.Line : Int).toNat * 1), none⟩)) (fun _ hq => ix 50 12 14 b55 o56 3 1 8 hi53) ?_
    refine Dt 8 16 3 _ (fun _ hq => lx 3 15 0 1 false 1 (vi x51) (hq.1.1 _ _ hF61) hc64) ?_
    refine Dt 9 4 3 _ (fun _ hq => ma 16 (vi x51)) ?_
    obtain rfl := some_inj h54
    have hs65 : HS w0 F0 wd27 F1 [] := hw28.drop 0
    exact DWP.done (by kernel_rfl) ⟨F1, hs65, (Mem.le.refl _), e10, rfl⟩
   ·rintro f w29 ⟨F3, hs30, le31, e33, e34⟩
    refine thenQ_nrm ?_
    refine CWP.ret (by kernel_rfl) ?_
    have hfin := some_inj h36
    subst hfin
    exact ⟨e33, (vi j32), res_of (l := [.tmp 4]) (by kernel_rfl) (vs := [(vi j32)]) ⟨e34, trivial⟩, (vi j32), F3, rfl, hs30.clear, rfl⟩
end Go.Proofs.Ythbcnabeabcmlaa
namespace Go.Proofs.Ythbcnabeabcmlaa
open Go.Proofs
def clocks_minutes_breaks (N : Nat) (x0 : (List (List Int))) (x1 : Bound) : Option Bool :=
 (((clocks_minutes_at N x0 x1.To).bind fun r14 => ((clocks_minutes_at N x0 x1.From).bind fun r22 => some (decide (r14 > (W64 (r22 + x1.Most)))))).bind fun j9 => some j9)
theorem co_clocks_minutes_breaks : CallOk Try.prog 101 := fun _ _ => by kernel_rfl
set_option maxHeartbeats 4000000 in
set_option maxRecDepth 100000 in
theorem c_clocks_minutes_breaks (N : Nat) (w0 : World) (F0 : Mem) (hF : ∀ b o, F0 b = some o → w0.heap[b]? = some o) (x0 : (List (List Int))) (a0_0 : Option Addr) (n0_0 : Nat) (hb0_0 : LC x0.length n0_0) (hs0_0 : SlA (tSl tInt) F0 a0_0 x0) (x1 : Bound) (r : Bool) (h : clocks_minutes_breaks N x0 x1 = some r) :
  Calls Try.prog 101 ([(.slice a0_0 x0.length n0_0), (.agg (kBound x1))] : List Value).toArray w0 (FRet w0 F0 fun F' v => v = (.bool r)) := by
 have hs0 := HS.start hF
 refine calls_of (n := 17) (c := bodyOf Try.f101) Try.func101 (by kernel_rfl) (by kernel_rfl) (by kernel_rfl) ?_
 refine Sq (Rg [0, 1] ?_)
 refine Bx 3 0 1 103 (kBound x1) hs0 (fun b1 w2 (hs3 : HS w0 F0 w2 F0 [(sb b1 (kBound x1) 103)]) => ?_)
 refine V 4 4 (mc (.bool false) (.bool false)) ?_
 refine Nss ?_
 obtain ⟨j9, hj12, h13⟩ := bind_some h
 refine CWP.regionD (by kernel_rfl) (by kernel_rfl) (by kernel_rfl) (by kernel_rfl) (z := 13) (F := F0) (Lc := [(sb b1 (kBound x1) 103)]) (Lz := []) (l := [false, false, false, false, false, false, false, false, false, false, false, false, false]) (fuel := 13) (by kernel_rfl) (by kernel_rfl) hs3 (by simp) (by simp) (fun f w => ∃ (F1 : Mem), HS w0 F0 w F1 [] ∧ Mem.le F0 F1 ∧ f.d = [] ∧ f 4 = (.bool j9)) (fun wd4 hw5 => ?_) ?_
 ·refine Dt 0 5 133 _ (fun _ hq => mv 0 (.slice a0_0 x0.length n0_0)) ?_
  refine Dt 1 6 0 (.pointer (some ⟨b1, 2, none⟩)) (fun _ hq => fa 103 3 1 2 2 b1 0 2) ?_
  refine Dt 2 7 27 _ (fun _ hq => ld 27 6 b1 2 true 2 (.agg (kRef x1.To)) (hq.1.2 0 _ _ rfl)) ?_
  refine Dt 4 9 133 _ (fun _ hq => mv 0 (.slice a0_0 x0.length n0_0)) ?_
  refine Dt 5 10 0 (.pointer (some ⟨b1, 0, none⟩)) (fun _ hq => fa 103 3 0 0 2 b1 0 0) ?_
  refine Dt 6 11 27 _ (fun _ hq => ld 27 10 b1 0 true 2 (.agg (kRef x1.From)) (hq.1.2 0 _ _ rfl)) ?_
  refine Dt 8 13 0 (.pointer (some ⟨b1, 4, none⟩)) (fun _ hq => fa 103 3 2 4 1 b1 0 4) ?_
  refine Dt 9 14 3 _ (fun _ hq => ld 3 13 b1 4 false 1 (vi x1.Most) (hq.1.2 0 _ _ rfl)) ?_
  refine DWP.one (i := 3) (by kernel_rfl) ?_
  obtain ⟨r14, hr15, h16⟩ := bind_some hj12
  refine DStep.call (l' := [true, true, true, true, true, true, true, false, true, true, false, false, false]) (zd := true) (by kernel_rfl) (by kernel_rfl) (by kernel_rfl) (dst := (some 8)) (ty := 3) (g := none) (by kernel_rfl) rfl (f0 := (.func 131)) (aos := #[(.tmp 5), (.tmp 7)]) (ats := #[133, 27]) (fid := 131) (first := #[]) (cap := #[]) (args := [(.slice a0_0 x0.length n0_0), (.agg (kRef x1.To))]) rfl co_clocks_minutes_at (rfl) hw5 (c_clocks_minutes_at N wd4 F0 hw5.pers (x0) a0_0 n0_0 hb0_0 hs0_0 (x1.To) _ hr15) ?_
  intro v17 F2 w18 hs19 le20 hp21
  obtain rfl := hp21
  refine DWP.one (i := 7) (by kernel_rfl) ?_
  obtain ⟨r22, hr23, h24⟩ := bind_some h16
  refine DStep.call (l' := [true, true, true, true, true, true, true, true, true, true, false, false, false]) (zd := true) (by kernel_rfl) (by kernel_rfl) (by kernel_rfl) (dst := (some 12)) (ty := 3) (g := none) (by kernel_rfl) rfl (f0 := (.func 131)) (aos := #[(.tmp 9), (.tmp 11)]) (ats := #[133, 27]) (fid := 131) (first := #[]) (cap := #[]) (args := [(.slice a0_0 x0.length n0_0), (.agg (kRef x1.From))]) rfl co_clocks_minutes_at (rfl) hs19 (c_clocks_minutes_at N w18 F2 hs19.pers (x0) a0_0 n0_0 hb0_0 (SlA.mono hs0_0 le20) (x1.From) _ hr23) ?_
  intro v25 F3 w26 hs27 le28 hp29
  obtain rfl := hp29
  refine Dt 10 15 3 (vi (W64 (r22 + x1.Most))) (fun _ hq => run_add (t := 3) (t' := 3) (x := (.tmp 12)) (y := (.tmp 14)) (k := .i64) (a := r22) (b := x1.Most) rfl rfl) ?_
  refine Dt 11 16 4 (.bool (decide (r14 > (W64 (r22 + x1.Most))))) (fun _ hq => run_gtr (t := 3) (t' := 3) (x := (.tmp 8)) (y := (.tmp 15)) (k := .i64) (a := r14) (b := (W64 (r22 + x1.Most))) rfl rfl) ?_
  refine Dt 12 4 4 _ (fun _ hq => ma 16 (.bool (decide (r14 > (W64 (r22 + x1.Most)))))) ?_
  obtain rfl := some_inj h24
  have hs30 : HS w0 F0 w26 F3 [] := hs27.drop 0
  exact DWP.done (by kernel_rfl) ⟨F3, hs30, (le20.trans le28), rfl, rfl⟩
 ·rintro f w6 ⟨F1, hs7, le8, e10, e11⟩
  refine thenQ_nrm ?_
  refine CWP.ret (by kernel_rfl) ?_
  have hfin := some_inj h13
  subst hfin
  exact ⟨e10, (.bool j9), res_of (l := [.tmp 4]) (by kernel_rfl) (vs := [(.bool j9)]) ⟨e11, trivial⟩, (.bool j9), F1, rfl, hs7.clear, rfl⟩
end Go.Proofs.Ythbcnabeabcmlaa
namespace Go.Proofs.Ythbcnabeabcmlaa
open Go.Proofs
def slices_IndexFunc_api_Bound_api_Bound_L0 (N : Nat) (x0 : (List Bound)) (x1 : (Bound → Option Bool)) : Int → Option (Flow Int Int) := fun s4 =>
 (bif (decide (s4 < (x0.length : Int))) then ((idx x0 s4).bind fun x26 => ((x1 x26).bind fun r40 => (bif r40 then some (.ret s4) else some (.next (W64 (s4 + 1)))))) else some (.done s4))
def slices_IndexFunc_api_Bound_api_Bound (N : Nat) (x0 : (List Bound)) (x1 : (Bound → Option Bool)) : Option Int :=
 ((iter (slices_IndexFunc_api_Bound_api_Bound_L0 N x0 x1) N 0).bind fun o => o.k (fun r => some r) (fun s13 => some (-1)))
theorem co_slices_IndexFunc_api_Bound_api_Bound : CallOk Try.prog 132 := fun _ _ => by kernel_rfl
set_option maxHeartbeats 4000000 in
set_option maxRecDepth 100000 in
theorem c_slices_IndexFunc_api_Bound_api_Bound (N : Nat) (w0 : World) (F0 : Mem) (hF : ∀ b o, F0 b = some o → w0.heap[b]? = some o) (x0 : (List Bound)) (a0_0 : Option Addr) (n0_0 : Nat) (hb0_0 : LC x0.length n0_0) (hs0_0 : SlA tBound F0 a0_0 x0) (gx1 : FuncId) (fx1 kx1 : List Value) (x1 : Bound → Option Bool) (hox1 : CallOk Try.prog gx1) (hpx1 : ∀ (w' : World) (F' : Mem) (y0 : Bound) (r : Bool), Mem.le F0 F' → (∀ b o, F' b = some o → w'.heap[b]? = some o) → x1 y0 = some r → Calls Try.prog gx1 (fx1 ++ (([(.agg (kBound y0))] : List Value) ++ kx1)).toArray w' (FRet w' F' fun F'' v => v = (.bool r))) (r : Int) (h : slices_IndexFunc_api_Bound_api_Bound N x0 x1 = some r) :
  Calls Try.prog 132 ([(.slice a0_0 x0.length n0_0), (.func (.func gx1) fx1.toArray kx1.toArray)] : List Value).toArray w0 (FRet w0 F0 fun F' v => v = (vi r)) := by
 have hs0 := HS.start hF
 refine calls_of (n := 19) (c := bodyOf Try.f132) Try.func132 (by kernel_rfl) (by kernel_rfl) (by kernel_rfl) ?_
 refine Sq (Rg [0] ?_)
 refine V 4 3 (mc (vi 0) (vi 0)) ?_
 refine Nss ?_
 refine Sq (Rg [0, 1, 2] ?_)
 refine V 6 57 (mv 0 (.slice a0_0 x0.length n0_0)) ?_
 refine V 7 3 (ln 6 57 a0_0 x0.length n0_0 103 7 56) ?_
 refine V 8 3 (run_move (x := (.const (vi 0))) (v := (vi 0)) rfl) ?_
 refine Nt ?_
 obtain ⟨o1, ho2, h3⟩ := bind_some h
 refine CWP.cut (fun f w => ∃ (s13 : Int) (F2 : Mem), o1 = .done s13 ∧ HS w0 F0 w F2 [] ∧ Mem.le F0 F2 ∧ f.d = []) ?_ ?_
 ·refine Bk ?_
  refine CWP.loop (by kernel_rfl) (fun m f w => ∃ (s4 : Int) (F1 : Mem), iter (slices_IndexFunc_api_Bound_api_Bound_L0 N x0 x1) m s4 = some o1 ∧ HS w0 F0 w F1 [] ∧ Mem.le F0 F1 ∧ f.d = [] ∧ f 0 = (.slice a0_0 x0.length n0_0) ∧ f 1 = (.func (.func gx1) fx1.toArray kx1.toArray) ∧ f 7 = (vi (x0.length : Int)) ∧ f 8 = (vi s4)) N ⟨0, F0, ho2, hs0, (Mem.le.refl _), rfl, rfl, rfl, rfl, rfl⟩ ?_
  rintro m18 f w5 ⟨s4, F1, hit19, hs6, le7, e8, e9, e10, e11, e12⟩
  obtain ⟨m20, fl21, rfl, hb22, hnx23⟩ := iter_step hit19
  refine Sq (Rg [0] ?_)
  refine V 9 0 (run_lss (t := 3) (t' := 3) (x := (.tmp 8)) (y := (.tmp 7)) (k := .i64) (a := s4) (b := (x0.length : Int)) e12 e11) ?_
  refine Nss ?_
  refine CWP.cond (t := (decide (s4 < (x0.length : Int)))) (by kernel_rfl) rfl (fun hb24 => ?_) (fun hb24 => ?_)
  ·have h25 := cond_t hb22 hb24
   refine Sc ?_
   refine thenQ_nrm ?_
   refine Sq ?_
   refine Bk ?_
   refine Sq (Rg [0, 1] ?_)
   refine V 10 3 (mv 8 (vi s4) e12) ?_
   refine V 5 3 (ma 10 (vi s4)) ?_
   refine Nss (Rg [0, 1, 2, 3, 4, 5] ?_)
   refine V 11 134 (mv 1 (.func (.func gx1) fx1.toArray kx1.toArray) e10) ?_
   refine V 12 57 (mv 0 (.slice a0_0 x0.length n0_0) e9) ?_
   refine V 13 3 (mv 5 (vi s4)) ?_
   obtain ⟨x26, hx27, h29⟩ := bind_some h25
   obtain ⟨hi28, hx27'⟩ := idx_spec hx27
   obtain ⟨b30, o31, C32, E33, fz34, rfl, hF36, hE37⟩ := SlA.open (SlA.mono hs0_0 le7) hx27'
   have hc39 := hE37 _ _ hx27'
   refine V 14 0 (ix 57 12 13 b30 o31 103 7 56 hi28) ?_
   refine V 15 103 (lx 103 14 0 7 true 7 (.agg (kBound x26)) (hs6.pers _ _ hF36) hc39) ?_
   obtain ⟨r40, hr41, h42⟩ := bind_some h29
   refine RWP.call (dst := (some 16)) (ty := 4) (g := none) (by kernel_rfl) rfl (f0 := (.tmp 11)) (aos := #[(.tmp 15)]) (ats := #[103]) (fid := gx1) (first := fx1.toArray) (cap := kx1.toArray) (args := (fx1 ++ (([(.agg (kBound x26))] : List Value) ++ kx1))) rfl hox1 (app_args2 (l := [(.agg (kBound x26))]) (fi := fx1) (k := kx1) (rfl)) hs6 (hpx1 w5 F1 (x26) _ le7 hs6.pers hr41) ?_
   intro v43 F3 w44 hs45 le46 hp47
   obtain rfl := hp47
   refine Nt ?_
   refine CWP.cond (t := r40) (by kernel_rfl) rfl (fun hb48 => ?_) (fun hb48 => ?_)
   ·have h49 := cond_t h42 hb48
    refine Sq (Rg [0, 1] ?_)
    refine V 17 3 (mv 5 (vi s4)) ?_
    refine V 4 3 (ma 17 (vi s4)) ?_
    refine Nt ?_
    refine CWP.ret (by kernel_rfl) ?_
    refine blockQ_ret ?_
    refine thenQ_ret ?_
    refine thenQ_ret ?_
    refine blockQ_ret ?_
    have hret := iter_ret h49 hnx23
    subst hret
    refine .inr ?_
    refine thenQ_ret ?_
    have hfin := some_inj h3
    subst hfin
    exact ⟨e8, (vi s4), res_of (l := [.tmp 4]) (by kernel_rfl) (vs := [(vi s4)]) ⟨rfl, trivial⟩, (vi s4), F3, rfl, hs45.clear, rfl⟩
   ·have h50 := cond_f h42 hb48
    refine Sc ?_
    refine blockQ_nrm ?_
    refine thenQ_nrm ?_
    refine Rg [0, 1] ?_
    refine V 18 3 (run_add (t := 3) (t' := 3) (x := (.tmp 8)) (y := (.const (vi 1))) (k := .i64) (a := s4) (b := 1) e12 rfl) ?_
    refine V 8 3 (mv 18 (vi (W64 (s4 + 1)))) ?_
    refine RWP.nil ?_
    have hn51 := iter_next h50 hnx23
    exact ⟨m20, Nat.lt_succ_self _, (W64 (s4 + 1)), F3, hn51, hs45, (le7.trans le46), e8, e9, e10, e11, rfl⟩
  ·have h52 := cond_f hb22 hb24
   refine CWP.exit (by kernel_rfl) ?_
   refine thenQ_ex ?_
   refine thenQ_ex ?_
   refine blockQ_hit rfl ?_
   have ho53 := iter_done h52 hnx23
   exact .inl ⟨rfl, s4, F1, ho53, hs6, le7, e8⟩
 ·rintro f w14 ⟨s13, F2, rfl, hs15, le16, e17⟩
  have h54 := k_done h3
  refine thenQ_nrm ?_
  refine Sq (Rg [0] ?_)
  refine V 4 3 (mc (vi (-1)) (vi (-1))) ?_
  refine Nt ?_
  refine CWP.ret (by kernel_rfl) ?_
  have hfin := some_inj h54
  subst hfin
  exact ⟨e17, (vi (-1)), res_of (l := [.tmp 4]) (by kernel_rfl) (vs := [(vi (-1))]) ⟨rfl, trivial⟩, (vi (-1)), F2, rfl, hs15.clear, rfl⟩
end Go.Proofs.Ythbcnabeabcmlaa
namespace Go.Proofs.Ythbcnabeabcmlaa
open Go.Proofs
def slices_ContainsFunc_api_Bound_api_Bound (N : Nat) (x0 : (List Bound)) (x1 : (Bound → Option Bool)) : Option Bool :=
 ((slices_IndexFunc_api_Bound_api_Bound N x0 x1).bind fun r1 => some (decide (r1 ≥ 0)))
theorem co_slices_ContainsFunc_api_Bound_api_Bound : CallOk Try.prog 102 := fun _ _ => by kernel_rfl
set_option maxHeartbeats 4000000 in
set_option maxRecDepth 100000 in
theorem c_slices_ContainsFunc_api_Bound_api_Bound (N : Nat) (w0 : World) (F0 : Mem) (hF : ∀ b o, F0 b = some o → w0.heap[b]? = some o) (x0 : (List Bound)) (a0_0 : Option Addr) (n0_0 : Nat) (hb0_0 : LC x0.length n0_0) (hs0_0 : SlA tBound F0 a0_0 x0) (gx1 : FuncId) (fx1 kx1 : List Value) (x1 : Bound → Option Bool) (hox1 : CallOk Try.prog gx1) (hpx1 : ∀ (w' : World) (F' : Mem) (y0 : Bound) (r : Bool), Mem.le F0 F' → (∀ b o, F' b = some o → w'.heap[b]? = some o) → x1 y0 = some r → Calls Try.prog gx1 (fx1 ++ (([(.agg (kBound y0))] : List Value) ++ kx1)).toArray w' (FRet w' F' fun F'' v => v = (.bool r))) (r : Bool) (h : slices_ContainsFunc_api_Bound_api_Bound N x0 x1 = some r) :
  Calls Try.prog 102 ([(.slice a0_0 x0.length n0_0), (.func (.func gx1) fx1.toArray kx1.toArray)] : List Value).toArray w0 (FRet w0 F0 fun F' v => v = (.bool r)) := by
 have hs0 := HS.start hF
 refine calls_of (n := 9) (c := bodyOf Try.f102) Try.func102 (by kernel_rfl) (by kernel_rfl) (by kernel_rfl) ?_
 refine Sq (Rg [0] ?_)
 refine V 4 4 (mc (.bool false) (.bool false)) ?_
 refine Nss (Rg [0, 1, 2, 3, 4] ?_)
 refine V 5 57 (mv 0 (.slice a0_0 x0.length n0_0)) ?_
 refine V 6 134 (mv 1 (.func (.func gx1) fx1.toArray kx1.toArray)) ?_
 obtain ⟨r1, hr2, h3⟩ := bind_some h
 refine Cl 7 3 132 #[(.tmp 5), (.tmp 6)] #[57, 134] co_slices_IndexFunc_api_Bound_api_Bound hs0 (c_slices_IndexFunc_api_Bound_api_Bound N w0 F0 hs0.pers (x0) a0_0 n0_0 hb0_0 hs0_0 gx1 fx1 kx1 x1 hox1 (fun w1 F1 y0 r le1 pe1 hr1 => hpx1 w1 F1 y0 r (le1) pe1 hr1) _ hr2) ?_
 intro v4 F1 w5 hs6 le7 hp8
 obtain rfl := hp8
 refine V 8 4 (run_geq (t := 3) (t' := 3) (x := (.tmp 7)) (y := (.const (vi 0))) (k := .i64) (a := r1) (b := 0) rfl rfl) ?_
 refine V 4 4 (ma 8 (.bool (decide (r1 ≥ 0)))) ?_
 refine Nt ?_
 refine CWP.ret (by kernel_rfl) ?_
 have hfin := some_inj h3
 subst hfin
 exact ⟨rfl, (.bool (decide (r1 ≥ 0))), res_of (l := [.tmp 4]) (by kernel_rfl) (vs := [(.bool (decide (r1 ≥ 0)))]) ⟨rfl, trivial⟩, (.bool (decide (r1 ≥ 0))), F1, rfl, hs6.clear, rfl⟩
end Go.Proofs.Ythbcnabeabcmlaa
namespace Go.Proofs.Ythbcnabeabcmlaa
open Go.Proofs
def clocks_Keeps (N : Nat) (x0 : System) (x1 : (List (List Int))) : Option (Bool × Int) :=
 ((clocks_Check N x0).bind fun r4 => (bif (r4 != 0) then some (false, r4) else ((clocks_minutes_formed N x1 x0).bind fun r15 => (bif (!r15) then some (false, 0) else ((clocks_bounds N x0).bind fun r26 => ((slices_Collect_api_Bound N r26).bind fun r34 => ((slices_ContainsFunc_api_Bound_api_Bound N r34 (fun y0 => clocks_minutes_breaks N x1 y0)).bind fun r42 => some ((!r42), 0))))))))
theorem co_clocks_Keeps : CallOk Try.prog 55 := fun _ _ => by kernel_rfl
set_option maxHeartbeats 4000000 in
set_option maxRecDepth 100000 in
theorem c_clocks_Keeps (N : Nat) (w0 : World) (F0 : Mem) (hF : ∀ b o, F0 b = some o → w0.heap[b]? = some o) (x0 : System) (a0_0 : Option Addr) (n0_0 : Nat) (hb0_0 : LC x0.Tracks.length n0_0) (hs0_0 : SlA tTrack F0 a0_0 x0.Tracks) (a0_1 : Option Addr) (n0_1 : Nat) (hb0_1 : LC x0.Ties.length n0_1) (hs0_1 : SlA tTie F0 a0_1 x0.Ties) (x1 : (List (List Int))) (a1_0 : Option Addr) (n1_0 : Nat) (hb1_0 : LC x1.length n1_0) (hs1_0 : SlA (tSl tInt) F0 a1_0 x1) (r : (Bool × Int)) (h : clocks_Keeps N x0 x1 = some r) :
  Calls Try.prog 55 ([(.agg (kSystem x0 a0_0 n0_0 a0_1 n0_1)), (.slice a1_0 x1.length n1_0)] : List Value).toArray w0 (FRet w0 F0 fun F' v => v = (.tuple #[(.bool r.1), (vi r.2)])) := by
 have hs0 := HS.start hF
 refine calls_of (n := 27) (c := bodyOf Try.f55) Try.func55 (by kernel_rfl) (by kernel_rfl) (by kernel_rfl) ?_
 refine Sq (Rg [0, 1, 2] ?_)
 refine Bx 2 0 0 25 (kSystem x0 a0_0 n0_0 a0_1 n0_1) hs0 (fun b1 w2 (hs3 : HS w0 F0 w2 F0 [(sb b1 (kSystem x0 a0_0 n0_0 a0_1 n0_1) 25)]) => ?_)
 refine V 4 4 (mc (.bool false) (.bool false)) ?_
 refine V 5 30 (mc (vi 0) (vi 0)) ?_
 refine Nss ?_
 refine Sq (Rg [0, 1, 2] ?_)
 refine V 9 25 (ld 25 2 b1 0 true 3 (.agg (kSystem x0 a0_0 n0_0 a0_1 n0_1)) (hs3.ownAt (k := 0) rfl)) ?_
 obtain ⟨r4, hr5, h6⟩ := bind_some h
 refine Cl 10 30 17 #[(.tmp 9)] #[25] co_clocks_Check hs3 (c_clocks_Check N w2 F0 hs3.pers (x0) a0_0 n0_0 hb0_0 hs0_0 a0_1 n0_1 hb0_1 hs0_1 _ hr5) ?_
 intro v7 F1 w8 hs9 le10 hp11
 obtain rfl := hp11
 refine V 6 30 (ma 10 (vi r4)) ?_
 refine Nss (Rg [0, 1] ?_)
 refine V 11 30 (mv 6 (vi r4)) ?_
 refine V 12 4 (run_neq (t := 30) (t' := 30) (x := (.tmp 11)) (y := (.const (vi 0))) (k := .i64) (a := r4) (b := 0) rfl rfl) ?_
 refine Nt ?_
 refine CWP.cond (t := (r4 != 0)) (by kernel_rfl) rfl (fun hb12 => ?_) (fun hb12 => ?_)
 ·have h13 := cond_t h6 hb12
  refine Sq (Rg [0, 1, 2] ?_)
  refine V 13 30 (mv 6 (vi r4)) ?_
  refine V 4 4 (mc (.bool false) (.bool false)) ?_
  refine V 5 30 (ma 13 (vi r4)) ?_
  refine Nt ?_
  refine CWP.ret (by kernel_rfl) ?_
  refine thenQ_ret ?_
  have hfin := some_inj h13
  subst hfin
  exact ⟨rfl, (.tuple #[(.bool false), (vi r4)]), res_of (l := [.tmp 4, .tmp 5]) (by kernel_rfl) (vs := [(.bool false), (vi r4)]) ⟨rfl, ⟨rfl, trivial⟩⟩, (.tuple #[(.bool false), (vi r4)]), F1, rfl, hs9.clear, rfl⟩
 ·have h14 := cond_f h6 hb12
  refine Sc ?_
  refine thenQ_nrm ?_
  refine Sq (Rg [0, 1] ?_)
  refine V 14 71 (mv 1 (.slice a1_0 x1.length n1_0)) ?_
  refine V 7 133 (ma 14 (.slice a1_0 x1.length n1_0)) ?_
  refine Nss ?_
  refine Sq (Rg [0, 1, 2, 3] ?_)
  refine V 15 133 (mv 7 (.slice a1_0 x1.length n1_0)) ?_
  refine V 16 25 (ld 25 2 b1 0 true 3 (.agg (kSystem x0 a0_0 n0_0 a0_1 n0_1)) (hs9.ownAt (k := 0) rfl)) ?_
  obtain ⟨r15, hr16, h17⟩ := bind_some h14
  refine Cl 17 4 100 #[(.tmp 15), (.tmp 16)] #[133, 25] co_clocks_minutes_formed hs9 (c_clocks_minutes_formed N w8 F1 hs9.pers (x1) a1_0 n1_0 hb1_0 (SlA.mono hs1_0 le10) (x0) a0_0 n0_0 hb0_0 (SlA.mono hs0_0 le10) a0_1 n0_1 hb0_1 (SlA.mono hs0_1 le10) _ hr16) ?_
  intro v18 F2 w19 hs20 le21 hp22
  obtain rfl := hp22
  refine V 18 4 (run_not (t := 4) (x := (.tmp 17)) (a := r15) rfl) ?_
  refine Nt ?_
  refine CWP.cond (t := (!r15)) (by kernel_rfl) rfl (fun hb23 => ?_) (fun hb23 => ?_)
  ·have h24 := cond_t h17 hb23
   refine Sq (Rg [0, 1] ?_)
   refine V 4 4 (mc (.bool false) (.bool false)) ?_
   refine V 5 30 (mc (vi 0) (vi 0)) ?_
   refine Nt ?_
   refine CWP.ret (by kernel_rfl) ?_
   refine thenQ_ret ?_
   have hfin := some_inj h24
   subst hfin
   exact ⟨rfl, (.tuple #[(.bool false), (vi 0)]), res_of (l := [.tmp 4, .tmp 5]) (by kernel_rfl) (vs := [(.bool false), (vi 0)]) ⟨rfl, ⟨rfl, trivial⟩⟩, (.tuple #[(.bool false), (vi 0)]), F2, rfl, hs20.clear, rfl⟩
  ·have h25 := cond_f h17 hb23
   refine Sc ?_
   refine thenQ_nrm ?_
   refine Sq (Rg [0, 1, 2] ?_)
   refine V 19 133 (mv 7 (.slice a1_0 x1.length n1_0)) ?_
   refine V 20 134 (run_makeFunc (fn := .func 101) (first := #[(.tmp 19)]) (cap := #[]) (fl := [(.slice a1_0 x1.length n1_0)]) (cl := []) (rfl) (rfl)) ?_
   refine V 8 134 (ma 20 (.func (.func 101) #[(.slice a1_0 x1.length n1_0)] #[])) ?_
   refine Nss (Rg [0, 1, 2, 3, 4, 5, 6, 7] ?_)
   refine V 21 25 (ld 25 2 b1 0 true 3 (.agg (kSystem x0 a0_0 n0_0 a0_1 n0_1)) (hs20.ownAt (k := 0) rfl)) ?_
   obtain ⟨r26, hr27, h28⟩ := bind_some h25
   refine Cl 22 105 76 #[(.tmp 21)] #[25] co_clocks_bounds hs20 (c_clocks_bounds N w19 F2 hs20.pers (x0) a0_0 n0_0 hb0_0 (SlA.mono hs0_0 (le10.trans le21)) a0_1 n0_1 hb0_1 (SlA.mono hs0_1 (le10.trans le21)) _ hr27) ?_
   intro v29 F3 w30 hs31 le32 hp33
   obtain ⟨ar26_0_0_0, nr26_0_0_0, ar26_0_0_1, nr26_0_0_1, br26_0_0, rfl, hbr26_0_0_0, hsr26_0_0_0, hbr26_0_0_1, hsr26_0_0_1, hFr26_0_0⟩ := hp33
   obtain ⟨r34, hr35, h36⟩ := bind_some h28
   refine Cl 23 57 75 #[(.tmp 22)] #[105] co_slices_Collect_api_Bound hs31 (c_slices_Collect_api_Bound N w30 F3 hs31.pers (r26) ar26_0_0_0 nr26_0_0_0 hbr26_0_0_0 hsr26_0_0_0 ar26_0_0_1 nr26_0_0_1 hbr26_0_0_1 hsr26_0_0_1 br26_0_0 hFr26_0_0 _ hr35) ?_
   intro v37 F4 w38 hs39 le40 hp41
   obtain ⟨ar34_0_0, nr34_0_0, rfl, hbr34_0_0, hsr34_0_0⟩ := hp41
   refine V 24 134 (mv 8 (.func (.func 101) #[(.slice a1_0 x1.length n1_0)] #[])) ?_
   obtain ⟨r42, hr43, h44⟩ := bind_some h36
   refine Cl 25 4 102 #[(.tmp 23), (.tmp 24)] #[57, 134] co_slices_ContainsFunc_api_Bound_api_Bound hs39 (c_slices_ContainsFunc_api_Bound_api_Bound N w38 F4 hs39.pers (r34) ar34_0_0 nr34_0_0 hbr34_0_0 hsr34_0_0 101 [(.slice a1_0 x1.length n1_0)] [] (fun y0 => clocks_minutes_breaks N x1 y0) co_clocks_minutes_breaks (fun w1 F1 y0 r le1 pe1 hr1 => c_clocks_minutes_breaks N w1 F1 pe1 (x1) a1_0 n1_0 hb1_0 (SlA.mono (SlA.mono hs1_0 (((le10.trans le21).trans le32).trans le40)) le1) y0  r hr1) _ hr43) ?_
   intro v45 F5 w46 hs47 le48 hp49
   obtain rfl := hp49
   refine V 26 4 (run_not (t := 4) (x := (.tmp 25)) (a := r42) rfl) ?_
   refine V 4 4 (ma 26 (.bool (!r42))) ?_
   refine V 5 30 (mc (vi 0) (vi 0)) ?_
   refine Nt ?_
   refine CWP.ret (by kernel_rfl) ?_
   have hfin := some_inj h44
   subst hfin
   exact ⟨rfl, (.tuple #[(.bool (!r42)), (vi 0)]), res_of (l := [.tmp 4, .tmp 5]) (by kernel_rfl) (vs := [(.bool (!r42)), (vi 0)]) ⟨rfl, ⟨rfl, trivial⟩⟩, (.tuple #[(.bool (!r42)), (vi 0)]), F5, rfl, hs47.clear, rfl⟩
end Go.Proofs.Ythbcnabeabcmlaa
namespace Go.Proofs.Ythbcnabeabcmlaa
open Go.Proofs
def clocks_ValidPath (N : Nat) (x0 : System) (x1 : Ref) (x2 : Bool) (x3 : (List Bound)) : Option (Int × Int) :=
 ((clocks_Check N x0).bind fun r7 => (bif (r7 != 0) then some (0, r7) else ((clocks_has N x0 x1).bind fun r18 => (bif (!r18) then some (0, 3) else (((clocks_beginning N ).bind fun r47 => some (r47.Log, r47.Line)).bind fun j36 => ((bif (!x2) then (((clocks_beginning N ).bind fun r181 => some (x1.Log, x1.Line, r181.Log, r181.Line)).bind fun j172 => some ((-1), j172.1, j172.2.1, j172.2.2.1, j172.2.2.2)) else some (1, j36.1, j36.2, x1.Log, x1.Line)).bind fun j156 => (((clocks_chained N x0 x3).bind fun r208 => (bif (!r208) then some true else ((idx x3 0).bind fun x222 => (bif (!((x222.From.Log == j156.2.1) && ((x222.From.Line == j156.2.2.1) && true))) then some true else ((idx x3 (W64 ((x3.length : Int) - 1))).bind fun x242 => some (!((x242.To.Log == j156.2.2.2.1) && ((x242.To.Line == j156.2.2.2.2) && true)))))))).bind fun j201 => (bif j201 then some (0, 32) else ((clocks_sum N x3).bind fun r254 => some ((W64 (j156.1 * r254)), 0))))))))))
theorem co_clocks_ValidPath : CallOk Try.prog 61 := fun _ _ => by kernel_rfl
set_option maxHeartbeats 4000000 in
set_option maxRecDepth 100000 in
theorem c_clocks_ValidPath (N : Nat) (w0 : World) (F0 : Mem) (hF : ∀ b o, F0 b = some o → w0.heap[b]? = some o) (x0 : System) (a0_0 : Option Addr) (n0_0 : Nat) (hb0_0 : LC x0.Tracks.length n0_0) (hs0_0 : SlA tTrack F0 a0_0 x0.Tracks) (a0_1 : Option Addr) (n0_1 : Nat) (hb0_1 : LC x0.Ties.length n0_1) (hs0_1 : SlA tTie F0 a0_1 x0.Ties) (x1 : Ref) (x2 : Bool) (x3 : (List Bound)) (a3_0 : Option Addr) (n3_0 : Nat) (hb3_0 : LC x3.length n3_0) (hs3_0 : SlA tBound F0 a3_0 x3) (r : (Int × Int)) (h : clocks_ValidPath N x0 x1 x2 x3 = some r) :
  Calls Try.prog 61 ([(.agg (kSystem x0 a0_0 n0_0 a0_1 n0_1)), (.agg (kRef x1)), (.bool x2), (.slice a3_0 x3.length n3_0)] : List Value).toArray w0 (FRet w0 F0 fun F' v => v = (.tuple #[(vi r.1), (vi r.2)])) := by
 have hs0 := HS.start hF
 refine calls_of (n := 56) (c := bodyOf Try.f61) Try.func61 (by kernel_rfl) (by kernel_rfl) (by kernel_rfl) ?_
 refine Sq (Rg [0, 1, 2, 3] ?_)
 refine Bx 4 0 0 25 (kSystem x0 a0_0 n0_0 a0_1 n0_1) hs0 (fun b1 w2 (hs3 : HS w0 F0 w2 F0 [(sb b1 (kSystem x0 a0_0 n0_0 a0_1 n0_1) 25)]) => ?_)
 refine Bx 5 0 1 27 (kRef x1) hs3 (fun b4 w5 (hs6 : HS w0 F0 w5 F0 [(sb b4 (kRef x1) 27), (sb b1 (kSystem x0 a0_0 n0_0 a0_1 n0_1) 25)]) => ?_)
 refine V 8 3 (mc (vi 0) (vi 0)) ?_
 refine V 9 30 (mc (vi 0) (vi 0)) ?_
 refine Nss ?_
 refine Sq (Rg [0, 1, 2] ?_)
 refine V 14 25 (ld 25 4 b1 0 true 3 (.agg (kSystem x0 a0_0 n0_0 a0_1 n0_1)) (hs6.ownAt (k := 1) rfl)) ?_
 obtain ⟨r7, hr8, h9⟩ := bind_some h
 refine Cl 15 30 17 #[(.tmp 14)] #[25] co_clocks_Check hs6 (c_clocks_Check N w5 F0 hs6.pers (x0) a0_0 n0_0 hb0_0 hs0_0 a0_1 n0_1 hb0_1 hs0_1 _ hr8) ?_
 intro v10 F1 w11 hs12 le13 hp14
 obtain rfl := hp14
 refine V 10 30 (ma 15 (vi r7)) ?_
 refine Nss (Rg [0, 1] ?_)
 refine V 16 30 (mv 10 (vi r7)) ?_
 refine V 17 4 (run_neq (t := 30) (t' := 30) (x := (.tmp 16)) (y := (.const (vi 0))) (k := .i64) (a := r7) (b := 0) rfl rfl) ?_
 refine Nt ?_
 refine CWP.cond (t := (r7 != 0)) (by kernel_rfl) rfl (fun hb15 => ?_) (fun hb15 => ?_)
 ·have h16 := cond_t h9 hb15
  refine Sq (Rg [0, 1, 2] ?_)
  refine V 18 30 (mv 10 (vi r7)) ?_
  refine V 8 3 (mc (vi 0) (vi 0)) ?_
  refine V 9 30 (ma 18 (vi r7)) ?_
  refine Nt ?_
  refine CWP.ret (by kernel_rfl) ?_
  refine thenQ_ret ?_
  have hfin := some_inj h16
  subst hfin
  exact ⟨rfl, (.tuple #[(vi 0), (vi r7)]), res_of (l := [.tmp 8, .tmp 9]) (by kernel_rfl) (vs := [(vi 0), (vi r7)]) ⟨rfl, ⟨rfl, trivial⟩⟩, (.tuple #[(vi 0), (vi r7)]), F1, rfl, hs12.clear, rfl⟩
 ·have h17 := cond_f h9 hb15
  refine Sc ?_
  refine thenQ_nrm ?_
  refine Sq ?_
  refine Sq (Rg [0, 1, 2, 3] ?_)
  refine V 19 25 (ld 25 4 b1 0 true 3 (.agg (kSystem x0 a0_0 n0_0 a0_1 n0_1)) (hs12.ownAt (k := 1) rfl)) ?_
  refine V 20 27 (ld 27 5 b4 0 true 2 (.agg (kRef x1)) (hs12.ownAt (k := 0) rfl)) ?_
  obtain ⟨r18, hr19, h20⟩ := bind_some h17
  refine Cl 21 4 107 #[(.tmp 19), (.tmp 20)] #[25, 27] co_clocks_has hs12 (c_clocks_has N w11 F1 hs12.pers (x0) a0_0 n0_0 hb0_0 (SlA.mono hs0_0 le13) a0_1 n0_1 hb0_1 (SlA.mono hs0_1 le13) (x1) _ hr19) ?_
  intro v21 F2 w22 hs23 le24 hp25
  obtain rfl := hp25
  refine V 22 4 (run_not (t := 4) (x := (.tmp 21)) (a := r18) rfl) ?_
  refine Nt ?_
  refine CWP.cond (t := (!r18)) (by kernel_rfl) rfl (fun hb26 => ?_) (fun hb26 => ?_)
  ·have h27 := cond_t h20 hb26
   refine Sq (Rg [0, 1] ?_)
   refine V 8 3 (mc (vi 0) (vi 0)) ?_
   refine V 9 30 (mc (vi 3) (vi 3)) ?_
   refine Nt ?_
   refine CWP.ret (by kernel_rfl) ?_
   refine thenQ_ret ?_
   have hfin := some_inj h27
   subst hfin
   exact ⟨rfl, (.tuple #[(vi 0), (vi 3)]), res_of (l := [.tmp 8, .tmp 9]) (by kernel_rfl) (vs := [(vi 0), (vi 3)]) ⟨rfl, ⟨rfl, trivial⟩⟩, (.tuple #[(vi 0), (vi 3)]), F2, rfl, hs23.clear, rfl⟩
  ·have h28 := cond_f h20 hb26
   refine Sc ?_
   refine thenQ_nrm ?_
   refine Sq ?_
   obtain ⟨j36, hj45, h46⟩ := bind_some h28
   refine CWP.regionD (by kernel_rfl) (by kernel_rfl) (by kernel_rfl) (by kernel_rfl) (z := 7) (F := F2) (Lc := [(sb b4 (kRef x1) 27), (sb b1 (kSystem x0 a0_0 n0_0 a0_1 n0_1) 25)]) (Lz := []) (l := [false, false, false, false, false, false, false]) (fuel := 7) (by kernel_rfl) (by kernel_rfl) hs23 (by simp) (by simp) (fun f w => ∃ (F3 : Mem) (b34 : Nat) (b35 : Nat), HS w0 F0 w F3 [(sb b34 #[(vi j36.1), (vi j36.2)] 27), (sb b35 (kRef x1) 27), (sb b4 (kRef x1) 27), (sb b1 (kSystem x0 a0_0 n0_0 a0_1 n0_1) 25)] ∧ Mem.le F2 F3 ∧ f.d = [] ∧ f 2 = (.bool x2) ∧ f 3 = (.slice a3_0 x3.length n3_0) ∧ f 4 = (.pointer (some ⟨b1, 0, none⟩)) ∧ f 5 = (.pointer (some ⟨b4, 0, none⟩)) ∧ f 11 = (.pointer (some ⟨b34, 0, none⟩)) ∧ f 12 = (.pointer (some ⟨b35, 0, none⟩)) ∧ f 13 = (vi 1)) (fun wd29 hw30 => ?_) ?_
   ·refine Dt 1 24 27 _ (fun _ hq => ld 27 5 b4 0 true 2 (.agg (kRef x1)) (hq.1.2 0 _ _ rfl)) ?_
    refine DWP.three (i := 0) (j := 2) (k := 3) (by kernel_rfl) ?_ ?_ ?_
    ·obtain ⟨r47, hr48, h49⟩ := bind_some hj45
     refine DStep.call (l' := [true, true, false, false, false, false, false]) (zd := true) (by kernel_rfl) (by kernel_rfl) (by kernel_rfl) (dst := (some 23)) (ty := 27) (g := none) (by kernel_rfl) rfl (f0 := (.func 108)) (aos := #[]) (ats := #[]) (fid := 108) (first := #[]) (cap := #[]) (args := []) rfl co_clocks_beginning (rfl) hw30 (c_clocks_beginning N wd29 F2 hw30.pers  _ hr48) ?_
     intro v50 F4 w51 hs52 le53 hp54
     obtain rfl := hp54
     refine DWP.two (i := 2) (j := 3) (by kernel_rfl) ?_ ?_
     ·refine DStep.alloc (l' := [true, true, true, false, false, false, false]) (zd := true) (by kernel_rfl) (by kernel_rfl) (dst := (some 11)) (ty := 0) (g := none) (by kernel_rfl) rfl (t := 27) (z := (.agg #[(vi 0), (vi 0)])) (by kernel_rfl) (C := #[(vi 0), (vi 0)]) rfl hs52 le53 (by simp) (fun e => by cases e) (fun b55 w56 (hs57 : HS w0 F0 w56 F4 [(sb b55 #[(vi 0), (vi 0)] 27), (sb b4 (kRef x1) 27), (sb b1 (kSystem x0 a0_0 n0_0 a0_1 n0_1) 25)]) => ?_)
      refine DWP.one (i := 3) (by kernel_rfl) ?_
      refine DStep.alloc (l' := [true, true, true, true, false, false, false]) (zd := true) (by kernel_rfl) (by kernel_rfl) (dst := (some 12)) (ty := 0) (g := none) (by kernel_rfl) rfl (t := 27) (z := (.agg #[(vi 0), (vi 0)])) (by kernel_rfl) (C := #[(vi 0), (vi 0)]) rfl hs57 le53 (by simp) (fun e => by cases e) (fun b58 w59 (hs60 : HS w0 F0 w59 F4 [(sb b58 #[(vi 0), (vi 0)] 27), (sb b55 #[(vi 0), (vi 0)] 27), (sb b4 (kRef x1) 27), (sb b1 (kSystem x0 a0_0 n0_0 a0_1 n0_1) 25)]) => ?_)
      refine DWP.one (i := 4) (by kernel_rfl) ?_
      refine DStep.store (l' := [true, true, true, true, true, false, false]) (zd := true) (by kernel_rfl) (by kernel_rfl) (ty := 0) (g := none) (by kernel_rfl) rfl (x := (.tmp 11)) (y := (.tmp 23)) (t := 27) (gg := true) (s := 2) (v := (.agg (kRef r47))) (b := b55) (o := 0) (C := #[(vi 0), (vi 0)]) rfl rfl (by kernel_rfl) hs60 (k := 1) rfl rfl rfl rfl (C' := (kRef r47)) rfl le53 (by simp) (fun e => by cases e) (fun w61 (hs62 : HS w0 F0 w61 F4 [(sb b58 #[(vi 0), (vi 0)] 27), (sb b55 (kRef r47) 27), (sb b4 (kRef x1) 27), (sb b1 (kSystem x0 a0_0 n0_0 a0_1 n0_1) 25)]) => ?_)
      refine DWP.one (i := 5) (by kernel_rfl) ?_
      refine DStep.store (l' := [true, true, true, true, true, true, false]) (zd := true) (by kernel_rfl) (by kernel_rfl) (ty := 0) (g := none) (by kernel_rfl) rfl (x := (.tmp 12)) (y := (.tmp 24)) (t := 27) (gg := true) (s := 2) (v := (.agg (kRef x1))) (b := b58) (o := 0) (C := #[(vi 0), (vi 0)]) rfl rfl (by kernel_rfl) hs62 (k := 0) rfl rfl rfl rfl (C' := (kRef x1)) rfl le53 (by simp) (fun e => by cases e) (fun w63 (hs64 : HS w0 F0 w63 F4 [(sb b58 (kRef x1) 27), (sb b55 (kRef r47) 27), (sb b4 (kRef x1) 27), (sb b1 (kSystem x0 a0_0 n0_0 a0_1 n0_1) 25)]) => ?_)
      refine Dt 6 13 3 _ (fun _ hq => mc (vi 1) (vi 1)) ?_
      obtain rfl := some_inj h49
      have hs65 : HS w0 F0 w63 F4 [(sb b1 (kSystem x0 a0_0 n0_0 a0_1 n0_1) 25), (sb b58 (kRef x1) 27), (sb b55 (kRef r47) 27), (sb b4 (kRef x1) 27)] := hs64.pick (k := 3) rfl
      have hs66 : HS w0 F0 w63 F4 [(sb b4 (kRef x1) 27), (sb b1 (kSystem x0 a0_0 n0_0 a0_1 n0_1) 25), (sb b58 (kRef x1) 27), (sb b55 (kRef r47) 27)] := hs65.pick (k := 3) rfl
      have hs67 : HS w0 F0 w63 F4 [(sb b58 (kRef x1) 27), (sb b4 (kRef x1) 27), (sb b1 (kSystem x0 a0_0 n0_0 a0_1 n0_1) 25), (sb b55 (kRef r47) 27)] := hs66.pick (k := 2) rfl
      have hs68 : HS w0 F0 w63 F4 [(sb b55 (kRef r47) 27), (sb b58 (kRef x1) 27), (sb b4 (kRef x1) 27), (sb b1 (kSystem x0 a0_0 n0_0 a0_1 n0_1) 25)] := hs67.pick (k := 3) rfl
      exact DWP.done (by kernel_rfl) ⟨F4, b55, b58, hs68, le53, rfl, rfl, rfl, rfl, rfl, rfl, rfl, rfl⟩
     ·refine DStep.alloc (l' := [true, true, false, true, false, false, false]) (zd := true) (by kernel_rfl) (by kernel_rfl) (dst := (some 12)) (ty := 0) (g := none) (by kernel_rfl) rfl (t := 27) (z := (.agg #[(vi 0), (vi 0)])) (by kernel_rfl) (C := #[(vi 0), (vi 0)]) rfl hs52 le53 (by simp) (fun e => by cases e) (fun b69 w70 (hs71 : HS w0 F0 w70 F4 [(sb b69 #[(vi 0), (vi 0)] 27), (sb b4 (kRef x1) 27), (sb b1 (kSystem x0 a0_0 n0_0 a0_1 n0_1) 25)]) => ?_)
      refine DWP.one (i := 2) (by kernel_rfl) ?_
      refine DStep.alloc (l' := [true, true, true, true, false, false, false]) (zd := true) (by kernel_rfl) (by kernel_rfl) (dst := (some 11)) (ty := 0) (g := none) (by kernel_rfl) rfl (t := 27) (z := (.agg #[(vi 0), (vi 0)])) (by kernel_rfl) (C := #[(vi 0), (vi 0)]) rfl hs71 le53 (by simp) (fun e => by cases e) (fun b72 w73 (hs74 : HS w0 F0 w73 F4 [(sb b72 #[(vi 0), (vi 0)] 27), (sb b69 #[(vi 0), (vi 0)] 27), (sb b4 (kRef x1) 27), (sb b1 (kSystem x0 a0_0 n0_0 a0_1 n0_1) 25)]) => ?_)
      refine DWP.one (i := 4) (by kernel_rfl) ?_
      refine DStep.store (l' := [true, true, true, true, true, false, false]) (zd := true) (by kernel_rfl) (by kernel_rfl) (ty := 0) (g := none) (by kernel_rfl) rfl (x := (.tmp 11)) (y := (.tmp 23)) (t := 27) (gg := true) (s := 2) (v := (.agg (kRef r47))) (b := b72) (o := 0) (C := #[(vi 0), (vi 0)]) rfl rfl (by kernel_rfl) hs74 (k := 0) rfl rfl rfl rfl (C' := (kRef r47)) rfl le53 (by simp) (fun e => by cases e) (fun w75 (hs76 : HS w0 F0 w75 F4 [(sb b72 (kRef r47) 27), (sb b69 #[(vi 0), (vi 0)] 27), (sb b4 (kRef x1) 27), (sb b1 (kSystem x0 a0_0 n0_0 a0_1 n0_1) 25)]) => ?_)
      refine DWP.one (i := 5) (by kernel_rfl) ?_
      refine DStep.store (l' := [true, true, true, true, true, true, false]) (zd := true) (by kernel_rfl) (by kernel_rfl) (ty := 0) (g := none) (by kernel_rfl) rfl (x := (.tmp 12)) (y := (.tmp 24)) (t := 27) (gg := true) (s := 2) (v := (.agg (kRef x1))) (b := b69) (o := 0) (C := #[(vi 0), (vi 0)]) rfl rfl (by kernel_rfl) hs76 (k := 1) rfl rfl rfl rfl (C' := (kRef x1)) rfl le53 (by simp) (fun e => by cases e) (fun w77 (hs78 : HS w0 F0 w77 F4 [(sb b72 (kRef r47) 27), (sb b69 (kRef x1) 27), (sb b4 (kRef x1) 27), (sb b1 (kSystem x0 a0_0 n0_0 a0_1 n0_1) 25)]) => ?_)
      refine Dt 6 13 3 _ (fun _ hq => mc (vi 1) (vi 1)) ?_
      obtain rfl := some_inj h49
      exact DWP.done (by kernel_rfl) ⟨F4, b72, b69, hs78, le53, rfl, rfl, rfl, rfl, rfl, rfl, rfl, rfl⟩
    ·refine DStep.alloc (l' := [false, true, true, false, false, false, false]) (zd := true) (by kernel_rfl) (by kernel_rfl) (dst := (some 11)) (ty := 0) (g := none) (by kernel_rfl) rfl (t := 27) (z := (.agg #[(vi 0), (vi 0)])) (by kernel_rfl) (C := #[(vi 0), (vi 0)]) rfl hw30 (Mem.le.refl _) (by simp) (fun e => by cases e) (fun b79 w80 (hs81 : HS w0 F0 w80 F2 [(sb b79 #[(vi 0), (vi 0)] 27), (sb b4 (kRef x1) 27), (sb b1 (kSystem x0 a0_0 n0_0 a0_1 n0_1) 25)]) => ?_)
     refine DWP.two (i := 0) (j := 3) (by kernel_rfl) ?_ ?_
     ·obtain ⟨r82, hr83, h84⟩ := bind_some hj45
      refine DStep.call (l' := [true, true, true, false, false, false, false]) (zd := true) (by kernel_rfl) (by kernel_rfl) (by kernel_rfl) (dst := (some 23)) (ty := 27) (g := none) (by kernel_rfl) rfl (f0 := (.func 108)) (aos := #[]) (ats := #[]) (fid := 108) (first := #[]) (cap := #[]) (args := []) rfl co_clocks_beginning (rfl) hs81 (c_clocks_beginning N w80 F2 hs81.pers  _ hr83) ?_
      intro v85 F5 w86 hs87 le88 hp89
      obtain rfl := hp89
      refine DWP.one (i := 3) (by kernel_rfl) ?_
      refine DStep.alloc (l' := [true, true, true, true, false, false, false]) (zd := true) (by kernel_rfl) (by kernel_rfl) (dst := (some 12)) (ty := 0) (g := none) (by kernel_rfl) rfl (t := 27) (z := (.agg #[(vi 0), (vi 0)])) (by kernel_rfl) (C := #[(vi 0), (vi 0)]) rfl hs87 le88 (by simp) (fun e => by cases e) (fun b90 w91 (hs92 : HS w0 F0 w91 F5 [(sb b90 #[(vi 0), (vi 0)] 27), (sb b79 #[(vi 0), (vi 0)] 27), (sb b4 (kRef x1) 27), (sb b1 (kSystem x0 a0_0 n0_0 a0_1 n0_1) 25)]) => ?_)
      refine DWP.one (i := 4) (by kernel_rfl) ?_
      refine DStep.store (l' := [true, true, true, true, true, false, false]) (zd := true) (by kernel_rfl) (by kernel_rfl) (ty := 0) (g := none) (by kernel_rfl) rfl (x := (.tmp 11)) (y := (.tmp 23)) (t := 27) (gg := true) (s := 2) (v := (.agg (kRef r82))) (b := b79) (o := 0) (C := #[(vi 0), (vi 0)]) rfl rfl (by kernel_rfl) hs92 (k := 1) rfl rfl rfl rfl (C' := (kRef r82)) rfl le88 (by simp) (fun e => by cases e) (fun w93 (hs94 : HS w0 F0 w93 F5 [(sb b90 #[(vi 0), (vi 0)] 27), (sb b79 (kRef r82) 27), (sb b4 (kRef x1) 27), (sb b1 (kSystem x0 a0_0 n0_0 a0_1 n0_1) 25)]) => ?_)
      refine DWP.one (i := 5) (by kernel_rfl) ?_
      refine DStep.store (l' := [true, true, true, true, true, true, false]) (zd := true) (by kernel_rfl) (by kernel_rfl) (ty := 0) (g := none) (by kernel_rfl) rfl (x := (.tmp 12)) (y := (.tmp 24)) (t := 27) (gg := true) (s := 2) (v := (.agg (kRef x1))) (b := b90) (o := 0) (C := #[(vi 0), (vi 0)]) rfl rfl (by kernel_rfl) hs94 (k := 0) rfl rfl rfl rfl (C' := (kRef x1)) rfl le88 (by simp) (fun e => by cases e) (fun w95 (hs96 : HS w0 F0 w95 F5 [(sb b90 (kRef x1) 27), (sb b79 (kRef r82) 27), (sb b4 (kRef x1) 27), (sb b1 (kSystem x0 a0_0 n0_0 a0_1 n0_1) 25)]) => ?_)
      refine Dt 6 13 3 _ (fun _ hq => mc (vi 1) (vi 1)) ?_
      obtain rfl := some_inj h84
      have hs97 : HS w0 F0 w95 F5 [(sb b1 (kSystem x0 a0_0 n0_0 a0_1 n0_1) 25), (sb b90 (kRef x1) 27), (sb b79 (kRef r82) 27), (sb b4 (kRef x1) 27)] := hs96.pick (k := 3) rfl
      have hs98 : HS w0 F0 w95 F5 [(sb b4 (kRef x1) 27), (sb b1 (kSystem x0 a0_0 n0_0 a0_1 n0_1) 25), (sb b90 (kRef x1) 27), (sb b79 (kRef r82) 27)] := hs97.pick (k := 3) rfl
      have hs99 : HS w0 F0 w95 F5 [(sb b90 (kRef x1) 27), (sb b4 (kRef x1) 27), (sb b1 (kSystem x0 a0_0 n0_0 a0_1 n0_1) 25), (sb b79 (kRef r82) 27)] := hs98.pick (k := 2) rfl
      have hs100 : HS w0 F0 w95 F5 [(sb b79 (kRef r82) 27), (sb b90 (kRef x1) 27), (sb b4 (kRef x1) 27), (sb b1 (kSystem x0 a0_0 n0_0 a0_1 n0_1) 25)] := hs99.pick (k := 3) rfl
      exact DWP.done (by kernel_rfl) ⟨F5, b79, b90, hs100, le88, rfl, rfl, rfl, rfl, rfl, rfl, rfl, rfl⟩
     ·refine DStep.alloc (l' := [false, true, true, true, false, false, false]) (zd := true) (by kernel_rfl) (by kernel_rfl) (dst := (some 12)) (ty := 0) (g := none) (by kernel_rfl) rfl (t := 27) (z := (.agg #[(vi 0), (vi 0)])) (by kernel_rfl) (C := #[(vi 0), (vi 0)]) rfl hs81 (Mem.le.refl _) (by simp) (fun e => by cases e) (fun b101 w102 (hs103 : HS w0 F0 w102 F2 [(sb b101 #[(vi 0), (vi 0)] 27), (sb b79 #[(vi 0), (vi 0)] 27), (sb b4 (kRef x1) 27), (sb b1 (kSystem x0 a0_0 n0_0 a0_1 n0_1) 25)]) => ?_)
      refine DWP.one (i := 0) (by kernel_rfl) ?_
      obtain ⟨r104, hr105, h106⟩ := bind_some hj45
      refine DStep.call (l' := [true, true, true, true, false, false, false]) (zd := true) (by kernel_rfl) (by kernel_rfl) (by kernel_rfl) (dst := (some 23)) (ty := 27) (g := none) (by kernel_rfl) rfl (f0 := (.func 108)) (aos := #[]) (ats := #[]) (fid := 108) (first := #[]) (cap := #[]) (args := []) rfl co_clocks_beginning (rfl) hs103 (c_clocks_beginning N w102 F2 hs103.pers  _ hr105) ?_
      intro v107 F6 w108 hs109 le110 hp111
      obtain rfl := hp111
      refine DWP.one (i := 4) (by kernel_rfl) ?_
      refine DStep.store (l' := [true, true, true, true, true, false, false]) (zd := true) (by kernel_rfl) (by kernel_rfl) (ty := 0) (g := none) (by kernel_rfl) rfl (x := (.tmp 11)) (y := (.tmp 23)) (t := 27) (gg := true) (s := 2) (v := (.agg (kRef r104))) (b := b79) (o := 0) (C := #[(vi 0), (vi 0)]) rfl rfl (by kernel_rfl) hs109 (k := 1) rfl rfl rfl rfl (C' := (kRef r104)) rfl le110 (by simp) (fun e => by cases e) (fun w112 (hs113 : HS w0 F0 w112 F6 [(sb b101 #[(vi 0), (vi 0)] 27), (sb b79 (kRef r104) 27), (sb b4 (kRef x1) 27), (sb b1 (kSystem x0 a0_0 n0_0 a0_1 n0_1) 25)]) => ?_)
      refine DWP.one (i := 5) (by kernel_rfl) ?_
      refine DStep.store (l' := [true, true, true, true, true, true, false]) (zd := true) (by kernel_rfl) (by kernel_rfl) (ty := 0) (g := none) (by kernel_rfl) rfl (x := (.tmp 12)) (y := (.tmp 24)) (t := 27) (gg := true) (s := 2) (v := (.agg (kRef x1))) (b := b101) (o := 0) (C := #[(vi 0), (vi 0)]) rfl rfl (by kernel_rfl) hs113 (k := 0) rfl rfl rfl rfl (C' := (kRef x1)) rfl le110 (by simp) (fun e => by cases e) (fun w114 (hs115 : HS w0 F0 w114 F6 [(sb b101 (kRef x1) 27), (sb b79 (kRef r104) 27), (sb b4 (kRef x1) 27), (sb b1 (kSystem x0 a0_0 n0_0 a0_1 n0_1) 25)]) => ?_)
      refine Dt 6 13 3 _ (fun _ hq => mc (vi 1) (vi 1)) ?_
      obtain rfl := some_inj h106
      have hs116 : HS w0 F0 w114 F6 [(sb b1 (kSystem x0 a0_0 n0_0 a0_1 n0_1) 25), (sb b101 (kRef x1) 27), (sb b79 (kRef r104) 27), (sb b4 (kRef x1) 27)] := hs115.pick (k := 3) rfl
      have hs117 : HS w0 F0 w114 F6 [(sb b4 (kRef x1) 27), (sb b1 (kSystem x0 a0_0 n0_0 a0_1 n0_1) 25), (sb b101 (kRef x1) 27), (sb b79 (kRef r104) 27)] := hs116.pick (k := 3) rfl
      have hs118 : HS w0 F0 w114 F6 [(sb b101 (kRef x1) 27), (sb b4 (kRef x1) 27), (sb b1 (kSystem x0 a0_0 n0_0 a0_1 n0_1) 25), (sb b79 (kRef r104) 27)] := hs117.pick (k := 2) rfl
      have hs119 : HS w0 F0 w114 F6 [(sb b79 (kRef r104) 27), (sb b101 (kRef x1) 27), (sb b4 (kRef x1) 27), (sb b1 (kSystem x0 a0_0 n0_0 a0_1 n0_1) 25)] := hs118.pick (k := 3) rfl
      exact DWP.done (by kernel_rfl) ⟨F6, b79, b101, hs119, le110, rfl, rfl, rfl, rfl, rfl, rfl, rfl, rfl⟩
    ·refine DStep.alloc (l' := [false, true, false, true, false, false, false]) (zd := true) (by kernel_rfl) (by kernel_rfl) (dst := (some 12)) (ty := 0) (g := none) (by kernel_rfl) rfl (t := 27) (z := (.agg #[(vi 0), (vi 0)])) (by kernel_rfl) (C := #[(vi 0), (vi 0)]) rfl hw30 (Mem.le.refl _) (by simp) (fun e => by cases e) (fun b120 w121 (hs122 : HS w0 F0 w121 F2 [(sb b120 #[(vi 0), (vi 0)] 27), (sb b4 (kRef x1) 27), (sb b1 (kSystem x0 a0_0 n0_0 a0_1 n0_1) 25)]) => ?_)
     refine DWP.two (i := 0) (j := 2) (by kernel_rfl) ?_ ?_
     ·obtain ⟨r123, hr124, h125⟩ := bind_some hj45
      refine DStep.call (l' := [true, true, false, true, false, false, false]) (zd := true) (by kernel_rfl) (by kernel_rfl) (by kernel_rfl) (dst := (some 23)) (ty := 27) (g := none) (by kernel_rfl) rfl (f0 := (.func 108)) (aos := #[]) (ats := #[]) (fid := 108) (first := #[]) (cap := #[]) (args := []) rfl co_clocks_beginning (rfl) hs122 (c_clocks_beginning N w121 F2 hs122.pers  _ hr124) ?_
      intro v126 F7 w127 hs128 le129 hp130
      obtain rfl := hp130
      refine DWP.one (i := 2) (by kernel_rfl) ?_
      refine DStep.alloc (l' := [true, true, true, true, false, false, false]) (zd := true) (by kernel_rfl) (by kernel_rfl) (dst := (some 11)) (ty := 0) (g := none) (by kernel_rfl) rfl (t := 27) (z := (.agg #[(vi 0), (vi 0)])) (by kernel_rfl) (C := #[(vi 0), (vi 0)]) rfl hs128 le129 (by simp) (fun e => by cases e) (fun b131 w132 (hs133 : HS w0 F0 w132 F7 [(sb b131 #[(vi 0), (vi 0)] 27), (sb b120 #[(vi 0), (vi 0)] 27), (sb b4 (kRef x1) 27), (sb b1 (kSystem x0 a0_0 n0_0 a0_1 n0_1) 25)]) => ?_)
      refine DWP.one (i := 4) (by kernel_rfl) ?_
      refine DStep.store (l' := [true, true, true, true, true, false, false]) (zd := true) (by kernel_rfl) (by kernel_rfl) (ty := 0) (g := none) (by kernel_rfl) rfl (x := (.tmp 11)) (y := (.tmp 23)) (t := 27) (gg := true) (s := 2) (v := (.agg (kRef r123))) (b := b131) (o := 0) (C := #[(vi 0), (vi 0)]) rfl rfl (by kernel_rfl) hs133 (k := 0) rfl rfl rfl rfl (C' := (kRef r123)) rfl le129 (by simp) (fun e => by cases e) (fun w134 (hs135 : HS w0 F0 w134 F7 [(sb b131 (kRef r123) 27), (sb b120 #[(vi 0), (vi 0)] 27), (sb b4 (kRef x1) 27), (sb b1 (kSystem x0 a0_0 n0_0 a0_1 n0_1) 25)]) => ?_)
      refine DWP.one (i := 5) (by kernel_rfl) ?_
      refine DStep.store (l' := [true, true, true, true, true, true, false]) (zd := true) (by kernel_rfl) (by kernel_rfl) (ty := 0) (g := none) (by kernel_rfl) rfl (x := (.tmp 12)) (y := (.tmp 24)) (t := 27) (gg := true) (s := 2) (v := (.agg (kRef x1))) (b := b120) (o := 0) (C := #[(vi 0), (vi 0)]) rfl rfl (by kernel_rfl) hs135 (k := 1) rfl rfl rfl rfl (C' := (kRef x1)) rfl le129 (by simp) (fun e => by cases e) (fun w136 (hs137 : HS w0 F0 w136 F7 [(sb b131 (kRef r123) 27), (sb b120 (kRef x1) 27), (sb b4 (kRef x1) 27), (sb b1 (kSystem x0 a0_0 n0_0 a0_1 n0_1) 25)]) => ?_)
      refine Dt 6 13 3 _ (fun _ hq => mc (vi 1) (vi 1)) ?_
      obtain rfl := some_inj h125
      exact DWP.done (by kernel_rfl) ⟨F7, b131, b120, hs137, le129, rfl, rfl, rfl, rfl, rfl, rfl, rfl, rfl⟩
     ·refine DStep.alloc (l' := [false, true, true, true, false, false, false]) (zd := true) (by kernel_rfl) (by kernel_rfl) (dst := (some 11)) (ty := 0) (g := none) (by kernel_rfl) rfl (t := 27) (z := (.agg #[(vi 0), (vi 0)])) (by kernel_rfl) (C := #[(vi 0), (vi 0)]) rfl hs122 (Mem.le.refl _) (by simp) (fun e => by cases e) (fun b138 w139 (hs140 : HS w0 F0 w139 F2 [(sb b138 #[(vi 0), (vi 0)] 27), (sb b120 #[(vi 0), (vi 0)] 27), (sb b4 (kRef x1) 27), (sb b1 (kSystem x0 a0_0 n0_0 a0_1 n0_1) 25)]) => ?_)
      refine DWP.one (i := 0) (by kernel_rfl) ?_
      obtain ⟨r141, hr142, h143⟩ := bind_some hj45
      refine DStep.call (l' := [true, true, true, true, false, false, false]) (zd := true) (by kernel_rfl) (by kernel_rfl) (by kernel_rfl) (dst := (some 23)) (ty := 27) (g := none) (by kernel_rfl) rfl (f0 := (.func 108)) (aos := #[]) (ats := #[]) (fid := 108) (first := #[]) (cap := #[]) (args := []) rfl co_clocks_beginning (rfl) hs140 (c_clocks_beginning N w139 F2 hs140.pers  _ hr142) ?_
      intro v144 F8 w145 hs146 le147 hp148
      obtain rfl := hp148
      refine DWP.one (i := 4) (by kernel_rfl) ?_
      refine DStep.store (l' := [true, true, true, true, true, false, false]) (zd := true) (by kernel_rfl) (by kernel_rfl) (ty := 0) (g := none) (by kernel_rfl) rfl (x := (.tmp 11)) (y := (.tmp 23)) (t := 27) (gg := true) (s := 2) (v := (.agg (kRef r141))) (b := b138) (o := 0) (C := #[(vi 0), (vi 0)]) rfl rfl (by kernel_rfl) hs146 (k := 0) rfl rfl rfl rfl (C' := (kRef r141)) rfl le147 (by simp) (fun e => by cases e) (fun w149 (hs150 : HS w0 F0 w149 F8 [(sb b138 (kRef r141) 27), (sb b120 #[(vi 0), (vi 0)] 27), (sb b4 (kRef x1) 27), (sb b1 (kSystem x0 a0_0 n0_0 a0_1 n0_1) 25)]) => ?_)
      refine DWP.one (i := 5) (by kernel_rfl) ?_
      refine DStep.store (l' := [true, true, true, true, true, true, false]) (zd := true) (by kernel_rfl) (by kernel_rfl) (ty := 0) (g := none) (by kernel_rfl) rfl (x := (.tmp 12)) (y := (.tmp 24)) (t := 27) (gg := true) (s := 2) (v := (.agg (kRef x1))) (b := b120) (o := 0) (C := #[(vi 0), (vi 0)]) rfl rfl (by kernel_rfl) hs150 (k := 1) rfl rfl rfl rfl (C' := (kRef x1)) rfl le147 (by simp) (fun e => by cases e) (fun w151 (hs152 : HS w0 F0 w151 F8 [(sb b138 (kRef r141) 27), (sb b120 (kRef x1) 27), (sb b4 (kRef x1) 27), (sb b1 (kSystem x0 a0_0 n0_0 a0_1 n0_1) 25)]) => ?_)
      refine Dt 6 13 3 _ (fun _ hq => mc (vi 1) (vi 1)) ?_
      obtain rfl := some_inj h143
      exact DWP.done (by kernel_rfl) ⟨F8, b138, b120, hs152, le147, rfl, rfl, rfl, rfl, rfl, rfl, rfl, rfl⟩
   ·rintro f w31 ⟨F3, b34, b35, hs32, le33, e37, e38, e39, e40, e41, e42, e43, e44⟩
    refine thenQ_nrm ?_
    refine Sq ?_
    refine Sq (Rg [0, 1] ?_)
    refine V 25 4 (mv 2 (.bool x2) e38) ?_
    refine V 26 4 (run_not (t := 4) (x := (.tmp 25)) (a := x2) rfl) ?_
    refine Nt ?_
    obtain ⟨j156, hj163, h164⟩ := bind_some h46
    refine CWP.cut (fun f w => ∃ (F9 : Mem), HS w0 F0 w F9 [(sb b34 #[(vi j156.2.1), (vi j156.2.2.1)] 27), (sb b35 #[(vi j156.2.2.2.1), (vi j156.2.2.2.2)] 27), (sb b1 (kSystem x0 a0_0 n0_0 a0_1 n0_1) 25)] ∧ Mem.le F3 F9 ∧ f.d = [] ∧ f 3 = (.slice a3_0 x3.length n3_0) ∧ f 4 = (.pointer (some ⟨b1, 0, none⟩)) ∧ f 11 = (.pointer (some ⟨b34, 0, none⟩)) ∧ f 12 = (.pointer (some ⟨b35, 0, none⟩)) ∧ f 13 = (vi j156.1)) ?_ ?_
    ·refine CWP.cond (t := (!x2)) (by kernel_rfl) rfl (fun hb165 => ?_) (fun hb165 => ?_)
     ·have h166 := cond_t hj163 hb165
      obtain ⟨j172, hj179, h180⟩ := bind_some h166
      refine CWP.regionD (by kernel_rfl) (by kernel_rfl) (by kernel_rfl) (by kernel_rfl) (z := 5) (F := F3) (Lc := [(sb b4 (kRef x1) 27), (sb b1 (kSystem x0 a0_0 n0_0 a0_1 n0_1) 25)]) (Lz := []) (l := [false, false, false, false, false]) (fuel := 5) (by kernel_rfl) (by kernel_rfl) hs32 (by simp) (by simp) (fun f w => ∃ (F10 : Mem), HS w0 F0 w F10 [(sb b34 #[(vi j172.1), (vi j172.2.1)] 27), (sb b35 #[(vi j172.2.2.1), (vi j172.2.2.2)] 27), (sb b1 (kSystem x0 a0_0 n0_0 a0_1 n0_1) 25)] ∧ Mem.le F3 F10 ∧ f.d = [] ∧ f 3 = (.slice a3_0 x3.length n3_0) ∧ f 4 = (.pointer (some ⟨b1, 0, none⟩)) ∧ f 11 = (.pointer (some ⟨b34, 0, none⟩)) ∧ f 12 = (.pointer (some ⟨b35, 0, none⟩)) ∧ f 13 = (vi (-1))) (fun wd167 hw168 => ?_) ?_
      ·refine Dt 0 27 27 _ (fun _ hq => ld 27 5 b4 0 true 2 (.agg (kRef x1)) (hq.1.2 0 _ _ rfl) e41) ?_
       refine DWP.one (i := 1) (by kernel_rfl) ?_
       obtain ⟨r181, hr182, h183⟩ := bind_some hj179
       refine DStep.call (l' := [true, true, false, false, false]) (zd := true) (by kernel_rfl) (by kernel_rfl) (by kernel_rfl) (dst := (some 28)) (ty := 27) (g := none) (by kernel_rfl) rfl (f0 := (.func 108)) (aos := #[]) (ats := #[]) (fid := 108) (first := #[]) (cap := #[]) (args := []) rfl co_clocks_beginning (rfl) hw168 (c_clocks_beginning N wd167 F3 hw168.pers  _ hr182) ?_
       intro v184 F11 w185 hs186 le187 hp188
       obtain rfl := hp188
       refine DWP.one (i := 2) (by kernel_rfl) ?_
       refine DStep.store (l' := [true, true, true, false, false]) (zd := true) (by kernel_rfl) (by kernel_rfl) (ty := 0) (g := none) (by kernel_rfl) rfl (x := (.tmp 11)) (y := (.tmp 27)) (t := 27) (gg := true) (s := 2) (v := (.agg (kRef x1))) (b := b34) (o := 0) (C := #[(vi j36.1), (vi j36.2)]) e42 rfl (by kernel_rfl) hs186 (k := 0) rfl rfl rfl rfl (C' := (kRef x1)) rfl le187 (by simp) (fun e => by cases e) (fun w189 (hs190 : HS w0 F0 w189 F11 [(sb b34 (kRef x1) 27), (sb b35 (kRef x1) 27), (sb b4 (kRef x1) 27), (sb b1 (kSystem x0 a0_0 n0_0 a0_1 n0_1) 25)]) => ?_)
       refine DWP.one (i := 3) (by kernel_rfl) ?_
       refine DStep.store (l' := [true, true, true, true, false]) (zd := true) (by kernel_rfl) (by kernel_rfl) (ty := 0) (g := none) (by kernel_rfl) rfl (x := (.tmp 12)) (y := (.tmp 28)) (t := 27) (gg := true) (s := 2) (v := (.agg (kRef r181))) (b := b35) (o := 0) (C := (kRef x1)) e43 rfl (by kernel_rfl) hs190 (k := 1) rfl rfl rfl rfl (C' := (kRef r181)) rfl le187 (by simp) (fun e => by cases e) (fun w191 (hs192 : HS w0 F0 w191 F11 [(sb b34 (kRef x1) 27), (sb b35 (kRef r181) 27), (sb b4 (kRef x1) 27), (sb b1 (kSystem x0 a0_0 n0_0 a0_1 n0_1) 25)]) => ?_)
       refine Dt 4 13 3 _ (fun _ hq => mc (vi (-1)) (vi (-1))) ?_
       obtain rfl := some_inj h183
       have hs193 : HS w0 F0 w191 F11 [(sb b34 (kRef x1) 27), (sb b35 (kRef r181) 27), (sb b1 (kSystem x0 a0_0 n0_0 a0_1 n0_1) 25)] := hs192.drop 2
       exact DWP.done (by kernel_rfl) ⟨F11, hs193, le187, e37, e39, e40, e42, e43, rfl⟩
      ·rintro f w169 ⟨F10, hs170, le171, e173, e174, e175, e176, e177, e178⟩
       obtain rfl := some_inj h180
       exact .inl ⟨rfl, F10, hs170, le171, e173, e174, e175, e176, e177, e178⟩
     ·have h194 := cond_f hj163 hb165
      refine Sc ?_
      obtain rfl := some_inj h194
      have hs195 : HS w0 F0 w31 F3 [(sb b34 #[(vi j36.1), (vi j36.2)] 27), (sb b35 (kRef x1) 27), (sb b1 (kSystem x0 a0_0 n0_0 a0_1 n0_1) 25)] := hs32.drop 2
      exact .inl ⟨rfl, F3, hs195, (Mem.le.refl _), e37, e39, e40, e42, e43, e44⟩
    ·rintro f w153 ⟨F9, hs154, le155, e157, e158, e159, e160, e161, e162⟩
     refine thenQ_nrm ?_
     refine Sq ?_
     refine Sq ?_
     obtain ⟨j201, hj206, h207⟩ := bind_some h164
     refine CWP.regionD (by kernel_rfl) (by kernel_rfl) (by kernel_rfl) (by kernel_rfl) (z := 23) (F := F9) (Lc := [(sb b34 #[(vi j156.2.1), (vi j156.2.2.1)] 27), (sb b35 #[(vi j156.2.2.2.1), (vi j156.2.2.2.2)] 27), (sb b1 (kSystem x0 a0_0 n0_0 a0_1 n0_1) 25)]) (Lz := []) (l := [false, false, false, false, false, false, false, false, false, false, false, false, false, false, false, false, false, false, false, false, false, false, false]) (fuel := 23) (by kernel_rfl) (by kernel_rfl) hs154 (by simp) (by simp) (fun f w => ∃ (F12 : Mem), HS w0 F0 w F12 [] ∧ Mem.le F9 F12 ∧ f.d = [] ∧ f 3 = (.slice a3_0 x3.length n3_0) ∧ f 13 = (vi j156.1) ∧ f 51 = (.bool j201)) (fun wd196 hw197 => ?_) ?_
     ·refine Dtl 0 29 25 _ [tt, ff, ff, ff, ff, ff, ff, ff, ff, ff, ff, ff, ff, ff, ff, ff, ff, ff, ff, ff, ff, ff, ff] (fun _ hq => ld 25 4 b1 0 true 3 (.agg (kSystem x0 a0_0 n0_0 a0_1 n0_1)) (hq.1.2 2 _ _ rfl) e159) ?_
      refine Dtl 1 30 57 _ [tt, tt, ff, ff, ff, ff, ff, ff, ff, ff, ff, ff, ff, ff, ff, ff, ff, ff, ff, ff, ff, ff, ff] (fun _ hq => mv 3 (.slice a3_0 x3.length n3_0) e158) ?_
      refine DWP.one (i := 2) (by kernel_rfl) ?_
      obtain ⟨r208, hr209, h210⟩ := bind_some hj206
      refine DStep.call (l' := [true, true, true, false, false, false, false, false, false, false, false, false, false, false, false, false, false, false, false, false, false, false, false]) (zd := true) (by kernel_rfl) (by kernel_rfl) (by kernel_rfl) (dst := (some 31)) (ty := 4) (g := none) (by kernel_rfl) rfl (f0 := (.func 98)) (aos := #[(.tmp 29), (.tmp 30)]) (ats := #[25, 57]) (fid := 98) (first := #[]) (cap := #[]) (args := [(.agg (kSystem x0 a0_0 n0_0 a0_1 n0_1)), (.slice a3_0 x3.length n3_0)]) rfl co_clocks_chained (rfl) hw197 (c_clocks_chained N wd196 F9 hw197.pers (x0) a0_0 n0_0 hb0_0 (SlA.mono hs0_0 (((le13.trans le24).trans le33).trans le155)) a0_1 n0_1 hb0_1 (SlA.mono hs0_1 (((le13.trans le24).trans le33).trans le155)) (x3) a3_0 n3_0 hb3_0 (SlA.mono hs3_0 (((le13.trans le24).trans le33).trans le155)) _ hr209) ?_
      intro v211 F13 w212 hs213 le214 hp215
      obtain rfl := hp215
      refine Dtl 3 32 4 (.bool (!r208)) [tt, tt, tt, tt, ff, ff, ff, ff, ff, ff, ff, ff, ff, ff, ff, ff, ff, ff, ff, ff, ff, ff, ff] (fun _ hq => run_not (t := 4) (x := (.tmp 31)) (a := r208) rfl) ?_
      refine Dtl 4 33 4 _ [tt, tt, tt, tt, tt, ff, ff, ff, ff, ff, ff, ff, ff, ff, ff, ff, ff, ff, ff, ff, ff, ff, ff] (fun _ hq => mv 32 (.bool (!r208))) ?_
      refine DWP.split (!r208) (fun hb216 => ?_) (fun hb216 => ?_)
      ·have h217 := cond_t h210 hb216
       refine Dkl [(5, 34), (6, 35), (7, 36), (8, 37), (9, 38), (10, 39)] 4 false 33 hb216 [tt, tt, tt, tt, tt, tt, tt, tt, tt, tt, tt, ff, ff, ff, ff, ff, ff, ff, ff, ff, ff, ff, ff] ?_
       refine Dtl 11 40 4 _ [tt, tt, tt, tt, tt, tt, tt, tt, tt, tt, tt, tt, ff, ff, ff, ff, ff, ff, ff, ff, ff, ff, ff] (fun _ hq => p1 33 (.const (.bool true)) (.tmp 39) (.bool true) hb216) ?_
       refine Dtl 12 41 4 _ [tt, tt, tt, tt, tt, tt, tt, tt, tt, tt, tt, tt, tt, ff, ff, ff, ff, ff, ff, ff, ff, ff, ff] (fun _ hq => mv 40 (.bool true)) ?_
       refine Dkl [(13, 42), (14, 43), (15, 44), (16, 45), (17, 46), (18, 47)] 12 false 41 rfl [tt, tt, tt, tt, tt, tt, tt, tt, tt, tt, tt, tt, tt, tt, tt, tt, tt, tt, tt, ff, ff, ff, ff] ?_
       refine Dkl [(19, 48), (20, 49), (21, 50)] 12 false 41 rfl [tt, tt, tt, tt, tt, tt, tt, tt, tt, tt, tt, tt, tt, tt, tt, tt, tt, tt, tt, tt, tt, tt, ff] ?_
       refine Dtl 22 51 4 _ [tt, tt, tt, tt, tt, tt, tt, tt, tt, tt, tt, tt, tt, tt, tt, tt, tt, tt, tt, tt, tt, tt, tt] (fun _ hq => p1 41 (.const (.bool true)) (.tmp 50) (.bool true) rfl) ?_
       obtain rfl := some_inj h217
       have hs218 : HS w0 F0 w212 F13 [(sb b35 #[(vi j156.2.2.2.1), (vi j156.2.2.2.2)] 27), (sb b1 (kSystem x0 a0_0 n0_0 a0_1 n0_1) 25)] := hs213.drop 0
       have hs219 : HS w0 F0 w212 F13 [(sb b1 (kSystem x0 a0_0 n0_0 a0_1 n0_1) 25)] := hs218.drop 0
       have hs220 : HS w0 F0 w212 F13 [] := hs219.drop 0
       exact DWP.done (by kernel_rfl) ⟨F13, hs220, le214, e157, e158, e162, rfl⟩
      ·have h221 := cond_f h210 hb216
       refine Dgl 5 34 57 _ [tt, tt, tt, tt, tt, tt, ff, ff, ff, ff, ff, ff, ff, ff, ff, ff, ff, ff, ff, ff, ff, ff, ff] 4 false 33 hb216 (fun _ hq => mv 3 (.slice a3_0 x3.length n3_0) e158) ?_
       obtain ⟨x222, hx223, h225⟩ := bind_some h221
       obtain ⟨hi224, hx223'⟩ := idx_spec hx223
       obtain ⟨b226, o227, C228, E229, fz230, rfl, hF232, hE233⟩ := SlA.open (SlA.mono hs3_0 (((le13.trans le24).trans le33).trans le155)) hx223'
       have hc235 := hE233 _ _ hx223'
       refine Dgl 6 35 0 (.pointer (some ⟨b226, (o227 + (0 : Int).toNat * 7), none⟩)) [tt, tt, tt, tt, tt, tt, tt, ff, ff, ff, ff, ff, ff, ff, ff, ff, ff, ff, ff, ff, ff, ff, ff] 4 false 33 hb216 (fun _ hq => run_index (t := 57) (x := (.tmp 34)) (y := (.const (vi 0))) (b := b226) (o := o227) (E := 103) (s := 7) (by_ := 56) rfl rfl (by kernel_rfl) hi224) ?_
       refine Dgl 7 36 0 (.pointer (some ⟨b226, (o227 + (0 : Int).toNat * 7), none⟩)) [tt, tt, tt, tt, tt, tt, tt, tt, ff, ff, ff, ff, ff, ff, ff, ff, ff, ff, ff, ff, ff, ff, ff] 4 false 33 hb216 (fun _ hq => fa 103 35 0 0 2 b226 (o227 + (0 : Int).toNat * 7) (o227 + (0 : Int).toNat * 7)) ?_
       refine Dgl 8 37 27 _ [tt, tt, tt, tt, tt, tt, tt, tt, tt, ff, ff, ff, ff, ff, ff, ff, ff, ff, ff, ff, ff, ff, ff] 4 false 33 hb216 (fun _ hq => lx 27 36 0 7 true 2 (.agg (kRef x222.From)) (hq.1.1 _ _ hF232) hc235) ?_
       refine Dgl 9 38 27 _ [tt, tt, tt, tt, tt, tt, tt, tt, tt, tt, ff, ff, ff, ff, ff, ff, ff, ff, ff, ff, ff, ff, ff] 4 false 33 hb216 (fun _ hq => ld 27 11 b34 0 true 2 (.agg #[(vi j156.2.1), (vi j156.2.2.1)]) (hq.1.2 0 _ _ rfl) e160) ?_
       refine Dgl 10 39 4 (.bool (!((x222.From.Log == j156.2.1) && ((x222.From.Line == j156.2.2.1) && true)))) [tt, tt, tt, tt, tt, tt, tt, tt, tt, tt, tt, ff, ff, ff, ff, ff, ff, ff, ff, ff, ff, ff, ff] 4 false 33 hb216 (fun _ hq => run_nes (t := 27) (t' := 27) (x := (.tmp 37)) (y := (.tmp 38)) (xs := (kRef x222.From)) (ys := #[(vi j156.2.1), (vi j156.2.2.1)]) (b := ((x222.From.Log == j156.2.1) && ((x222.From.Line == j156.2.2.1) && true))) rfl rfl (by kernel_rfl) (by kernel_rfl)) ?_
       refine Dtl 11 40 4 _ [tt, tt, tt, tt, tt, tt, tt, tt, tt, tt, tt, tt, ff, ff, ff, ff, ff, ff, ff, ff, ff, ff, ff] (fun _ hq => p0 33 (.const (.bool true)) (.tmp 39) (.bool (!((x222.From.Log == j156.2.1) && ((x222.From.Line == j156.2.2.1) && true)))) hb216) ?_
       refine Dtl 12 41 4 _ [tt, tt, tt, tt, tt, tt, tt, tt, tt, tt, tt, tt, tt, ff, ff, ff, ff, ff, ff, ff, ff, ff, ff] (fun _ hq => mv 40 (.bool (!((x222.From.Log == j156.2.1) && ((x222.From.Line == j156.2.2.1) && true))))) ?_
       refine DWP.split (!((x222.From.Log == j156.2.1) && ((x222.From.Line == j156.2.2.1) && true))) (fun hb236 => ?_) (fun hb236 => ?_)
       ·have h237 := cond_t h225 hb236
        refine Dkl [(13, 42), (14, 43), (15, 44), (16, 45), (17, 46), (18, 47)] 12 false 41 hb236 [tt, tt, tt, tt, tt, tt, tt, tt, tt, tt, tt, tt, tt, tt, tt, tt, tt, tt, tt, ff, ff, ff, ff] ?_
        refine Dkl [(19, 48), (20, 49), (21, 50)] 12 false 41 hb236 [tt, tt, tt, tt, tt, tt, tt, tt, tt, tt, tt, tt, tt, tt, tt, tt, tt, tt, tt, tt, tt, tt, ff] ?_
        refine Dtl 22 51 4 _ [tt, tt, tt, tt, tt, tt, tt, tt, tt, tt, tt, tt, tt, tt, tt, tt, tt, tt, tt, tt, tt, tt, tt] (fun _ hq => p1 41 (.const (.bool true)) (.tmp 50) (.bool true) hb236) ?_
        obtain rfl := some_inj h237
        have hs238 : HS w0 F0 w212 F13 [(sb b35 #[(vi j156.2.2.2.1), (vi j156.2.2.2.2)] 27), (sb b1 (kSystem x0 a0_0 n0_0 a0_1 n0_1) 25)] := hs213.drop 0
        have hs239 : HS w0 F0 w212 F13 [(sb b1 (kSystem x0 a0_0 n0_0 a0_1 n0_1) 25)] := hs238.drop 0
        have hs240 : HS w0 F0 w212 F13 [] := hs239.drop 0
        exact DWP.done (by kernel_rfl) ⟨F13, hs240, le214, e157, e158, e162, rfl⟩
       ·have h241 := cond_f h225 hb236
        refine Dgl 13 42 57 _ [tt, tt, tt, tt, tt, tt, tt, tt, tt, tt, tt, tt, tt, tt, ff, ff, ff, ff, ff, ff, ff, ff, ff] 12 false 41 hb236 (fun _ hq => mv 3 (.slice (some ⟨b226, o227, none⟩) x3.length n3_0) e158) ?_
        refine Dgl 14 43 57 _ [tt, tt, tt, tt, tt, tt, tt, tt, tt, tt, tt, tt, tt, tt, tt, ff, ff, ff, ff, ff, ff, ff, ff] 12 false 41 hb236 (fun _ hq => mv 3 (.slice (some ⟨b226, o227, none⟩) x3.length n3_0) e158) ?_
        refine Dgl 15 44 3 (vi (x3.length : Int)) [tt, tt, tt, tt, tt, tt, tt, tt, tt, tt, tt, tt, tt, tt, tt, tt, ff, ff, ff, ff, ff, ff, ff] 12 false 41 hb236 (fun _ hq => ln 43 57 (some ⟨b226, o227, none⟩) x3.length n3_0 103 7 56) ?_
        refine Dgl 16 45 3 (vi (W64 ((x3.length : Int) - 1))) [tt, tt, tt, tt, tt, tt, tt, tt, tt, tt, tt, tt, tt, tt, tt, tt, tt, ff, ff, ff, ff, ff, ff] 12 false 41 hb236 (fun _ hq => run_sub (t := 3) (t' := 3) (x := (.tmp 44)) (y := (.const (vi 1))) (k := .i64) (a := (x3.length : Int)) (b := 1) rfl rfl) ?_
        obtain ⟨x242, hx243, h245⟩ := bind_some h241
        obtain ⟨hi244, hx243'⟩ := idx_spec hx243
        have hc247 := hE233 _ _ hx243'
        refine Dgl 17 46 0 (.pointer (some ⟨b226, (o227 + ((W64 ((x3.length : Int) - 1)) : Int).toNat * 7), none⟩)) [tt, tt, tt, tt, tt, tt, tt, tt, tt, tt, tt, tt, tt, tt, tt, tt, tt, tt, ff, ff, ff, ff, ff] 12 false 41 hb236 (fun _ hq => ix 57 42 45 b226 o227 103 7 56 hi244) ?_
        refine Dgl 18 47 0 (.pointer (some ⟨b226, ((o227 + ((W64 ((x3.length : Int) - 1)) : Int).toNat * 7) + 2), none⟩)) [tt, tt, tt, tt, tt, tt, tt, tt, tt, tt, tt, tt, tt, tt, tt, tt, tt, tt, tt, ff, ff, ff, ff] 12 false 41 hb236 (fun _ hq => fa 103 46 1 2 2 b226 (o227 + ((W64 ((x3.length : Int) - 1)) : Int).toNat * 7) ((o227 + ((W64 ((x3.length : Int) - 1)) : Int).toNat * 7) + 2)) ?_
        refine Dgl 19 48 27 _ [tt, tt, tt, tt, tt, tt, tt, tt, tt, tt, tt, tt, tt, tt, tt, tt, tt, tt, tt, tt, ff, ff, ff] 12 false 41 hb236 (fun _ hq => lx 27 47 2 7 true 2 (.agg (kRef x242.To)) (hq.1.1 _ _ hF232) hc247) ?_
        refine Dgl 20 49 27 _ [tt, tt, tt, tt, tt, tt, tt, tt, tt, tt, tt, tt, tt, tt, tt, tt, tt, tt, tt, tt, tt, ff, ff] 12 false 41 hb236 (fun _ hq => ld 27 12 b35 0 true 2 (.agg #[(vi j156.2.2.2.1), (vi j156.2.2.2.2)]) (hq.1.2 1 _ _ rfl) e161) ?_
        refine Dgl 21 50 4 (.bool (!((x242.To.Log == j156.2.2.2.1) && ((x242.To.Line == j156.2.2.2.2) && true)))) [tt, tt, tt, tt, tt, tt, tt, tt, tt, tt, tt, tt, tt, tt, tt, tt, tt, tt, tt, tt, tt, tt, ff] 12 false 41 hb236 (fun _ hq => run_nes (t := 27) (t' := 27) (x := (.tmp 48)) (y := (.tmp 49)) (xs := (kRef x242.To)) (ys := #[(vi j156.2.2.2.1), (vi j156.2.2.2.2)]) (b := ((x242.To.Log == j156.2.2.2.1) && ((x242.To.Line == j156.2.2.2.2) && true))) rfl rfl (by kernel_rfl) (by kernel_rfl)) ?_
        refine Dtl 22 51 4 _ [tt, tt, tt, tt, tt, tt, tt, tt, tt, tt, tt, tt, tt, tt, tt, tt, tt, tt, tt, tt, tt, tt, tt] (fun _ hq => p0 41 (.const (.bool true)) (.tmp 50) (.bool (!((x242.To.Log == j156.2.2.2.1) && ((x242.To.Line == j156.2.2.2.2) && true)))) hb236) ?_
        obtain rfl := some_inj h245
        have hs248 : HS w0 F0 w212 F13 [(sb b35 #[(vi j156.2.2.2.1), (vi j156.2.2.2.2)] 27), (sb b1 (kSystem x0 a0_0 n0_0 a0_1 n0_1) 25)] := hs213.drop 0
        have hs249 : HS w0 F0 w212 F13 [(sb b1 (kSystem x0 a0_0 n0_0 a0_1 n0_1) 25)] := hs248.drop 0
        have hs250 : HS w0 F0 w212 F13 [] := hs249.drop 0
        exact DWP.done (by kernel_rfl) ⟨F13, hs250, le214, e157, e158, e162, rfl⟩
     ·rintro f w198 ⟨F12, hs199, le200, e202, e203, e204, e205⟩
      refine thenQ_nrm ?_
      refine CWP.cond (t := j201) (by kernel_rfl) e205 (fun hb251 => ?_) (fun hb251 => ?_)
      ·have h252 := cond_t h207 hb251
       refine Sq (Rg [0, 1] ?_)
       refine V 8 3 (mc (vi 0) (vi 0)) ?_
       refine V 9 30 (mc (vi 32) (vi 32)) ?_
       refine Nt ?_
       refine CWP.ret (by kernel_rfl) ?_
       refine thenQ_ret ?_
       have hfin := some_inj h252
       subst hfin
       exact ⟨e202, (.tuple #[(vi 0), (vi 32)]), res_of (l := [.tmp 8, .tmp 9]) (by kernel_rfl) (vs := [(vi 0), (vi 32)]) ⟨rfl, ⟨rfl, trivial⟩⟩, (.tuple #[(vi 0), (vi 32)]), F12, rfl, hs199.clear, rfl⟩
      ·have h253 := cond_f h207 hb251
       refine Sc ?_
       refine thenQ_nrm ?_
       refine Sq (Rg [0, 1, 2, 3, 4, 5] ?_)
       refine V 52 3 (mv 13 (vi j156.1) e204) ?_
       refine V 53 57 (mv 3 (.slice a3_0 x3.length n3_0) e203) ?_
       obtain ⟨r254, hr255, h256⟩ := bind_some h253
       refine Cl 54 3 99 #[(.tmp 53)] #[57] co_clocks_sum hs199 (c_clocks_sum N w198 F12 hs199.pers (x3) a3_0 n3_0 hb3_0 (SlA.mono hs3_0 ((((le13.trans le24).trans le33).trans le155).trans le200)) _ hr255) ?_
       intro v257 F14 w258 hs259 le260 hp261
       obtain rfl := hp261
       refine V 55 3 (run_mul (t := 3) (t' := 3) (x := (.tmp 52)) (y := (.tmp 54)) (k := .i64) (a := j156.1) (b := r254) rfl rfl) ?_
       refine V 8 3 (ma 55 (vi (W64 (j156.1 * r254)))) ?_
       refine V 9 30 (mc (vi 0) (vi 0)) ?_
       refine Nt ?_
       refine CWP.ret (by kernel_rfl) ?_
       have hfin := some_inj h256
       subst hfin
       exact ⟨e202, (.tuple #[(vi (W64 (j156.1 * r254))), (vi 0)]), res_of (l := [.tmp 8, .tmp 9]) (by kernel_rfl) (vs := [(vi (W64 (j156.1 * r254))), (vi 0)]) ⟨rfl, ⟨rfl, trivial⟩⟩, (.tuple #[(vi (W64 (j156.1 * r254))), (vi 0)]), F14, rfl, hs259.clear, rfl⟩
end Go.Proofs.Ythbcnabeabcmlaa
namespace Go.Proofs.Ythbcnabeabcmlaa
theorem iter_catG {ρ σ α : Type} (g : List α → σ) {A0 : List α} {body : Int × σ → Option (Flow ρ (Int × σ))} {n : Nat} (K : Nat) (f : Nat → List α) (hf : ∀ i, i < n → (f i).length ≤ K)
  (hb : ∀ i st, i < n → st.length ≤ A0.length + i * K → body ((i : Int), g st) = some (.next (((i + 1 : Nat) : Int), g (st ++ f i)))) (he : ∀ st, body ((n : Int), g st) = some (.done ((n : Int), g st))) {N : Nat} (hN : n < N) :
  iter body N (0, g A0) = some (.done ((n : Int), g (A0 ++ cat n f))) := by
 obtain ⟨o, ho, rfl⟩ := iter_ex (body := body) n (fun i s => i ≤ n ∧ s = ((i : Int), g (A0 ++ cat i f))) (fun o => o = .done ((n : Int), g (A0 ++ cat n f))) (by
  rintro i s hi ⟨_, rfl⟩
  by_cases h : i < n
  ·left
   have := cat_le (n := i) (K := K) (f := f) (fun j hj => hf j (by omega))
   refine ⟨_, hb i _ h (by rw [List.length_append]; omega), ⟨by omega, ?_⟩, h⟩
   rw [cat_succ, List.append_assoc]
  ·have : i = n := by omega
   subst this
   exact .inr ⟨_, he _, fun _ h => (by cases h), rfl⟩) n N 0 (0, g A0) (by omega) ⟨by omega, by simp [cat]⟩ hN
 exact ho
section
variable {N : Nat} {s : System}
theorem bounds1_eq {σ : Type} {y : σ → Bound → Option (Bool × σ)} {g : List Bound → σ} (hy : ∀ A b, A.length + 1 < 4294967296 → y (g A) b = some (true, g (A ++ [b]))) (hf : FitS N s) (h : vCheck s = 0) : clocks_bounds_1 N y s (g []) = some (g (bnds s)) := by
 obtain ⟨k1, k2, k3, k4, k5, k6⟩ := check_ok h
 unfold clocks_bounds_1
 have hn := hf.n.2
 rw [iter_catG g (A0 := []) (body := clocks_bounds_1_L0 N y s (g [])) (n := s.Tracks.length) 800 (slips s) (fun i hi => slips_len h hi) (fun i st hi hst => by
  unfold clocks_bounds_1_L0
  have ht := hf.t _ (List.getElem_mem hi)
  have h400 := (track_facts (k3 _ (List.getElem_mem hi))).2.2
  simp only [lt_t hi, cond_true, idx_nat hi, Option.bind_some]
  rw [iter_catG g (A0 := st) (body := clocks_bounds_1_L1 N y s (g []) ((i : Int), g st) s.Tracks[i]) (n := s.Tracks[i].Times.length) 2 (slipB (i : Int) s.Tracks[i]) (fun _ _ => Nat.le_refl _) (fun j st2 hj hst2 => by
   unfold clocks_bounds_1_L1
   simp only [lt_t hj, cond_true, idx_nat hj, Option.bind_some, clocks_beginning]
   simp only [List.length_nil] at hst
   rw [hy _ _ (by omega)]
   simp only [Option.bind_some, Bool.not_true, cond_false]
   rw [hy _ _ (by simp; omega)]
   simp only [Option.bind_some, Bool.not_true, cond_false]
   rw [W64_succ (by omega)]
   simp [slipB, hj, beg]) (fun st2 => by unfold clocks_bounds_1_L1; simp only [lt_f]; rfl) ht.t.2]
  simp only [Option.bind_some, Flow.k]
  rw [W64_succ (by omega)]
  simp [slips, hi]) (fun st => by unfold clocks_bounds_1_L0; simp only [lt_f]; rfl) hn]
 simp only [Option.bind_some, Flow.k, List.nil_append]
 have hl1 := cat_le (n := s.Tracks.length) (K := 800) (f := slips s) (fun i hi => slips_len h hi)
 generalize hA : cat s.Tracks.length (slips s) = A at *
 rw [iter_catG g (A0 := A) (body := clocks_bounds_1_L2 N y s (g []) ((s.Tracks.length : Int), g A)) (n := s.Tracks.length) 1200 (ords s) (fun i hi => ords_len h hi) (fun i st hi hst => by
  unfold clocks_bounds_1_L2
  have ht := hf.t _ (List.getElem_mem hi)
  have hv := k3 _ (List.getElem_mem hi)
  have hvc := (track_facts hv).2.1
  have h400 := (track_facts hv).2.2
  simp only [lt_t hi, cond_true, idx_nat hi, Option.bind_some]
  have ht2 := ht.t.2
  rw [iter_catG g (A0 := st) (body := clocks_bounds_1_L3 N y s (g []) ((s.Tracks.length : Int), g A) ((i : Int), g st) s.Tracks[i]) (n := s.Tracks[i].Times.length - 1) 3 (ordB (i : Int) s.Tracks[i]) (fun j _ => ordB_len _ _ j) (fun j st2 hj hst2 => by
   unfold clocks_bounds_1_L3
   have hj1 : j + 1 < s.Tracks[i].Times.length := by omega
   have hj0 : j < s.Tracks[i].Times.length := by omega
   have hi0 := times_in hv hj0
   have hi1 := times_in hv hj1
   simp only
   rw [W64_succ (by omega)]
   simp only [lt_t hj1, cond_true, idx_nat hj1, idx_nat hj0, Option.bind_some, segment_c ht.j.2 hvc hi0.1 hi0.2, segment_c ht.j.2 hvc hi1.1 hi1.2, cnt_jmp _ (times_up hv hj1)]
   rw [hy _ _ (by omega)]
   simp only [Option.bind_some, Bool.not_true, cond_false]
   cases hjm : jmp s.Tracks[i].Clock.Jumps s.Tracks[i].Times[j] s.Tracks[i].Times[j + 1] with
   | true => simp [ordB, hj0, hj1, hjm]
   | false =>
    simp only [cond_false]
    rw [hy _ _ (by simp; omega)]
    simp only [Option.bind_some, Bool.not_true, cond_false]
    rw [hy _ _ (by simp; omega)]
    simp [ordB, hj0, hj1, hjm, gapB, widB]) (fun st2 => by
     unfold clocks_bounds_1_L3
     have e : decide (W64 (((s.Tracks[i].Times.length - 1 : Nat) : Int) + 1) < (s.Tracks[i].Times.length : Int)) = false := by
      rw [W64_succ (by omega)]; simp; omega
     simp only [e]; rfl) (by omega)]
  simp only [Option.bind_some, Flow.k]
  rw [W64_succ (by omega)]
  simp [ords, hi]) (fun st => by unfold clocks_bounds_1_L2; simp only [lt_f]; rfl) hn]
 simp only [Option.bind_some, Flow.k]
 have hl2 := cat_le (n := s.Tracks.length) (K := 1200) (f := ords s) (fun i hi => ords_len h hi)
 have he := hf.e.2
 rw [iter_catG g (A0 := A ++ cat s.Tracks.length (ords s)) (body := clocks_bounds_1_L4 N y s (g []) ((s.Tracks.length : Int), g A) ((s.Tracks.length : Int), g (A ++ cat s.Tracks.length (ords s)))) (n := s.Ties.length) 2 (tieB s) (fun j _ => tieB_len _ j) (fun j st hj hst => by
  unfold clocks_bounds_1_L4
  simp only [List.length_append] at hst
  simp only [lt_t hj, cond_true, idx_nat hj, Option.bind_some]
  rw [hy _ _ (by omega)]
  simp only [Option.bind_some, Bool.not_true, cond_false]
  rw [hy _ _ (by simp; omega)]
  simp only [Option.bind_some, Bool.not_true, cond_false]
  rw [W64_succ (by omega)]
  simp [tieB, hj]) (fun st => by unfold clocks_bounds_1_L4; simp only [lt_f]; rfl) he]
 simp only [Option.bind_some, Flow.k, bnds, hA, List.append_assoc]
def mapOf (A : List Bound) : List (Bound × Bool) := A.foldl (fun m b => mput m b true) []
theorem mapOf_snoc (A : List Bound) (b : Bound) : mapOf (A ++ [b]) = mput (mapOf A) b true := by unfold mapOf; rw [List.foldl_append]; rfl
theorem mapOf_get (A : List Bound) (b : Bound) : mgetD (mapOf A) b false = decide (b ∈ A) := by
 have : ∀ (A : List Bound) (m : List (Bound × Bool)), (∀ b v, mget m b = some v → v = true) → mgetD (A.foldl (fun m b => mput m b true) m) b false = (decide (b ∈ A) || mgetD m b false) := by
  intro A
  induction A with
  | nil => intro m _; simp
  | cons a A ih =>
   intro m hm
   rw [List.foldl_cons, ih _ (fun b v hv => by
    rw [mget_mput] at hv
    split at hv
    ·cases hv; rfl
    ·exact hm b v hv)]
   unfold mgetD
   rw [mget_mput]
   by_cases h : b = a
   ·simp [h]
   ·simp [h]
 unfold mapOf
 rw [this A [] (fun b v hv => by cases hv)]
 simp [mgetD, mget]
def refB (a b : Ref) : Bool := (a.Log == b.Log) && ((a.Line == b.Line) && true)
theorem refB_eq (a b : Ref) : refB a b = decide (a = b) := by
 obtain ⟨a1, a2⟩ := a
 obtain ⟨b1, b2⟩ := b
 unfold refB
 simp only [Bool.and_true, Ref.mk.injEq]
 rw [Bool.eq_iff_iff]
 simp
def prevOk (c : List Bound) (b : Bound) : Nat → Bool
 | 0 => true
 | j + 1 => match c[j]? with
  | none => true
  | some a => decide (b.From = a.To)
def okC (l c : List Bound) (i : Nat) : Bool := match c[i]? with
 | none => true
 | some b => decide (b ∈ l) && prevOk c b i
theorem okC_at {l c : List Bound} {i : Nat} (hi : i < c.length) : okC l c i = (decide (c[i] ∈ l) && prevOk c c[i] i) := by unfold okC; rw [List.getElem?_eq_getElem hi]
def vChain (l c : List Bound) : Bool := allB c.length (okC l c) && (decide ((c.length : Int) ≥ 1) && decide ((c.length : Int) ≤ 30000))
theorem chained_c (hf : FitS N s) (h : vCheck s = 0) {c : List Bound} (hc : Fit N c.length) : clocks_chained N s c = some (vChain (bnds s) c) := by
 unfold clocks_chained clocks_bounds
 rw [Option.bind_some]
 have h1 := hc.1
 have hb := bounds1_eq (N := N) (y := fun st x => ((clocks_chained_L0 N s c s) st x).map fun t => (true, t)) (g := mapOf) (fun A b _ => by rw [mapOf_snoc]; rfl) hf h
 rw [show mapOf [] = ([] : List (Bound × Bool)) from rfl] at hb
 rw [hb, Option.bind_some]
 rw [iter_check' (n := c.length) (okC (bnds s) c) false (fun i hi => by
  unfold clocks_chained_L1
  rw [lt_t hi, cond_true, idx_nat hi, Option.bind_some, mapOf_get, W64_succ (by omega)]
  unfold okC
  rw [List.getElem?_eq_getElem hi]
  simp only
  by_cases hm : c[i] ∈ bnds s
  ·simp only [hm, decide_true, Bool.not_true, cond_false, Bool.true_and]
   cases i with
   | zero => rfl
   | succ j =>
    have hp : decide (((j + 1 : Nat) : Int) > 0) = true := by simp
    have hj : j < c.length := by omega
    rw [hp, cond_true, pred_nat (by omega), idx_nat hj]
    simp only [prevOk, List.getElem?_eq_getElem hj, Option.bind_some]
    rw [show ((c[j + 1].From.Log == c[j].To.Log) && ((c[j + 1].From.Line == c[j].To.Line) && true)) = refB c[j + 1].From c[j].To from rfl, refB_eq]
    by_cases he : c[j + 1].From = c[j].To
    ·simp [he]
    ·simp [he]
  ·simp [hm]) (by unfold clocks_chained_L1; rw [lt_f]; rfl) hc.2]
 unfold vChain
 cases allB c.length (okC (bnds s) c) with
 | false => rfl
 | true => rfl
def wsum (l : List Bound) : Int := l.foldl (fun a b => W64 (a + b.Most)) 0
theorem W64_in (x : Int) : -9223372036854775808 ≤ W64 x ∧ W64 x ≤ 9223372036854775807 := by
 unfold W64
 simp [IntKind.wrap, IntKind.signed, IntKind.bits]
 constructor <;> split <;> omega
theorem wsum_in (l : List Bound) : -9223372036854775808 ≤ wsum l ∧ wsum l ≤ 9223372036854775807 := by
 unfold wsum
 have : ∀ (l : List Bound) (a : Int), (-9223372036854775808 ≤ a ∧ a ≤ 9223372036854775807) → -9223372036854775808 ≤ l.foldl (fun a b => W64 (a + b.Most)) a ∧ l.foldl (fun a b => W64 (a + b.Most)) a ≤ 9223372036854775807 := by
  intro l
  induction l with
  | nil => intro a h; exact h
  | cons b l ih => intro a _; exact ih _ (W64_in _)
 exact this l 0 (by omega)
theorem sum_c {l : List Bound} (hl : Fit N l.length) : clocks_sum N l = some (wsum l) := by
 unfold clocks_sum
 have h1 := hl.1
 obtain ⟨o, ho, j, rfl⟩ := iter_ex (body := clocks_sum_L0 N l) l.length (fun i q => q = (wsum (l.take i), (i : Int))) (fun o => ∃ j, o = .done (wsum l, j)) (by
  rintro i q hi rfl
  unfold clocks_sum_L0
  simp only
  by_cases hlt : i < l.length
  ·left
   rw [lt_t hlt, cond_true, idx_nat hlt, Option.bind_some, W64_succ (by omega)]
   refine ⟨_, rfl, ?_, hlt⟩
   unfold wsum
   rw [List.take_succ_eq_append_getElem hlt, List.foldl_append]; rfl
  ·have : i = l.length := by omega
   subst this
   right
   rw [lt_f, cond_false]
   exact ⟨_, rfl, (fun _ h => by cases h), _, by simp; rfl⟩) l.length N 0 (0, 0) (by omega) rfl hl.2
 rw [ho]; rfl
theorem vChain_mem {l c : List Bound} (h : vChain l c = true) : (∀ b, b ∈ c → b ∈ l) ∧ 1 ≤ c.length ∧ c.length ≤ 30000 := by
 unfold vChain at h
 simp only [Bool.and_eq_true, decide_eq_true_eq] at h
 refine ⟨fun b hb => ?_, by omega, by omega⟩
 obtain ⟨i, hi, rfl⟩ := List.getElem_of_mem hb
 have := allB_t h.1 hi
 unfold okC at this
 rw [List.getElem?_eq_getElem hi] at this
 simp only [Bool.and_eq_true, decide_eq_true_eq] at this
 exact this.1
def lastB (c : List Bound) : Bound := c.getD (c.length - 1) zb
def firstB (c : List Bound) : Bound := c.getD 0 zb
def vLoop (s : System) (c : List Bound) : Bool × Int := if vCheck s ≠ 0 then (false, vCheck s) else (vChain (bnds s) c && (decide ((firstB c).From = (lastB c).To) && decide (wsum c < 0)), 0)
theorem ends_at {c : List Bound} (h : 1 ≤ c.length) (h2 : c.length < 9223372036854775808) : idx c 0 = some (firstB c) ∧ idx c (W64 ((c.length : Int) - 1)) = some (lastB c) := by
 constructor
 ·rw [show (0 : Int) = ((0 : Nat) : Int) from rfl, idx_nat (show 0 < c.length by omega)]
  unfold firstB; rw [getD_at]
 ·rw [W64_id (by omega) (by omega), show (c.length : Int) - 1 = ((c.length - 1 : Nat) : Int) by omega, idx_nat (show c.length - 1 < c.length by omega)]
  unfold lastB; rw [getD_at]
theorem ValidLoop_c (hf : FitS N s) {c : List Bound} (hc : Fit N c.length) : clocks_ValidLoop N s c = some (vLoop s c) := by
 unfold clocks_ValidLoop vLoop
 rw [check_c hf, Option.bind_some]
 by_cases h : vCheck s = 0
 ·rw [if_neg (by omega)]
  have e : (vCheck s != 0) = false := by simp [h]
  rw [e, cond_false, chained_c hf h hc, Option.bind_some]
  cases hv : vChain (bnds s) c with
  | false => rfl
  | true =>
   obtain ⟨_, h1, h2⟩ := vChain_mem hv
   obtain ⟨e1, e2⟩ := ends_at h1 hc.1
   simp only [cond_true, e1, e2, Option.bind_some, sum_c hc]
   rw [show (((firstB c).From.Log == (lastB c).To.Log) && (((firstB c).From.Line == (lastB c).To.Line) && true)) = refB (firstB c).From (lastB c).To from rfl, refB_eq]
   by_cases he : (firstB c).From = (lastB c).To
   ·simp [he]
   ·simp [he]
 ·rw [if_pos h]
  have e : (vCheck s != 0) = true := by simpa using h
  rw [e]; rfl
def vPath (s : System) (r : Ref) (late : Bool) (c : List Bound) : Int × Int :=
 if vCheck s ≠ 0 then (0, vCheck s) else if vHas s r = false then (0, 3) else
  if (vChain (bnds s) c && (decide ((firstB c).From = bif late then beg else r) && decide ((lastB c).To = bif late then r else beg))) = true then (bif late then wsum c else W64 (0 - wsum c), 0) else (0, 32)
theorem ValidPath_c (hf : FitS N s) (r : Ref) (late : Bool) {c : List Bound} (hc : Fit N c.length) : clocks_ValidPath N s r late c = some (vPath s r late c) := by
 unfold clocks_ValidPath vPath
 rw [check_c hf, Option.bind_some]
 by_cases h : vCheck s = 0
 ·rw [if_neg (by omega)]
  have e : (vCheck s != 0) = false := by simp [h]
  rw [e, cond_false, has_c hf, Option.bind_some]
  cases hr : vHas s r with
  | false => rfl
  | true =>
   rw [if_neg (by simp)]
   simp only [Bool.not_true, cond_false, clocks_beginning, Option.bind_some, chained_c hf h hc, sum_c hc]
   have hw := wsum_in c
   cases hv : vChain (bnds s) c with
   | false => cases late <;> rfl
   | true =>
    obtain ⟨_, h1, h2⟩ := vChain_mem hv
    obtain ⟨e1, e2⟩ := ends_at h1 hc.1
    simp only [e1, e2, Option.bind_some, Bool.not_true, cond_false, Bool.true_and]
    cases late with
    | true =>
     simp only [Bool.not_true, cond_false, cond_true, Option.bind_some]
     rw [show (((firstB c).From.Log == -1) && (((firstB c).From.Line == 0) && true)) = refB (firstB c).From beg from rfl, show (((lastB c).To.Log == r.Log) && (((lastB c).To.Line == r.Line) && true)) = refB (lastB c).To r from rfl, refB_eq, refB_eq]
     by_cases g1 : (firstB c).From = beg
     ·by_cases g2 : (lastB c).To = r
      ·simp only [g1, g2, decide_true, Bool.not_true, cond_false, Option.bind_some, Bool.and_self, if_true]
       rw [Int.one_mul, W64_id (by omega) (by omega)]
      ·simp [g1, g2]
     ·simp [g1]
    | false =>
     simp only [Bool.not_false, cond_false, cond_true, Option.bind_some]
     rw [show (((firstB c).From.Log == r.Log) && (((firstB c).From.Line == r.Line) && true)) = refB (firstB c).From r from rfl, show (((lastB c).To.Log == -1) && (((lastB c).To.Line == 0) && true)) = refB (lastB c).To beg from rfl, refB_eq, refB_eq]
     by_cases g1 : (firstB c).From = r
     ·by_cases g2 : (lastB c).To = beg
      ·simp only [g1, g2, decide_true, Bool.not_true, cond_false, Option.bind_some, Bool.and_self, if_true]
       have : (-1 : Int) * wsum c = 0 - wsum c := by omega
       rw [this]
      ·simp [g1, g2]
     ·simp [g1]
 ·rw [if_pos h]
  have e : (vCheck s != 0) = true := by simpa using h
  rw [e]; rfl
theorem lt_of_get' {α : Type} {l : List α} {i : Nat} {x : α} (hx : l[i]? = some x) : i < l.length := by
 rcases Nat.lt_or_ge i l.length with h | h
 ·exact h
 ·rw [List.getElem?_eq_none h] at hx; cases hx
def mAt (l : List (List Int)) (r : Ref) : Int := if r = beg then 0 else (l.getD r.Log.toNat []).getD r.Line.toNat 0
def okRow (s : System) (l : List (List Int)) (i : Nat) : Bool := match s.Tracks[i]?, l[i]? with
 | some t, some row => decide (row.length = t.Times.length) && row.all fun n => inr n (-1000000) 1000000
 | _, _ => false
def vForm (s : System) (l : List (List Int)) : Bool := decide (l.length = s.Tracks.length) && allB s.Tracks.length (okRow s l)
def keepB (l : List (List Int)) (b : Bound) : Bool := decide (mAt l b.To ≤ mAt l b.From + b.Most)
def vKeeps (s : System) (l : List (List Int)) : Bool × Int := if vCheck s ≠ 0 then (false, vCheck s) else (vForm s l && (bnds s).all (keepB l), 0)
theorem form_at {l : List (List Int)} (hv : vForm s l = true) {i : Nat} {t : Track} (ht : s.Tracks[i]? = some t) : ∃ row, l[i]? = some row ∧ row.length = t.Times.length ∧ ∀ n, n ∈ row → -1000000 ≤ n ∧ n ≤ 1000000 := by
 unfold vForm at hv
 simp only [Bool.and_eq_true, decide_eq_true_eq] at hv
 have := allB_t hv.2 (lt_of_get' ht)
 unfold okRow at this
 rw [ht] at this
 cases hr : l[i]? with
 | none => rw [hr] at this; cases this
 | some row =>
  rw [hr] at this
  simp only [Bool.and_eq_true, decide_eq_true_eq, List.all_eq_true, inr] at this
  exact ⟨row, rfl, this.1, this.2⟩
theorem mAt_in {l : List (List Int)} (hv : vForm s l = true) {r : Ref} (hr : Nd s r) : -1000000 ≤ mAt l r ∧ mAt l r ≤ 1000000 := by
 rcases hr with rfl | hr
 ·unfold mAt; rw [if_pos rfl]; omega
 ·obtain ⟨i, t, j, rfl, ht, hj⟩ := li_has hr
  obtain ⟨row, h1, h2, h3⟩ := form_at hv ht
  unfold mAt
  rw [if_neg (by intro h; have : (i : Int) = -1 := congrArg Ref.Log h; omega)]
  have hd : l.getD i [] = row := by rw [List.getD_eq_getElem?_getD, h1]; rfl
  simp only [li, Int.toNat_natCast, hd]
  rw [getD_at (show j < row.length by omega)]
  exact h3 _ (List.getElem_mem _)
theorem at_c {l : List (List Int)} (hv : vForm s l = true) {r : Ref} (hr : Nd s r) : clocks_minutes_at N l r = some (mAt l r) := by
 unfold clocks_minutes_at clocks_beginning
 rw [Option.bind_some, Option.bind_some]
 rw [show ((r.Log == -1) && ((r.Line == 0) && true)) = refB r beg from rfl, refB_eq]
 by_cases he : r = beg
 ·unfold mAt; simp [he]
 ·rcases hr with hr | hr
  ·exact absurd hr he
  ·obtain ⟨i, t, j, rfl, ht, hj⟩ := li_has hr
   obtain ⟨row, h1, h2, h3⟩ := form_at hv ht
   unfold mAt
   simp only [he, decide_false, cond_false, if_false, li, idx_nat', h1, Option.bind_some, List.getElem?_eq_getElem (show j < row.length by omega), Int.toNat_natCast]
   have hd : l.getD i [] = row := by rw [List.getD_eq_getElem?_getD, h1]; rfl
   rw [hd, getD_at (show j < row.length by omega)]
theorem form_c (hf : FitS N s) (h : vCheck s = 0) (l : List (List Int)) : clocks_minutes_formed N l s = some (vForm s l) := by
 unfold clocks_minutes_formed vForm
 have hn := hf.n
 have h1 := hn.1
 by_cases hl : l.length = s.Tracks.length
 ·simp only [hl, bne_self_eq_false, cond_false, decide_true, Bool.true_and]
  rw [iter_check' (n := s.Tracks.length) (okRow s l) false (fun i hi => by
   unfold clocks_minutes_formed_L0
   have hil : i < l.length := by omega
   have ht := List.getElem?_eq_getElem hi
   rw [lt_t hi, cond_true, idx_nat hi, Option.bind_some, idx_nat hil, Option.bind_some, W64_succ (by omega)]
   unfold okRow
   rw [ht, List.getElem?_eq_getElem hil]
   simp only
   by_cases hlen : l[i].length = s.Tracks[i].Times.length
   ·have hfit : Fit N l[i].length := by rw [hlen]; exact (hf.t _ (List.getElem_mem hi)).t
    have := contains_aux (N := N) (f := fun y0 => clocks_minutes_formed_1 N y0) hfit (p := fun n => !inr n (-1000000) 1000000) (fun x _ => by unfold clocks_minutes_formed_1; rw [within_c]; rfl) rfl
    have e : slices_ContainsFunc_int_int N l[i] (fun y0 => clocks_minutes_formed_1 N y0) = some (l[i].any fun n => !inr n (-1000000) 1000000) := this
    simp only [hlen, bne_self_eq_false, cond_false, Option.bind_some, e, any_not, decide_true, Bool.true_and]
    cases l[i].all fun n => inr n (-1000000) 1000000 <;> rfl
   ·have e : ((l[i].length : Int) != (s.Tracks[i].Times.length : Int)) = true := by simp; omega
    rw [e]
    simp [hlen]) (by unfold clocks_minutes_formed_L0; rw [lt_f]; rfl) hn.2]
  cases allB s.Tracks.length (okRow s l) <;> rfl
 ·have e : ((l.length : Int) != (s.Tracks.length : Int)) = true := by simp; omega
  rw [e]
  simp [hl]
theorem Keeps_c (hN : 1000000 ≤ N) (hf : FitS N s) (l : List (List Int)) : clocks_Keeps N s l = some (vKeeps s l) := by
 unfold clocks_Keeps vKeeps
 rw [check_c hf, Option.bind_some]
 by_cases h : vCheck s = 0
 ·rw [if_neg (by omega)]
  have e : (vCheck s != 0) = false := by simp [h]
  rw [e, cond_false, form_c hf h, Option.bind_some]
  cases hv : vForm s l with
  | false => rfl
  | true =>
   have hbl := bnds_len' h
   have : slices_ContainsFunc_api_Bound_api_Bound N (bnds s) (fun y0 => clocks_minutes_breaks N l y0) = some ((bnds s).any fun b => !keepB l b) :=
    contains_aux ⟨by omega, by omega⟩ (fun b hb => by
     obtain ⟨n1, n2⟩ := bnd_ends h hb
     have i1 := mAt_in hv n1
     have i2 := bnd_most h b hb
     unfold clocks_minutes_breaks
     rw [at_c hv n1, at_c hv n2]
     simp only [Option.bind_some]
     rw [W64_id (by omega) (by omega)]
     unfold keepB
     congr 1
     rw [← decide_not, decide_eq_decide]; omega) rfl
   simp only [Bool.not_true, cond_false, clocks_bounds, Option.bind_some, collect_c hf h, this, any_not, Bool.not_not, Bool.true_and]
 ·rw [if_pos h]
  have e : (vCheck s != 0) = true := by simpa using h
  rw [e]; rfl
end
end Go.Proofs.Ythbcnabeabcmlaa
namespace Go.Proofs.Ythbcnabeabcmlaa
open Go.Proofs
def ref03_within (N : Nat) (x0 : Int) (x1 : Int) (x2 : Int) : Option Bool :=
 some ((decide (x1 ≤ x0)) && (decide (x0 ≤ x2)))
theorem co_ref03_within : CallOk Try.prog 83 := fun _ _ => by kernel_rfl
set_option maxHeartbeats 4000000 in
set_option maxRecDepth 100000 in
theorem c_ref03_within (N : Nat) (w0 : World) (F0 : Mem) (hF : ∀ b o, F0 b = some o → w0.heap[b]? = some o) (x0 : Int) (x1 : Int) (x2 : Int) (r : Bool) (h : ref03_within N x0 x1 x2 = some r) :
  Calls Try.prog 83 ([(vi x0), (vi x1), (vi x2)] : List Value).toArray w0 (FRet w0 F0 fun F' v => v = (.bool r)) := by
 have hs0 := HS.start hF
 refine calls_of (n := 15) (c := bodyOf Try.f83) Try.func83 (by kernel_rfl) (by kernel_rfl) (by kernel_rfl) ?_
 refine Sq (Rg [0] ?_)
 refine V 6 4 (mc (.bool false) (.bool false)) ?_
 refine Nss (Rg [0, 1, 2, 3, 4, 5, 6, 7, 8] ?_)
 refine RWP.cut (fun f w => ∃ (F1 : Mem), HS w0 F0 w F1 [] ∧ Mem.le F0 F1 ∧ f.d = [] ∧ f 6 = (.bool ((decide (x1 ≤ x0)) && (decide (x0 ≤ x2))))) ?_ ?_
 ·refine V 7 3 (mv 1 (vi x1)) ?_
  refine V 8 3 (mv 0 (vi x0)) ?_
  refine V 9 4 (run_leq (t := 3) (t' := 3) (x := (.tmp 7)) (y := (.tmp 8)) (k := .i64) (a := x1) (b := x0) rfl rfl) ?_
  refine V 10 4 (mv 9 (.bool (decide (x1 ≤ x0)))) ?_
  refine RWP.split (decide (x1 ≤ x0)) (fun hb6 => ?_) (fun hb6 => ?_)
  ·refine Vg 11 3 3 true 10 hb6 (mv 0 (vi x0)) ?_
   refine Vg 12 3 3 true 10 hb6 (mv 2 (vi x2)) ?_
   refine Vg 13 4 3 true 10 hb6 (run_leq (t := 3) (t' := 3) (x := (.tmp 11)) (y := (.tmp 12)) (k := .i64) (a := x0) (b := x2) rfl rfl) ?_
   refine V 14 4 (p1 10 (.tmp 13) (.const (.bool false)) (.bool (decide (x0 ≤ x2))) hb6) ?_
   refine V 6 4 (ma 14 (.bool (decide (x0 ≤ x2)))) ?_
   exact RWP.nil ⟨rfl, F0, hs0, (Mem.le.refl _), rfl, (congrArg Value.bool (and_t hb6 (rfl)))⟩
  ·refine Sk [11, 12, 13] 3 true 10 hb6 ?_
   refine V 14 4 (p0 10 (.tmp 13) (.const (.bool false)) (.bool false) hb6) ?_
   refine V 6 4 (ma 14 (.bool false)) ?_
   exact RWP.nil ⟨rfl, F0, hs0, (Mem.le.refl _), rfl, (congrArg Value.bool (and_f hb6 (rfl)))⟩
 ·rintro f w1 ⟨F1, hs2, le3, e4, e5⟩
  refine thenQ_nrm ?_
  refine CWP.ret (by kernel_rfl) ?_
  have hfin := some_inj h
  subst hfin
  exact ⟨e4, (.bool ((decide (x1 ≤ x0)) && (decide (x0 ≤ x2)))), res_of (l := [.tmp 6]) (by kernel_rfl) (vs := [(.bool ((decide (x1 ≤ x0)) && (decide (x0 ≤ x2))))]) ⟨e5, trivial⟩, (.bool ((decide (x1 ≤ x0)) && (decide (x0 ≤ x2)))), F1, rfl, hs2.clear, rfl⟩
end Go.Proofs.Ythbcnabeabcmlaa
namespace Go.Proofs.Ythbcnabeabcmlaa
open Go.Proofs
def ref03_ValidClock_L0 (N : Nat) (x0 : Clock) (j7 : (Bool)) : Int → Option (Flow Bool Int) := fun s41 =>
 (bif (decide (s41 < (x0.Jumps.length : Int))) then (((idx x0.Jumps s41).bind fun x73 => ((ref03_within N x73 0 20000).bind fun r87 => (bif (!r87) then some true else (bif (decide (s41 > 0)) then ((idx x0.Jumps s41).bind fun x100 => ((idx x0.Jumps (W64 (s41 - 1))).bind fun x106 => some (decide (x100 ≤ x106)))) else some false)))).bind fun j66 => (bif j66 then some (.ret false) else some (.next (W64 (s41 + 1))))) else some (.done s41))
def ref03_ValidClock (N : Nat) (x0 : Clock) : Option Bool :=
 (((ref03_within N x0.Slip 0 1440).bind fun r13 => (bif (!r13) then some true else ((ref03_within N x0.Drift 0 100).bind fun r24 => (bif (!r24) then some true else some (decide ((x0.Jumps.length : Int) > 16)))))).bind fun j7 => (bif j7 then some false else ((iter (ref03_ValidClock_L0 N x0 j7) N 0).bind fun o => o.k (fun r => some r) (fun s48 => some true))))
theorem co_ref03_ValidClock : CallOk Try.prog 37 := fun _ _ => by kernel_rfl
set_option maxHeartbeats 4000000 in
set_option maxRecDepth 100000 in
theorem c_ref03_ValidClock (N : Nat) (w0 : World) (F0 : Mem) (hF : ∀ b o, F0 b = some o → w0.heap[b]? = some o) (x0 : Clock) (a0_2 : Option Addr) (n0_2 : Nat) (hb0_2 : LC x0.Jumps.length n0_2) (hs0_2 : SlA tInt F0 a0_2 x0.Jumps) (r : Bool) (h : ref03_ValidClock N x0 = some r) :
  Calls Try.prog 37 ([(.agg (kClock x0 a0_2 n0_2))] : List Value).toArray w0 (FRet w0 F0 fun F' v => v = (.bool r)) := by
 have hs0 := HS.start hF
 refine calls_of (n := 52) (c := bodyOf Try.f37) Try.func37 (by kernel_rfl) (by kernel_rfl) (by kernel_rfl) ?_
 refine Sq (Rg [0, 1] ?_)
 refine Bx 1 0 0 52 (kClock x0 a0_2 n0_2) hs0 (fun b1 w2 (hs3 : HS w0 F0 w2 F0 [(sb b1 (kClock x0 a0_2 n0_2) 52)]) => ?_)
 refine V 2 4 (mc (.bool false) (.bool false)) ?_
 refine Nss ?_
 refine Sq (Rg [0, 1, 2, 3, 4, 5, 6, 7, 8, 9, 10, 11, 12, 13, 14, 15] ?_)
 obtain ⟨j7, hj11, h12⟩ := bind_some h
 refine RWP.cut (fun f w => ∃ (F1 : Mem), HS w0 F0 w F1 [(sb b1 (kClock x0 a0_2 n0_2) 52)] ∧ Mem.le F0 F1 ∧ f.d = [] ∧ f 1 = (.pointer (some ⟨b1, 0, none⟩)) ∧ f 19 = (.bool j7)) ?_ ?_
 ·refine V 4 0 (fa 52 1 0 0 1 b1 0 0) ?_
  refine V 5 3 (ld 3 4 b1 0 false 1 (vi x0.Slip) (hs3.ownAt (k := 0) rfl)) ?_
  obtain ⟨r13, hr14, h15⟩ := bind_some hj11
  refine Cl 6 4 83 #[(.tmp 5), (.const (vi 0)), (.const (vi 1440))] #[3, 3, 3] co_ref03_within hs3 (c_ref03_within N w2 F0 hs3.pers (x0.Slip) (0) (1440) _ hr14) ?_
  intro v16 F2 w17 hs18 le19 hp20
  obtain rfl := hp20
  refine V 7 4 (run_not (t := 4) (x := (.tmp 6)) (a := r13) rfl) ?_
  refine V 8 4 (mv 7 (.bool (!r13))) ?_
  refine RWP.split (!r13) (fun hb21 => ?_) (fun hb21 => ?_)
  ·have h22 := cond_t h15 hb21
   refine Sk [9, 10, 11, 12] 4 false 8 hb21 ?_
   refine V 13 4 (p1 8 (.const (.bool true)) (.tmp 12) (.bool true) hb21) ?_
   refine V 14 4 (mv 13 (.bool true)) ?_
   refine Sk [15, 16, 17, 18] 10 false 14 rfl ?_
   refine V 19 4 (p1 14 (.const (.bool true)) (.tmp 18) (.bool true) rfl) ?_
   obtain rfl := some_inj h22
   exact RWP.nil ⟨rfl, F2, hs18, le19, rfl, rfl, rfl⟩
  ·have h23 := cond_f h15 hb21
   refine Vg 9 0 4 false 8 hb21 (fa 52 1 1 1 1 b1 0 1) ?_
   refine Vg 10 3 4 false 8 hb21 (ld 3 9 b1 1 false 1 (vi x0.Drift) (hs18.ownAt (k := 0) rfl)) ?_
   obtain ⟨r24, hr25, h26⟩ := bind_some h23
   refine RWP.call (dst := (some 11)) (ty := 4) (g := (some (4, false))) (by kernel_rfl) (gd_y (d := 8) (by kernel_rfl) rfl hb21) (f0 := (.func 83)) (aos := #[(.tmp 10), (.const (vi 0)), (.const (vi 100))]) (ats := #[3, 3, 3]) (fid := 83) (first := #[]) (cap := #[]) (args := [(vi x0.Drift), (vi 0), (vi 100)]) rfl co_ref03_within (rfl) hs18 (c_ref03_within N w17 F2 hs18.pers (x0.Drift) (0) (100) _ hr25) ?_
   intro v27 F3 w28 hs29 le30 hp31
   obtain rfl := hp31
   refine Vg 12 4 4 false 8 hb21 (run_not (t := 4) (x := (.tmp 11)) (a := r24) rfl) ?_
   refine V 13 4 (p0 8 (.const (.bool true)) (.tmp 12) (.bool (!r24)) hb21) ?_
   refine V 14 4 (mv 13 (.bool (!r24))) ?_
   refine RWP.split (!r24) (fun hb32 => ?_) (fun hb32 => ?_)
   ·have h33 := cond_t h26 hb32
    refine Sk [15, 16, 17, 18] 10 false 14 hb32 ?_
    refine V 19 4 (p1 14 (.const (.bool true)) (.tmp 18) (.bool true) hb32) ?_
    obtain rfl := some_inj h33
    exact RWP.nil ⟨rfl, F3, hs29, (le19.trans le30), rfl, rfl, rfl⟩
   ·have h34 := cond_f h26 hb32
    refine Vg 15 0 10 false 14 hb32 (fa 52 1 2 2 1 b1 0 2) ?_
    refine Vg 16 50 10 false 14 hb32 (ld 50 15 b1 2 false 1 (.slice a0_2 x0.Jumps.length n0_2) (hs29.ownAt (k := 0) rfl)) ?_
    refine Vg 17 3 10 false 14 hb32 (ln 16 50 a0_2 x0.Jumps.length n0_2 3 1 8) ?_
    refine Vg 18 4 10 false 14 hb32 (run_gtr (t := 3) (t' := 3) (x := (.tmp 17)) (y := (.const (vi 16))) (k := .i64) (a := (x0.Jumps.length : Int)) (b := 16) rfl rfl) ?_
    refine V 19 4 (p0 14 (.const (.bool true)) (.tmp 18) (.bool (decide ((x0.Jumps.length : Int) > 16))) hb32) ?_
    obtain rfl := some_inj h34
    exact RWP.nil ⟨rfl, F3, hs29, (le19.trans le30), rfl, rfl, rfl⟩
 ·rintro f w4 ⟨F1, hs5, le6, e8, e9, e10⟩
  refine thenQ_nrm ?_
  refine CWP.cond (t := j7) (by kernel_rfl) e10 (fun hb35 => ?_) (fun hb35 => ?_)
  ·have h36 := cond_t h12 hb35
   refine Sq (Rg [0] ?_)
   refine V 2 4 (mc (.bool false) (.bool false)) ?_
   refine Nt ?_
   refine CWP.ret (by kernel_rfl) ?_
   refine thenQ_ret ?_
   have hfin := some_inj h36
   subst hfin
   exact ⟨e8, (.bool false), res_of (l := [.tmp 2]) (by kernel_rfl) (vs := [(.bool false)]) ⟨rfl, trivial⟩, (.bool false), F1, rfl, hs5.clear, rfl⟩
  ·have h37 := cond_f h12 hb35
   refine Sc ?_
   refine thenQ_nrm ?_
   refine Sq ?_
   refine Sq (Rg [0] ?_)
   refine V 3 3 (mc (vi 0) (vi 0)) ?_
   refine Nt ?_
   obtain ⟨o38, ho39, h40⟩ := bind_some h37
   refine CWP.cut (fun f w => ∃ (s48 : Int) (F5 : Mem), o38 = .done s48 ∧ HS w0 F0 w F5 [] ∧ Mem.le F1 F5 ∧ f.d = []) ?_ ?_
   ·refine Bk ?_
    refine CWP.loop (by kernel_rfl) (fun m f w => ∃ (s41 : Int) (F4 : Mem), iter (ref03_ValidClock_L0 N x0 j7) m s41 = some o38 ∧ HS w0 F0 w F4 [(sb b1 (kClock x0 a0_2 n0_2) 52)] ∧ Mem.le F1 F4 ∧ f.d = [] ∧ f 1 = (.pointer (some ⟨b1, 0, none⟩)) ∧ f 3 = (vi s41)) N ⟨0, F1, ho39, hs5, (Mem.le.refl _), e8, e9, rfl⟩ ?_
    rintro m53 f w42 ⟨s41, F4, hit54, hs43, le44, e45, e46, e47⟩
    obtain ⟨m55, fl56, rfl, hb57, hnx58⟩ := iter_step hit54
    refine Sq ?_
    refine Sq (Rg [0, 1, 2, 3, 4] ?_)
    refine V 20 3 (mv 3 (vi s41) e47) ?_
    refine V 21 0 (fa 52 1 2 2 1 b1 0 2 e46) ?_
    refine V 22 50 (ld 50 21 b1 2 false 1 (.slice a0_2 x0.Jumps.length n0_2) (hs43.ownAt (k := 0) rfl)) ?_
    refine V 23 3 (ln 22 50 a0_2 x0.Jumps.length n0_2 3 1 8) ?_
    refine V 24 4 (run_lss (t := 3) (t' := 3) (x := (.tmp 20)) (y := (.tmp 23)) (k := .i64) (a := s41) (b := (x0.Jumps.length : Int)) rfl rfl) ?_
    refine Nt ?_
    refine CWP.cond (t := (decide (s41 < (x0.Jumps.length : Int)))) (by kernel_rfl) rfl (fun hb59 => ?_) (fun hb59 => ?_)
    ·have h60 := cond_t hb57 hb59
     refine Sc ?_
     refine thenQ_nrm ?_
     refine Sq ?_
     refine Bk ?_
     refine Sq ?_
     obtain ⟨j66, hj71, h72⟩ := bind_some h60
     refine CWP.regionD (by kernel_rfl) (by kernel_rfl) (by kernel_rfl) (by kernel_rfl) (z := 25) (F := F4) (Lc := [(sb b1 (kClock x0 a0_2 n0_2) 52)]) (Lz := []) (l := [false, false, false, false, false, false, false, false, false, false, false, false, false, false, false, false, false, false, false, false, false, false, false, false, false]) (fuel := 25) (by kernel_rfl) (by kernel_rfl) hs43 (by simp) (by simp) (fun f w => ∃ (F6 : Mem), HS w0 F0 w F6 [(sb b1 (kClock x0 a0_2 n0_2) 52)] ∧ Mem.le F4 F6 ∧ f.d = [] ∧ f 1 = (.pointer (some ⟨b1, 0, none⟩)) ∧ f 3 = (vi s41) ∧ f 51 = (.bool j66)) (fun wd61 hw62 => ?_) ?_
     ·refine Dtl 0 27 0 (.pointer (some ⟨b1, 2, none⟩)) [tt, ff, ff, ff, ff, ff, ff, ff, ff, ff, ff, ff, ff, ff, ff, ff, ff, ff, ff, ff, ff, ff, ff, ff, ff] (fun _ hq => fa 52 1 2 2 1 b1 0 2 e46) ?_
      refine Dtl 1 28 50 _ [tt, tt, ff, ff, ff, ff, ff, ff, ff, ff, ff, ff, ff, ff, ff, ff, ff, ff, ff, ff, ff, ff, ff, ff, ff] (fun _ hq => ld 50 27 b1 2 false 1 (.slice a0_2 x0.Jumps.length n0_2) (hq.1.2 0 _ _ rfl)) ?_
      refine Dtl 2 29 3 _ [tt, tt, tt, ff, ff, ff, ff, ff, ff, ff, ff, ff, ff, ff, ff, ff, ff, ff, ff, ff, ff, ff, ff, ff, ff] (fun _ hq => mv 3 (vi s41) e47) ?_
      obtain ⟨x73, hx74, h76⟩ := bind_some hj71
      obtain ⟨hi75, hx74'⟩ := idx_spec hx74
      obtain ⟨b77, o78, C79, E80, fz81, rfl, hF83, hE84⟩ := SlA.open (SlA.mono hs0_2 (le6.trans le44)) hx74'
      have hc86 := hE84 _ _ hx74'
      refine Dtl 3 30 0 (.pointer (some ⟨b77, (o78 + (s41 : Int).toNat * 1), none⟩)) [tt, tt, tt, tt, ff, ff, ff, ff, ff, ff, ff, ff, ff, ff, ff, ff, ff, ff, ff, ff, ff, ff, ff, ff, ff] (fun _ hq => ix 50 28 29 b77 o78 3 1 8 hi75) ?_
      refine Dtl 4 31 3 _ [tt, tt, tt, tt, tt, ff, ff, ff, ff, ff, ff, ff, ff, ff, ff, ff, ff, ff, ff, ff, ff, ff, ff, ff, ff] (fun _ hq => lx 3 30 0 1 false 1 (vi x73) (hq.1.1 _ _ hF83) hc86) ?_
      refine DWP.one (i := 5) (by kernel_rfl) ?_
      obtain ⟨r87, hr88, h89⟩ := bind_some h76
      refine DStep.call (l' := [true, true, true, true, true, true, false, false, false, false, false, false, false, false, false, false, false, false, false, false, false, false, false, false, false]) (zd := true) (by kernel_rfl) (by kernel_rfl) (by kernel_rfl) (dst := (some 32)) (ty := 4) (g := none) (by kernel_rfl) rfl (f0 := (.func 83)) (aos := #[(.tmp 31), (.const (vi 0)), (.const (vi 20000))]) (ats := #[3, 3, 3]) (fid := 83) (first := #[]) (cap := #[]) (args := [(vi x73), (vi 0), (vi 20000)]) rfl co_ref03_within (rfl) hw62 (c_ref03_within N wd61 F4 hw62.pers (x73) (0) (20000) _ hr88) ?_
      intro v90 F7 w91 hs92 le93 hp94
      obtain rfl := hp94
      refine Dtl 6 33 4 (.bool (!r87)) [tt, tt, tt, tt, tt, tt, tt, ff, ff, ff, ff, ff, ff, ff, ff, ff, ff, ff, ff, ff, ff, ff, ff, ff, ff] (fun _ hq => run_not (t := 4) (x := (.tmp 32)) (a := r87) rfl) ?_
      refine Dtl 7 34 4 _ [tt, tt, tt, tt, tt, tt, tt, tt, ff, ff, ff, ff, ff, ff, ff, ff, ff, ff, ff, ff, ff, ff, ff, ff, ff] (fun _ hq => mv 33 (.bool (!r87))) ?_
      refine DWP.split (!r87) (fun hb95 => ?_) (fun hb95 => ?_)
      ·have h96 := cond_t h89 hb95
       refine Dkl [(8, 35), (9, 36), (10, 37)] 7 false 34 hb95 [tt, tt, tt, tt, tt, tt, tt, tt, tt, tt, tt, ff, ff, ff, ff, ff, ff, ff, ff, ff, ff, ff, ff, ff, ff] ?_
       refine Dul [(11, 38), (12, 39), (13, 40), (14, 41), (15, 42), (16, 43)] 10 true 37 [tt, tt, tt, tt, tt, tt, tt, tt, tt, tt, tt, tt, tt, tt, tt, tt, tt, ff, ff, ff, ff, ff, ff, ff, ff] ?_
       refine Dul [(17, 44), (18, 45), (19, 46), (20, 47), (21, 48), (22, 49)] 10 true 37 [tt, tt, tt, tt, tt, tt, tt, tt, tt, tt, tt, tt, tt, tt, tt, tt, tt, tt, tt, tt, tt, tt, tt, ff, ff] ?_
       refine Dkl [(23, 50)] 7 false 34 hb95 [tt, tt, tt, tt, tt, tt, tt, tt, tt, tt, tt, tt, tt, tt, tt, tt, tt, tt, tt, tt, tt, tt, tt, tt, ff] ?_
       refine Dtl 24 51 4 _ [tt, tt, tt, tt, tt, tt, tt, tt, tt, tt, tt, tt, tt, tt, tt, tt, tt, tt, tt, tt, tt, tt, tt, tt, tt] (fun _ hq => p1 34 (.const (.bool true)) (.tmp 50) (.bool true) hb95) ?_
       obtain rfl := some_inj h96
       exact DWP.done (by kernel_rfl) ⟨F7, hs92, le93, e45, e46, e47, rfl⟩
      ·have h97 := cond_f h89 hb95
       refine Dgl 8 35 3 _ [tt, tt, tt, tt, tt, tt, tt, tt, tt, ff, ff, ff, ff, ff, ff, ff, ff, ff, ff, ff, ff, ff, ff, ff, ff] 7 false 34 hb95 (fun _ hq => mv 3 (vi s41) e47) ?_
       refine Dgl 9 36 4 (.bool (decide (s41 > 0))) [tt, tt, tt, tt, tt, tt, tt, tt, tt, tt, ff, ff, ff, ff, ff, ff, ff, ff, ff, ff, ff, ff, ff, ff, ff] 7 false 34 hb95 (fun _ hq => run_gtr (t := 3) (t' := 3) (x := (.tmp 35)) (y := (.const (vi 0))) (k := .i64) (a := s41) (b := 0) rfl rfl) ?_
       refine Dgl 10 37 4 _ [tt, tt, tt, tt, tt, tt, tt, tt, tt, tt, tt, ff, ff, ff, ff, ff, ff, ff, ff, ff, ff, ff, ff, ff, ff] 7 false 34 hb95 (fun _ hq => mv 36 (.bool (decide (s41 > 0)))) ?_
       refine DWP.split (decide (s41 > 0)) (fun hb98 => ?_) (fun hb98 => ?_)
       ·have h99 := cond_t h97 hb98
        refine Dgl 11 38 0 (.pointer (some ⟨b1, 2, none⟩)) [tt, tt, tt, tt, tt, tt, tt, tt, tt, tt, tt, tt, ff, ff, ff, ff, ff, ff, ff, ff, ff, ff, ff, ff, ff] 10 true 37 hb98 (fun _ hq => fa 52 1 2 2 1 b1 0 2 e46) ?_
        refine Dgl 12 39 50 _ [tt, tt, tt, tt, tt, tt, tt, tt, tt, tt, tt, tt, tt, ff, ff, ff, ff, ff, ff, ff, ff, ff, ff, ff, ff] 10 true 37 hb98 (fun _ hq => ld 50 38 b1 2 false 1 (.slice (some ⟨b77, o78, none⟩) x0.Jumps.length n0_2) (hq.1.2 0 _ _ rfl)) ?_
        refine Dgl 13 40 3 _ [tt, tt, tt, tt, tt, tt, tt, tt, tt, tt, tt, tt, tt, tt, ff, ff, ff, ff, ff, ff, ff, ff, ff, ff, ff] 10 true 37 hb98 (fun _ hq => mv 3 (vi s41) e47) ?_
        obtain ⟨x100, hx101, h103⟩ := bind_some h99
        obtain ⟨hi102, hx101'⟩ := idx_spec hx101
        have hc105 := hE84 _ _ hx101'
        refine Dgl 14 41 0 (.pointer (some ⟨b77, (o78 + (s41 : Int).toNat * 1), none⟩)) [tt, tt, tt, tt, tt, tt, tt, tt, tt, tt, tt, tt, tt, tt, tt, ff, ff, ff, ff, ff, ff, ff, ff, ff, ff] 10 true 37 hb98 (fun _ hq => ix 50 39 40 b77 o78 3 1 8 hi102) ?_
        refine Dgl 15 42 3 _ [tt, tt, tt, tt, tt, tt, tt, tt, tt, tt, tt, tt, tt, tt, tt, tt, ff, ff, ff, ff, ff, ff, ff, ff, ff] 10 true 37 hb98 (fun _ hq => lx 3 41 0 1 false 1 (vi x100) (hq.1.1 _ _ hF83) hc105) ?_
        refine Dgl 16 43 0 (.pointer (some ⟨b1, 2, none⟩)) [tt, tt, tt, tt, tt, tt, tt, tt, tt, tt, tt, tt, tt, tt, tt, tt, tt, ff, ff, ff, ff, ff, ff, ff, ff] 10 true 37 hb98 (fun _ hq => fa 52 1 2 2 1 b1 0 2 e46) ?_
        refine Dgl 17 44 50 _ [tt, tt, tt, tt, tt, tt, tt, tt, tt, tt, tt, tt, tt, tt, tt, tt, tt, tt, ff, ff, ff, ff, ff, ff, ff] 10 true 37 hb98 (fun _ hq => ld 50 43 b1 2 false 1 (.slice (some ⟨b77, o78, none⟩) x0.Jumps.length n0_2) (hq.1.2 0 _ _ rfl)) ?_
        refine Dgl 18 45 3 _ [tt, tt, tt, tt, tt, tt, tt, tt, tt, tt, tt, tt, tt, tt, tt, tt, tt, tt, tt, ff, ff, ff, ff, ff, ff] 10 true 37 hb98 (fun _ hq => mv 3 (vi s41) e47) ?_
        refine Dgl 19 46 3 (vi (W64 (s41 - 1))) [tt, tt, tt, tt, tt, tt, tt, tt, tt, tt, tt, tt, tt, tt, tt, tt, tt, tt, tt, tt, ff, ff, ff, ff, ff] 10 true 37 hb98 (fun _ hq => run_sub (t := 3) (t' := 3) (x := (.tmp 45)) (y := (.const (vi 1))) (k := .i64) (a := s41) (b := 1) rfl rfl) ?_
        obtain ⟨x106, hx107, h109⟩ := bind_some h103
        obtain ⟨hi108, hx107'⟩ := idx_spec hx107
        have hc111 := hE84 _ _ hx107'
        refine Dgl 20 47 0 (.pointer (some ⟨b77, (o78 + ((W64 (s41 - 1)) : Int).toNat * 1), none⟩)) [tt, tt, tt, tt, tt, tt, tt, tt, tt, tt, tt, tt, tt, tt, tt, tt, tt, tt, tt, tt, tt, ff, ff, ff, ff] 10 true 37 hb98 (fun _ hq => ix 50 44 46 b77 o78 3 1 8 hi108) ?_
        refine Dgl 21 48 3 _ [tt, tt, tt, tt, tt, tt, tt, tt, tt, tt, tt, tt, tt, tt, tt, tt, tt, tt, tt, tt, tt, tt, ff, ff, ff] 10 true 37 hb98 (fun _ hq => lx 3 47 0 1 false 1 (vi x106) (hq.1.1 _ _ hF83) hc111) ?_
        refine Dgl 22 49 4 (.bool (decide (x100 ≤ x106))) [tt, tt, tt, tt, tt, tt, tt, tt, tt, tt, tt, tt, tt, tt, tt, tt, tt, tt, tt, tt, tt, tt, tt, ff, ff] 10 true 37 hb98 (fun _ hq => run_leq (t := 3) (t' := 3) (x := (.tmp 42)) (y := (.tmp 48)) (k := .i64) (a := x100) (b := x106) rfl rfl) ?_
        refine Dgl 23 50 4 _ [tt, tt, tt, tt, tt, tt, tt, tt, tt, tt, tt, tt, tt, tt, tt, tt, tt, tt, tt, tt, tt, tt, tt, tt, ff] 7 false 34 hb95 (fun _ hq => p1 37 (.tmp 49) (.const (.bool false)) (.bool (decide (x100 ≤ x106))) hb98) ?_
        refine Dtl 24 51 4 _ [tt, tt, tt, tt, tt, tt, tt, tt, tt, tt, tt, tt, tt, tt, tt, tt, tt, tt, tt, tt, tt, tt, tt, tt, tt] (fun _ hq => p0 34 (.const (.bool true)) (.tmp 50) (.bool (decide (x100 ≤ x106))) hb95) ?_
        obtain rfl := some_inj h109
        exact DWP.done (by kernel_rfl) ⟨F7, hs92, le93, e45, e46, e47, rfl⟩
       ·have h112 := cond_f h97 hb98
        refine Dkl [(11, 38), (12, 39), (13, 40), (14, 41), (15, 42), (16, 43)] 10 true 37 hb98 [tt, tt, tt, tt, tt, tt, tt, tt, tt, tt, tt, tt, tt, tt, tt, tt, tt, ff, ff, ff, ff, ff, ff, ff, ff] ?_
        refine Dkl [(17, 44), (18, 45), (19, 46), (20, 47), (21, 48), (22, 49)] 10 true 37 hb98 [tt, tt, tt, tt, tt, tt, tt, tt, tt, tt, tt, tt, tt, tt, tt, tt, tt, tt, tt, tt, tt, tt, tt, ff, ff] ?_
        refine Dgl 23 50 4 _ [tt, tt, tt, tt, tt, tt, tt, tt, tt, tt, tt, tt, tt, tt, tt, tt, tt, tt, tt, tt, tt, tt, tt, tt, ff] 7 false 34 hb95 (fun _ hq => p0 37 (.tmp 49) (.const (.bool false)) (.bool false) hb98) ?_
        refine Dtl 24 51 4 _ [tt, tt, tt, tt, tt, tt, tt, tt, tt, tt, tt, tt, tt, tt, tt, tt, tt, tt, tt, tt, tt, tt, tt, tt, tt] (fun _ hq => p0 34 (.const (.bool true)) (.tmp 50) (.bool false) hb95) ?_
        obtain rfl := some_inj h112
        exact DWP.done (by kernel_rfl) ⟨F7, hs92, le93, e45, e46, e47, rfl⟩
     ·rintro f w63 ⟨F6, hs64, le65, e67, e68, e69, e70⟩
      refine thenQ_nrm ?_
      refine CWP.cond (t := j66) (by kernel_rfl) e70 (fun hb113 => ?_) (fun hb113 => ?_)
      ·have h114 := cond_t h72 hb113
       refine Sq (Rg [0] ?_)
       refine V 2 4 (mc (.bool false) (.bool false)) ?_
       refine Nt ?_
       refine CWP.ret (by kernel_rfl) ?_
       refine blockQ_ret ?_
       refine thenQ_ret ?_
       refine thenQ_ret ?_
       refine blockQ_ret ?_
       have hret := iter_ret h114 hnx58
       subst hret
       refine .inr ?_
       refine thenQ_ret ?_
       have hfin := some_inj h40
       subst hfin
       exact ⟨e67, (.bool false), res_of (l := [.tmp 2]) (by kernel_rfl) (vs := [(.bool false)]) ⟨rfl, trivial⟩, (.bool false), F6, rfl, hs64.clear, rfl⟩
      ·have h115 := cond_f h72 hb113
       refine Sc ?_
       refine blockQ_nrm ?_
       refine thenQ_nrm ?_
       refine Rg [0, 1, 2] ?_
       refine V 25 3 (mv 3 (vi s41) e69) ?_
       refine V 26 3 (run_add (t := 3) (t' := 3) (x := (.tmp 25)) (y := (.const (vi 1))) (k := .i64) (a := s41) (b := 1) rfl rfl) ?_
       refine V 3 3 (ma 26 (vi (W64 (s41 + 1)))) ?_
       refine RWP.nil ?_
       have hn116 := iter_next h115 hnx58
       exact ⟨m55, Nat.lt_succ_self _, (W64 (s41 + 1)), F6, hn116, hs64, (le44.trans le65), e67, e68, rfl⟩
    ·have h117 := cond_f hb57 hb59
     refine CWP.exit (by kernel_rfl) ?_
     refine thenQ_ex ?_
     refine thenQ_ex ?_
     refine blockQ_hit rfl ?_
     have hs118 : HS w0 F0 w42 F4 [] := hs43.drop 0
     have ho119 := iter_done h117 hnx58
     exact .inl ⟨rfl, s41, F4, ho119, hs118, le44, e45⟩
   ·rintro f w49 ⟨s48, F5, rfl, hs50, le51, e52⟩
    have h120 := k_done h40
    refine thenQ_nrm ?_
    refine Sq (Rg [0] ?_)
    refine V 2 4 (mc (.bool true) (.bool true)) ?_
    refine Nt ?_
    refine CWP.ret (by kernel_rfl) ?_
    have hfin := some_inj h120
    subst hfin
    exact ⟨e52, (.bool true), res_of (l := [.tmp 2]) (by kernel_rfl) (vs := [(.bool true)]) ⟨rfl, trivial⟩, (.bool true), F5, rfl, hs50.clear, rfl⟩
end Go.Proofs.Ythbcnabeabcmlaa
namespace Go.Proofs.Ythbcnabeabcmlaa
open Go.Proofs
def ref03_ValidTrack_L0 (N : Nat) (x0 : Track) (j7 : (Bool)) : Int → Option (Flow Bool Int) := fun s30 =>
 (bif (decide (s30 < (x0.Times.length : Int))) then (((idx x0.Times s30).bind fun x62 => ((ref03_within N x62 0 20000).bind fun r76 => (bif (!r76) then some true else (bif (decide (s30 > 0)) then ((idx x0.Times s30).bind fun x89 => ((idx x0.Times (W64 (s30 - 1))).bind fun x95 => some (decide (x89 < x95)))) else some false)))).bind fun j55 => (bif j55 then some (.ret false) else some (.next (W64 (s30 + 1))))) else some (.done s30))
def ref03_ValidTrack (N : Nat) (x0 : Track) : Option Bool :=
 (((ref03_ValidClock N x0.Clock).bind fun r13 => (bif (!r13) then some true else some (decide ((x0.Times.length : Int) > 400)))).bind fun j7 => (bif j7 then some false else ((iter (ref03_ValidTrack_L0 N x0 j7) N 0).bind fun o => o.k (fun r => some r) (fun s37 => some true))))
theorem co_ref03_ValidTrack : CallOk Try.prog 39 := fun _ _ => by kernel_rfl
set_option maxHeartbeats 4000000 in
set_option maxRecDepth 100000 in
theorem c_ref03_ValidTrack (N : Nat) (w0 : World) (F0 : Mem) (hF : ∀ b o, F0 b = some o → w0.heap[b]? = some o) (x0 : Track) (a0_2 : Option Addr) (n0_2 : Nat) (hb0_2 : LC x0.Clock.Jumps.length n0_2) (hs0_2 : SlA tInt F0 a0_2 x0.Clock.Jumps) (a0_3 : Option Addr) (n0_3 : Nat) (hb0_3 : LC x0.Times.length n0_3) (hs0_3 : SlA tInt F0 a0_3 x0.Times) (r : Bool) (h : ref03_ValidTrack N x0 = some r) :
  Calls Try.prog 39 ([(.agg (kTrack x0 a0_2 n0_2 a0_3 n0_3))] : List Value).toArray w0 (FRet w0 F0 fun F' v => v = (.bool r)) := by
 have hs0 := HS.start hF
 refine calls_of (n := 46) (c := bodyOf Try.f39) Try.func39 (by kernel_rfl) (by kernel_rfl) (by kernel_rfl) ?_
 refine Sq (Rg [0, 1] ?_)
 refine Bx 1 0 0 54 (kTrack x0 a0_2 n0_2 a0_3 n0_3) hs0 (fun b1 w2 (hs3 : HS w0 F0 w2 F0 [(sb b1 (kTrack x0 a0_2 n0_2 a0_3 n0_3) 54)]) => ?_)
 refine V 2 4 (mc (.bool false) (.bool false)) ?_
 refine Nss ?_
 refine Sq (Rg [0, 1, 2, 3, 4, 5, 6, 7, 8, 9] ?_)
 obtain ⟨j7, hj11, h12⟩ := bind_some h
 refine RWP.cut (fun f w => ∃ (F1 : Mem), HS w0 F0 w F1 [(sb b1 (kTrack x0 a0_2 n0_2 a0_3 n0_3) 54)] ∧ Mem.le F0 F1 ∧ f.d = [] ∧ f 1 = (.pointer (some ⟨b1, 0, none⟩)) ∧ f 13 = (.bool j7)) ?_ ?_
 ·refine V 4 0 (fa 54 1 0 0 3 b1 0 0) ?_
  refine V 5 52 (ld 52 4 b1 0 true 3 (.agg (kClock x0.Clock a0_2 n0_2)) (hs3.ownAt (k := 0) rfl)) ?_
  obtain ⟨r13, hr14, h15⟩ := bind_some hj11
  refine Cl 6 4 37 #[(.tmp 5)] #[52] co_ref03_ValidClock hs3 (c_ref03_ValidClock N w2 F0 hs3.pers (x0.Clock) a0_2 n0_2 hb0_2 hs0_2 _ hr14) ?_
  intro v16 F2 w17 hs18 le19 hp20
  obtain rfl := hp20
  refine V 7 4 (run_not (t := 4) (x := (.tmp 6)) (a := r13) rfl) ?_
  refine V 8 4 (mv 7 (.bool (!r13))) ?_
  refine RWP.split (!r13) (fun hb21 => ?_) (fun hb21 => ?_)
  ·have h22 := cond_t h15 hb21
   refine Sk [9, 10, 11, 12] 4 false 8 hb21 ?_
   refine V 13 4 (p1 8 (.const (.bool true)) (.tmp 12) (.bool true) hb21) ?_
   obtain rfl := some_inj h22
   exact RWP.nil ⟨rfl, F2, hs18, le19, rfl, rfl, rfl⟩
  ·have h23 := cond_f h15 hb21
   refine Vg 9 0 4 false 8 hb21 (fa 54 1 1 3 1 b1 0 3) ?_
   refine Vg 10 50 4 false 8 hb21 (ld 50 9 b1 3 false 1 (.slice a0_3 x0.Times.length n0_3) (hs18.ownAt (k := 0) rfl)) ?_
   refine Vg 11 3 4 false 8 hb21 (ln 10 50 a0_3 x0.Times.length n0_3 3 1 8) ?_
   refine Vg 12 4 4 false 8 hb21 (run_gtr (t := 3) (t' := 3) (x := (.tmp 11)) (y := (.const (vi 400))) (k := .i64) (a := (x0.Times.length : Int)) (b := 400) rfl rfl) ?_
   refine V 13 4 (p0 8 (.const (.bool true)) (.tmp 12) (.bool (decide ((x0.Times.length : Int) > 400))) hb21) ?_
   obtain rfl := some_inj h23
   exact RWP.nil ⟨rfl, F2, hs18, le19, rfl, rfl, rfl⟩
 ·rintro f w4 ⟨F1, hs5, le6, e8, e9, e10⟩
  refine thenQ_nrm ?_
  refine CWP.cond (t := j7) (by kernel_rfl) e10 (fun hb24 => ?_) (fun hb24 => ?_)
  ·have h25 := cond_t h12 hb24
   refine Sq (Rg [0] ?_)
   refine V 2 4 (mc (.bool false) (.bool false)) ?_
   refine Nt ?_
   refine CWP.ret (by kernel_rfl) ?_
   refine thenQ_ret ?_
   have hfin := some_inj h25
   subst hfin
   exact ⟨e8, (.bool false), res_of (l := [.tmp 2]) (by kernel_rfl) (vs := [(.bool false)]) ⟨rfl, trivial⟩, (.bool false), F1, rfl, hs5.clear, rfl⟩
  ·have h26 := cond_f h12 hb24
   refine Sc ?_
   refine thenQ_nrm ?_
   refine Sq ?_
   refine Sq (Rg [0] ?_)
   refine V 3 3 (mc (vi 0) (vi 0)) ?_
   refine Nt ?_
   obtain ⟨o27, ho28, h29⟩ := bind_some h26
   refine CWP.cut (fun f w => ∃ (s37 : Int) (F4 : Mem), o27 = .done s37 ∧ HS w0 F0 w F4 [] ∧ Mem.le F1 F4 ∧ f.d = []) ?_ ?_
   ·refine Bk ?_
    refine CWP.loop (by kernel_rfl) (fun m f w => ∃ (s30 : Int) (F3 : Mem), iter (ref03_ValidTrack_L0 N x0 j7) m s30 = some o27 ∧ HS w0 F0 w F3 [(sb b1 (kTrack x0 a0_2 n0_2 a0_3 n0_3) 54)] ∧ Mem.le F1 F3 ∧ f.d = [] ∧ f 1 = (.pointer (some ⟨b1, 0, none⟩)) ∧ f 3 = (vi s30)) N ⟨0, F1, ho28, hs5, (Mem.le.refl _), e8, e9, rfl⟩ ?_
    rintro m42 f w31 ⟨s30, F3, hit43, hs32, le33, e34, e35, e36⟩
    obtain ⟨m44, fl45, rfl, hb46, hnx47⟩ := iter_step hit43
    refine Sq ?_
    refine Sq (Rg [0, 1, 2, 3, 4] ?_)
    refine V 14 3 (mv 3 (vi s30) e36) ?_
    refine V 15 0 (fa 54 1 1 3 1 b1 0 3 e35) ?_
    refine V 16 50 (ld 50 15 b1 3 false 1 (.slice a0_3 x0.Times.length n0_3) (hs32.ownAt (k := 0) rfl)) ?_
    refine V 17 3 (ln 16 50 a0_3 x0.Times.length n0_3 3 1 8) ?_
    refine V 18 4 (run_lss (t := 3) (t' := 3) (x := (.tmp 14)) (y := (.tmp 17)) (k := .i64) (a := s30) (b := (x0.Times.length : Int)) rfl rfl) ?_
    refine Nt ?_
    refine CWP.cond (t := (decide (s30 < (x0.Times.length : Int)))) (by kernel_rfl) rfl (fun hb48 => ?_) (fun hb48 => ?_)
    ·have h49 := cond_t hb46 hb48
     refine Sc ?_
     refine thenQ_nrm ?_
     refine Sq ?_
     refine Bk ?_
     refine Sq ?_
     obtain ⟨j55, hj60, h61⟩ := bind_some h49
     refine CWP.regionD (by kernel_rfl) (by kernel_rfl) (by kernel_rfl) (by kernel_rfl) (z := 25) (F := F3) (Lc := [(sb b1 (kTrack x0 a0_2 n0_2 a0_3 n0_3) 54)]) (Lz := []) (l := [false, false, false, false, false, false, false, false, false, false, false, false, false, false, false, false, false, false, false, false, false, false, false, false, false]) (fuel := 25) (by kernel_rfl) (by kernel_rfl) hs32 (by simp) (by simp) (fun f w => ∃ (F5 : Mem), HS w0 F0 w F5 [(sb b1 (kTrack x0 a0_2 n0_2 a0_3 n0_3) 54)] ∧ Mem.le F3 F5 ∧ f.d = [] ∧ f 1 = (.pointer (some ⟨b1, 0, none⟩)) ∧ f 3 = (vi s30) ∧ f 45 = (.bool j55)) (fun wd50 hw51 => ?_) ?_
     ·refine Dtl 0 21 0 (.pointer (some ⟨b1, 3, none⟩)) [tt, ff, ff, ff, ff, ff, ff, ff, ff, ff, ff, ff, ff, ff, ff, ff, ff, ff, ff, ff, ff, ff, ff, ff, ff] (fun _ hq => fa 54 1 1 3 1 b1 0 3 e35) ?_
      refine Dtl 1 22 50 _ [tt, tt, ff, ff, ff, ff, ff, ff, ff, ff, ff, ff, ff, ff, ff, ff, ff, ff, ff, ff, ff, ff, ff, ff, ff] (fun _ hq => ld 50 21 b1 3 false 1 (.slice a0_3 x0.Times.length n0_3) (hq.1.2 0 _ _ rfl)) ?_
      refine Dtl 2 23 3 _ [tt, tt, tt, ff, ff, ff, ff, ff, ff, ff, ff, ff, ff, ff, ff, ff, ff, ff, ff, ff, ff, ff, ff, ff, ff] (fun _ hq => mv 3 (vi s30) e36) ?_
      obtain ⟨x62, hx63, h65⟩ := bind_some hj60
      obtain ⟨hi64, hx63'⟩ := idx_spec hx63
      obtain ⟨b66, o67, C68, E69, fz70, rfl, hF72, hE73⟩ := SlA.open (SlA.mono hs0_3 (le6.trans le33)) hx63'
      have hc75 := hE73 _ _ hx63'
      refine Dtl 3 24 0 (.pointer (some ⟨b66, (o67 + (s30 : Int).toNat * 1), none⟩)) [tt, tt, tt, tt, ff, ff, ff, ff, ff, ff, ff, ff, ff, ff, ff, ff, ff, ff, ff, ff, ff, ff, ff, ff, ff] (fun _ hq => ix 50 22 23 b66 o67 3 1 8 hi64) ?_
      refine Dtl 4 25 3 _ [tt, tt, tt, tt, tt, ff, ff, ff, ff, ff, ff, ff, ff, ff, ff, ff, ff, ff, ff, ff, ff, ff, ff, ff, ff] (fun _ hq => lx 3 24 0 1 false 1 (vi x62) (hq.1.1 _ _ hF72) hc75) ?_
      refine DWP.one (i := 5) (by kernel_rfl) ?_
      obtain ⟨r76, hr77, h78⟩ := bind_some h65
      refine DStep.call (l' := [true, true, true, true, true, true, false, false, false, false, false, false, false, false, false, false, false, false, false, false, false, false, false, false, false]) (zd := true) (by kernel_rfl) (by kernel_rfl) (by kernel_rfl) (dst := (some 26)) (ty := 4) (g := none) (by kernel_rfl) rfl (f0 := (.func 83)) (aos := #[(.tmp 25), (.const (vi 0)), (.const (vi 20000))]) (ats := #[3, 3, 3]) (fid := 83) (first := #[]) (cap := #[]) (args := [(vi x62), (vi 0), (vi 20000)]) rfl co_ref03_within (rfl) hw51 (c_ref03_within N wd50 F3 hw51.pers (x62) (0) (20000) _ hr77) ?_
      intro v79 F6 w80 hs81 le82 hp83
      obtain rfl := hp83
      refine Dtl 6 27 4 (.bool (!r76)) [tt, tt, tt, tt, tt, tt, tt, ff, ff, ff, ff, ff, ff, ff, ff, ff, ff, ff, ff, ff, ff, ff, ff, ff, ff] (fun _ hq => run_not (t := 4) (x := (.tmp 26)) (a := r76) rfl) ?_
      refine Dtl 7 28 4 _ [tt, tt, tt, tt, tt, tt, tt, tt, ff, ff, ff, ff, ff, ff, ff, ff, ff, ff, ff, ff, ff, ff, ff, ff, ff] (fun _ hq => mv 27 (.bool (!r76))) ?_
      refine DWP.split (!r76) (fun hb84 => ?_) (fun hb84 => ?_)
      ·have h85 := cond_t h78 hb84
       refine Dkl [(8, 29), (9, 30), (10, 31)] 7 false 28 hb84 [tt, tt, tt, tt, tt, tt, tt, tt, tt, tt, tt, ff, ff, ff, ff, ff, ff, ff, ff, ff, ff, ff, ff, ff, ff] ?_
       refine Dul [(11, 32), (12, 33), (13, 34), (14, 35), (15, 36), (16, 37)] 10 true 31 [tt, tt, tt, tt, tt, tt, tt, tt, tt, tt, tt, tt, tt, tt, tt, tt, tt, ff, ff, ff, ff, ff, ff, ff, ff] ?_
       refine Dul [(17, 38), (18, 39), (19, 40), (20, 41), (21, 42), (22, 43)] 10 true 31 [tt, tt, tt, tt, tt, tt, tt, tt, tt, tt, tt, tt, tt, tt, tt, tt, tt, tt, tt, tt, tt, tt, tt, ff, ff] ?_
       refine Dkl [(23, 44)] 7 false 28 hb84 [tt, tt, tt, tt, tt, tt, tt, tt, tt, tt, tt, tt, tt, tt, tt, tt, tt, tt, tt, tt, tt, tt, tt, tt, ff] ?_
       refine Dtl 24 45 4 _ [tt, tt, tt, tt, tt, tt, tt, tt, tt, tt, tt, tt, tt, tt, tt, tt, tt, tt, tt, tt, tt, tt, tt, tt, tt] (fun _ hq => p1 28 (.const (.bool true)) (.tmp 44) (.bool true) hb84) ?_
       obtain rfl := some_inj h85
       exact DWP.done (by kernel_rfl) ⟨F6, hs81, le82, e34, e35, e36, rfl⟩
      ·have h86 := cond_f h78 hb84
       refine Dgl 8 29 3 _ [tt, tt, tt, tt, tt, tt, tt, tt, tt, ff, ff, ff, ff, ff, ff, ff, ff, ff, ff, ff, ff, ff, ff, ff, ff] 7 false 28 hb84 (fun _ hq => mv 3 (vi s30) e36) ?_
       refine Dgl 9 30 4 (.bool (decide (s30 > 0))) [tt, tt, tt, tt, tt, tt, tt, tt, tt, tt, ff, ff, ff, ff, ff, ff, ff, ff, ff, ff, ff, ff, ff, ff, ff] 7 false 28 hb84 (fun _ hq => run_gtr (t := 3) (t' := 3) (x := (.tmp 29)) (y := (.const (vi 0))) (k := .i64) (a := s30) (b := 0) rfl rfl) ?_
       refine Dgl 10 31 4 _ [tt, tt, tt, tt, tt, tt, tt, tt, tt, tt, tt, ff, ff, ff, ff, ff, ff, ff, ff, ff, ff, ff, ff, ff, ff] 7 false 28 hb84 (fun _ hq => mv 30 (.bool (decide (s30 > 0)))) ?_
       refine DWP.split (decide (s30 > 0)) (fun hb87 => ?_) (fun hb87 => ?_)
       ·have h88 := cond_t h86 hb87
        refine Dgl 11 32 0 (.pointer (some ⟨b1, 3, none⟩)) [tt, tt, tt, tt, tt, tt, tt, tt, tt, tt, tt, tt, ff, ff, ff, ff, ff, ff, ff, ff, ff, ff, ff, ff, ff] 10 true 31 hb87 (fun _ hq => fa 54 1 1 3 1 b1 0 3 e35) ?_
        refine Dgl 12 33 50 _ [tt, tt, tt, tt, tt, tt, tt, tt, tt, tt, tt, tt, tt, ff, ff, ff, ff, ff, ff, ff, ff, ff, ff, ff, ff] 10 true 31 hb87 (fun _ hq => ld 50 32 b1 3 false 1 (.slice (some ⟨b66, o67, none⟩) x0.Times.length n0_3) (hq.1.2 0 _ _ rfl)) ?_
        refine Dgl 13 34 3 _ [tt, tt, tt, tt, tt, tt, tt, tt, tt, tt, tt, tt, tt, tt, ff, ff, ff, ff, ff, ff, ff, ff, ff, ff, ff] 10 true 31 hb87 (fun _ hq => mv 3 (vi s30) e36) ?_
        obtain ⟨x89, hx90, h92⟩ := bind_some h88
        obtain ⟨hi91, hx90'⟩ := idx_spec hx90
        have hc94 := hE73 _ _ hx90'
        refine Dgl 14 35 0 (.pointer (some ⟨b66, (o67 + (s30 : Int).toNat * 1), none⟩)) [tt, tt, tt, tt, tt, tt, tt, tt, tt, tt, tt, tt, tt, tt, tt, ff, ff, ff, ff, ff, ff, ff, ff, ff, ff] 10 true 31 hb87 (fun _ hq => ix 50 33 34 b66 o67 3 1 8 hi91) ?_
        refine Dgl 15 36 3 _ [tt, tt, tt, tt, tt, tt, tt, tt, tt, tt, tt, tt, tt, tt, tt, tt, ff, ff, ff, ff, ff, ff, ff, ff, ff] 10 true 31 hb87 (fun _ hq => lx 3 35 0 1 false 1 (vi x89) (hq.1.1 _ _ hF72) hc94) ?_
        refine Dgl 16 37 0 (.pointer (some ⟨b1, 3, none⟩)) [tt, tt, tt, tt, tt, tt, tt, tt, tt, tt, tt, tt, tt, tt, tt, tt, tt, ff, ff, ff, ff, ff, ff, ff, ff] 10 true 31 hb87 (fun _ hq => fa 54 1 1 3 1 b1 0 3 e35) ?_
        refine Dgl 17 38 50 _ [tt, tt, tt, tt, tt, tt, tt, tt, tt, tt, tt, tt, tt, tt, tt, tt, tt, tt, ff, ff, ff, ff, ff, ff, ff] 10 true 31 hb87 (fun _ hq => ld 50 37 b1 3 false 1 (.slice (some ⟨b66, o67, none⟩) x0.Times.length n0_3) (hq.1.2 0 _ _ rfl)) ?_
        refine Dgl 18 39 3 _ [tt, tt, tt, tt, tt, tt, tt, tt, tt, tt, tt, tt, tt, tt, tt, tt, tt, tt, tt, ff, ff, ff, ff, ff, ff] 10 true 31 hb87 (fun _ hq => mv 3 (vi s30) e36) ?_
        refine Dgl 19 40 3 (vi (W64 (s30 - 1))) [tt, tt, tt, tt, tt, tt, tt, tt, tt, tt, tt, tt, tt, tt, tt, tt, tt, tt, tt, tt, ff, ff, ff, ff, ff] 10 true 31 hb87 (fun _ hq => run_sub (t := 3) (t' := 3) (x := (.tmp 39)) (y := (.const (vi 1))) (k := .i64) (a := s30) (b := 1) rfl rfl) ?_
        obtain ⟨x95, hx96, h98⟩ := bind_some h92
        obtain ⟨hi97, hx96'⟩ := idx_spec hx96
        have hc100 := hE73 _ _ hx96'
        refine Dgl 20 41 0 (.pointer (some ⟨b66, (o67 + ((W64 (s30 - 1)) : Int).toNat * 1), none⟩)) [tt, tt, tt, tt, tt, tt, tt, tt, tt, tt, tt, tt, tt, tt, tt, tt, tt, tt, tt, tt, tt, ff, ff, ff, ff] 10 true 31 hb87 (fun _ hq => ix 50 38 40 b66 o67 3 1 8 hi97) ?_
        refine Dgl 21 42 3 _ [tt, tt, tt, tt, tt, tt, tt, tt, tt, tt, tt, tt, tt, tt, tt, tt, tt, tt, tt, tt, tt, tt, ff, ff, ff] 10 true 31 hb87 (fun _ hq => lx 3 41 0 1 false 1 (vi x95) (hq.1.1 _ _ hF72) hc100) ?_
        refine Dgl 22 43 4 (.bool (decide (x89 < x95))) [tt, tt, tt, tt, tt, tt, tt, tt, tt, tt, tt, tt, tt, tt, tt, tt, tt, tt, tt, tt, tt, tt, tt, ff, ff] 10 true 31 hb87 (fun _ hq => run_lss (t := 3) (t' := 3) (x := (.tmp 36)) (y := (.tmp 42)) (k := .i64) (a := x89) (b := x95) rfl rfl) ?_
        refine Dgl 23 44 4 _ [tt, tt, tt, tt, tt, tt, tt, tt, tt, tt, tt, tt, tt, tt, tt, tt, tt, tt, tt, tt, tt, tt, tt, tt, ff] 7 false 28 hb84 (fun _ hq => p1 31 (.tmp 43) (.const (.bool false)) (.bool (decide (x89 < x95))) hb87) ?_
        refine Dtl 24 45 4 _ [tt, tt, tt, tt, tt, tt, tt, tt, tt, tt, tt, tt, tt, tt, tt, tt, tt, tt, tt, tt, tt, tt, tt, tt, tt] (fun _ hq => p0 28 (.const (.bool true)) (.tmp 44) (.bool (decide (x89 < x95))) hb84) ?_
        obtain rfl := some_inj h98
        exact DWP.done (by kernel_rfl) ⟨F6, hs81, le82, e34, e35, e36, rfl⟩
       ·have h101 := cond_f h86 hb87
        refine Dkl [(11, 32), (12, 33), (13, 34), (14, 35), (15, 36), (16, 37)] 10 true 31 hb87 [tt, tt, tt, tt, tt, tt, tt, tt, tt, tt, tt, tt, tt, tt, tt, tt, tt, ff, ff, ff, ff, ff, ff, ff, ff] ?_
        refine Dkl [(17, 38), (18, 39), (19, 40), (20, 41), (21, 42), (22, 43)] 10 true 31 hb87 [tt, tt, tt, tt, tt, tt, tt, tt, tt, tt, tt, tt, tt, tt, tt, tt, tt, tt, tt, tt, tt, tt, tt, ff, ff] ?_
        refine Dgl 23 44 4 _ [tt, tt, tt, tt, tt, tt, tt, tt, tt, tt, tt, tt, tt, tt, tt, tt, tt, tt, tt, tt, tt, tt, tt, tt, ff] 7 false 28 hb84 (fun _ hq => p0 31 (.tmp 43) (.const (.bool false)) (.bool false) hb87) ?_
        refine Dtl 24 45 4 _ [tt, tt, tt, tt, tt, tt, tt, tt, tt, tt, tt, tt, tt, tt, tt, tt, tt, tt, tt, tt, tt, tt, tt, tt, tt] (fun _ hq => p0 28 (.const (.bool true)) (.tmp 44) (.bool false) hb84) ?_
        obtain rfl := some_inj h101
        exact DWP.done (by kernel_rfl) ⟨F6, hs81, le82, e34, e35, e36, rfl⟩
     ·rintro f w52 ⟨F5, hs53, le54, e56, e57, e58, e59⟩
      refine thenQ_nrm ?_
      refine CWP.cond (t := j55) (by kernel_rfl) e59 (fun hb102 => ?_) (fun hb102 => ?_)
      ·have h103 := cond_t h61 hb102
       refine Sq (Rg [0] ?_)
       refine V 2 4 (mc (.bool false) (.bool false)) ?_
       refine Nt ?_
       refine CWP.ret (by kernel_rfl) ?_
       refine blockQ_ret ?_
       refine thenQ_ret ?_
       refine thenQ_ret ?_
       refine blockQ_ret ?_
       have hret := iter_ret h103 hnx47
       subst hret
       refine .inr ?_
       refine thenQ_ret ?_
       have hfin := some_inj h29
       subst hfin
       exact ⟨e56, (.bool false), res_of (l := [.tmp 2]) (by kernel_rfl) (vs := [(.bool false)]) ⟨rfl, trivial⟩, (.bool false), F5, rfl, hs53.clear, rfl⟩
      ·have h104 := cond_f h61 hb102
       refine Sc ?_
       refine blockQ_nrm ?_
       refine thenQ_nrm ?_
       refine Rg [0, 1, 2] ?_
       refine V 19 3 (mv 3 (vi s30) e58) ?_
       refine V 20 3 (run_add (t := 3) (t' := 3) (x := (.tmp 19)) (y := (.const (vi 1))) (k := .i64) (a := s30) (b := 1) rfl rfl) ?_
       refine V 3 3 (ma 20 (vi (W64 (s30 + 1)))) ?_
       refine RWP.nil ?_
       have hn105 := iter_next h104 hnx47
       exact ⟨m44, Nat.lt_succ_self _, (W64 (s30 + 1)), F5, hn105, hs53, (le33.trans le54), e56, e57, rfl⟩
    ·have h106 := cond_f hb46 hb48
     refine CWP.exit (by kernel_rfl) ?_
     refine thenQ_ex ?_
     refine thenQ_ex ?_
     refine blockQ_hit rfl ?_
     have hs107 : HS w0 F0 w31 F3 [] := hs32.drop 0
     have ho108 := iter_done h106 hnx47
     exact .inl ⟨rfl, s30, F3, ho108, hs107, le33, e34⟩
   ·rintro f w38 ⟨s37, F4, rfl, hs39, le40, e41⟩
    have h109 := k_done h29
    refine thenQ_nrm ?_
    refine Sq (Rg [0] ?_)
    refine V 2 4 (mc (.bool true) (.bool true)) ?_
    refine Nt ?_
    refine CWP.ret (by kernel_rfl) ?_
    have hfin := some_inj h109
    subst hfin
    exact ⟨e41, (.bool true), res_of (l := [.tmp 2]) (by kernel_rfl) (vs := [(.bool true)]) ⟨rfl, trivial⟩, (.bool true), F4, rfl, hs39.clear, rfl⟩
end Go.Proofs.Ythbcnabeabcmlaa
namespace Go.Proofs.Ythbcnabeabcmlaa
open Go.Proofs
def ref03_Has (N : Nat) (x0 : System) (x1 : Ref) : Option Bool :=
 (((ref03_within N x1.Log 0 (W64 ((x0.Tracks.length : Int) - 1))).bind fun r17 => (bif r17 then ((idx x0.Tracks x1.Log).bind fun x27 => ((ref03_within N x1.Line 0 (W64 ((x27.Times.length : Int) - 1))).bind fun r41 => some r41)) else some false)).bind fun j12 => some j12)
theorem co_ref03_Has : CallOk Try.prog 85 := fun _ _ => by kernel_rfl
set_option maxHeartbeats 4000000 in
set_option maxRecDepth 100000 in
theorem c_ref03_Has (N : Nat) (w0 : World) (F0 : Mem) (hF : ∀ b o, F0 b = some o → w0.heap[b]? = some o) (x0 : System) (a0_0 : Option Addr) (n0_0 : Nat) (hb0_0 : LC x0.Tracks.length n0_0) (hs0_0 : SlA tTrack F0 a0_0 x0.Tracks) (a0_1 : Option Addr) (n0_1 : Nat) (hb0_1 : LC x0.Ties.length n0_1) (hs0_1 : SlA tTie F0 a0_1 x0.Ties) (x1 : Ref) (r : Bool) (h : ref03_Has N x0 x1 = some r) :
  Calls Try.prog 85 ([(.agg (kSystem x0 a0_0 n0_0 a0_1 n0_1)), (.agg (kRef x1))] : List Value).toArray w0 (FRet w0 F0 fun F' v => v = (.bool r)) := by
 have hs0 := HS.start hF
 refine calls_of (n := 26) (c := bodyOf Try.f85) Try.func85 (by kernel_rfl) (by kernel_rfl) (by kernel_rfl) ?_
 refine Sq (Rg [0, 1, 2] ?_)
 refine Bx 2 0 0 25 (kSystem x0 a0_0 n0_0 a0_1 n0_1) hs0 (fun b1 w2 (hs3 : HS w0 F0 w2 F0 [(sb b1 (kSystem x0 a0_0 n0_0 a0_1 n0_1) 25)]) => ?_)
 refine Bx 3 0 1 27 (kRef x1) hs3 (fun b4 w5 (hs6 : HS w0 F0 w5 F0 [(sb b4 (kRef x1) 27), (sb b1 (kSystem x0 a0_0 n0_0 a0_1 n0_1) 25)]) => ?_)
 refine V 4 4 (mc (.bool false) (.bool false)) ?_
 refine Nss ?_
 obtain ⟨j12, hj15, h16⟩ := bind_some h
 refine CWP.regionD (by kernel_rfl) (by kernel_rfl) (by kernel_rfl) (by kernel_rfl) (z := 22) (F := F0) (Lc := [(sb b4 (kRef x1) 27), (sb b1 (kSystem x0 a0_0 n0_0 a0_1 n0_1) 25)]) (Lz := []) (l := [false, false, false, false, false, false, false, false, false, false, false, false, false, false, false, false, false, false, false, false, false, false]) (fuel := 22) (by kernel_rfl) (by kernel_rfl) hs6 (by simp) (by simp) (fun f w => ∃ (F1 : Mem), HS w0 F0 w F1 [] ∧ Mem.le F0 F1 ∧ f.d = [] ∧ f 4 = (.bool j12)) (fun wd7 hw8 => ?_) ?_
 ·refine Dtl 0 5 0 (.pointer (some ⟨b4, 0, none⟩)) [tt, ff, ff, ff, ff, ff, ff, ff, ff, ff, ff, ff, ff, ff, ff, ff, ff, ff, ff, ff, ff, ff] (fun _ hq => fa 27 3 0 0 1 b4 0 0) ?_
  refine Dtl 1 6 3 _ [tt, tt, ff, ff, ff, ff, ff, ff, ff, ff, ff, ff, ff, ff, ff, ff, ff, ff, ff, ff, ff, ff] (fun _ hq => ld 3 5 b4 0 false 1 (vi x1.Log) (hq.1.2 0 _ _ rfl)) ?_
  refine Dtl 2 7 0 (.pointer (some ⟨b1, 0, none⟩)) [tt, tt, tt, ff, ff, ff, ff, ff, ff, ff, ff, ff, ff, ff, ff, ff, ff, ff, ff, ff, ff, ff] (fun _ hq => fa 25 2 0 0 1 b1 0 0) ?_
  refine Dtl 3 8 22 _ [tt, tt, tt, tt, ff, ff, ff, ff, ff, ff, ff, ff, ff, ff, ff, ff, ff, ff, ff, ff, ff, ff] (fun _ hq => ld 22 7 b1 0 false 1 (.slice a0_0 x0.Tracks.length n0_0) (hq.1.2 1 _ _ rfl)) ?_
  refine Dtl 4 9 3 (vi (x0.Tracks.length : Int)) [tt, tt, tt, tt, tt, ff, ff, ff, ff, ff, ff, ff, ff, ff, ff, ff, ff, ff, ff, ff, ff, ff] (fun _ hq => ln 8 22 a0_0 x0.Tracks.length n0_0 54 4 64) ?_
  refine Dtl 5 10 3 (vi (W64 ((x0.Tracks.length : Int) - 1))) [tt, tt, tt, tt, tt, tt, ff, ff, ff, ff, ff, ff, ff, ff, ff, ff, ff, ff, ff, ff, ff, ff] (fun _ hq => run_sub (t := 3) (t' := 3) (x := (.tmp 9)) (y := (.const (vi 1))) (k := .i64) (a := (x0.Tracks.length : Int)) (b := 1) rfl rfl) ?_
  refine DWP.one (i := 6) (by kernel_rfl) ?_
  obtain ⟨r17, hr18, h19⟩ := bind_some hj15
  refine DStep.call (l' := [true, true, true, true, true, true, true, false, false, false, false, false, false, false, false, false, false, false, false, false, false, false]) (zd := true) (by kernel_rfl) (by kernel_rfl) (by kernel_rfl) (dst := (some 11)) (ty := 4) (g := none) (by kernel_rfl) rfl (f0 := (.func 83)) (aos := #[(.tmp 6), (.const (vi 0)), (.tmp 10)]) (ats := #[3, 3, 3]) (fid := 83) (first := #[]) (cap := #[]) (args := [(vi x1.Log), (vi 0), (vi (W64 ((x0.Tracks.length : Int) - 1)))]) rfl co_ref03_within (rfl) hw8 (c_ref03_within N wd7 F0 hw8.pers (x1.Log) (0) ((W64 ((x0.Tracks.length : Int) - 1))) _ hr18) ?_
  intro v20 F2 w21 hs22 le23 hp24
  obtain rfl := hp24
  refine Dtl 7 12 4 _ [tt, tt, tt, tt, tt, tt, tt, tt, ff, ff, ff, ff, ff, ff, ff, ff, ff, ff, ff, ff, ff, ff] (fun _ hq => mv 11 (.bool r17)) ?_
  refine DWP.split r17 (fun hb25 => ?_) (fun hb25 => ?_)
  ·have h26 := cond_t h19 hb25
   refine Dgl 8 13 0 (.pointer (some ⟨b4, 1, none⟩)) [tt, tt, tt, tt, tt, tt, tt, tt, tt, ff, ff, ff, ff, ff, ff, ff, ff, ff, ff, ff, ff, ff] 7 true 12 hb25 (fun _ hq => fa 27 3 1 1 1 b4 0 1) ?_
   refine Dgl 9 14 3 _ [tt, tt, tt, tt, tt, tt, tt, tt, tt, tt, ff, ff, ff, ff, ff, ff, ff, ff, ff, ff, ff, ff] 7 true 12 hb25 (fun _ hq => ld 3 13 b4 1 false 1 (vi x1.Line) (hq.1.2 0 _ _ rfl)) ?_
   refine Dgl 10 15 0 (.pointer (some ⟨b1, 0, none⟩)) [tt, tt, tt, tt, tt, tt, tt, tt, tt, tt, tt, ff, ff, ff, ff, ff, ff, ff, ff, ff, ff, ff] 7 true 12 hb25 (fun _ hq => fa 25 2 0 0 1 b1 0 0) ?_
   refine Dgl 11 16 22 _ [tt, tt, tt, tt, tt, tt, tt, tt, tt, tt, tt, tt, ff, ff, ff, ff, ff, ff, ff, ff, ff, ff] 7 true 12 hb25 (fun _ hq => ld 22 15 b1 0 false 1 (.slice a0_0 x0.Tracks.length n0_0) (hq.1.2 1 _ _ rfl)) ?_
   refine Dgl 12 17 0 (.pointer (some ⟨b4, 0, none⟩)) [tt, tt, tt, tt, tt, tt, tt, tt, tt, tt, tt, tt, tt, ff, ff, ff, ff, ff, ff, ff, ff, ff] 7 true 12 hb25 (fun _ hq => fa 27 3 0 0 1 b4 0 0) ?_
   refine Dgl 13 18 3 _ [tt, tt, tt, tt, tt, tt, tt, tt, tt, tt, tt, tt, tt, tt, ff, ff, ff, ff, ff, ff, ff, ff] 7 true 12 hb25 (fun _ hq => ld 3 17 b4 0 false 1 (vi x1.Log) (hq.1.2 0 _ _ rfl)) ?_
   obtain ⟨x27, hx28, h30⟩ := bind_some h26
   obtain ⟨hi29, hx28'⟩ := idx_spec hx28
   obtain ⟨b31, o32, C33, E34, fz35, rfl, hF37, hE38⟩ := SlA.open hs0_0 hx28'
   obtain ⟨ae39_2, ne39_2, ae39_3, ne39_3, hc40, hbe39_2, hse39_2, hbe39_3, hse39_3⟩ := hE38 _ _ hx28'
   refine Dgl 14 19 0 (.pointer (some ⟨b31, (o32 + (x1.Log : Int).toNat * 4), none⟩)) [tt, tt, tt, tt, tt, tt, tt, tt, tt, tt, tt, tt, tt, tt, tt, ff, ff, ff, ff, ff, ff, ff] 7 true 12 hb25 (fun _ hq => ix 22 16 18 b31 o32 54 4 64 hi29) ?_
   refine Dgl 15 20 0 (.pointer (some ⟨b31, ((o32 + (x1.Log : Int).toNat * 4) + 3), none⟩)) [tt, tt, tt, tt, tt, tt, tt, tt, tt, tt, tt, tt, tt, tt, tt, tt, ff, ff, ff, ff, ff, ff] 7 true 12 hb25 (fun _ hq => fa 54 19 1 3 1 b31 (o32 + (x1.Log : Int).toNat * 4) ((o32 + (x1.Log : Int).toNat * 4) + 3)) ?_
   refine Dgl 16 21 50 _ [tt, tt, tt, tt, tt, tt, tt, tt, tt, tt, tt, tt, tt, tt, tt, tt, tt, ff, ff, ff, ff, ff] 7 true 12 hb25 (fun _ hq => lx 50 20 3 4 false 1 (.slice ae39_3 x27.Times.length ne39_3) (hq.1.1 _ _ hF37) hc40) ?_
   refine Dgl 17 22 3 (vi (x27.Times.length : Int)) [tt, tt, tt, tt, tt, tt, tt, tt, tt, tt, tt, tt, tt, tt, tt, tt, tt, tt, ff, ff, ff, ff] 7 true 12 hb25 (fun _ hq => ln 21 50 ae39_3 x27.Times.length ne39_3 3 1 8) ?_
   refine Dgl 18 23 3 (vi (W64 ((x27.Times.length : Int) - 1))) [tt, tt, tt, tt, tt, tt, tt, tt, tt, tt, tt, tt, tt, tt, tt, tt, tt, tt, tt, ff, ff, ff] 7 true 12 hb25 (fun _ hq => run_sub (t := 3) (t' := 3) (x := (.tmp 22)) (y := (.const (vi 1))) (k := .i64) (a := (x27.Times.length : Int)) (b := 1) rfl rfl) ?_
   refine DWP.one (i := 19) (by kernel_rfl) ?_
   obtain ⟨r41, hr42, h43⟩ := bind_some h30
   refine DStep.call (l' := [true, true, true, true, true, true, true, true, true, true, true, true, true, true, true, true, true, true, true, true, false, false]) (zd := true) (by kernel_rfl) (by kernel_rfl) (by kernel_rfl) (dst := (some 24)) (ty := 4) (g := (some (7, true))) (by kernel_rfl) (gd_y (d := 12) (by kernel_rfl) rfl hb25) (f0 := (.func 83)) (aos := #[(.tmp 14), (.const (vi 0)), (.tmp 23)]) (ats := #[3, 3, 3]) (fid := 83) (first := #[]) (cap := #[]) (args := [(vi x1.Line), (vi 0), (vi (W64 ((x27.Times.length : Int) - 1)))]) rfl co_ref03_within (rfl) hs22 (c_ref03_within N w21 F2 hs22.pers (x1.Line) (0) ((W64 ((x27.Times.length : Int) - 1))) _ hr42) ?_
   intro v44 F3 w45 hs46 le47 hp48
   obtain rfl := hp48
   refine Dtl 20 25 4 _ [tt, tt, tt, tt, tt, tt, tt, tt, tt, tt, tt, tt, tt, tt, tt, tt, tt, tt, tt, tt, tt, ff] (fun _ hq => p1 12 (.tmp 24) (.const (.bool false)) (.bool r41) hb25) ?_
   refine Dtl 21 4 4 _ [tt, tt, tt, tt, tt, tt, tt, tt, tt, tt, tt, tt, tt, tt, tt, tt, tt, tt, tt, tt, tt, tt] (fun _ hq => ma 25 (.bool r41)) ?_
   obtain rfl := some_inj h43
   have hs49 : HS w0 F0 w45 F3 [(sb b1 (kSystem x0 (some ⟨b31, o32, none⟩) n0_0 a0_1 n0_1) 25)] := hs46.drop 0
   have hs50 : HS w0 F0 w45 F3 [] := hs49.drop 0
   exact DWP.done (by kernel_rfl) ⟨F3, hs50, (le23.trans le47), rfl, rfl⟩
  ·have h51 := cond_f h19 hb25
   refine Dkl [(8, 13), (9, 14), (10, 15), (11, 16), (12, 17), (13, 18)] 7 true 12 hb25 [tt, tt, tt, tt, tt, tt, tt, tt, tt, tt, tt, tt, tt, tt, ff, ff, ff, ff, ff, ff, ff, ff] ?_
   refine Dkl [(14, 19), (15, 20), (16, 21), (17, 22), (18, 23), (19, 24)] 7 true 12 hb25 [tt, tt, tt, tt, tt, tt, tt, tt, tt, tt, tt, tt, tt, tt, tt, tt, tt, tt, tt, tt, ff, ff] ?_
   refine Dtl 20 25 4 _ [tt, tt, tt, tt, tt, tt, tt, tt, tt, tt, tt, tt, tt, tt, tt, tt, tt, tt, tt, tt, tt, ff] (fun _ hq => p0 12 (.tmp 24) (.const (.bool false)) (.bool false) hb25) ?_
   refine Dtl 21 4 4 _ [tt, tt, tt, tt, tt, tt, tt, tt, tt, tt, tt, tt, tt, tt, tt, tt, tt, tt, tt, tt, tt, tt] (fun _ hq => ma 25 (.bool false)) ?_
   obtain rfl := some_inj h51
   have hs52 : HS w0 F0 w21 F2 [(sb b1 (kSystem x0 a0_0 n0_0 a0_1 n0_1) 25)] := hs22.drop 0
   have hs53 : HS w0 F0 w21 F2 [] := hs52.drop 0
   exact DWP.done (by kernel_rfl) ⟨F2, hs53, le23, rfl, rfl⟩
 ·rintro f w9 ⟨F1, hs10, le11, e13, e14⟩
  refine thenQ_nrm ?_
  refine CWP.ret (by kernel_rfl) ?_
  have hfin := some_inj h16
  subst hfin
  exact ⟨e13, (.bool j12), res_of (l := [.tmp 4]) (by kernel_rfl) (vs := [(.bool j12)]) ⟨e14, trivial⟩, (.bool j12), F1, rfl, hs10.clear, rfl⟩
end Go.Proofs.Ythbcnabeabcmlaa
namespace Go.Proofs.Ythbcnabeabcmlaa
open Go.Proofs
def ref03_Check_L0 (N : Nat) (x0 : System) : Int → Option (Flow Int Int) := fun s17 =>
 (bif (decide (s17 < (x0.Tracks.length : Int))) then ((idx x0.Tracks s17).bind fun x38 => ((ref03_ValidTrack N x38).bind fun r52 => (bif (!r52) then some (.ret 30) else some (.next (W64 (s17 + 1)))))) else some (.done s17))
def ref03_Check_L1 (N : Nat) (x0 : System) (s24 : Int) : Int → Option (Flow Int Int) := fun s70 =>
 (bif (decide (s70 < (x0.Ties.length : Int))) then ((idx x0.Ties s70).bind fun x91 => (((ref03_Has N x0 x91.A).bind fun r120 => (bif (!r120) then some true else ((ref03_Has N x0 x91.B).bind fun r132 => (bif (!r132) then some true else some (x91.A.Log == x91.B.Log))))).bind fun j113 => (bif j113 then some (.ret 30) else some (.next (W64 (s70 + 1)))))) else some (.done s70))
def ref03_Check (N : Nat) (x0 : System) : Option Int :=
 (bif ((decide ((x0.Tracks.length : Int) > 64)) || (decide ((x0.Ties.length : Int) > 400))) then some 2 else ((iter (ref03_Check_L0 N x0) N 0).bind fun o => o.k (fun r => some r) (fun s24 => ((iter (ref03_Check_L1 N x0 s24) N 0).bind fun o => o.k (fun r => some r) (fun s77 => ((ref03_within N x0.Window 0 120).bind fun r152 => (bif (!r152) then some 30 else some 0)))))))
theorem co_ref03_Check : CallOk Try.prog 40 := fun _ _ => by kernel_rfl
set_option maxHeartbeats 4000000 in
set_option maxRecDepth 100000 in
theorem c_ref03_Check (N : Nat) (w0 : World) (F0 : Mem) (hF : ∀ b o, F0 b = some o → w0.heap[b]? = some o) (x0 : System) (a0_0 : Option Addr) (n0_0 : Nat) (hb0_0 : LC x0.Tracks.length n0_0) (hs0_0 : SlA tTrack F0 a0_0 x0.Tracks) (a0_1 : Option Addr) (n0_1 : Nat) (hb0_1 : LC x0.Ties.length n0_1) (hs0_1 : SlA tTie F0 a0_1 x0.Ties) (r : Int) (h : ref03_Check N x0 = some r) :
  Calls Try.prog 40 ([(.agg (kSystem x0 a0_0 n0_0 a0_1 n0_1))] : List Value).toArray w0 (FRet w0 F0 fun F' v => v = (vi r)) := by
 have hs0 := HS.start hF
 refine calls_of (n := 67) (c := bodyOf Try.f40) Try.func40 (by kernel_rfl) (by kernel_rfl) (by kernel_rfl) ?_
 refine Sq (Rg [0, 1] ?_)
 refine Bx 1 0 0 25 (kSystem x0 a0_0 n0_0 a0_1 n0_1) hs0 (fun b1 w2 (hs3 : HS w0 F0 w2 F0 [(sb b1 (kSystem x0 a0_0 n0_0 a0_1 n0_1) 25)]) => ?_)
 refine V 2 30 (mc (vi 0) (vi 0)) ?_
 refine Nss ?_
 refine Sq (Rg [0, 1, 2, 3, 4, 5, 6, 7, 8, 9] ?_)
 refine RWP.cut (fun f w => ∃ (F1 : Mem), HS w0 F0 w F1 [(sb b1 (kSystem x0 a0_0 n0_0 a0_1 n0_1) 25)] ∧ Mem.le F0 F1 ∧ f.d = [] ∧ f 1 = (.pointer (some ⟨b1, 0, none⟩)) ∧ f 15 = (.bool ((decide ((x0.Tracks.length : Int) > 64)) || (decide ((x0.Ties.length : Int) > 400))))) ?_ ?_
 ·refine V 6 0 (fa 25 1 0 0 1 b1 0 0) ?_
  refine V 7 22 (ld 22 6 b1 0 false 1 (.slice a0_0 x0.Tracks.length n0_0) (hs3.ownAt (k := 0) rfl)) ?_
  refine V 8 3 (ln 7 22 a0_0 x0.Tracks.length n0_0 54 4 64) ?_
  refine V 9 4 (run_gtr (t := 3) (t' := 3) (x := (.tmp 8)) (y := (.const (vi 64))) (k := .i64) (a := (x0.Tracks.length : Int)) (b := 64) rfl rfl) ?_
  refine V 10 4 (mv 9 (.bool (decide ((x0.Tracks.length : Int) > 64)))) ?_
  refine RWP.split (decide ((x0.Tracks.length : Int) > 64)) (fun hb10 => ?_) (fun hb10 => ?_)
  ·refine Sk [11, 12, 13, 14] 4 false 10 hb10 ?_
   refine V 15 4 (p1 10 (.const (.bool true)) (.tmp 14) (.bool true) hb10) ?_
   exact RWP.nil ⟨rfl, F0, hs3, (Mem.le.refl _), rfl, rfl, (congrArg Value.bool (or_t hb10 (rfl)))⟩
  ·refine Vg 11 0 4 false 10 hb10 (fa 25 1 1 1 1 b1 0 1) ?_
   refine Vg 12 23 4 false 10 hb10 (ld 23 11 b1 1 false 1 (.slice a0_1 x0.Ties.length n0_1) (hs3.ownAt (k := 0) rfl)) ?_
   refine Vg 13 3 4 false 10 hb10 (ln 12 23 a0_1 x0.Ties.length n0_1 46 4 32) ?_
   refine Vg 14 4 4 false 10 hb10 (run_gtr (t := 3) (t' := 3) (x := (.tmp 13)) (y := (.const (vi 400))) (k := .i64) (a := (x0.Ties.length : Int)) (b := 400) rfl rfl) ?_
   refine V 15 4 (p0 10 (.const (.bool true)) (.tmp 14) (.bool (decide ((x0.Ties.length : Int) > 400))) hb10) ?_
   exact RWP.nil ⟨rfl, F0, hs3, (Mem.le.refl _), rfl, rfl, (congrArg Value.bool (or_f hb10 (rfl)))⟩
 ·rintro f w4 ⟨F1, hs5, le6, e7, e8, e9⟩
  refine thenQ_nrm ?_
  refine CWP.cond (t := ((decide ((x0.Tracks.length : Int) > 64)) || (decide ((x0.Ties.length : Int) > 400)))) (by kernel_rfl) e9 (fun hb11 => ?_) (fun hb11 => ?_)
  ·have h12 := cond_t h hb11
   refine Sq (Rg [0] ?_)
   refine V 2 30 (mc (vi 2) (vi 2)) ?_
   refine Nt ?_
   refine CWP.ret (by kernel_rfl) ?_
   refine thenQ_ret ?_
   have hfin := some_inj h12
   subst hfin
   exact ⟨e7, (vi 2), res_of (l := [.tmp 2]) (by kernel_rfl) (vs := [(vi 2)]) ⟨rfl, trivial⟩, (vi 2), F1, rfl, hs5.clear, rfl⟩
  ·have h13 := cond_f h hb11
   refine Sc ?_
   refine thenQ_nrm ?_
   refine Sq ?_
   refine Sq (Rg [0] ?_)
   refine V 3 3 (mc (vi 0) (vi 0)) ?_
   refine Nt ?_
   obtain ⟨o14, ho15, h16⟩ := bind_some h13
   refine CWP.cut (fun f w => ∃ (s24 : Int) (F3 : Mem), o14 = .done s24 ∧ HS w0 F0 w F3 [(sb b1 (kSystem x0 a0_0 n0_0 a0_1 n0_1) 25)] ∧ Mem.le F1 F3 ∧ f.d = [] ∧ f 1 = (.pointer (some ⟨b1, 0, none⟩))) ?_ ?_
   ·refine Bk ?_
    refine CWP.loop (by kernel_rfl) (fun m f w => ∃ (s17 : Int) (F2 : Mem), iter (ref03_Check_L0 N x0) m s17 = some o14 ∧ HS w0 F0 w F2 [(sb b1 (kSystem x0 a0_0 n0_0 a0_1 n0_1) 25)] ∧ Mem.le F1 F2 ∧ f.d = [] ∧ f 1 = (.pointer (some ⟨b1, 0, none⟩)) ∧ f 3 = (vi s17)) N ⟨0, F1, ho15, hs5, (Mem.le.refl _), e7, e8, rfl⟩ ?_
    rintro m30 f w18 ⟨s17, F2, hit31, hs19, le20, e21, e22, e23⟩
    obtain ⟨m32, fl33, rfl, hb34, hnx35⟩ := iter_step hit31
    refine Sq ?_
    refine Sq (Rg [0, 1, 2, 3, 4] ?_)
    refine V 16 3 (mv 3 (vi s17) e23) ?_
    refine V 17 0 (fa 25 1 0 0 1 b1 0 0 e22) ?_
    refine V 18 22 (ld 22 17 b1 0 false 1 (.slice a0_0 x0.Tracks.length n0_0) (hs19.ownAt (k := 0) rfl)) ?_
    refine V 19 3 (ln 18 22 a0_0 x0.Tracks.length n0_0 54 4 64) ?_
    refine V 20 4 (run_lss (t := 3) (t' := 3) (x := (.tmp 16)) (y := (.tmp 19)) (k := .i64) (a := s17) (b := (x0.Tracks.length : Int)) rfl rfl) ?_
    refine Nt ?_
    refine CWP.cond (t := (decide (s17 < (x0.Tracks.length : Int)))) (by kernel_rfl) rfl (fun hb36 => ?_) (fun hb36 => ?_)
    ·have h37 := cond_t hb34 hb36
     refine Sc ?_
     refine thenQ_nrm ?_
     refine Sq ?_
     refine Bk ?_
     refine Sq (Rg [0, 1, 2, 3, 4, 5, 6] ?_)
     refine V 23 0 (fa 25 1 0 0 1 b1 0 0 e22) ?_
     refine V 24 22 (ld 22 23 b1 0 false 1 (.slice a0_0 x0.Tracks.length n0_0) (hs19.ownAt (k := 0) rfl)) ?_
     refine V 25 3 (mv 3 (vi s17) e23) ?_
     obtain ⟨x38, hx39, h41⟩ := bind_some h37
     obtain ⟨hi40, hx39'⟩ := idx_spec hx39
     obtain ⟨b42, o43, C44, E45, fz46, rfl, hF48, hE49⟩ := SlA.open (SlA.mono hs0_0 (le6.trans le20)) hx39'
     obtain ⟨ae50_2, ne50_2, ae50_3, ne50_3, hc51, hbe50_2, hse50_2, hbe50_3, hse50_3⟩ := hE49 _ _ hx39'
     refine V 26 0 (ix 22 24 25 b42 o43 54 4 64 hi40) ?_
     refine V 27 54 (lx 54 26 0 4 true 4 (.agg (kTrack x38 ae50_2 ne50_2 ae50_3 ne50_3)) (hs19.pers _ _ hF48) hc51) ?_
     obtain ⟨r52, hr53, h54⟩ := bind_some h41
     refine Cl 28 4 39 #[(.tmp 27)] #[54] co_ref03_ValidTrack hs19 (c_ref03_ValidTrack N w18 F2 hs19.pers (x38) ae50_2 ne50_2 hbe50_2 hse50_2 ae50_3 ne50_3 hbe50_3 hse50_3 _ hr53) ?_
     intro v55 F4 w56 hs57 le58 hp59
     obtain rfl := hp59
     refine V 29 4 (run_not (t := 4) (x := (.tmp 28)) (a := r52) rfl) ?_
     refine Nt ?_
     refine CWP.cond (t := (!r52)) (by kernel_rfl) rfl (fun hb60 => ?_) (fun hb60 => ?_)
     ·have h61 := cond_t h54 hb60
      refine Sq (Rg [0] ?_)
      refine V 2 30 (mc (vi 30) (vi 30)) ?_
      refine Nt ?_
      refine CWP.ret (by kernel_rfl) ?_
      refine blockQ_ret ?_
      refine thenQ_ret ?_
      refine thenQ_ret ?_
      refine blockQ_ret ?_
      have hret := iter_ret h61 hnx35
      subst hret
      refine .inr ?_
      refine thenQ_ret ?_
      have hfin := some_inj h16
      subst hfin
      exact ⟨e21, (vi 30), res_of (l := [.tmp 2]) (by kernel_rfl) (vs := [(vi 30)]) ⟨rfl, trivial⟩, (vi 30), F4, rfl, hs57.clear, rfl⟩
     ·have h62 := cond_f h54 hb60
      refine Sc ?_
      refine blockQ_nrm ?_
      refine thenQ_nrm ?_
      refine Rg [0, 1, 2] ?_
      refine V 21 3 (mv 3 (vi s17) e23) ?_
      refine V 22 3 (run_add (t := 3) (t' := 3) (x := (.tmp 21)) (y := (.const (vi 1))) (k := .i64) (a := s17) (b := 1) rfl rfl) ?_
      refine V 3 3 (ma 22 (vi (W64 (s17 + 1)))) ?_
      refine RWP.nil ?_
      have hn63 := iter_next h62 hnx35
      exact ⟨m32, Nat.lt_succ_self _, (W64 (s17 + 1)), F4, hn63, hs57, (le20.trans le58), e21, e22, rfl⟩
    ·have h64 := cond_f hb34 hb36
     refine CWP.exit (by kernel_rfl) ?_
     refine thenQ_ex ?_
     refine thenQ_ex ?_
     refine blockQ_hit rfl ?_
     have ho65 := iter_done h64 hnx35
     exact .inl ⟨rfl, s17, F2, ho65, hs19, le20, e21, e22⟩
   ·rintro f w25 ⟨s24, F3, rfl, hs26, le27, e28, e29⟩
    have h66 := k_done h16
    refine thenQ_nrm ?_
    refine Sq ?_
    refine Sq (Rg [0] ?_)
    refine V 4 3 (mc (vi 0) (vi 0)) ?_
    refine Nt ?_
    obtain ⟨o67, ho68, h69⟩ := bind_some h66
    refine CWP.cut (fun f w => ∃ (s77 : Int) (F6 : Mem), o67 = .done s77 ∧ HS w0 F0 w F6 [(sb b1 (kSystem x0 a0_0 n0_0 a0_1 n0_1) 25)] ∧ Mem.le F3 F6 ∧ f.d = [] ∧ f 1 = (.pointer (some ⟨b1, 0, none⟩))) ?_ ?_
    ·refine Bk ?_
     refine CWP.loop (by kernel_rfl) (fun m f w => ∃ (s70 : Int) (F5 : Mem), iter (ref03_Check_L1 N x0 s24) m s70 = some o67 ∧ HS w0 F0 w F5 [(sb b1 (kSystem x0 a0_0 n0_0 a0_1 n0_1) 25)] ∧ Mem.le F3 F5 ∧ f.d = [] ∧ f 1 = (.pointer (some ⟨b1, 0, none⟩)) ∧ f 4 = (vi s70)) N ⟨0, F3, ho68, hs26, (Mem.le.refl _), e28, e29, rfl⟩ ?_
     rintro m83 f w71 ⟨s70, F5, hit84, hs72, le73, e74, e75, e76⟩
     obtain ⟨m85, fl86, rfl, hb87, hnx88⟩ := iter_step hit84
     refine Sq ?_
     refine Sq (Rg [0, 1, 2, 3, 4] ?_)
     refine V 30 3 (mv 4 (vi s70) e76) ?_
     refine V 31 0 (fa 25 1 1 1 1 b1 0 1 e75) ?_
     refine V 32 23 (ld 23 31 b1 1 false 1 (.slice a0_1 x0.Ties.length n0_1) (hs72.ownAt (k := 0) rfl)) ?_
     refine V 33 3 (ln 32 23 a0_1 x0.Ties.length n0_1 46 4 32) ?_
     refine V 34 4 (run_lss (t := 3) (t' := 3) (x := (.tmp 30)) (y := (.tmp 33)) (k := .i64) (a := s70) (b := (x0.Ties.length : Int)) rfl rfl) ?_
     refine Nt ?_
     refine CWP.cond (t := (decide (s70 < (x0.Ties.length : Int)))) (by kernel_rfl) rfl (fun hb89 => ?_) (fun hb89 => ?_)
     ·have h90 := cond_t hb87 hb89
      refine Sc ?_
      refine thenQ_nrm ?_
      refine Sq ?_
      refine Bk ?_
      refine Sq (Rg [0, 1, 2, 3, 4, 5, 6] ?_)
      refine V 37 0 (fa 25 1 1 1 1 b1 0 1 e75) ?_
      refine V 38 23 (ld 23 37 b1 1 false 1 (.slice a0_1 x0.Ties.length n0_1) (hs72.ownAt (k := 0) rfl)) ?_
      refine V 39 3 (mv 4 (vi s70) e76) ?_
      obtain ⟨x91, hx92, h94⟩ := bind_some h90
      obtain ⟨hi93, hx92'⟩ := idx_spec hx92
      obtain ⟨b95, o96, C97, E98, fz99, rfl, hF101, hE102⟩ := SlA.open (SlA.mono hs0_1 ((le6.trans le27).trans le73)) hx92'
      have hc104 := hE102 _ _ hx92'
      refine V 40 0 (ix 23 38 39 b95 o96 46 4 32 hi93) ?_
      refine V 41 46 (lx 46 40 0 4 true 4 (.agg (kTie x91)) (hs72.pers _ _ hF101) hc104) ?_
      refine Al 5 0 46 #[(vi 0), (vi 0), (vi 0), (vi 0)] hs72 (fun b105 w106 (hs107 : HS w0 F0 w106 F5 [(sb b105 #[(vi 0), (vi 0), (vi 0), (vi 0)] 46), (sb b1 (kSystem x0 a0_0 n0_0 (some ⟨b95, o96, none⟩) n0_1) 25)]) => ?_)
      refine RWP.store (ty := 0) (g := none) (by kernel_rfl) rfl (x := (.tmp 5)) (y := (.tmp 41)) (t := 46) (gg := true) (s := 4) (v := (.agg (kTie x91))) (b := b105) (o := 0) (C := #[(vi 0), (vi 0), (vi 0), (vi 0)]) rfl rfl (by kernel_rfl) hs107 (k := 0) rfl rfl rfl rfl (C' := (kTie x91)) rfl (fun w108 (hs109 : HS w0 F0 w108 F5 [(sb b105 (kTie x91) 46), (sb b1 (kSystem x0 a0_0 n0_0 (some ⟨b95, o96, none⟩) n0_1) 25)]) => ?_)
      refine Nss (Rg [0, 1, 2, 3, 4, 5, 6, 7, 8, 9, 10, 11, 12, 13, 14, 15, 16, 17, 18, 19, 20] ?_)
      obtain ⟨j113, hj118, h119⟩ := bind_some h94
      refine RWP.cut (fun f w => ∃ (F7 : Mem), HS w0 F0 w F7 [(sb b1 (kSystem x0 a0_0 n0_0 (some ⟨b95, o96, none⟩) n0_1) 25)] ∧ Mem.le F5 F7 ∧ f.d = [] ∧ f 1 = (.pointer (some ⟨b1, 0, none⟩)) ∧ f 4 = (vi s70) ∧ f 62 = (.bool j113)) ?_ ?_
      ·refine V 42 25 (ld 25 1 b1 0 true 3 (.agg (kSystem x0 a0_0 n0_0 (some ⟨b95, o96, none⟩) n0_1)) (hs109.ownAt (k := 1) rfl) e75) ?_
       refine V 43 0 (fa 46 5 0 0 2 b105 0 0) ?_
       refine V 44 27 (ld 27 43 b105 0 true 2 (.agg (kRef x91.A)) (hs109.ownAt (k := 0) rfl)) ?_
       obtain ⟨r120, hr121, h122⟩ := bind_some hj118
       refine Cl 45 4 85 #[(.tmp 42), (.tmp 44)] #[25, 27] co_ref03_Has hs109 (c_ref03_Has N w108 F5 hs109.pers (x0) a0_0 n0_0 hb0_0 (SlA.mono hs0_0 ((le6.trans le27).trans le73)) (some ⟨b95, o96, none⟩) n0_1 hb0_1 (SlA.mono hs0_1 ((le6.trans le27).trans le73)) (x91.A) _ hr121) ?_
       intro v123 F8 w124 hs125 le126 hp127
       obtain rfl := hp127
       refine V 46 4 (run_not (t := 4) (x := (.tmp 45)) (a := r120) rfl) ?_
       refine V 47 4 (mv 46 (.bool (!r120))) ?_
       refine RWP.split (!r120) (fun hb128 => ?_) (fun hb128 => ?_)
       ·have h129 := cond_t h122 hb128
        refine Sk [48, 49, 50, 51, 52] 5 false 47 hb128 ?_
        refine V 53 4 (p1 47 (.const (.bool true)) (.tmp 52) (.bool true) hb128) ?_
        refine V 54 4 (mv 53 (.bool true)) ?_
        refine Sk [55, 56, 57, 58, 59, 60, 61] 12 false 54 rfl ?_
        refine V 62 4 (p1 54 (.const (.bool true)) (.tmp 61) (.bool true) rfl) ?_
        obtain rfl := some_inj h129
        have hs130 : HS w0 F0 w124 F8 [(sb b1 (kSystem x0 a0_0 n0_0 (some ⟨b95, o96, none⟩) n0_1) 25)] := hs125.drop 0
        exact RWP.nil ⟨rfl, F8, hs130, le126, e74, e75, e76, rfl⟩
       ·have h131 := cond_f h122 hb128
        refine Vg 48 25 5 false 47 hb128 (ld 25 1 b1 0 true 3 (.agg (kSystem x0 a0_0 n0_0 (some ⟨b95, o96, none⟩) n0_1)) (hs125.ownAt (k := 1) rfl) e75) ?_
        refine Vg 49 0 5 false 47 hb128 (fa 46 5 1 2 2 b105 0 2) ?_
        refine Vg 50 27 5 false 47 hb128 (ld 27 49 b105 2 true 2 (.agg (kRef x91.B)) (hs125.ownAt (k := 0) rfl)) ?_
        obtain ⟨r132, hr133, h134⟩ := bind_some h131
        refine RWP.call (dst := (some 51)) (ty := 4) (g := (some (5, false))) (by kernel_rfl) (gd_y (d := 47) (by kernel_rfl) rfl hb128) (f0 := (.func 85)) (aos := #[(.tmp 48), (.tmp 50)]) (ats := #[25, 27]) (fid := 85) (first := #[]) (cap := #[]) (args := [(.agg (kSystem x0 a0_0 n0_0 (some ⟨b95, o96, none⟩) n0_1)), (.agg (kRef x91.B))]) rfl co_ref03_Has (rfl) hs125 (c_ref03_Has N w124 F8 hs125.pers (x0) a0_0 n0_0 hb0_0 (SlA.mono hs0_0 (((le6.trans le27).trans le73).trans le126)) (some ⟨b95, o96, none⟩) n0_1 hb0_1 (SlA.mono hs0_1 (((le6.trans le27).trans le73).trans le126)) (x91.B) _ hr133) ?_
        intro v135 F9 w136 hs137 le138 hp139
        obtain rfl := hp139
        refine Vg 52 4 5 false 47 hb128 (run_not (t := 4) (x := (.tmp 51)) (a := r132) rfl) ?_
        refine V 53 4 (p0 47 (.const (.bool true)) (.tmp 52) (.bool (!r132)) hb128) ?_
        refine V 54 4 (mv 53 (.bool (!r132))) ?_
        refine RWP.split (!r132) (fun hb140 => ?_) (fun hb140 => ?_)
        ·have h141 := cond_t h134 hb140
         refine Sk [55, 56, 57, 58, 59, 60, 61] 12 false 54 hb140 ?_
         refine V 62 4 (p1 54 (.const (.bool true)) (.tmp 61) (.bool true) hb140) ?_
         obtain rfl := some_inj h141
         have hs142 : HS w0 F0 w136 F9 [(sb b1 (kSystem x0 a0_0 n0_0 (some ⟨b95, o96, none⟩) n0_1) 25)] := hs137.drop 0
         exact RWP.nil ⟨rfl, F9, hs142, (le126.trans le138), e74, e75, e76, rfl⟩
        ·have h143 := cond_f h134 hb140
         refine Vg 55 0 12 false 54 hb140 (fa 46 5 0 0 2 b105 0 0) ?_
         refine Vg 56 0 12 false 54 hb140 (fa 27 55 0 0 1 b105 0 0) ?_
         refine Vg 57 3 12 false 54 hb140 (ld 3 56 b105 0 false 1 (vi x91.A.Log) (hs137.ownAt (k := 0) rfl)) ?_
         refine Vg 58 0 12 false 54 hb140 (fa 46 5 1 2 2 b105 0 2) ?_
         refine Vg 59 0 12 false 54 hb140 (fa 27 58 0 0 1 b105 2 2) ?_
         refine Vg 60 3 12 false 54 hb140 (ld 3 59 b105 2 false 1 (vi x91.B.Log) (hs137.ownAt (k := 0) rfl)) ?_
         refine Vg 61 4 12 false 54 hb140 (run_eql (t := 3) (t' := 3) (x := (.tmp 57)) (y := (.tmp 60)) (k := .i64) (a := x91.A.Log) (b := x91.B.Log) rfl rfl) ?_
         refine V 62 4 (p0 54 (.const (.bool true)) (.tmp 61) (.bool (x91.A.Log == x91.B.Log)) hb140) ?_
         obtain rfl := some_inj h143
         have hs144 : HS w0 F0 w136 F9 [(sb b1 (kSystem x0 a0_0 n0_0 (some ⟨b95, o96, none⟩) n0_1) 25)] := hs137.drop 0
         exact RWP.nil ⟨rfl, F9, hs144, (le126.trans le138), e74, e75, e76, rfl⟩
      ·rintro f w110 ⟨F7, hs111, le112, e114, e115, e116, e117⟩
       refine thenQ_nrm ?_
       refine CWP.cond (t := j113) (by kernel_rfl) e117 (fun hb145 => ?_) (fun hb145 => ?_)
       ·have h146 := cond_t h119 hb145
        refine Sq (Rg [0] ?_)
        refine V 2 30 (mc (vi 30) (vi 30)) ?_
        refine Nt ?_
        refine CWP.ret (by kernel_rfl) ?_
        refine blockQ_ret ?_
        refine thenQ_ret ?_
        refine thenQ_ret ?_
        refine blockQ_ret ?_
        have hret := iter_ret h146 hnx88
        subst hret
        refine .inr ?_
        refine thenQ_ret ?_
        have hfin := some_inj h69
        subst hfin
        exact ⟨e114, (vi 30), res_of (l := [.tmp 2]) (by kernel_rfl) (vs := [(vi 30)]) ⟨rfl, trivial⟩, (vi 30), F7, rfl, hs111.clear, rfl⟩
       ·have h147 := cond_f h119 hb145
        refine Sc ?_
        refine blockQ_nrm ?_
        refine thenQ_nrm ?_
        refine Rg [0, 1, 2] ?_
        refine V 35 3 (mv 4 (vi s70) e116) ?_
        refine V 36 3 (run_add (t := 3) (t' := 3) (x := (.tmp 35)) (y := (.const (vi 1))) (k := .i64) (a := s70) (b := 1) rfl rfl) ?_
        refine V 4 3 (ma 36 (vi (W64 (s70 + 1)))) ?_
        refine RWP.nil ?_
        have hn148 := iter_next h147 hnx88
        exact ⟨m85, Nat.lt_succ_self _, (W64 (s70 + 1)), F7, hn148, hs111, (le73.trans le112), e114, e115, rfl⟩
     ·have h149 := cond_f hb87 hb89
      refine CWP.exit (by kernel_rfl) ?_
      refine thenQ_ex ?_
      refine thenQ_ex ?_
      refine blockQ_hit rfl ?_
      have ho150 := iter_done h149 hnx88
      exact .inl ⟨rfl, s70, F5, ho150, hs72, le73, e74, e75⟩
    ·rintro f w78 ⟨s77, F6, rfl, hs79, le80, e81, e82⟩
     have h151 := k_done h69
     refine thenQ_nrm ?_
     refine Sq ?_
     refine Sq (Rg [0, 1, 2, 3] ?_)
     refine V 63 0 (fa 25 1 2 2 1 b1 0 2 e82) ?_
     refine V 64 3 (ld 3 63 b1 2 false 1 (vi x0.Window) (hs79.ownAt (k := 0) rfl)) ?_
     obtain ⟨r152, hr153, h154⟩ := bind_some h151
     refine Cl 65 4 83 #[(.tmp 64), (.const (vi 0)), (.const (vi 120))] #[3, 3, 3] co_ref03_within hs79 (c_ref03_within N w78 F6 hs79.pers (x0.Window) (0) (120) _ hr153) ?_
     intro v155 F10 w156 hs157 le158 hp159
     obtain rfl := hp159
     refine V 66 4 (run_not (t := 4) (x := (.tmp 65)) (a := r152) rfl) ?_
     refine Nt ?_
     refine CWP.cond (t := (!r152)) (by kernel_rfl) rfl (fun hb160 => ?_) (fun hb160 => ?_)
     ·have h161 := cond_t h154 hb160
      refine Sq (Rg [0] ?_)
      refine V 2 30 (mc (vi 30) (vi 30)) ?_
      refine Nt ?_
      refine CWP.ret (by kernel_rfl) ?_
      refine thenQ_ret ?_
      have hfin := some_inj h161
      subst hfin
      exact ⟨e81, (vi 30), res_of (l := [.tmp 2]) (by kernel_rfl) (vs := [(vi 30)]) ⟨rfl, trivial⟩, (vi 30), F10, rfl, hs157.clear, rfl⟩
     ·have h162 := cond_f h154 hb160
      refine Sc ?_
      refine thenQ_nrm ?_
      refine Sq (Rg [0] ?_)
      refine V 2 30 (mc (vi 0) (vi 0)) ?_
      refine Nt ?_
      refine CWP.ret (by kernel_rfl) ?_
      have hfin := some_inj h162
      subst hfin
      exact ⟨e81, (vi 0), res_of (l := [.tmp 2]) (by kernel_rfl) (vs := [(vi 0)]) ⟨rfl, trivial⟩, (vi 0), F10, rfl, hs157.clear, rfl⟩
end Go.Proofs.Ythbcnabeabcmlaa
namespace Go.Proofs.Ythbcnabeabcmlaa
theorem within_r (N : Nat) (a b c : Int) : ref03_within N a b c = some (inr a b c) := rfl
theorem loopCr {N : Nat} {c : Clock} (j : Bool) (h : Fit N c.Jumps.length) {i : Nat} (hi : i < c.Jumps.length) : ref03_ValidClock_L0 N c j (i : Int) = some (bif okO ltS c.Jumps i then .next ((i + 1 : Nat) : Int) else .ret false) := by
 unfold ref03_ValidClock_L0
 have h1 := h.1
 rw [lt_t hi, cond_true, idx_nat hi, Option.bind_some, within_r, Option.bind_some, W64_succ (by omega)]
 cases i with
 | zero =>
  simp only [okO, getD_at hi]
  cases inr c.Jumps[0] 0 20000 <;> simp
 | succ k =>
  have hk : k < c.Jumps.length := by omega
  simp only [okO, getD_at hi, getD_at hk]
  have hp : decide (((k + 1 : Nat) : Int) > 0) = true := by simp
  rw [hp, cond_true, pred_nat (by omega), idx_nat hk, Option.bind_some, Option.bind_some]
  cases inr c.Jumps[k + 1] 0 20000 <;> simp [ltS]
  by_cases hlt : c.Jumps[k + 1] ≤ c.Jumps[k]
  ·simp [hlt, Int.not_lt.2 hlt]
  ·simp [hlt, Int.not_le.1 hlt]
theorem validClock_r {N : Nat} {c : Clock} (h : Fit N c.Jumps.length) : ref03_ValidClock N c = some (vClock c) := by
 unfold ref03_ValidClock vClock
 rw [within_r, within_r]
 simp only [Option.bind_some]
 have hL : ∀ j, ((iter (ref03_ValidClock_L0 N c j) N 0).bind fun o => o.k (fun r => some r) (fun s48 => some true)) = some (allB c.Jumps.length (okO ltS c.Jumps)) := by
  intro j
  rw [iter_check' (okO ltS c.Jumps) false (fun i hi => loopCr j h hi) (by unfold ref03_ValidClock_L0; rw [lt_f]; rfl) h.2]
  cases allB c.Jumps.length (okO ltS c.Jumps) <;> rfl
 cases inr c.Slip 0 1440 with
 | false => simp
 | true =>
  cases inr c.Drift 0 100 with
  | false => simp
  | true =>
   by_cases h16 : (c.Jumps.length : Int) > 16
   ·simp [h16]
   ·simp only [h16, Bool.not_true, cond_false, Option.bind_some, decide_false, hL, Bool.true_and]
    have : decide ((c.Jumps.length : Int) ≤ 16) = true := by simp; omega
    rw [this]; simp
theorem loopTr {N : Nat} {t : Track} (j : Bool) (h : Fit N t.Times.length) {i : Nat} (hi : i < t.Times.length) : ref03_ValidTrack_L0 N t j (i : Int) = some (bif okO ltE t.Times i then .next ((i + 1 : Nat) : Int) else .ret false) := by
 unfold ref03_ValidTrack_L0
 have h1 := h.1
 rw [lt_t hi, cond_true, idx_nat hi, Option.bind_some, within_r, Option.bind_some, W64_succ (by omega)]
 cases i with
 | zero =>
  simp only [okO, getD_at hi]
  cases inr t.Times[0] 0 20000 <;> simp
 | succ k =>
  have hk : k < t.Times.length := by omega
  simp only [okO, getD_at hi, getD_at hk]
  have hp : decide (((k + 1 : Nat) : Int) > 0) = true := by simp
  rw [hp, cond_true, pred_nat (by omega), idx_nat hk, Option.bind_some, Option.bind_some]
  cases inr t.Times[k + 1] 0 20000 <;> simp [ltE]
  by_cases hlt : t.Times[k + 1] < t.Times[k]
  ·simp [hlt, Int.not_le.2 hlt]
  ·simp [hlt, Int.not_lt.1 hlt]
theorem validTrack_r {N : Nat} {t : Track} (h : FitT N t) : ref03_ValidTrack N t = some (vTrack t) := by
 unfold ref03_ValidTrack vTrack
 rw [validClock_r h.j]
 simp only [Option.bind_some]
 have hL : ∀ j, ((iter (ref03_ValidTrack_L0 N t j) N 0).bind fun o => o.k (fun r => some r) (fun s48 => some true)) = some (allB t.Times.length (okO ltE t.Times)) := by
  intro j
  rw [iter_check' (okO ltE t.Times) false (fun i hi => loopTr j h.t hi) (by unfold ref03_ValidTrack_L0; rw [lt_f]; rfl) h.t.2]
  cases allB t.Times.length (okO ltE t.Times) <;> rfl
 cases vClock t.Clock with
 | false => simp
 | true =>
  by_cases h16 : (t.Times.length : Int) > 400
  ·simp [h16]
  ·simp only [h16, Bool.not_true, cond_false, Option.bind_some, decide_false, hL, Bool.true_and]
   have : decide ((t.Times.length : Int) ≤ 400) = true := by simp; omega
   rw [this]; simp
theorem has_r {N : Nat} {s : System} (h : FitS N s) (r : Ref) : ref03_Has N s r = some (vHas s r) := has_aux h r _ (within_r N)
theorem check_r {N : Nat} {s : System} (h : FitS N s) : ref03_Check N s = some (vCheck s) := by
 unfold ref03_Check vCheck
 have hn := h.n.1
 have he := h.e.1
 cases (decide ((s.Tracks.length : Int) > 64) || decide ((s.Ties.length : Int) > 400)) with
 | true => rfl
 | false =>
  simp only [cond_false]
  rw [iter_check' (n := s.Tracks.length) (atB s.Tracks vTrack) 30 (fun i hi => by
   unfold ref03_Check_L0
   rw [lt_t hi, cond_true, idx_nat hi, Option.bind_some, validTrack_r (h.t _ (List.getElem_mem hi)), Option.bind_some, W64_succ (by omega), atB_at hi]
   cases vTrack s.Tracks[i] <;> rfl) (by unfold ref03_Check_L0; rw [lt_f]; rfl) h.n.2, ← all_allB]
  cases s.Tracks.all vTrack with
  | false => rfl
  | true =>
   simp only [cond_true]
   rw [iter_check' (n := s.Ties.length) (atB s.Ties (vTie s)) 30 (fun i hi => by
    unfold ref03_Check_L1
    rw [lt_t hi, cond_true, idx_nat hi, Option.bind_some, has_r h, has_r h, W64_succ (by omega), atB_at hi]
    simp only [Option.bind_some, vTie]
    cases vHas s s.Ties[i].A with
    | false => rfl
    | true =>
     cases vHas s s.Ties[i].B with
     | false => rfl
     | true =>
      simp only [Bool.not_true, cond_false, Option.bind_some, Bool.true_and, bne]
      cases (s.Ties[i].A.Log == s.Ties[i].B.Log) <;> rfl) (by unfold ref03_Check_L1; rw [lt_f]; rfl) h.e.2, ← all_allB]
   rw [within_r]
   cases s.Ties.all (vTie s) with
   | false => simp
   | true =>
    simp only [cond_true, Option.bind_some]
    cases inr s.Window 0 120 <;> simp
end Go.Proofs.Ythbcnabeabcmlaa
namespace Go.Proofs.Ythbcnabeabcmlaa
open Go.Proofs
end Go.Proofs.Ythbcnabeabcmlaa
namespace Go.Proofs.Ythbcnabeabcmlaa
open Go.Proofs
end Go.Proofs.Ythbcnabeabcmlaa
namespace Go.Proofs.Ythbcnabeabcmlaa
open Go.Proofs
end Go.Proofs.Ythbcnabeabcmlaa
namespace Go.Proofs.Ythbcnabeabcmlaa
open Go.Proofs
def ref03_Beginning (N : Nat)  : Option Ref :=
 some ({ Log := (-1), Line := 0 } : Ref)
theorem co_ref03_Beginning : CallOk Try.prog 109 := fun _ _ => by kernel_rfl
set_option maxHeartbeats 4000000 in
set_option maxRecDepth 100000 in
theorem c_ref03_Beginning (N : Nat) (w0 : World) (F0 : Mem) (hF : ∀ b o, F0 b = some o → w0.heap[b]? = some o)  (r : Ref) (h : ref03_Beginning N  = some r) :
  Calls Try.prog 109 ([] : List Value).toArray w0 (FRet w0 F0 fun F' v => v = (.agg (kRef r))) := by
 have hs0 := HS.start hF
 refine calls_of (n := 2) (c := bodyOf Try.f109) Try.func109 (by kernel_rfl) (by kernel_rfl) (by kernel_rfl) ?_
 refine Sq (Rg [0] ?_)
 refine Al 0 0 27 #[(vi 0), (vi 0)] hs0 (fun b1 w2 (hs3 : HS w0 F0 w2 F0 [(sb b1 #[(vi 0), (vi 0)] 27)]) => ?_)
 refine Nss (Rg [0, 1] ?_)
 refine V 1 27 (run_build2 (t := 27) (parts := #[(0, (.const (vi (-1)))), (1, (.const (vi 0)))]) (vs := [(0, (vi (-1))), (1, (vi 0))]) (rfl) (cs := [(vi (-1)), (vi 0)]) (by kernel_rfl)) ?_
 refine RWP.store (ty := 0) (g := none) (by kernel_rfl) rfl (x := (.tmp 0)) (y := (.tmp 1)) (t := 27) (gg := true) (s := 2) (v := (.agg #[(vi (-1)), (vi 0)])) (b := b1) (o := 0) (C := #[(vi 0), (vi 0)]) rfl rfl (by kernel_rfl) hs3 (k := 0) rfl rfl rfl rfl (C' := #[(vi (-1)), (vi 0)]) rfl (fun w4 (hs5 : HS w0 F0 w4 F0 [(sb b1 #[(vi (-1)), (vi 0)] 27)]) => ?_)
 refine Nt ?_
 refine CWP.ret (by kernel_rfl) ?_
 have hfin := some_inj h
 subst hfin
 exact ⟨rfl, (.agg #[(vi (-1)), (vi 0)]), res_of (l := [.cell 0 27]) (by kernel_rfl) (vs := [(.agg #[(vi (-1)), (vi 0)])]) ⟨b1, 0, rfl, run_loadVar' (t := 27) (g := true) (s := 2) (by kernel_rfl) (hs5.ownAt (k := 0) rfl) rfl (by decide), trivial⟩, (.agg #[(vi (-1)), (vi 0)]), F0, rfl, hs5.clear, rfl⟩
end Go.Proofs.Ythbcnabeabcmlaa
namespace Go.Proofs.Ythbcnabeabcmlaa
open Go.Proofs
def ref03_jumped_L0 (N : Nat) (x0 : Clock) (x1 : Int) (x2 : Int) : Int → Option (Flow Bool Int) := fun s7 =>
 (bif (decide (s7 < (x0.Jumps.length : Int))) then (((idx x0.Jumps s7).bind fun x41 => (bif (decide (x1 < x41)) then ((idx x0.Jumps s7).bind fun x57 => some (decide (x57 ≤ x2))) else some false)).bind fun j32 => (bif j32 then some (.ret true) else some (.next (W64 (s7 + 1))))) else some (.done s7))
def ref03_jumped (N : Nat) (x0 : Clock) (x1 : Int) (x2 : Int) : Option Bool :=
 ((iter (ref03_jumped_L0 N x0 x1 x2) N 0).bind fun o => o.k (fun r => some r) (fun s16 => some false))
theorem co_ref03_jumped : CallOk Try.prog 124 := fun _ _ => by kernel_rfl
set_option maxHeartbeats 4000000 in
set_option maxRecDepth 100000 in
theorem c_ref03_jumped (N : Nat) (w0 : World) (F0 : Mem) (hF : ∀ b o, F0 b = some o → w0.heap[b]? = some o) (x0 : Clock) (a0_2 : Option Addr) (n0_2 : Nat) (hb0_2 : LC x0.Jumps.length n0_2) (hs0_2 : SlA tInt F0 a0_2 x0.Jumps) (x1 : Int) (x2 : Int) (r : Bool) (h : ref03_jumped N x0 x1 x2 = some r) :
  Calls Try.prog 124 ([(.agg (kClock x0 a0_2 n0_2)), (vi x1), (vi x2)] : List Value).toArray w0 (FRet w0 F0 fun F' v => v = (.bool r)) := by
 have hs0 := HS.start hF
 refine calls_of (n := 31) (c := bodyOf Try.f124) Try.func124 (by kernel_rfl) (by kernel_rfl) (by kernel_rfl) ?_
 refine Sq (Rg [0, 1] ?_)
 refine Bx 3 0 0 52 (kClock x0 a0_2 n0_2) hs0 (fun b1 w2 (hs3 : HS w0 F0 w2 F0 [(sb b1 (kClock x0 a0_2 n0_2) 52)]) => ?_)
 refine V 6 4 (mc (.bool false) (.bool false)) ?_
 refine Nss ?_
 refine Sq (Rg [0] ?_)
 refine V 7 3 (mc (vi 0) (vi 0)) ?_
 refine Nt ?_
 obtain ⟨o4, ho5, h6⟩ := bind_some h
 refine CWP.cut (fun f w => ∃ (s16 : Int) (F2 : Mem), o4 = .done s16 ∧ HS w0 F0 w F2 [] ∧ Mem.le F0 F2 ∧ f.d = []) ?_ ?_
 ·refine Bk ?_
  refine CWP.loop (by kernel_rfl) (fun m f w => ∃ (s7 : Int) (F1 : Mem), iter (ref03_jumped_L0 N x0 x1 x2) m s7 = some o4 ∧ HS w0 F0 w F1 [(sb b1 (kClock x0 a0_2 n0_2) 52)] ∧ Mem.le F0 F1 ∧ f.d = [] ∧ f 1 = (vi x1) ∧ f 2 = (vi x2) ∧ f 3 = (.pointer (some ⟨b1, 0, none⟩)) ∧ f 7 = (vi s7)) N ⟨0, F0, ho5, hs3, (Mem.le.refl _), rfl, rfl, rfl, rfl, rfl⟩ ?_
  rintro m21 f w8 ⟨s7, F1, hit22, hs9, le10, e11, e12, e13, e14, e15⟩
  obtain ⟨m23, fl24, rfl, hb25, hnx26⟩ := iter_step hit22
  refine Sq ?_
  refine Sq (Rg [0, 1, 2, 3, 4] ?_)
  refine V 8 3 (mv 7 (vi s7) e15) ?_
  refine V 9 0 (fa 52 3 2 2 1 b1 0 2 e14) ?_
  refine V 10 50 (ld 50 9 b1 2 false 1 (.slice a0_2 x0.Jumps.length n0_2) (hs9.ownAt (k := 0) rfl)) ?_
  refine V 11 3 (ln 10 50 a0_2 x0.Jumps.length n0_2 3 1 8) ?_
  refine V 12 4 (run_lss (t := 3) (t' := 3) (x := (.tmp 8)) (y := (.tmp 11)) (k := .i64) (a := s7) (b := (x0.Jumps.length : Int)) rfl rfl) ?_
  refine Nt ?_
  refine CWP.cond (t := (decide (s7 < (x0.Jumps.length : Int)))) (by kernel_rfl) rfl (fun hb27 => ?_) (fun hb27 => ?_)
  ·have h28 := cond_t hb25 hb27
   refine Sc ?_
   refine thenQ_nrm ?_
   refine Sq ?_
   refine Bk ?_
   refine Sq (Rg [0, 1, 2, 3, 4, 5, 6, 7, 8, 9, 10, 11, 12, 13, 14, 15] ?_)
   obtain ⟨j32, hj39, h40⟩ := bind_some h28
   refine RWP.cut (fun f w => ∃ (F3 : Mem), HS w0 F0 w F3 [(sb b1 (kClock x0 a0_2 n0_2) 52)] ∧ Mem.le F1 F3 ∧ f.d = [] ∧ f 1 = (vi x1) ∧ f 2 = (vi x2) ∧ f 3 = (.pointer (some ⟨b1, 0, none⟩)) ∧ f 7 = (vi s7) ∧ f 30 = (.bool j32)) ?_ ?_
   ·refine V 15 3 (mv 1 (vi x1) e12) ?_
    refine V 16 0 (fa 52 3 2 2 1 b1 0 2 e14) ?_
    refine V 17 50 (ld 50 16 b1 2 false 1 (.slice a0_2 x0.Jumps.length n0_2) (hs9.ownAt (k := 0) rfl)) ?_
    refine V 18 3 (mv 7 (vi s7) e15) ?_
    obtain ⟨x41, hx42, h44⟩ := bind_some hj39
    obtain ⟨hi43, hx42'⟩ := idx_spec hx42
    obtain ⟨b45, o46, C47, E48, fz49, rfl, hF51, hE52⟩ := SlA.open (SlA.mono hs0_2 le10) hx42'
    have hc54 := hE52 _ _ hx42'
    refine V 19 0 (ix 50 17 18 b45 o46 3 1 8 hi43) ?_
    refine V 20 3 (lx 3 19 0 1 false 1 (vi x41) (hs9.pers _ _ hF51) hc54) ?_
    refine V 21 4 (run_lss (t := 3) (t' := 3) (x := (.tmp 15)) (y := (.tmp 20)) (k := .i64) (a := x1) (b := x41) rfl rfl) ?_
    refine V 22 4 (mv 21 (.bool (decide (x1 < x41)))) ?_
    refine RWP.split (decide (x1 < x41)) (fun hb55 => ?_) (fun hb55 => ?_)
    ·have h56 := cond_t h44 hb55
     refine Vg 23 0 7 true 22 hb55 (fa 52 3 2 2 1 b1 0 2 e14) ?_
     refine Vg 24 50 7 true 22 hb55 (ld 50 23 b1 2 false 1 (.slice (some ⟨b45, o46, none⟩) x0.Jumps.length n0_2) (hs9.ownAt (k := 0) rfl)) ?_
     refine Vg 25 3 7 true 22 hb55 (mv 7 (vi s7) e15) ?_
     obtain ⟨x57, hx58, h60⟩ := bind_some h56
     obtain ⟨hi59, hx58'⟩ := idx_spec hx58
     have hc62 := hE52 _ _ hx58'
     refine Vg 26 0 7 true 22 hb55 (ix 50 24 25 b45 o46 3 1 8 hi59) ?_
     refine Vg 27 3 7 true 22 hb55 (lx 3 26 0 1 false 1 (vi x57) (hs9.pers _ _ hF51) hc62) ?_
     refine Vg 28 3 7 true 22 hb55 (mv 2 (vi x2) e13) ?_
     refine Vg 29 4 7 true 22 hb55 (run_leq (t := 3) (t' := 3) (x := (.tmp 27)) (y := (.tmp 28)) (k := .i64) (a := x57) (b := x2) rfl rfl) ?_
     refine V 30 4 (p1 22 (.tmp 29) (.const (.bool false)) (.bool (decide (x57 ≤ x2))) hb55) ?_
     obtain rfl := some_inj h60
     exact RWP.nil ⟨rfl, F1, hs9, (Mem.le.refl _), e11, e12, e13, e14, e15, rfl⟩
    ·have h63 := cond_f h44 hb55
     refine Sk [23, 24, 25, 26, 27, 28, 29] 7 true 22 hb55 ?_
     refine V 30 4 (p0 22 (.tmp 29) (.const (.bool false)) (.bool false) hb55) ?_
     obtain rfl := some_inj h63
     exact RWP.nil ⟨rfl, F1, hs9, (Mem.le.refl _), e11, e12, e13, e14, e15, rfl⟩
   ·rintro f w29 ⟨F3, hs30, le31, e33, e34, e35, e36, e37, e38⟩
    refine thenQ_nrm ?_
    refine CWP.cond (t := j32) (by kernel_rfl) e38 (fun hb64 => ?_) (fun hb64 => ?_)
    ·have h65 := cond_t h40 hb64
     refine Sq (Rg [0] ?_)
     refine V 6 4 (mc (.bool true) (.bool true)) ?_
     refine Nt ?_
     refine CWP.ret (by kernel_rfl) ?_
     refine blockQ_ret ?_
     refine thenQ_ret ?_
     refine thenQ_ret ?_
     refine blockQ_ret ?_
     have hret := iter_ret h65 hnx26
     subst hret
     refine .inr ?_
     refine thenQ_ret ?_
     have hfin := some_inj h6
     subst hfin
     exact ⟨e33, (.bool true), res_of (l := [.tmp 6]) (by kernel_rfl) (vs := [(.bool true)]) ⟨rfl, trivial⟩, (.bool true), F3, rfl, hs30.clear, rfl⟩
    ·have h66 := cond_f h40 hb64
     refine Sc ?_
     refine blockQ_nrm ?_
     refine thenQ_nrm ?_
     refine Rg [0, 1, 2] ?_
     refine V 13 3 (mv 7 (vi s7) e37) ?_
     refine V 14 3 (run_add (t := 3) (t' := 3) (x := (.tmp 13)) (y := (.const (vi 1))) (k := .i64) (a := s7) (b := 1) rfl rfl) ?_
     refine V 7 3 (ma 14 (vi (W64 (s7 + 1)))) ?_
     refine RWP.nil ?_
     have hn67 := iter_next h66 hnx26
     exact ⟨m23, Nat.lt_succ_self _, (W64 (s7 + 1)), F3, hn67, hs30, (le10.trans le31), e33, e34, e35, e36, rfl⟩
  ·have h68 := cond_f hb25 hb27
   refine CWP.exit (by kernel_rfl) ?_
   refine thenQ_ex ?_
   refine thenQ_ex ?_
   refine blockQ_hit rfl ?_
   have hs69 : HS w0 F0 w8 F1 [] := hs9.drop 0
   have ho70 := iter_done h68 hnx26
   exact .inl ⟨rfl, s7, F1, ho70, hs69, le10, e11⟩
 ·rintro f w17 ⟨s16, F2, rfl, hs18, le19, e20⟩
  have h71 := k_done h6
  refine thenQ_nrm ?_
  refine Sq (Rg [0] ?_)
  refine V 6 4 (mc (.bool false) (.bool false)) ?_
  refine Nt ?_
  refine CWP.ret (by kernel_rfl) ?_
  have hfin := some_inj h71
  subst hfin
  exact ⟨e20, (.bool false), res_of (l := [.tmp 6]) (by kernel_rfl) (vs := [(.bool false)]) ⟨rfl, trivial⟩, (.bool false), F2, rfl, hs18.clear, rfl⟩
end Go.Proofs.Ythbcnabeabcmlaa
