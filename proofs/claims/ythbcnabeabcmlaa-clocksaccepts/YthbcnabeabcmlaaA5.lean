/- Lemmas of the claim ClocksAccepts, printed by a program of the claimant and by hand. No statement of the seat is proved here. -/
import Derived.Test.YthbcnabeabcmlaaA4
set_option linter.unusedVariables false
set_option linter.unusedSimpArgs false
set_option linter.unusedSectionVars false
namespace Go.Proofs.Ythbcnabeabcmlaa
open Go.Proofs
def ref03_spot_of (N : Nat) (x0 : Spot) (x1 : Ref) : Option Int :=
 (bif (decide (x1.Log < 0)) then some 0 else (((idx x0.first_ x1.Log).bind fun x20 => some (W64 (x20 + x1.Line))).bind fun j15 => some j15))
theorem co_ref03_spot_of : CallOk Try.prog 81 := fun _ _ => by kernel_rfl
set_option maxHeartbeats 4000000 in
set_option maxRecDepth 100000 in
theorem c_ref03_spot_of (N : Nat) (w0 : World) (F0 : Mem) (hF : ∀ b o, F0 b = some o → w0.heap[b]? = some o) (x0 : Spot) (a0_0 : Option Addr) (n0_0 : Nat) (hb0_0 : LC x0.first_.length n0_0) (hs0_0 : SlA tInt F0 a0_0 x0.first_) (x1 : Ref) (r : Int) (h : ref03_spot_of N x0 x1 = some r) :
  Calls Try.prog 81 ([(.agg (kSpot x0 a0_0 n0_0)), (.agg (kRef x1))] : List Value).toArray w0 (FRet w0 F0 fun F' v => v = (vi r)) := by
 have hs0 := HS.start hF
 refine calls_of (n := 17) (c := bodyOf Try.f81) Try.func81 (by kernel_rfl) (by kernel_rfl) (by kernel_rfl) ?_
 refine Sq (Rg [0, 1, 2] ?_)
 refine Bx 2 0 0 112 (kSpot x0 a0_0 n0_0) hs0 (fun b1 w2 (hs3 : HS w0 F0 w2 F0 [(sb b1 (kSpot x0 a0_0 n0_0) 112)]) => ?_)
 refine Bx 3 0 1 27 (kRef x1) hs3 (fun b4 w5 (hs6 : HS w0 F0 w5 F0 [(sb b4 (kRef x1) 27), (sb b1 (kSpot x0 a0_0 n0_0) 112)]) => ?_)
 refine V 4 3 (mc (vi 0) (vi 0)) ?_
 refine Nss ?_
 refine Sq (Rg [0, 1, 2] ?_)
 refine V 5 0 (fa 27 3 0 0 1 b4 0 0) ?_
 refine V 6 3 (ld 3 5 b4 0 false 1 (vi x1.Log) (hs6.ownAt (k := 0) rfl)) ?_
 refine V 7 4 (run_lss (t := 3) (t' := 3) (x := (.tmp 6)) (y := (.const (vi 0))) (k := .i64) (a := x1.Log) (b := 0) rfl rfl) ?_
 refine Nt ?_
 refine CWP.cond (t := (decide (x1.Log < 0))) (by kernel_rfl) rfl (fun hb7 => ?_) (fun hb7 => ?_)
 ·have h8 := cond_t h hb7
  refine Sq (Rg [0] ?_)
  refine V 4 3 (mc (vi 0) (vi 0)) ?_
  refine Nt ?_
  refine CWP.ret (by kernel_rfl) ?_
  refine thenQ_ret ?_
  have hfin := some_inj h8
  subst hfin
  exact ⟨rfl, (vi 0), res_of (l := [.tmp 4]) (by kernel_rfl) (vs := [(vi 0)]) ⟨rfl, trivial⟩, (vi 0), F0, rfl, hs6.clear, rfl⟩
 ·have h9 := cond_f h hb7
  refine Sc ?_
  refine thenQ_nrm ?_
  refine Sq ?_
  obtain ⟨j15, hj18, h19⟩ := bind_some h9
  refine CWP.regionD (by kernel_rfl) (by kernel_rfl) (by kernel_rfl) (by kernel_rfl) (z := 10) (F := F0) (Lc := [(sb b4 (kRef x1) 27), (sb b1 (kSpot x0 a0_0 n0_0) 112)]) (Lz := []) (l := [false, false, false, false, false, false, false, false, false, false]) (fuel := 10) (by kernel_rfl) (by kernel_rfl) hs6 (by simp) (by simp) (fun f w => ∃ (F1 : Mem), HS w0 F0 w F1 [] ∧ Mem.le F0 F1 ∧ f.d = [] ∧ f 4 = (vi j15)) (fun wd10 hw11 => ?_) ?_
  ·refine Dt 0 8 0 (.pointer (some ⟨b1, 0, none⟩)) (fun _ hq => fa 112 2 0 0 1 b1 0 0) ?_
   refine Dt 1 9 50 _ (fun _ hq => ld 50 8 b1 0 false 1 (.slice a0_0 x0.first_.length n0_0) (hq.1.2 1 _ _ rfl)) ?_
   refine Dt 2 10 0 (.pointer (some ⟨b4, 0, none⟩)) (fun _ hq => fa 27 3 0 0 1 b4 0 0) ?_
   refine Dt 3 11 3 _ (fun _ hq => ld 3 10 b4 0 false 1 (vi x1.Log) (hq.1.2 0 _ _ rfl)) ?_
   obtain ⟨x20, hx21, h23⟩ := bind_some hj18
   obtain ⟨hi22, hx21'⟩ := idx_spec hx21
   obtain ⟨b24, o25, C26, E27, fz28, rfl, hF30, hE31⟩ := SlA.open hs0_0 hx21'
   have hc33 := hE31 _ _ hx21'
   refine Dt 4 12 0 (.pointer (some ⟨b24, (o25 + (x1.Log : Int).toNat * 1), none⟩)) (fun _ hq => ix 50 9 11 b24 o25 3 1 8 hi22) ?_
   refine Dt 5 13 3 _ (fun _ hq => lx 3 12 0 1 false 1 (vi x20) (hq.1.1 _ _ hF30) hc33) ?_
   refine Dt 6 14 0 (.pointer (some ⟨b4, 1, none⟩)) (fun _ hq => fa 27 3 1 1 1 b4 0 1) ?_
   refine Dt 7 15 3 _ (fun _ hq => ld 3 14 b4 1 false 1 (vi x1.Line) (hq.1.2 0 _ _ rfl)) ?_
   refine Dt 8 16 3 (vi (W64 (x20 + x1.Line))) (fun _ hq => run_add (t := 3) (t' := 3) (x := (.tmp 13)) (y := (.tmp 15)) (k := .i64) (a := x20) (b := x1.Line) rfl rfl) ?_
   refine Dt 9 4 3 _ (fun _ hq => ma 16 (vi (W64 (x20 + x1.Line)))) ?_
   obtain rfl := some_inj h23
   have hs34 : HS w0 F0 wd10 F0 [(sb b1 (kSpot x0 (some ⟨b24, o25, none⟩) n0_0) 112)] := hw11.drop 0
   have hs35 : HS w0 F0 wd10 F0 [] := hs34.drop 0
   exact DWP.done (by kernel_rfl) ⟨F0, hs35, (Mem.le.refl _), rfl, rfl⟩
  ·rintro f w12 ⟨F1, hs13, le14, e16, e17⟩
   refine thenQ_nrm ?_
   refine CWP.ret (by kernel_rfl) ?_
   have hfin := some_inj h19
   subst hfin
   exact ⟨e16, (vi j15), res_of (l := [.tmp 4]) (by kernel_rfl) (vs := [(vi j15)]) ⟨e17, trivial⟩, (vi j15), F1, rfl, hs13.clear, rfl⟩
end Go.Proofs.Ythbcnabeabcmlaa
namespace Go.Proofs.Ythbcnabeabcmlaa
open Go.Proofs
def ref03_reach_L0 (N : Nat) (x0 : System) (x1 : Int) (r4 : Spot) (r17 : (List Bound)) (r25 : List Int) (r35 : List Int) : (Int × List Int × List Int) → Option (Flow ((List Int) × (List Int) × Int) (Int × List Int × List Int)) := fun s49 =>
 (bif (decide (s49.1 < r4.n_)) then ((idx s49.2.1 s49.1).bind fun x78 => ((idx s49.2.2 s49.1).bind fun x94 => some (.next ((W64 (s49.1 + 1)), (s49.2.1.set (s49.1 : Int).toNat (1125899906842624)), (s49.2.2.set (s49.1 : Int).toNat ((-1))))))) else some (.done (s49.1, s49.2.1, s49.2.2)))
def ref03_reach_L2 (N : Nat) (x0 : System) (x1 : Int) (r4 : Spot) (r17 : (List Bound)) (r25 : List Int) (r35 : List Int) (s60 : (Int × List Int × List Int)) (x114 : Int) (s133 : (Int × List Int × List Int)) : (Int × Int × List Int × List Int) → Option (Flow ((List Int) × (List Int) × Int) (Int × Int × List Int × List Int)) := fun s161 =>
 (bif (decide (s161.2.1 < (r17.length : Int))) then (((idx r17 s161.2.1).bind fun x209 => ((ref03_spot_of N r4 x209.From).bind fun r223 => some r223)).bind fun j197 => (((idx r17 s161.2.1).bind fun x249 => ((ref03_spot_of N r4 x249.To).bind fun r263 => some r263)).bind fun j236 => (((idx s161.2.2.1 j197).bind fun x290 => (bif (decide (x290 < 1125899906842624)) then ((idx s161.2.2.1 j197).bind fun x304 => ((idx r17 s161.2.1).bind fun x315 => ((idx s161.2.2.1 j236).bind fun x329 => some (decide ((W64 (x304 + x315.Most)) < x329))))) else some false)).bind fun j276 => ((bif j276 then (((idx s161.2.2.1 j197).bind fun x373 => ((idx r17 s161.2.1).bind fun x385 => ((idx s161.2.2.1 j236).bind fun x399 => some (s161.2.2.1.set (j236 : Int).toNat ((W64 (x373 + x385.Most))))))).bind fun j362 => ((idx s161.2.2.2 j236).bind fun x414 => some (j362, (s161.2.2.2.set (j236 : Int).toNat (s161.2.1)), j236))) else some (s161.2.2.1, s161.2.2.2, s161.1)).bind fun j344 => some (.next (j344.2.2, (W64 (s161.2.1 + 1)), j344.1, j344.2.1)))))) else some (.done (s161.1, s161.2.1, s161.2.2.1, s161.2.2.2)))
def ref03_reach_L1 (N : Nat) (x0 : System) (x1 : Int) (r4 : Spot) (r17 : (List Bound)) (r25 : List Int) (r35 : List Int) (s60 : (Int × List Int × List Int)) (x114 : Int) : (Int × List Int × List Int) → Option (Flow ((List Int) × (List Int) × Int) (Int × List Int × List Int)) := fun s133 =>
 (bif (decide (s133.1 ≤ r4.n_)) then ((iter (ref03_reach_L2 N x0 x1 r4 r17 r25 r35 s60 x114 s133) N ((-1), 0, s133.2.1, s133.2.2)).bind fun o => o.k (fun r => some (.ret r)) (fun s173 => (bif (decide (s173.1 < 0)) then some (.ret (s173.2.2.1, s173.2.2.2, (-1))) else (bif (s133.1 == r4.n_) then some (.ret (s173.2.2.1, s173.2.2.2, s173.1)) else some (.next ((W64 (s133.1 + 1)), s173.2.2.1, s173.2.2.2)))))) else some (.done (s133.1, s133.2.1, s133.2.2)))
def ref03_reach (N : Nat) (x0 : System) (x1 : Int) : Option ((List Int) × (List Int) × Int) :=
 ((ref03_spots N x0).bind fun r4 => ((ref03_bounds N x0).bind fun r17 => ((mk0 0 r4.n_).bind fun r25 => ((mk0 0 r4.n_).bind fun r35 => ((iter (ref03_reach_L0 N x0 x1 r4 r17 r25 r35) N (0, r25, r35)).bind fun o => o.k (fun r => some r) (fun s60 => ((idx s60.2.1 x1).bind fun x114 => ((iter (ref03_reach_L1 N x0 x1 r4 r17 r25 r35 s60 x114) N (0, (s60.2.1.set (x1 : Int).toNat (0)), s60.2.2)).bind fun o => o.k (fun r => some r) (fun s143 => some (s143.2.1, s143.2.2, (-1)))))))))))
theorem co_ref03_reach : CallOk Try.prog 92 := fun _ _ => by kernel_rfl
set_option maxHeartbeats 4000000 in
set_option maxRecDepth 100000 in
theorem c_ref03_reach (N : Nat) (w0 : World) (F0 : Mem) (hF : ∀ b o, F0 b = some o → w0.heap[b]? = some o) (x0 : System) (a0_0 : Option Addr) (n0_0 : Nat) (hb0_0 : LC x0.Tracks.length n0_0) (hs0_0 : SlA tTrack F0 a0_0 x0.Tracks) (a0_1 : Option Addr) (n0_1 : Nat) (hb0_1 : LC x0.Ties.length n0_1) (hs0_1 : SlA tTie F0 a0_1 x0.Ties) (x1 : Int) (r : ((List Int) × (List Int) × Int)) (h : ref03_reach N x0 x1 = some r) :
  Calls Try.prog 92 ([(.agg (kSystem x0 a0_0 n0_0 a0_1 n0_1)), (vi x1)] : List Value).toArray w0 (FRet w0 F0 fun F' v => ∃ (aq0_0 : Option Addr) (nq0_0 : Nat) (aq1_0 : Option Addr) (nq1_0 : Nat), v = (.tuple #[(.slice aq0_0 r.1.length nq0_0), (.slice aq1_0 r.2.1.length nq1_0), (vi r.2.2)]) ∧ LC r.1.length nq0_0 ∧ SlA tInt F' aq0_0 r.1 ∧ LC r.2.1.length nq1_0 ∧ SlA tInt F' aq1_0 r.2.1) := by
 have hs0 := HS.start hF
 refine calls_of (n := 121) (c := bodyOf Try.f92) Try.func92 (by kernel_rfl) (by kernel_rfl) (by kernel_rfl) ?_
 refine Sq (Rg [0, 1, 2, 3] ?_)
 refine Bx 2 0 0 25 (kSystem x0 a0_0 n0_0 a0_1 n0_1) hs0 (fun b1 w2 (hs3 : HS w0 F0 w2 F0 [(sb b1 (kSystem x0 a0_0 n0_0 a0_1 n0_1) 25)]) => ?_)
 refine V 4 50 (mc (.slice none 0 0) (.slice none ([] : List Int).length 0)) ?_
 refine V 5 50 (mc (.slice none 0 0) (.slice none ([] : List Int).length 0)) ?_
 refine V 6 3 (mc (vi 0) (vi 0)) ?_
 refine Nss (Rg [0, 1, 2, 3] ?_)
 refine V 17 25 (ld 25 2 b1 0 true 3 (.agg (kSystem x0 a0_0 n0_0 a0_1 n0_1)) (hs3.ownAt (k := 0) rfl)) ?_
 obtain ⟨r4, hr5, h6⟩ := bind_some h
 refine Cl 18 112 80 #[(.tmp 17)] #[25] co_ref03_spots hs3 (c_ref03_spots N w2 F0 hs3.pers (x0) a0_0 n0_0 hb0_0 hs0_0 a0_1 n0_1 hb0_1 hs0_1 _ hr5) ?_
 intro v7 F1 w8 hs9 le10 hp11
 obtain ⟨ar4_0_0, nr4_0_0, rfl, hbr4_0_0, hsr4_0_0⟩ := hp11
 refine Al 7 0 112 #[(.slice none ([] : List Int).length 0), (vi 0)] hs9 (fun b12 w13 (hs14 : HS w0 F0 w13 F1 [(sb b12 #[(.slice none ([] : List Int).length 0), (vi 0)] 112), (sb b1 (kSystem x0 a0_0 n0_0 a0_1 n0_1) 25)]) => ?_)
 refine RWP.store (ty := 0) (g := none) (by kernel_rfl) rfl (x := (.tmp 7)) (y := (.tmp 18)) (t := 112) (gg := true) (s := 2) (v := (.agg (kSpot r4 ar4_0_0 nr4_0_0))) (b := b12) (o := 0) (C := #[(.slice none ([] : List Int).length 0), (vi 0)]) rfl rfl (by kernel_rfl) hs14 (k := 0) rfl rfl rfl rfl (C' := (kSpot r4 ar4_0_0 nr4_0_0)) rfl (fun w15 (hs16 : HS w0 F0 w15 F1 [(sb b12 (kSpot r4 ar4_0_0 nr4_0_0) 112), (sb b1 (kSystem x0 a0_0 n0_0 a0_1 n0_1) 25)]) => ?_)
 refine Nss (Rg [0, 1, 2] ?_)
 refine V 19 25 (ld 25 2 b1 0 true 3 (.agg (kSystem x0 a0_0 n0_0 a0_1 n0_1)) (hs16.ownAt (k := 1) rfl)) ?_
 obtain ⟨r17, hr18, h19⟩ := bind_some h6
 refine Cl 20 57 84 #[(.tmp 19)] #[25] co_ref03_bounds hs16 (c_ref03_bounds N w15 F1 hs16.pers (x0) a0_0 n0_0 hb0_0 (SlA.mono hs0_0 le10) a0_1 n0_1 hb0_1 (SlA.mono hs0_1 le10) _ hr18) ?_
 intro v20 F2 w21 hs22 le23 hp24
 obtain ⟨ar17_0_0, nr17_0_0, rfl, hbr17_0_0, hsr17_0_0⟩ := hp24
 refine V 8 57 (ma 20 (.slice ar17_0_0 r17.length nr17_0_0)) ?_
 refine Nss (Rg [0, 1, 2, 3] ?_)
 refine V 21 0 (fa 112 7 1 1 1 b12 0 1) ?_
 refine V 22 3 (ld 3 21 b12 1 false 1 (vi r4.n_) (hs22.ownAt (k := 0) rfl)) ?_
 obtain ⟨r25, hm26, h27⟩ := bind_some h19
 refine RWP.makeSlice (dst := (some 23)) (ty := 50) (g := none) (by kernel_rfl) rfl (x := (.tmp 22)) (y := (.tmp 22)) (t := 50) (by_ := 8) (z := (vi 0)) (T := tInt) (E := 3) rfl rfl (by kernel_rfl) (by decide) (by kernel_rfl) (z0 := 0) (fun _ => rfl) (by decide) hs22 hm26 (fun b28 n29 C30 w31 (hs32 : HS w0 F0 w31 F2 [(some b28, .cells C30 3 (0, 0)), (sb b12 (kSpot r4 ar4_0_0 nr4_0_0) 112), (sb b1 (kSystem x0 a0_0 n0_0 a0_1 n0_1) 25)]) hr33 => ?_)
 refine V 9 50 (ma 23 (.slice (some ⟨b28, 0, none⟩) r25.length n29)) ?_
 refine Nss (Rg [0, 1, 2, 3] ?_)
 refine V 24 0 (fa 112 7 1 1 1 b12 0 1) ?_
 refine V 25 3 (ld 3 24 b12 1 false 1 (vi r4.n_) (hs32.ownAt (k := 1) rfl)) ?_
 obtain ⟨r35, hm36, h37⟩ := bind_some h27
 refine RWP.makeSlice (dst := (some 26)) (ty := 50) (g := none) (by kernel_rfl) rfl (x := (.tmp 25)) (y := (.tmp 25)) (t := 50) (by_ := 8) (z := (vi 0)) (T := tInt) (E := 3) rfl rfl (by kernel_rfl) (by decide) (by kernel_rfl) (z0 := 0) (fun _ => rfl) (by decide) hs32 hm36 (fun b38 n39 C40 w41 (hs42 : HS w0 F0 w41 F2 [(some b38, .cells C40 3 (0, 0)), (some b28, .cells C30 3 (0, 0)), (sb b12 (kSpot r4 ar4_0_0 nr4_0_0) 112), (sb b1 (kSystem x0 a0_0 n0_0 a0_1 n0_1) 25)]) hr43 => ?_)
 refine V 10 50 (ma 26 (.slice (some ⟨b38, 0, none⟩) r35.length n39)) ?_
 refine Nss ?_
 refine Sq (Rg [0] ?_)
 refine V 11 3 (mc (vi 0) (vi 0)) ?_
 refine Nt ?_
 have hs45 : HS w0 F0 w41 F2 [(some b38, .cells C40 3 (0, 0)), (some b28, .cells C30 3 (0, 0)), (sb b12 (kSpot r4 ar4_0_0 nr4_0_0) 112)] := hs42.drop 3
 obtain ⟨o46, ho47, h48⟩ := bind_some h37
 refine CWP.cut (fun f w => ∃ (s60 : (Int × List Int × List Int)) (F4 : Mem) (es60_1 : Option Nat × Obj) (es60_2 : Option Nat × Obj), o46 = .done s60 ∧ HS w0 F0 w F4 [es60_2, es60_1, (sb b12 (kSpot r4 ar4_0_0 nr4_0_0) 112)] ∧ Mem.le F2 F4 ∧ f.d = [] ∧ f 1 = (vi x1) ∧ f 7 = (.pointer (some ⟨b12, 0, none⟩)) ∧ f 8 = (.slice ar17_0_0 r17.length nr17_0_0) ∧ f 9 = (.slice (some ⟨b28, 0, none⟩) s60.2.1.length n29) ∧ f 10 = (.slice (some ⟨b38, 0, none⟩) s60.2.2.length n39) ∧ RowR tInt 3 F4 (some ⟨b28, 0, none⟩) n29 s60.2.1 es60_1 ∧ RowR tInt 3 F4 (some ⟨b38, 0, none⟩) n39 s60.2.2 es60_2) ?_ ?_
 ·refine Bk ?_
  refine CWP.loop (by kernel_rfl) (fun m f w => ∃ (s49 : (Int × List Int × List Int)) (F3 : Mem) (es49_1 : Option Nat × Obj) (es49_2 : Option Nat × Obj), iter (ref03_reach_L0 N x0 x1 r4 r17 r25 r35) m s49 = some o46 ∧ HS w0 F0 w F3 [es49_2, es49_1, (sb b12 (kSpot r4 ar4_0_0 nr4_0_0) 112)] ∧ Mem.le F2 F3 ∧ f.d = [] ∧ f 1 = (vi x1) ∧ f 7 = (.pointer (some ⟨b12, 0, none⟩)) ∧ f 8 = (.slice ar17_0_0 r17.length nr17_0_0) ∧ f 9 = (.slice (some ⟨b28, 0, none⟩) s49.2.1.length n29) ∧ f 10 = (.slice (some ⟨b38, 0, none⟩) s49.2.2.length n39) ∧ f 11 = (vi s49.1) ∧ RowR tInt 3 F3 (some ⟨b28, 0, none⟩) n29 s49.2.1 es49_1 ∧ RowR tInt 3 F3 (some ⟨b38, 0, none⟩) n39 s49.2.2 es49_2) N ⟨(0, r25, r35), F2, (some b28, .cells C30 3 (0, 0)), (some b38, .cells C40 3 (0, 0)), ho47, hs45, (Mem.le.refl _), rfl, rfl, rfl, rfl, rfl, rfl, rfl, hr33, hr43⟩ ?_
  rintro m70 f w50 ⟨s49, F3, es49_1, es49_2, hit71, hs51, le52, e53, e54, e55, e56, e57, e58, e59, hrs49_1, hrs49_2⟩
  obtain ⟨m72, fl73, rfl, hb74, hnx75⟩ := iter_step hit71
  refine Sq ?_
  refine Sq (Rg [0, 1, 2, 3] ?_)
  refine V 27 3 (mv 11 (vi s49.1) e59) ?_
  refine V 28 0 (fa 112 7 1 1 1 b12 0 1 e55) ?_
  refine V 29 3 (ld 3 28 b12 1 false 1 (vi r4.n_) (hs51.ownAt (k := 2) rfl)) ?_
  refine V 30 4 (run_lss (t := 3) (t' := 3) (x := (.tmp 27)) (y := (.tmp 29)) (k := .i64) (a := s49.1) (b := r4.n_) rfl rfl) ?_
  refine Nt ?_
  refine CWP.cond (t := (decide (s49.1 < r4.n_))) (by kernel_rfl) rfl (fun hb76 => ?_) (fun hb76 => ?_)
  ·have h77 := cond_t hb74 hb76
   refine Sc ?_
   refine thenQ_nrm ?_
   refine Sq ?_
   refine Bk ?_
   refine Sq (Rg [0, 1, 2, 3] ?_)
   refine V 33 50 (mv 9 (.slice (some ⟨b28, 0, none⟩) s49.2.1.length n29) e57) ?_
   refine V 34 3 (mv 11 (vi s49.1) e59) ?_
   obtain ⟨x78, hx79, h81⟩ := bind_some h77
   obtain ⟨hi80, hx79'⟩ := idx_spec hx79
   obtain ⟨b82, C83, ha84, rfl, hE86⟩ := RowR.open hrs49_1 hx79'
   cases ha84
   have hr87 := hrs49_1
   have hc89 := hE86 _ _ hx79'
   refine V 35 0 (run_index0 (t := 50) (x := (.tmp 33)) (y := (.tmp 34)) (b := b28) (E := 3) (s := 1) (by_ := 8) rfl rfl (by kernel_rfl) hi80) ?_
   refine RWP.storeRow (ty := 0) (g := none) (by kernel_rfl) rfl (x := (.tmp 35)) (y := (.const (vi 1125899906842624))) (t := 3) (v := (vi 1125899906842624)) (gg := false) (b := b28) (j := (s49.1 : Int).toNat) (C := C83) (T := tInt) (E := 3) (u := (1125899906842624)) rfl rfl (by kernel_rfl) hs51 (k := 1) rfl hr87 hx79' rfl rfl (fun C90 w91 (hs92 : HS w0 F0 w91 F3 [es49_2, (some b28, .cells C90 3 (0, 0)), (sb b12 (kSpot r4 ar4_0_0 nr4_0_0) 112)]) hr93 => ?_)
   refine Nt ?_
   refine Rg [0, 1, 2, 3] ?_
   refine V 36 50 (mv 10 (.slice (some ⟨b38, 0, none⟩) s49.2.2.length n39) e58) ?_
   refine V 37 3 (mv 11 (vi s49.1) e59) ?_
   obtain ⟨x94, hx95, h97⟩ := bind_some h81
   obtain ⟨hi96, hx95'⟩ := idx_spec hx95
   obtain ⟨b98, C99, ha100, rfl, hE102⟩ := RowR.open hrs49_2 hx95'
   cases ha100
   have hr103 := hrs49_2
   have hc105 := hE102 _ _ hx95'
   refine V 38 0 (run_index0 (t := 50) (x := (.tmp 36)) (y := (.tmp 37)) (b := b38) (E := 3) (s := 1) (by_ := 8) rfl rfl (by kernel_rfl) hi96) ?_
   refine RWP.storeRow (ty := 0) (g := none) (by kernel_rfl) rfl (x := (.tmp 38)) (y := (.const (vi (-1)))) (t := 3) (v := (vi (-1))) (gg := false) (b := b38) (j := (s49.1 : Int).toNat) (C := C99) (T := tInt) (E := 3) (u := ((-1))) rfl rfl (by kernel_rfl) hs92 (k := 0) rfl hr103 hx95' rfl rfl (fun C106 w107 (hs108 : HS w0 F0 w107 F3 [(some b38, .cells C106 3 (0, 0)), (some b28, .cells C90 3 (0, 0)), (sb b12 (kSpot r4 ar4_0_0 nr4_0_0) 112)]) hr109 => ?_)
   refine RWP.nil ?_
   refine blockQ_nrm ?_
   refine thenQ_nrm ?_
   refine Rg [0, 1, 2] ?_
   refine V 31 3 (mv 11 (vi s49.1) e59) ?_
   refine V 32 3 (run_add (t := 3) (t' := 3) (x := (.tmp 31)) (y := (.const (vi 1))) (k := .i64) (a := s49.1) (b := 1) rfl rfl) ?_
   refine V 11 3 (ma 32 (vi (W64 (s49.1 + 1)))) ?_
   refine RWP.nil ?_
   have hn110 := iter_next h97 hnx75
   exact ⟨m72, Nat.lt_succ_self _, ((W64 (s49.1 + 1)), (s49.2.1.set (s49.1 : Int).toNat (1125899906842624)), (s49.2.2.set (s49.1 : Int).toNat ((-1)))), F3, (some b28, .cells C90 3 (0, 0)), (some b38, .cells C106 3 (0, 0)), hn110, hs108, le52, e53, e54, e55, e56, (len_set e57), (len_set e58), rfl, hr93, hr109⟩
  ·have h111 := cond_f hb74 hb76
   refine CWP.exit (by kernel_rfl) ?_
   refine thenQ_ex ?_
   refine thenQ_ex ?_
   refine blockQ_hit rfl ?_
   have ho112 := iter_done h111 hnx75
   exact .inl ⟨rfl, (s49.1, s49.2.1, s49.2.2), F3, es49_1, es49_2, ho112, hs51, le52, e53, e54, e55, e56, e57, e58, hrs49_1, hrs49_2⟩
 ·rintro f w61 ⟨s60, F4, es60_1, es60_2, rfl, hs62, le63, e64, e65, e66, e67, e68, e69, hrs60_1, hrs60_2⟩
  have h113 := k_done h48
  refine thenQ_nrm ?_
  refine Sq (Rg [0, 1, 2, 3] ?_)
  refine V 39 50 (mv 9 (.slice (some ⟨b28, 0, none⟩) s60.2.1.length n29) e68) ?_
  refine V 40 3 (mv 1 (vi x1) e65) ?_
  obtain ⟨x114, hx115, h117⟩ := bind_some h113
  obtain ⟨hi116, hx115'⟩ := idx_spec hx115
  obtain ⟨b118, C119, ha120, rfl, hE122⟩ := RowR.open hrs60_1 hx115'
  cases ha120
  have hr123 := hrs60_1
  have hc125 := hE122 _ _ hx115'
  refine V 41 0 (run_index0 (t := 50) (x := (.tmp 39)) (y := (.tmp 40)) (b := b28) (E := 3) (s := 1) (by_ := 8) rfl rfl (by kernel_rfl) hi116) ?_
  refine RWP.storeRow (ty := 0) (g := none) (by kernel_rfl) rfl (x := (.tmp 41)) (y := (.const (vi 0))) (t := 3) (v := (vi 0)) (gg := false) (b := b28) (j := (x1 : Int).toNat) (C := C119) (T := tInt) (E := 3) (u := (0)) rfl rfl (by kernel_rfl) hs62 (k := 1) rfl hr123 hx115' rfl rfl (fun C126 w127 (hs128 : HS w0 F0 w127 F4 [es60_2, (some b28, .cells C126 3 (0, 0)), (sb b12 (kSpot r4 ar4_0_0 nr4_0_0) 112)]) hr129 => ?_)
  refine Nss ?_
  refine Sq (Rg [0] ?_)
  refine V 12 3 (mc (vi 0) (vi 0)) ?_
  refine Nt ?_
  obtain ⟨o130, ho131, h132⟩ := bind_some h117
  refine CWP.cut (fun f w => ∃ (s143 : (Int × List Int × List Int)) (F6 : Mem) (es143_1 : Option Nat × Obj) (es143_2 : Option Nat × Obj), o130 = .done s143 ∧ HS w0 F0 w F6 [es143_2, es143_1] ∧ Mem.le F4 F6 ∧ f.d = [] ∧ f 9 = (.slice (some ⟨b28, 0, none⟩) s143.2.1.length n29) ∧ f 10 = (.slice (some ⟨b38, 0, none⟩) s143.2.2.length n39) ∧ RowR tInt 3 F6 (some ⟨b28, 0, none⟩) n29 s143.2.1 es143_1 ∧ RowR tInt 3 F6 (some ⟨b38, 0, none⟩) n39 s143.2.2 es143_2) ?_ ?_
  ·refine Bk ?_
   refine CWP.loop (by kernel_rfl) (fun m f w => ∃ (s133 : (Int × List Int × List Int)) (F5 : Mem) (es133_1 : Option Nat × Obj) (es133_2 : Option Nat × Obj), iter (ref03_reach_L1 N x0 x1 r4 r17 r25 r35 s60 x114) m s133 = some o130 ∧ HS w0 F0 w F5 [es133_2, es133_1, (sb b12 (kSpot r4 ar4_0_0 nr4_0_0) 112)] ∧ Mem.le F4 F5 ∧ f.d = [] ∧ f 7 = (.pointer (some ⟨b12, 0, none⟩)) ∧ f 8 = (.slice ar17_0_0 r17.length nr17_0_0) ∧ f 9 = (.slice (some ⟨b28, 0, none⟩) s133.2.1.length n29) ∧ f 10 = (.slice (some ⟨b38, 0, none⟩) s133.2.2.length n39) ∧ f 12 = (vi s133.1) ∧ RowR tInt 3 F5 (some ⟨b28, 0, none⟩) n29 s133.2.1 es133_1 ∧ RowR tInt 3 F5 (some ⟨b38, 0, none⟩) n39 s133.2.2 es133_2) N ⟨(0, (s60.2.1.set (x1 : Int).toNat (0)), s60.2.2), F4, (some b28, .cells C126 3 (0, 0)), es60_2, ho131, hs128, (Mem.le.refl _), e64, e66, e67, (len_set e68), e69, rfl, hr129, hrs60_2⟩ ?_
   rintro m150 f w134 ⟨s133, F5, es133_1, es133_2, hit151, hs135, le136, e137, e138, e139, e140, e141, e142, hrs133_1, hrs133_2⟩
   obtain ⟨m152, fl153, rfl, hb154, hnx155⟩ := iter_step hit151
   refine Sq ?_
   refine Sq (Rg [0, 1, 2, 3] ?_)
   refine V 42 3 (mv 12 (vi s133.1) e142) ?_
   refine V 43 0 (fa 112 7 1 1 1 b12 0 1 e138) ?_
   refine V 44 3 (ld 3 43 b12 1 false 1 (vi r4.n_) (hs135.ownAt (k := 2) rfl)) ?_
   refine V 45 4 (run_leq (t := 3) (t' := 3) (x := (.tmp 42)) (y := (.tmp 44)) (k := .i64) (a := s133.1) (b := r4.n_) rfl rfl) ?_
   refine Nt ?_
   refine CWP.cond (t := (decide (s133.1 ≤ r4.n_))) (by kernel_rfl) rfl (fun hb156 => ?_) (fun hb156 => ?_)
   ·have h157 := cond_t hb154 hb156
    refine Sc ?_
    refine thenQ_nrm ?_
    refine Sq ?_
    refine Bk ?_
    refine Sq (Rg [0] ?_)
    refine V 13 3 (mc (vi (-1)) (vi (-1))) ?_
    refine Nss ?_
    refine Sq (Rg [0] ?_)
    refine V 14 3 (mc (vi 0) (vi 0)) ?_
    refine Nt ?_
    obtain ⟨o158, ho159, h160⟩ := bind_some h157
    refine CWP.cut (fun f w => ∃ (s173 : (Int × Int × List Int × List Int)) (F8 : Mem) (es173_2 : Option Nat × Obj) (es173_3 : Option Nat × Obj), o158 = .done s173 ∧ HS w0 F0 w F8 [es173_3, es173_2, (sb b12 (kSpot r4 ar4_0_0 nr4_0_0) 112)] ∧ Mem.le F5 F8 ∧ f.d = [] ∧ f 7 = (.pointer (some ⟨b12, 0, none⟩)) ∧ f 8 = (.slice ar17_0_0 r17.length nr17_0_0) ∧ f 9 = (.slice (some ⟨b28, 0, none⟩) s173.2.2.1.length n29) ∧ f 10 = (.slice (some ⟨b38, 0, none⟩) s173.2.2.2.length n39) ∧ f 12 = (vi s133.1) ∧ f 13 = (vi s173.1) ∧ RowR tInt 3 F8 (some ⟨b28, 0, none⟩) n29 s173.2.2.1 es173_2 ∧ RowR tInt 3 F8 (some ⟨b38, 0, none⟩) n39 s173.2.2.2 es173_3) ?_ ?_
    ·refine Bk ?_
     refine CWP.loop (by kernel_rfl) (fun m f w => ∃ (s161 : (Int × Int × List Int × List Int)) (F7 : Mem) (es161_2 : Option Nat × Obj) (es161_3 : Option Nat × Obj), iter (ref03_reach_L2 N x0 x1 r4 r17 r25 r35 s60 x114 s133) m s161 = some o158 ∧ HS w0 F0 w F7 [es161_3, es161_2, (sb b12 (kSpot r4 ar4_0_0 nr4_0_0) 112)] ∧ Mem.le F5 F7 ∧ f.d = [] ∧ f 7 = (.pointer (some ⟨b12, 0, none⟩)) ∧ f 8 = (.slice ar17_0_0 r17.length nr17_0_0) ∧ f 9 = (.slice (some ⟨b28, 0, none⟩) s161.2.2.1.length n29) ∧ f 10 = (.slice (some ⟨b38, 0, none⟩) s161.2.2.2.length n39) ∧ f 12 = (vi s133.1) ∧ f 13 = (vi s161.1) ∧ f 14 = (vi s161.2.1) ∧ RowR tInt 3 F7 (some ⟨b28, 0, none⟩) n29 s161.2.2.1 es161_2 ∧ RowR tInt 3 F7 (some ⟨b38, 0, none⟩) n39 s161.2.2.2 es161_3) N ⟨((-1), 0, s133.2.1, s133.2.2), F5, es133_1, es133_2, ho159, hs135, (Mem.le.refl _), e137, e138, e139, e140, e141, e142, rfl, rfl, hrs133_1, hrs133_2⟩ ?_
     rintro m184 f w162 ⟨s161, F7, es161_2, es161_3, hit185, hs163, le164, e165, e166, e167, e168, e169, e170, e171, e172, hrs161_2, hrs161_3⟩
     obtain ⟨m186, fl187, rfl, hb188, hnx189⟩ := iter_step hit185
     refine Sq ?_
     refine Sq (Rg [0, 1, 2, 3] ?_)
     refine V 48 3 (mv 14 (vi s161.2.1) e172) ?_
     refine V 49 57 (mv 8 (.slice ar17_0_0 r17.length nr17_0_0) e167) ?_
     refine V 50 3 (ln 49 57 ar17_0_0 r17.length nr17_0_0 103 7 56) ?_
     refine V 51 4 (run_lss (t := 3) (t' := 3) (x := (.tmp 48)) (y := (.tmp 50)) (k := .i64) (a := s161.2.1) (b := (r17.length : Int)) rfl rfl) ?_
     refine Nt ?_
     refine CWP.cond (t := (decide (s161.2.1 < (r17.length : Int)))) (by kernel_rfl) rfl (fun hb190 => ?_) (fun hb190 => ?_)
     ·have h191 := cond_t hb188 hb190
      refine Sc ?_
      refine thenQ_nrm ?_
      refine Sq ?_
      refine Bk ?_
      refine Sq ?_
      obtain ⟨j197, hj207, h208⟩ := bind_some h191
      refine CWP.regionD (by kernel_rfl) (by kernel_rfl) (by kernel_rfl) (by kernel_rfl) (z := 8) (F := F7) (Lc := [es161_3, es161_2, (sb b12 (kSpot r4 ar4_0_0 nr4_0_0) 112)]) (Lz := []) (l := [false, false, false, false, false, false, false, false]) (fuel := 8) (by kernel_rfl) (by kernel_rfl) hs163 (by simp) (by simp) (fun f w => ∃ (F9 : Mem), HS w0 F0 w F9 [es161_3, es161_2, (sb b12 (kSpot r4 ar4_0_0 nr4_0_0) 112)] ∧ Mem.le F7 F9 ∧ f.d = [] ∧ f 7 = (.pointer (some ⟨b12, 0, none⟩)) ∧ f 8 = (.slice ar17_0_0 r17.length nr17_0_0) ∧ f 9 = (.slice (some ⟨b28, 0, none⟩) s161.2.2.1.length n29) ∧ f 10 = (.slice (some ⟨b38, 0, none⟩) s161.2.2.2.length n39) ∧ f 12 = (vi s133.1) ∧ f 13 = (vi s161.1) ∧ f 14 = (vi s161.2.1) ∧ f 15 = (vi j197)) (fun wd192 hw193 => ?_) ?_
      ·refine Dt 0 54 112 _ (fun _ hq => ld 112 7 b12 0 true 2 (.agg (kSpot r4 ar4_0_0 nr4_0_0)) (hq.1.2 2 _ _ rfl) e166) ?_
       refine Dt 1 55 57 _ (fun _ hq => mv 8 (.slice ar17_0_0 r17.length nr17_0_0) e167) ?_
       refine Dt 2 56 3 _ (fun _ hq => mv 14 (vi s161.2.1) e172) ?_
       obtain ⟨x209, hx210, h212⟩ := bind_some hj207
       obtain ⟨hi211, hx210'⟩ := idx_spec hx210
       obtain ⟨b213, o214, C215, E216, fz217, rfl, hF219, hE220⟩ := SlA.open (SlA.mono hsr17_0_0 ((le63.trans le136).trans le164)) hx210'
       have hc222 := hE220 _ _ hx210'
       refine Dt 3 57 0 (.pointer (some ⟨b213, (o214 + (s161.2.1 : Int).toNat * 7), none⟩)) (fun _ hq => ix 57 55 56 b213 o214 103 7 56 hi211) ?_
       refine Dt 4 58 0 (.pointer (some ⟨b213, (o214 + (s161.2.1 : Int).toNat * 7), none⟩)) (fun _ hq => fa 103 57 0 0 2 b213 (o214 + (s161.2.1 : Int).toNat * 7) (o214 + (s161.2.1 : Int).toNat * 7)) ?_
       refine Dt 5 59 27 _ (fun _ hq => lx 27 58 0 7 true 2 (.agg (kRef x209.From)) (hq.1.1 _ _ hF219) hc222) ?_
       refine DWP.one (i := 6) (by kernel_rfl) ?_
       obtain ⟨r223, hr224, h225⟩ := bind_some h212
       refine DStep.call (l' := [true, true, true, true, true, true, true, false]) (zd := true) (by kernel_rfl) (by kernel_rfl) (by kernel_rfl) (dst := (some 60)) (ty := 3) (g := none) (by kernel_rfl) rfl (f0 := (.func 81)) (aos := #[(.tmp 54), (.tmp 59)]) (ats := #[112, 27]) (fid := 81) (first := #[]) (cap := #[]) (args := [(.agg (kSpot r4 ar4_0_0 nr4_0_0)), (.agg (kRef x209.From))]) rfl co_ref03_spot_of (rfl) hw193 (c_ref03_spot_of N wd192 F7 hw193.pers (r4) ar4_0_0 nr4_0_0 hbr4_0_0 (SlA.mono hsr4_0_0 (((le23.trans le63).trans le136).trans le164)) (x209.From) _ hr224) ?_
       intro v226 F10 w227 hs228 le229 hp230
       obtain rfl := hp230
       refine Dt 7 15 3 _ (fun _ hq => ma 60 (vi r223)) ?_
       obtain rfl := some_inj h225
       exact DWP.done (by kernel_rfl) ⟨F10, hs228, le229, e165, e166, e167, e168, e169, e170, e171, e172, rfl⟩
      ·rintro f w194 ⟨F9, hs195, le196, e198, e199, e200, e201, e202, e203, e204, e205, e206⟩
       refine thenQ_nrm ?_
       refine Sq ?_
       obtain ⟨j236, hj247, h248⟩ := bind_some h208
       refine CWP.regionD (by kernel_rfl) (by kernel_rfl) (by kernel_rfl) (by kernel_rfl) (z := 8) (F := F9) (Lc := [es161_3, es161_2, (sb b12 (kSpot r4 ar4_0_0 nr4_0_0) 112)]) (Lz := []) (l := [false, false, false, false, false, false, false, false]) (fuel := 8) (by kernel_rfl) (by kernel_rfl) hs195 (by simp) (by simp) (fun f w => ∃ (F11 : Mem), HS w0 F0 w F11 [es161_3, es161_2, (sb b12 (kSpot r4 ar4_0_0 nr4_0_0) 112)] ∧ Mem.le F9 F11 ∧ f.d = [] ∧ f 7 = (.pointer (some ⟨b12, 0, none⟩)) ∧ f 8 = (.slice ar17_0_0 r17.length nr17_0_0) ∧ f 9 = (.slice (some ⟨b28, 0, none⟩) s161.2.2.1.length n29) ∧ f 10 = (.slice (some ⟨b38, 0, none⟩) s161.2.2.2.length n39) ∧ f 12 = (vi s133.1) ∧ f 13 = (vi s161.1) ∧ f 14 = (vi s161.2.1) ∧ f 15 = (vi j197) ∧ f 16 = (vi j236)) (fun wd231 hw232 => ?_) ?_
       ·refine Dt 0 61 112 _ (fun _ hq => ld 112 7 b12 0 true 2 (.agg (kSpot r4 ar4_0_0 nr4_0_0)) (hq.1.2 2 _ _ rfl) e199) ?_
        refine Dt 1 62 57 _ (fun _ hq => mv 8 (.slice ar17_0_0 r17.length nr17_0_0) e200) ?_
        refine Dt 2 63 3 _ (fun _ hq => mv 14 (vi s161.2.1) e205) ?_
        obtain ⟨x249, hx250, h252⟩ := bind_some hj247
        obtain ⟨hi251, hx250'⟩ := idx_spec hx250
        obtain ⟨b253, o254, C255, E256, fz257, rfl, hF259, hE260⟩ := SlA.open (SlA.mono hsr17_0_0 (((le63.trans le136).trans le164).trans le196)) hx250'
        have hc262 := hE260 _ _ hx250'
        refine Dt 3 64 0 (.pointer (some ⟨b253, (o254 + (s161.2.1 : Int).toNat * 7), none⟩)) (fun _ hq => ix 57 62 63 b253 o254 103 7 56 hi251) ?_
        refine Dt 4 65 0 (.pointer (some ⟨b253, ((o254 + (s161.2.1 : Int).toNat * 7) + 2), none⟩)) (fun _ hq => fa 103 64 1 2 2 b253 (o254 + (s161.2.1 : Int).toNat * 7) ((o254 + (s161.2.1 : Int).toNat * 7) + 2)) ?_
        refine Dt 5 66 27 _ (fun _ hq => lx 27 65 2 7 true 2 (.agg (kRef x249.To)) (hq.1.1 _ _ hF259) hc262) ?_
        refine DWP.one (i := 6) (by kernel_rfl) ?_
        obtain ⟨r263, hr264, h265⟩ := bind_some h252
        refine DStep.call (l' := [true, true, true, true, true, true, true, false]) (zd := true) (by kernel_rfl) (by kernel_rfl) (by kernel_rfl) (dst := (some 67)) (ty := 3) (g := none) (by kernel_rfl) rfl (f0 := (.func 81)) (aos := #[(.tmp 61), (.tmp 66)]) (ats := #[112, 27]) (fid := 81) (first := #[]) (cap := #[]) (args := [(.agg (kSpot r4 ar4_0_0 nr4_0_0)), (.agg (kRef x249.To))]) rfl co_ref03_spot_of (rfl) hw232 (c_ref03_spot_of N wd231 F9 hw232.pers (r4) ar4_0_0 nr4_0_0 hbr4_0_0 (SlA.mono hsr4_0_0 ((((le23.trans le63).trans le136).trans le164).trans le196)) (x249.To) _ hr264) ?_
        intro v266 F12 w267 hs268 le269 hp270
        obtain rfl := hp270
        refine Dt 7 16 3 _ (fun _ hq => ma 67 (vi r263)) ?_
        obtain rfl := some_inj h265
        exact DWP.done (by kernel_rfl) ⟨F12, hs268, le269, e198, e199, e200, e201, e202, e203, e204, e205, e206, rfl⟩
       ·rintro f w233 ⟨F11, hs234, le235, e237, e238, e239, e240, e241, e242, e243, e244, e245, e246⟩
        refine thenQ_nrm ?_
        refine Sq ?_
        obtain ⟨j276, hj288, h289⟩ := bind_some h248
        refine CWP.regionD (by kernel_rfl) (by kernel_rfl) (by kernel_rfl) (by kernel_rfl) (z := 22) (F := F11) (Lc := [es161_3, es161_2, (sb b12 (kSpot r4 ar4_0_0 nr4_0_0) 112)]) (Lz := []) (l := [false, false, false, false, false, false, false, false, false, false, false, false, false, false, false, false, false, false, false, false, false, false]) (fuel := 22) (by kernel_rfl) (by kernel_rfl) hs234 (by simp) (by simp) (fun f w => ∃ (F13 : Mem), HS w0 F0 w F13 [es161_3, es161_2, (sb b12 (kSpot r4 ar4_0_0 nr4_0_0) 112)] ∧ Mem.le F11 F13 ∧ f.d = [] ∧ f 7 = (.pointer (some ⟨b12, 0, none⟩)) ∧ f 8 = (.slice ar17_0_0 r17.length nr17_0_0) ∧ f 9 = (.slice (some ⟨b28, 0, none⟩) s161.2.2.1.length n29) ∧ f 10 = (.slice (some ⟨b38, 0, none⟩) s161.2.2.2.length n39) ∧ f 12 = (vi s133.1) ∧ f 13 = (vi s161.1) ∧ f 14 = (vi s161.2.1) ∧ f 15 = (vi j197) ∧ f 16 = (vi j236) ∧ f 89 = (.bool j276)) (fun wd271 hw272 => ?_) ?_
        ·refine Dtl 0 68 50 _ [tt, ff, ff, ff, ff, ff, ff, ff, ff, ff, ff, ff, ff, ff, ff, ff, ff, ff, ff, ff, ff, ff] (fun _ hq => mv 9 (.slice (some ⟨b28, 0, none⟩) s161.2.2.1.length n29) e240) ?_
         refine Dtl 1 69 3 _ [tt, tt, ff, ff, ff, ff, ff, ff, ff, ff, ff, ff, ff, ff, ff, ff, ff, ff, ff, ff, ff, ff] (fun _ hq => mv 15 (vi j197) e245) ?_
         obtain ⟨x290, hx291, h293⟩ := bind_some hj288
         obtain ⟨hi292, hx291'⟩ := idx_spec hx291
         obtain ⟨b294, C295, ha296, rfl, hE298⟩ := RowR.open (hrs161_2.mono (le196.trans le235)) hx291'
         cases ha296
         have hr299 := (hrs161_2.mono (le196.trans le235))
         have hc301 := hE298 _ _ hx291'
         refine Dtl 2 70 0 (.pointer (some ⟨b28, ((j197 : Int).toNat * 1), none⟩)) [tt, tt, tt, ff, ff, ff, ff, ff, ff, ff, ff, ff, ff, ff, ff, ff, ff, ff, ff, ff, ff, ff] (fun _ hq => run_index0 (t := 50) (x := (.tmp 68)) (y := (.tmp 69)) (b := b28) (E := 3) (s := 1) (by_ := 8) rfl rfl (by kernel_rfl) hi292) ?_
         refine Dtl 3 71 3 _ [tt, tt, tt, tt, ff, ff, ff, ff, ff, ff, ff, ff, ff, ff, ff, ff, ff, ff, ff, ff, ff, ff] (fun _ hq => lx 3 70 0 1 false 1 (vi x290) (hq.1.2 1 _ _ rfl) hc301) ?_
         refine Dtl 4 72 4 (.bool (decide (x290 < 1125899906842624))) [tt, tt, tt, tt, tt, ff, ff, ff, ff, ff, ff, ff, ff, ff, ff, ff, ff, ff, ff, ff, ff, ff] (fun _ hq => run_lss (t := 3) (t' := 3) (x := (.tmp 71)) (y := (.const (vi 1125899906842624))) (k := .i64) (a := x290) (b := 1125899906842624) rfl rfl) ?_
         refine Dtl 5 73 4 _ [tt, tt, tt, tt, tt, tt, ff, ff, ff, ff, ff, ff, ff, ff, ff, ff, ff, ff, ff, ff, ff, ff] (fun _ hq => mv 72 (.bool (decide (x290 < 1125899906842624)))) ?_
         refine DWP.split (decide (x290 < 1125899906842624)) (fun hb302 => ?_) (fun hb302 => ?_)
         ·have h303 := cond_t h293 hb302
          refine Dgl 6 74 50 _ [tt, tt, tt, tt, tt, tt, tt, ff, ff, ff, ff, ff, ff, ff, ff, ff, ff, ff, ff, ff, ff, ff] 5 true 73 hb302 (fun _ hq => mv 9 (.slice (some ⟨b28, 0, none⟩) s161.2.2.1.length n29) e240) ?_
          refine Dgl 7 75 3 _ [tt, tt, tt, tt, tt, tt, tt, tt, ff, ff, ff, ff, ff, ff, ff, ff, ff, ff, ff, ff, ff, ff] 5 true 73 hb302 (fun _ hq => mv 15 (vi j197) e245) ?_
          obtain ⟨x304, hx305, h307⟩ := bind_some h303
          obtain ⟨hi306, hx305'⟩ := idx_spec hx305
          obtain ⟨b308, C309, ha310, he311, hE312⟩ := RowR.open hr299 hx305'
          cases ha310
          cases he311
          have hc314 := hE312 _ _ hx305'
          refine Dgl 8 76 0 (.pointer (some ⟨b28, ((j197 : Int).toNat * 1), none⟩)) [tt, tt, tt, tt, tt, tt, tt, tt, tt, ff, ff, ff, ff, ff, ff, ff, ff, ff, ff, ff, ff, ff] 5 true 73 hb302 (fun _ hq => run_index0 (t := 50) (x := (.tmp 74)) (y := (.tmp 75)) (b := b28) (E := 3) (s := 1) (by_ := 8) rfl rfl (by kernel_rfl) hi306) ?_
          refine Dgl 9 77 3 _ [tt, tt, tt, tt, tt, tt, tt, tt, tt, tt, ff, ff, ff, ff, ff, ff, ff, ff, ff, ff, ff, ff] 5 true 73 hb302 (fun _ hq => lx 3 76 0 1 false 1 (vi x304) (hq.1.2 1 _ _ rfl) hc314) ?_
          refine Dgl 10 78 57 _ [tt, tt, tt, tt, tt, tt, tt, tt, tt, tt, tt, ff, ff, ff, ff, ff, ff, ff, ff, ff, ff, ff] 5 true 73 hb302 (fun _ hq => mv 8 (.slice ar17_0_0 r17.length nr17_0_0) e239) ?_
          refine Dgl 11 79 3 _ [tt, tt, tt, tt, tt, tt, tt, tt, tt, tt, tt, tt, ff, ff, ff, ff, ff, ff, ff, ff, ff, ff] 5 true 73 hb302 (fun _ hq => mv 14 (vi s161.2.1) e244) ?_
          obtain ⟨x315, hx316, h318⟩ := bind_some h307
          obtain ⟨hi317, hx316'⟩ := idx_spec hx316
          obtain ⟨b319, o320, C321, E322, fz323, rfl, hF325, hE326⟩ := SlA.open (SlA.mono hsr17_0_0 ((((le63.trans le136).trans le164).trans le196).trans le235)) hx316'
          have hc328 := hE326 _ _ hx316'
          refine Dgl 12 80 0 (.pointer (some ⟨b319, (o320 + (s161.2.1 : Int).toNat * 7), none⟩)) [tt, tt, tt, tt, tt, tt, tt, tt, tt, tt, tt, tt, tt, ff, ff, ff, ff, ff, ff, ff, ff, ff] 5 true 73 hb302 (fun _ hq => ix 57 78 79 b319 o320 103 7 56 hi317) ?_
          refine Dgl 13 81 0 (.pointer (some ⟨b319, ((o320 + (s161.2.1 : Int).toNat * 7) + 4), none⟩)) [tt, tt, tt, tt, tt, tt, tt, tt, tt, tt, tt, tt, tt, tt, ff, ff, ff, ff, ff, ff, ff, ff] 5 true 73 hb302 (fun _ hq => fa 103 80 2 4 1 b319 (o320 + (s161.2.1 : Int).toNat * 7) ((o320 + (s161.2.1 : Int).toNat * 7) + 4)) ?_
          refine Dgl 14 82 3 _ [tt, tt, tt, tt, tt, tt, tt, tt, tt, tt, tt, tt, tt, tt, tt, ff, ff, ff, ff, ff, ff, ff] 5 true 73 hb302 (fun _ hq => lx 3 81 4 7 false 1 (vi x315.Most) (hq.1.1 _ _ hF325) hc328) ?_
          refine Dgl 15 83 3 (vi (W64 (x304 + x315.Most))) [tt, tt, tt, tt, tt, tt, tt, tt, tt, tt, tt, tt, tt, tt, tt, tt, ff, ff, ff, ff, ff, ff] 5 true 73 hb302 (fun _ hq => run_add (t := 3) (t' := 3) (x := (.tmp 77)) (y := (.tmp 82)) (k := .i64) (a := x304) (b := x315.Most) rfl rfl) ?_
          refine Dgl 16 84 50 _ [tt, tt, tt, tt, tt, tt, tt, tt, tt, tt, tt, tt, tt, tt, tt, tt, tt, ff, ff, ff, ff, ff] 5 true 73 hb302 (fun _ hq => mv 9 (.slice (some ⟨b28, 0, none⟩) s161.2.2.1.length n29) e240) ?_
          refine Dgl 17 85 3 _ [tt, tt, tt, tt, tt, tt, tt, tt, tt, tt, tt, tt, tt, tt, tt, tt, tt, tt, ff, ff, ff, ff] 5 true 73 hb302 (fun _ hq => mv 16 (vi j236) e246) ?_
          obtain ⟨x329, hx330, h332⟩ := bind_some h318
          obtain ⟨hi331, hx330'⟩ := idx_spec hx330
          obtain ⟨b333, C334, ha335, he336, hE337⟩ := RowR.open hr299 hx330'
          cases ha335
          cases he336
          have hc339 := hE337 _ _ hx330'
          refine Dgl 18 86 0 (.pointer (some ⟨b28, ((j236 : Int).toNat * 1), none⟩)) [tt, tt, tt, tt, tt, tt, tt, tt, tt, tt, tt, tt, tt, tt, tt, tt, tt, tt, tt, ff, ff, ff] 5 true 73 hb302 (fun _ hq => run_index0 (t := 50) (x := (.tmp 84)) (y := (.tmp 85)) (b := b28) (E := 3) (s := 1) (by_ := 8) rfl rfl (by kernel_rfl) hi331) ?_
          refine Dgl 19 87 3 _ [tt, tt, tt, tt, tt, tt, tt, tt, tt, tt, tt, tt, tt, tt, tt, tt, tt, tt, tt, tt, ff, ff] 5 true 73 hb302 (fun _ hq => lx 3 86 0 1 false 1 (vi x329) (hq.1.2 1 _ _ rfl) hc339) ?_
          refine Dgl 20 88 4 (.bool (decide ((W64 (x304 + x315.Most)) < x329))) [tt, tt, tt, tt, tt, tt, tt, tt, tt, tt, tt, tt, tt, tt, tt, tt, tt, tt, tt, tt, tt, ff] 5 true 73 hb302 (fun _ hq => run_lss (t := 3) (t' := 3) (x := (.tmp 83)) (y := (.tmp 87)) (k := .i64) (a := (W64 (x304 + x315.Most))) (b := x329) rfl rfl) ?_
          refine Dtl 21 89 4 _ [tt, tt, tt, tt, tt, tt, tt, tt, tt, tt, tt, tt, tt, tt, tt, tt, tt, tt, tt, tt, tt, tt] (fun _ hq => p1 73 (.tmp 88) (.const (.bool false)) (.bool (decide ((W64 (x304 + x315.Most)) < x329))) hb302) ?_
          obtain rfl := some_inj h332
          exact DWP.done (by kernel_rfl) ⟨F11, hw272, (Mem.le.refl _), e237, e238, e239, e240, e241, e242, e243, e244, e245, e246, rfl⟩
         ·have h340 := cond_f h293 hb302
          refine Dkl [(6, 74), (7, 75), (8, 76), (9, 77), (10, 78), (11, 79)] 5 true 73 hb302 [tt, tt, tt, tt, tt, tt, tt, tt, tt, tt, tt, tt, ff, ff, ff, ff, ff, ff, ff, ff, ff, ff] ?_
          refine Dkl [(12, 80), (13, 81), (14, 82), (15, 83), (16, 84), (17, 85)] 5 true 73 hb302 [tt, tt, tt, tt, tt, tt, tt, tt, tt, tt, tt, tt, tt, tt, tt, tt, tt, tt, ff, ff, ff, ff] ?_
          refine Dkl [(18, 86), (19, 87), (20, 88)] 5 true 73 hb302 [tt, tt, tt, tt, tt, tt, tt, tt, tt, tt, tt, tt, tt, tt, tt, tt, tt, tt, tt, tt, tt, ff] ?_
          refine Dtl 21 89 4 _ [tt, tt, tt, tt, tt, tt, tt, tt, tt, tt, tt, tt, tt, tt, tt, tt, tt, tt, tt, tt, tt, tt] (fun _ hq => p0 73 (.tmp 88) (.const (.bool false)) (.bool false) hb302) ?_
          obtain rfl := some_inj h340
          exact DWP.done (by kernel_rfl) ⟨F11, hw272, (Mem.le.refl _), e237, e238, e239, e240, e241, e242, e243, e244, e245, e246, rfl⟩
        ·rintro f w273 ⟨F13, hs274, le275, e277, e278, e279, e280, e281, e282, e283, e284, e285, e286, e287⟩
         refine thenQ_nrm ?_
         obtain ⟨j344, hj353, h354⟩ := bind_some h289
         refine CWP.cut (fun f w => ∃ (F14 : Mem) (ej344_0 : Option Nat × Obj) (ej344_1 : Option Nat × Obj), HS w0 F0 w F14 [ej344_1, ej344_0, (sb b12 (kSpot r4 ar4_0_0 nr4_0_0) 112)] ∧ Mem.le F13 F14 ∧ f.d = [] ∧ f 7 = (.pointer (some ⟨b12, 0, none⟩)) ∧ f 8 = (.slice ar17_0_0 r17.length nr17_0_0) ∧ f 9 = (.slice (some ⟨b28, 0, none⟩) j344.1.length n29) ∧ f 10 = (.slice (some ⟨b38, 0, none⟩) j344.2.1.length n39) ∧ f 12 = (vi s133.1) ∧ f 13 = (vi j344.2.2) ∧ f 14 = (vi s161.2.1) ∧ RowR tInt 3 F14 (some ⟨b28, 0, none⟩) n29 j344.1 ej344_0 ∧ RowR tInt 3 F14 (some ⟨b38, 0, none⟩) n39 j344.2.1 ej344_1) ?_ ?_
         ·refine CWP.cond (t := j276) (by kernel_rfl) e287 (fun hb355 => ?_) (fun hb355 => ?_)
          ·have h356 := cond_t hj353 hb355
           refine Sq ?_
           obtain ⟨j362, hj371, h372⟩ := bind_some h356
           refine CWP.regionD (by kernel_rfl) (by kernel_rfl) (by kernel_rfl) (by kernel_rfl) (z := 13) (F := F13) (Lc := [es161_3, (sb b12 (kSpot r4 ar4_0_0 nr4_0_0) 112)]) (Lz := [es161_2]) (l := [false, false, false, false, false, false, false, false, false, false, false, false, false, false]) (fuel := 14) (by kernel_rfl) (by kernel_rfl) hs274 (by simp) (by simp) (fun f w => ∃ (F15 : Mem) (ej362_0 : Option Nat × Obj), HS w0 F0 w F15 [es161_3, ej362_0, (sb b12 (kSpot r4 ar4_0_0 nr4_0_0) 112)] ∧ Mem.le F13 F15 ∧ f.d = [] ∧ f 7 = (.pointer (some ⟨b12, 0, none⟩)) ∧ f 8 = (.slice ar17_0_0 r17.length nr17_0_0) ∧ f 9 = (.slice (some ⟨b28, 0, none⟩) j362.length n29) ∧ f 10 = (.slice (some ⟨b38, 0, none⟩) s161.2.2.2.length n39) ∧ f 12 = (vi s133.1) ∧ f 14 = (vi s161.2.1) ∧ f 16 = (vi j236) ∧ RowR tInt 3 F15 (some ⟨b28, 0, none⟩) n29 j362 ej362_0) (fun wd357 hw358 => ?_) ?_
           ·refine Df 0 90 50 _ (fun _ hq => mv 9 (.slice (some ⟨b28, 0, none⟩) s161.2.2.1.length n29) e280) ?_
            refine Df 1 91 3 _ (fun _ hq => mv 16 (vi j236) e286) ?_
            refine Df 2 92 50 _ (fun _ hq => mv 9 (.slice (some ⟨b28, 0, none⟩) s161.2.2.1.length n29) e280) ?_
            refine Df 3 93 3 _ (fun _ hq => mv 15 (vi j197) e285) ?_
            obtain ⟨x373, hx374, h376⟩ := bind_some hj371
            obtain ⟨hi375, hx374'⟩ := idx_spec hx374
            obtain ⟨b377, C378, ha379, rfl, hE381⟩ := RowR.open (hrs161_2.mono ((le196.trans le235).trans le275)) hx374'
            cases ha379
            have hr382 := (hrs161_2.mono ((le196.trans le235).trans le275))
            have hc384 := hE381 _ _ hx374'
            refine Df 4 94 0 (.pointer (some ⟨b28, ((j197 : Int).toNat * 1), none⟩)) (fun _ hq => run_index0 (t := 50) (x := (.tmp 92)) (y := (.tmp 93)) (b := b28) (E := 3) (s := 1) (by_ := 8) rfl rfl (by kernel_rfl) hi375) ?_
            refine Df 5 95 3 _ (fun _ hq => lx 3 94 0 1 false 1 (vi x373) ((hq.2 rfl).2 0 _ _ rfl) hc384) ?_
            refine Df 6 96 57 _ (fun _ hq => mv 8 (.slice ar17_0_0 r17.length nr17_0_0) e279) ?_
            refine Df 7 97 3 _ (fun _ hq => mv 14 (vi s161.2.1) e284) ?_
            obtain ⟨x385, hx386, h388⟩ := bind_some h376
            obtain ⟨hi387, hx386'⟩ := idx_spec hx386
            obtain ⟨b389, o390, C391, E392, fz393, rfl, hF395, hE396⟩ := SlA.open (SlA.mono hsr17_0_0 (((((le63.trans le136).trans le164).trans le196).trans le235).trans le275)) hx386'
            have hc398 := hE396 _ _ hx386'
            refine Df 8 98 0 (.pointer (some ⟨b389, (o390 + (s161.2.1 : Int).toNat * 7), none⟩)) (fun _ hq => ix 57 96 97 b389 o390 103 7 56 hi387) ?_
            refine Df 9 99 0 (.pointer (some ⟨b389, ((o390 + (s161.2.1 : Int).toNat * 7) + 4), none⟩)) (fun _ hq => fa 103 98 2 4 1 b389 (o390 + (s161.2.1 : Int).toNat * 7) ((o390 + (s161.2.1 : Int).toNat * 7) + 4)) ?_
            refine Df 10 100 3 _ (fun _ hq => lx 3 99 4 7 false 1 (vi x385.Most) (hq.1.1 _ _ hF395) hc398) ?_
            refine Df 11 101 3 (vi (W64 (x373 + x385.Most))) (fun _ hq => run_add (t := 3) (t' := 3) (x := (.tmp 95)) (y := (.tmp 100)) (k := .i64) (a := x373) (b := x385.Most) rfl rfl) ?_
            obtain ⟨x399, hx400, h402⟩ := bind_some h388
            obtain ⟨hi401, hx400'⟩ := idx_spec hx400
            obtain ⟨b403, C404, ha405, he406, hE407⟩ := RowR.open hr382 hx400'
            cases ha405
            cases he406
            have hc409 := hE407 _ _ hx400'
            refine Df 12 102 0 (.pointer (some ⟨b28, ((j236 : Int).toNat * 1), none⟩)) (fun _ hq => run_index0 (t := 50) (x := (.tmp 90)) (y := (.tmp 91)) (b := b28) (E := 3) (s := 1) (by_ := 8) rfl rfl (by kernel_rfl) hi401) ?_
            refine DWP.one (i := 13) (by kernel_rfl) ?_
            refine DStep.storeRow (l' := [true, true, true, true, true, true, true, true, true, true, true, true, true, true]) (zd := true) (by kernel_rfl) (by kernel_rfl) (ty := 0) (g := none) (by kernel_rfl) rfl (x := (.tmp 102)) (y := (.tmp 101)) (t := 3) (v := (vi (W64 (x373 + x385.Most)))) (gg := false) (b := b28) (j := (j236 : Int).toNat) (C := C378) (T := tInt) (E := 3) (u := ((W64 (x373 + x385.Most)))) rfl rfl (by kernel_rfl) hw358 (k := 1) rfl hr382 hx400' rfl rfl (Mem.le.refl _) (fun _ => by simp) (fun e => by cases e) (fun C410 w411 (hs412 : HS w0 F0 w411 F13 [es161_3, (some b28, .cells C410 3 (0, 0)), (sb b12 (kSpot r4 ar4_0_0 nr4_0_0) 112)]) hr413 => ?_)
            obtain rfl := some_inj h402
            exact DWP.done (by kernel_rfl) ⟨F13, (some b28, .cells C410 3 (0, 0)), hs412, (Mem.le.refl _), e277, e278, e279, (len_set e280), e281, e282, e284, e286, hr413⟩
           ·rintro f w359 ⟨F15, ej362_0, hs360, le361, e363, e364, e365, e366, e367, e368, e369, e370, hrj362_0⟩
            refine thenQ_nrm ?_
            refine Sq (Rg [0, 1, 2, 3, 4] ?_)
            refine V 103 50 (mv 10 (.slice (some ⟨b38, 0, none⟩) s161.2.2.2.length n39) e367) ?_
            refine V 104 3 (mv 16 (vi j236) e370) ?_
            refine V 105 3 (mv 14 (vi s161.2.1) e369) ?_
            obtain ⟨x414, hx415, h417⟩ := bind_some h372
            obtain ⟨hi416, hx415'⟩ := idx_spec hx415
            obtain ⟨b418, C419, ha420, rfl, hE422⟩ := RowR.open (hrs161_3.mono (((le196.trans le235).trans le275).trans le361)) hx415'
            cases ha420
            have hr423 := (hrs161_3.mono (((le196.trans le235).trans le275).trans le361))
            have hc425 := hE422 _ _ hx415'
            refine V 106 0 (run_index0 (t := 50) (x := (.tmp 103)) (y := (.tmp 104)) (b := b38) (E := 3) (s := 1) (by_ := 8) rfl rfl (by kernel_rfl) hi416) ?_
            refine RWP.storeRow (ty := 0) (g := none) (by kernel_rfl) rfl (x := (.tmp 106)) (y := (.tmp 105)) (t := 3) (v := (vi s161.2.1)) (gg := false) (b := b38) (j := (j236 : Int).toNat) (C := C419) (T := tInt) (E := 3) (u := (s161.2.1)) rfl rfl (by kernel_rfl) hs360 (k := 0) rfl hr423 hx415' rfl rfl (fun C426 w427 (hs428 : HS w0 F0 w427 F15 [(some b38, .cells C426 3 (0, 0)), ej362_0, (sb b12 (kSpot r4 ar4_0_0 nr4_0_0) 112)]) hr429 => ?_)
            refine Nt ?_
            refine Rg [0, 1] ?_
            refine V 107 3 (mv 16 (vi j236) e370) ?_
            refine V 13 3 (ma 107 (vi j236)) ?_
            refine RWP.nil ?_
            obtain rfl := some_inj h417
            exact .inl ⟨rfl, F15, ej362_0, (some b38, .cells C426 3 (0, 0)), hs428, le361, e363, e364, e365, e366, (len_set e367), e368, rfl, e369, hrj362_0, hr429⟩
          ·have h430 := cond_f hj353 hb355
           refine Sc ?_
           obtain rfl := some_inj h430
           exact .inl ⟨rfl, F13, es161_2, es161_3, hs274, (Mem.le.refl _), e277, e278, e279, e280, e281, e282, e283, e284, (hrs161_2.mono ((le196.trans le235).trans le275)), (hrs161_3.mono ((le196.trans le235).trans le275))⟩
         ·rintro f w341 ⟨F14, ej344_0, ej344_1, hs342, le343, e345, e346, e347, e348, e349, e350, e351, e352, hrj344_0, hrj344_1⟩
          refine blockQ_nrm ?_
          refine thenQ_nrm ?_
          refine Rg [0, 1, 2] ?_
          refine V 52 3 (mv 14 (vi s161.2.1) e352) ?_
          refine V 53 3 (run_add (t := 3) (t' := 3) (x := (.tmp 52)) (y := (.const (vi 1))) (k := .i64) (a := s161.2.1) (b := 1) rfl rfl) ?_
          refine V 14 3 (ma 53 (vi (W64 (s161.2.1 + 1)))) ?_
          refine RWP.nil ?_
          have hn431 := iter_next h354 hnx189
          exact ⟨m186, Nat.lt_succ_self _, (j344.2.2, (W64 (s161.2.1 + 1)), j344.1, j344.2.1), F14, ej344_0, ej344_1, hn431, hs342, ((((le164.trans le196).trans le235).trans le275).trans le343), e345, e346, e347, e348, e349, e350, e351, rfl, hrj344_0, hrj344_1⟩
     ·have h432 := cond_f hb188 hb190
      refine CWP.exit (by kernel_rfl) ?_
      refine thenQ_ex ?_
      refine thenQ_ex ?_
      refine blockQ_hit rfl ?_
      have ho433 := iter_done h432 hnx189
      exact .inl ⟨rfl, (s161.1, s161.2.1, s161.2.2.1, s161.2.2.2), F7, es161_2, es161_3, ho433, hs163, le164, e165, e166, e167, e168, e169, e170, e171, hrs161_2, hrs161_3⟩
    ·rintro f w174 ⟨s173, F8, es173_2, es173_3, rfl, hs175, le176, e177, e178, e179, e180, e181, e182, e183, hrs173_2, hrs173_3⟩
     have h434 := k_done h160
     refine thenQ_nrm ?_
     refine Sq ?_
     refine Sq (Rg [0, 1] ?_)
     refine V 108 3 (mv 13 (vi s173.1) e183) ?_
     refine V 109 4 (run_lss (t := 3) (t' := 3) (x := (.tmp 108)) (y := (.const (vi 0))) (k := .i64) (a := s173.1) (b := 0) rfl rfl) ?_
     refine Nt ?_
     refine CWP.cond (t := (decide (s173.1 < 0))) (by kernel_rfl) rfl (fun hb435 => ?_) (fun hb435 => ?_)
     ·have h436 := cond_t h434 hb435
      refine Sq (Rg [0, 1, 2, 3, 4] ?_)
      refine V 110 50 (mv 9 (.slice (some ⟨b28, 0, none⟩) s173.2.2.1.length n29) e180) ?_
      refine V 111 50 (mv 10 (.slice (some ⟨b38, 0, none⟩) s173.2.2.2.length n39) e181) ?_
      refine V 4 50 (ma 110 (.slice (some ⟨b28, 0, none⟩) s173.2.2.1.length n29)) ?_
      refine V 5 50 (ma 111 (.slice (some ⟨b38, 0, none⟩) s173.2.2.2.length n39)) ?_
      refine V 6 3 (mc (vi (-1)) (vi (-1))) ?_
      refine Nt ?_
      refine CWP.ret (by kernel_rfl) ?_
      refine thenQ_ret ?_
      refine blockQ_ret ?_
      refine thenQ_ret ?_
      refine thenQ_ret ?_
      refine blockQ_ret ?_
      have hret := iter_ret h436 hnx155
      subst hret
      refine .inr ?_
      refine thenQ_ret ?_
      have hb440 := RowR.bound hrs173_2
      obtain ⟨F16, hs437, le438, hs439⟩ : ∃ Fq, HS w0 F0 w174 Fq [es173_3, (sb b12 (kSpot r4 ar4_0_0 nr4_0_0) 112)] ∧ Mem.le F8 Fq ∧ SlA tInt Fq (some ⟨b28, 0, none⟩) s173.2.2.1 := HS.freezeRow hs175 (k := 1) rfl hrs173_2
      have hb444 := RowR.bound (hrs173_3.mono le438)
      obtain ⟨F17, hs441, le442, hs443⟩ : ∃ Fq, HS w0 F0 w174 Fq [(sb b12 (kSpot r4 ar4_0_0 nr4_0_0) 112)] ∧ Mem.le F16 Fq ∧ SlA tInt Fq (some ⟨b38, 0, none⟩) s173.2.2.2 := HS.freezeRow hs437 (k := 0) rfl (hrs173_3.mono le438)
      have hfin := some_inj h132
      subst hfin
      exact ⟨e177, (.tuple #[(.slice (some ⟨b28, 0, none⟩) s173.2.2.1.length n29), (.slice (some ⟨b38, 0, none⟩) s173.2.2.2.length n39), (vi (-1))]), res_of (l := [.tmp 4, .tmp 5, .tmp 6]) (by kernel_rfl) (vs := [(.slice (some ⟨b28, 0, none⟩) s173.2.2.1.length n29), (.slice (some ⟨b38, 0, none⟩) s173.2.2.2.length n39), (vi (-1))]) ⟨rfl, ⟨rfl, ⟨rfl, trivial⟩⟩⟩, (.tuple #[(.slice (some ⟨b28, 0, none⟩) s173.2.2.1.length n29), (.slice (some ⟨b38, 0, none⟩) s173.2.2.2.length n39), (vi (-1))]), F17, rfl, hs441.clear, ⟨(some ⟨b28, 0, none⟩), n29, (some ⟨b38, 0, none⟩), n39, rfl, hb440, (SlA.mono hs439 le442), hb444, hs443⟩⟩
     ·have h445 := cond_f h434 hb435
      refine Sc ?_
      refine thenQ_nrm ?_
      refine Sq (Rg [0, 1, 2, 3] ?_)
      refine V 112 3 (mv 12 (vi s133.1) e182) ?_
      refine V 113 0 (fa 112 7 1 1 1 b12 0 1 e178) ?_
      refine V 114 3 (ld 3 113 b12 1 false 1 (vi r4.n_) (hs175.ownAt (k := 2) rfl)) ?_
      refine V 115 4 (run_eql (t := 3) (t' := 3) (x := (.tmp 112)) (y := (.tmp 114)) (k := .i64) (a := s133.1) (b := r4.n_) rfl rfl) ?_
      refine Nt ?_
      refine CWP.cond (t := (s133.1 == r4.n_)) (by kernel_rfl) rfl (fun hb446 => ?_) (fun hb446 => ?_)
      ·have h447 := cond_t h445 hb446
       refine Sq (Rg [0, 1, 2, 3, 4, 5] ?_)
       refine V 116 50 (mv 9 (.slice (some ⟨b28, 0, none⟩) s173.2.2.1.length n29) e180) ?_
       refine V 117 50 (mv 10 (.slice (some ⟨b38, 0, none⟩) s173.2.2.2.length n39) e181) ?_
       refine V 118 3 (mv 13 (vi s173.1) e183) ?_
       refine V 4 50 (ma 116 (.slice (some ⟨b28, 0, none⟩) s173.2.2.1.length n29)) ?_
       refine V 5 50 (ma 117 (.slice (some ⟨b38, 0, none⟩) s173.2.2.2.length n39)) ?_
       refine V 6 3 (ma 118 (vi s173.1)) ?_
       refine Nt ?_
       refine CWP.ret (by kernel_rfl) ?_
       refine blockQ_ret ?_
       refine thenQ_ret ?_
       refine thenQ_ret ?_
       refine blockQ_ret ?_
       have hret := iter_ret h447 hnx155
       subst hret
       refine .inr ?_
       refine thenQ_ret ?_
       have hb451 := RowR.bound hrs173_2
       obtain ⟨F18, hs448, le449, hs450⟩ : ∃ Fq, HS w0 F0 w174 Fq [es173_3, (sb b12 (kSpot r4 ar4_0_0 nr4_0_0) 112)] ∧ Mem.le F8 Fq ∧ SlA tInt Fq (some ⟨b28, 0, none⟩) s173.2.2.1 := HS.freezeRow hs175 (k := 1) rfl hrs173_2
       have hb455 := RowR.bound (hrs173_3.mono le449)
       obtain ⟨F19, hs452, le453, hs454⟩ : ∃ Fq, HS w0 F0 w174 Fq [(sb b12 (kSpot r4 ar4_0_0 nr4_0_0) 112)] ∧ Mem.le F18 Fq ∧ SlA tInt Fq (some ⟨b38, 0, none⟩) s173.2.2.2 := HS.freezeRow hs448 (k := 0) rfl (hrs173_3.mono le449)
       have hfin := some_inj h132
       subst hfin
       exact ⟨e177, (.tuple #[(.slice (some ⟨b28, 0, none⟩) s173.2.2.1.length n29), (.slice (some ⟨b38, 0, none⟩) s173.2.2.2.length n39), (vi s173.1)]), res_of (l := [.tmp 4, .tmp 5, .tmp 6]) (by kernel_rfl) (vs := [(.slice (some ⟨b28, 0, none⟩) s173.2.2.1.length n29), (.slice (some ⟨b38, 0, none⟩) s173.2.2.2.length n39), (vi s173.1)]) ⟨rfl, ⟨rfl, ⟨rfl, trivial⟩⟩⟩, (.tuple #[(.slice (some ⟨b28, 0, none⟩) s173.2.2.1.length n29), (.slice (some ⟨b38, 0, none⟩) s173.2.2.2.length n39), (vi s173.1)]), F19, rfl, hs452.clear, ⟨(some ⟨b28, 0, none⟩), n29, (some ⟨b38, 0, none⟩), n39, rfl, hb451, (SlA.mono hs450 le453), hb455, hs454⟩⟩
      ·have h456 := cond_f h445 hb446
       refine Sc ?_
       refine blockQ_nrm ?_
       refine thenQ_nrm ?_
       refine Rg [0, 1, 2] ?_
       refine V 46 3 (mv 12 (vi s133.1) e182) ?_
       refine V 47 3 (run_add (t := 3) (t' := 3) (x := (.tmp 46)) (y := (.const (vi 1))) (k := .i64) (a := s133.1) (b := 1) rfl rfl) ?_
       refine V 12 3 (ma 47 (vi (W64 (s133.1 + 1)))) ?_
       refine RWP.nil ?_
       have hn457 := iter_next h456 hnx155
       exact ⟨m152, Nat.lt_succ_self _, ((W64 (s133.1 + 1)), s173.2.2.1, s173.2.2.2), F8, es173_2, es173_3, hn457, hs175, (le136.trans le176), e177, e178, e179, e180, e181, rfl, hrs173_2, hrs173_3⟩
   ·have h458 := cond_f hb154 hb156
    refine CWP.exit (by kernel_rfl) ?_
    refine thenQ_ex ?_
    refine thenQ_ex ?_
    refine blockQ_hit rfl ?_
    have hs459 : HS w0 F0 w134 F5 [es133_2, es133_1] := hs135.drop 2
    have ho460 := iter_done h458 hnx155
    exact .inl ⟨rfl, (s133.1, s133.2.1, s133.2.2), F5, es133_1, es133_2, ho460, hs459, le136, e137, e140, e141, hrs133_1, hrs133_2⟩
  ·rintro f w144 ⟨s143, F6, es143_1, es143_2, rfl, hs145, le146, e147, e148, e149, hrs143_1, hrs143_2⟩
   have h461 := k_done h132
   refine thenQ_nrm ?_
   refine Sq (Rg [0, 1, 2, 3, 4] ?_)
   refine V 119 50 (mv 9 (.slice (some ⟨b28, 0, none⟩) s143.2.1.length n29) e148) ?_
   refine V 120 50 (mv 10 (.slice (some ⟨b38, 0, none⟩) s143.2.2.length n39) e149) ?_
   refine V 4 50 (ma 119 (.slice (some ⟨b28, 0, none⟩) s143.2.1.length n29)) ?_
   refine V 5 50 (ma 120 (.slice (some ⟨b38, 0, none⟩) s143.2.2.length n39)) ?_
   refine V 6 3 (mc (vi (-1)) (vi (-1))) ?_
   refine Nt ?_
   refine CWP.ret (by kernel_rfl) ?_
   have hb465 := RowR.bound hrs143_1
   obtain ⟨F20, hs462, le463, hs464⟩ : ∃ Fq, HS w0 F0 w144 Fq [es143_2] ∧ Mem.le F6 Fq ∧ SlA tInt Fq (some ⟨b28, 0, none⟩) s143.2.1 := HS.freezeRow hs145 (k := 1) rfl hrs143_1
   have hb469 := RowR.bound (hrs143_2.mono le463)
   obtain ⟨F21, hs466, le467, hs468⟩ : ∃ Fq, HS w0 F0 w144 Fq [] ∧ Mem.le F20 Fq ∧ SlA tInt Fq (some ⟨b38, 0, none⟩) s143.2.2 := HS.freezeRow hs462 (k := 0) rfl (hrs143_2.mono le463)
   have hfin := some_inj h461
   subst hfin
   exact ⟨e147, (.tuple #[(.slice (some ⟨b28, 0, none⟩) s143.2.1.length n29), (.slice (some ⟨b38, 0, none⟩) s143.2.2.length n39), (vi (-1))]), res_of (l := [.tmp 4, .tmp 5, .tmp 6]) (by kernel_rfl) (vs := [(.slice (some ⟨b28, 0, none⟩) s143.2.1.length n29), (.slice (some ⟨b38, 0, none⟩) s143.2.2.length n39), (vi (-1))]) ⟨rfl, ⟨rfl, ⟨rfl, trivial⟩⟩⟩, (.tuple #[(.slice (some ⟨b28, 0, none⟩) s143.2.1.length n29), (.slice (some ⟨b38, 0, none⟩) s143.2.2.length n39), (vi (-1))]), F21, rfl, hs466.clear, ⟨(some ⟨b28, 0, none⟩), n29, (some ⟨b38, 0, none⟩), n39, rfl, hb465, (SlA.mono hs464 le467), hb469, hs468⟩⟩
end Go.Proofs.Ythbcnabeabcmlaa
namespace Go.Proofs.Ythbcnabeabcmlaa
open Go.Proofs
end Go.Proofs.Ythbcnabeabcmlaa
namespace Go.Proofs.Ythbcnabeabcmlaa
open Go.Proofs
def ref03_Closes (N : Nat) (x0 : System) : Option Bool :=
 ((ref03_reach N x0 0).bind fun r4 => some (decide (r4.2.2 < 0)))
theorem co_ref03_Closes : CallOk Try.prog 90 := fun _ _ => by kernel_rfl
set_option maxHeartbeats 4000000 in
set_option maxRecDepth 100000 in
theorem c_ref03_Closes (N : Nat) (w0 : World) (F0 : Mem) (hF : ∀ b o, F0 b = some o → w0.heap[b]? = some o) (x0 : System) (a0_0 : Option Addr) (n0_0 : Nat) (hb0_0 : LC x0.Tracks.length n0_0) (hs0_0 : SlA tTrack F0 a0_0 x0.Tracks) (a0_1 : Option Addr) (n0_1 : Nat) (hb0_1 : LC x0.Ties.length n0_1) (hs0_1 : SlA tTie F0 a0_1 x0.Ties) (r : Bool) (h : ref03_Closes N x0 = some r) :
  Calls Try.prog 90 ([(.agg (kSystem x0 a0_0 n0_0 a0_1 n0_1))] : List Value).toArray w0 (FRet w0 F0 fun F' v => v = (.bool r)) := by
 have hs0 := HS.start hF
 refine calls_of (n := 14) (c := bodyOf Try.f90) Try.func90 (by kernel_rfl) (by kernel_rfl) (by kernel_rfl) ?_
 refine Sq (Rg [0, 1] ?_)
 refine Bx 1 0 0 25 (kSystem x0 a0_0 n0_0 a0_1 n0_1) hs0 (fun b1 w2 (hs3 : HS w0 F0 w2 F0 [(sb b1 (kSystem x0 a0_0 n0_0 a0_1 n0_1) 25)]) => ?_)
 refine V 2 4 (mc (.bool false) (.bool false)) ?_
 refine Nss (Rg [0, 1, 2, 3, 4, 5, 6, 7, 8] ?_)
 refine V 7 25 (ld 25 1 b1 0 true 3 (.agg (kSystem x0 a0_0 n0_0 a0_1 n0_1)) (hs3.ownAt (k := 0) rfl)) ?_
 obtain ⟨r4, hr5, h6⟩ := bind_some h
 refine Cl 8 126 92 #[(.tmp 7), (.const (vi 0))] #[25, 3] co_ref03_reach hs3 (c_ref03_reach N w2 F0 hs3.pers (x0) a0_0 n0_0 hb0_0 hs0_0 a0_1 n0_1 hb0_1 hs0_1 (0) _ hr5) ?_
 intro v7 F1 w8 hs9 le10 hp11
 obtain ⟨ar4_0_0, nr4_0_0, ar4_1_0, nr4_1_0, rfl, hbr4_0_0, hsr4_0_0, hbr4_1_0, hsr4_1_0⟩ := hp11
 refine V 6 126 (mv 8 (.tuple #[(.slice ar4_0_0 r4.1.length nr4_0_0), (.slice ar4_1_0 r4.2.1.length nr4_1_0), (vi r4.2.2)])) ?_
 refine V 9 50 (ex 6 0 (.slice ar4_0_0 r4.1.length nr4_0_0) (vs := #[(.slice ar4_0_0 r4.1.length nr4_0_0), (.slice ar4_1_0 r4.2.1.length nr4_1_0), (vi r4.2.2)])) ?_
 refine V 10 50 (ex 6 1 (.slice ar4_1_0 r4.2.1.length nr4_1_0) (vs := #[(.slice ar4_0_0 r4.1.length nr4_0_0), (.slice ar4_1_0 r4.2.1.length nr4_1_0), (vi r4.2.2)])) ?_
 refine V 11 3 (ex 6 2 (vi r4.2.2) (vs := #[(.slice ar4_0_0 r4.1.length nr4_0_0), (.slice ar4_1_0 r4.2.1.length nr4_1_0), (vi r4.2.2)])) ?_
 refine V 3 50 (ma 9 (.slice ar4_0_0 r4.1.length nr4_0_0)) ?_
 refine V 4 50 (ma 10 (.slice ar4_1_0 r4.2.1.length nr4_1_0)) ?_
 refine V 5 3 (ma 11 (vi r4.2.2)) ?_
 refine Nss (Rg [0, 1, 2] ?_)
 refine V 12 3 (mv 5 (vi r4.2.2)) ?_
 refine V 13 4 (run_lss (t := 3) (t' := 3) (x := (.tmp 12)) (y := (.const (vi 0))) (k := .i64) (a := r4.2.2) (b := 0) rfl rfl) ?_
 refine V 2 4 (ma 13 (.bool (decide (r4.2.2 < 0)))) ?_
 refine Nt ?_
 refine CWP.ret (by kernel_rfl) ?_
 have hfin := some_inj h6
 subst hfin
 exact ⟨rfl, (.bool (decide (r4.2.2 < 0))), res_of (l := [.tmp 2]) (by kernel_rfl) (vs := [(.bool (decide (r4.2.2 < 0)))]) ⟨rfl, trivial⟩, (.bool (decide (r4.2.2 < 0))), F1, rfl, hs9.clear, rfl⟩
end Go.Proofs.Ythbcnabeabcmlaa
namespace Go.Proofs.Ythbcnabeabcmlaa
open BF
def lenAt (s : System) (i : Nat) : Nat := match s.Tracks[i]? with
 | none => 0
 | some t => t.Times.length
def first (s : System) : Nat → Nat
 | 0 => 1
 | i + 1 => first s i + lenAt s i
theorem first_mono (s : System) {i j : Nat} (h : i ≤ j) : first s i ≤ first s j := by
 induction h with
 | refl => exact Nat.le_refl _
 | step _ ih => exact Nat.le_trans ih (by simp [first])
theorem first_pos (s : System) (i : Nat) : 1 ≤ first s i := first_mono s (Nat.zero_le i)
def num (s : System) (r : Ref) : Nat := if r.Log < 0 then 0 else first s r.Log.toNat + r.Line.toNat
theorem num_beg (s : System) : num s beg = 0 := by unfold num beg; simp
theorem num_li (s : System) (i j : Nat) : num s (li i j) = first s i + j := by
 unfold num li
 simp only [Int.toNat_natCast]
 rw [if_neg (by omega)]
def nAll (s : System) : Nat := first s s.Tracks.length
section
variable {N : Nat} {s : System}
theorem lt_of_get {α : Type} {l : List α} {i : Nat} {x : α} (hx : l[i]? = some x) : i < l.length := by
 rcases Nat.lt_or_ge i l.length with h | h
 ·exact h
 ·rw [List.getElem?_eq_none h] at hx; cases hx
theorem num_lt {r : Ref} (h : Nd s r) : num s r < nAll s := by
 rcases h with rfl | h
 ·rw [num_beg]; exact first_pos _ _
 ·obtain ⟨i, t, j, rfl, ht, hj⟩ := li_has h
  rw [num_li]
  have h1 := first_mono s (show i + 1 ≤ s.Tracks.length from lt_of_get ht)
  have h2 : lenAt s i = t.Times.length := by unfold lenAt; rw [ht]
  simp only [first] at h1
  unfold nAll
  omega
theorem num_inj {a b : Ref} (ha : Nd s a) (hb : Nd s b) (h : num s a = num s b) : a = b := by
 rcases ha with rfl | ha <;> rcases hb with rfl | hb
 ·rfl
 ·obtain ⟨i, t, j, rfl, ht, hj⟩ := li_has hb
  rw [num_beg, num_li] at h
  have := first_pos s i
  omega
 ·obtain ⟨i, t, j, rfl, ht, hj⟩ := li_has ha
  rw [num_beg, num_li] at h
  have := first_pos s i
  omega
 ·obtain ⟨i, t, j, rfl, ht, hj⟩ := li_has ha
  obtain ⟨i', t', j', rfl, ht', hj'⟩ := li_has hb
  rw [num_li, num_li] at h
  have l1 : lenAt s i = t.Times.length := by unfold lenAt; rw [ht]
  have l2 : lenAt s i' = t'.Times.length := by unfold lenAt; rw [ht']
  rcases Nat.lt_trichotomy i i' with hlt | rfl | hlt
  ·have := first_mono s (show i + 1 ≤ i' from hlt)
   simp only [first] at this
   omega
  ·have : j = j' := by omega
   rw [this]
  ·have := first_mono s (show i' + 1 ≤ i from hlt)
   simp only [first] at this
   omega
theorem nodes_all : (nodesOf s).length = nAll s := by
 unfold nodesOf nAll
 rw [List.length_cons]
 have : ∀ n, (cat n fun i => match s.Tracks[i]? with
   | none => []
   | some t => (List.range t.Times.length).map fun j => li i j).length + 1 = first s n := by
  intro n
  induction n with
  | zero => rfl
  | succ n ih =>
   rw [cat_succ, List.length_append]
   have e : (match s.Tracks[n]? with
    | none => []
    | some t => (List.range t.Times.length).map fun j => li n j).length = lenAt s n := by
    unfold lenAt
    cases s.Tracks[n]? <;> simp
   rw [e]
   simp only [first]
   omega
 exact this _
theorem nAll_le (h : vCheck s = 0) : nAll s ≤ 25601 := by rw [← nodes_all]; exact nodes_len h
theorem first_le (h : vCheck s = 0) {i : Nat} (hi : i ≤ s.Tracks.length) : first s i ≤ 25601 := Nat.le_trans (first_mono s hi) (nAll_le h)
theorem spots_eq (hN : 1000000 ≤ N) (h : vCheck s = 0) : ref03_spots N s = some { first_ := (List.range s.Tracks.length).map fun i => (first s i : Int), n_ := (nAll s : Int) } := by
 unfold ref03_spots
 have hn := (check_ok h).1
 obtain ⟨o, ho, rfl⟩ := iter_ex (body := ref03_spots_L0 N s) s.Tracks.length (fun i q => q = ((i : Int), (List.range i).map (fun i => (first s i : Int)), (first s i : Int)))
  (fun o => o = .done ((s.Tracks.length : Int), (List.range s.Tracks.length).map (fun i => (first s i : Int)), (nAll s : Int))) (by
  rintro i q hi rfl
  unfold ref03_spots_L0
  simp only
  by_cases hlt : i < s.Tracks.length
  ·left
   rw [lt_t hlt, cond_true, apnd_ok (by simp; omega), Option.bind_some, idx_nat hlt]
   simp only [Option.bind_some]
   have h1 := first_le h (i := i) (by omega)
   have h2 := (track_facts (track_at h (List.getElem?_eq_getElem hlt))).2.2
   have h3 : lenAt s i = s.Tracks[i].Times.length := by unfold lenAt; rw [List.getElem?_eq_getElem hlt]
   rw [W64_succ (by omega), W64_id (by omega) (by omega)]
   refine ⟨_, rfl, ?_, hlt⟩
   simp only [List.range_succ, List.map_append, List.map_cons, List.map_nil, first, h3]
   simp
  ·have : i = s.Tracks.length := by omega
   subst this
   right
   rw [lt_f, cond_false]
   exact ⟨_, rfl, (fun _ h => by cases h), rfl⟩) s.Tracks.length N 0 (0, [], 1) (by omega) rfl (by omega)
 rw [ho]; rfl
abbrev spotS (s : System) : Spot := { first_ := (List.range s.Tracks.length).map fun i => (first s i : Int), n_ := (nAll s : Int) }
theorem of_eq (h : vCheck s = 0) {r : Ref} (hr : Nd s r) : ref03_spot_of N (spotS s) r = some (num s r : Int) := by
 unfold ref03_spot_of
 rcases hr with rfl | hr
 ·rw [num_beg]; rfl
 ·obtain ⟨i, t, j, rfl, ht, hj⟩ := li_has hr
  have hi := lt_of_get ht
  have e : decide ((li i j).Log < 0) = false := by simp [li]
  rw [e, cond_false, num_li]
  have h1 := first_le h (i := i) (by omega)
  have h2 := (track_facts (track_at h ht)).2.2
  simp only [li, idx_nat', List.getElem?_map, List.getElem?_range hi, Option.map_some, Option.bind_some]
  rw [W64_id (by omega) (by omega)]
  simp
open Classical in
noncomputable def stR (s : System) (at_ : List Int) (by_ : Ref → Option Bound) : St Ref Bound :=
 ⟨fun x => if Nd s x then (match at_[num s x]? with | some v => if v < 1125899906842624 then some v else none | none => none) else none, by_⟩
theorem stR_at {at_ : List Int} {by_ : Ref → Option Bound} {x : Ref} (hx : Nd s x) (hl : at_.length = nAll s) {v : Int} (hv : at_[num s x]? = some v) : (stR s at_ by_).at_ x = if v < 1125899906842624 then some v else none := by
 simp only [stR, if_pos hx, hv]
theorem stR_set {at_ : List Int} {by_ : Ref → Option Bound} {z : Ref} (hz : Nd s z) (hl : at_.length = nAll s) {v : Int} (hv : v < 1125899906842624) (e : Bound) :
  stR s (at_.set (num s z) v) (fun x => if x = z then some e else by_ x) = ⟨fun x => if x = z then some v else (stR s at_ by_).at_ x, fun x => if x = z then some e else (stR s at_ by_).by_ x⟩ := by
 unfold stR
 congr 1
 funext x
 by_cases hx : Nd s x
 ·simp only [if_pos hx]
  by_cases he : x = z
  ·subst he
   rw [List.getElem?_set_self (by rw [hl]; exact num_lt hz)]
   simp [hv]
  ·have hne : num s z ≠ num s x := fun h => he (num_inj hx hz h.symm)
   rw [List.getElem?_set_ne hne]
   simp [he]
 ·simp only [if_neg hx]
  have : x ≠ z := fun h => hx (h ▸ hz)
  simp [this]
abbrev IR (s : System) (frm : Ref) (k : Nat) (pre suf : List Bound) (at_ : List Int) (b : Ref → Option Bound) (ts rd : Ref → Nat) (now : Nat) : Prop :=
 Inv Bound.From Bound.To Bound.Most frm (bnds s) k pre suf (stR s at_ b) ts rd now
def AtL (at_ : List Int) (T : Nat) : Prop := ∀ (i : Nat) v, at_[i]? = some v → v < 1125899906842624 → -(50000 * (T : Int)) ≤ v ∧ v ≤ 50000 * (T : Int)
def FinR (s : System) (frm : Ref) (at_ : List Int) : Prop := at_.length = nAll s ∧ (∃ k pre b ts rd now, IR s frm k pre [] at_ b ts rd now ∧ ∀ e, e ∈ bnds s → Closed Bound.From Bound.To Bound.Most (stR s at_ b) e)
theorem reach_inner (h : vCheck s = 0) (hN : 1000000 ≤ N) {frm : Ref} {x1 : Int} {p q : List Int} {u : Int × List Int × List Int} {y : Int} {k T : Nat} (hT : T ≤ 10000000000) {at0 by0 : List Int} (hal : at0.length = nAll s) (hbl : by0.length = nAll s)
    (hI : ∃ b ts rd now, IR s frm k [] (bnds s) at0 b ts rd now) (hB : AtL at0 T) :
    ∃ o, iter (ref03_reach_L2 N s x1 (spotS s) (bnds s) p q u y ((k : Int), at0, by0)) N (-1, 0, at0, by0) = some o ∧
      ((∃ at_ by_, o = .done (-1, ((bnds s).length : Int), at_, by_) ∧ FinR s frm at_ ∧ by_.length = nAll s) ∨
       (∃ hot at_ by_, o = .done (hot, ((bnds s).length : Int), at_, by_) ∧ 0 ≤ hot ∧ at_.length = nAll s ∧ by_.length = nAll s ∧ AtL at_ (T + (bnds s).length) ∧
         ∃ pre b ts rd now, IR s frm k pre [] at_ b ts rd now ∧ (∀ e, e ∈ bnds s → e ∈ pre) ∧ ∃ z, rd z = k + 1)) := by
  have hM := bnd_most h
  have hlen := bnds_len' h
  refine iter_ex (body := ref03_reach_L2 N s x1 (spotS s) (bnds s) p q u y ((k : Int), at0, by0)) (bnds s).length
    (fun i r => r.2.1 = (i : Int) ∧ r.2.2.1.length = nAll s ∧ r.2.2.2.length = nAll s ∧ AtL r.2.2.1 (T + i) ∧ ∃ pre b ts rd now, IR s frm k pre ((bnds s).drop i) r.2.2.1 b ts rd now ∧ (∀ e, e ∈ (bnds s).take i → e ∈ pre) ∧
      ((r.1 = -1 ∧ ∀ e, e ∈ pre → Closed Bound.From Bound.To Bound.Most (stR s r.2.2.1 b) e) ∨ (0 ≤ r.1 ∧ ∃ z, rd z = k + 1))) _ ?_ (bnds s).length N 0 (-1, 0, at0, by0) (by omega) ?_ (by omega)
  · rintro i ⟨hot, j, at_, by_⟩ hi ⟨hj, hal, hbl, hAt, pre, b, ts, rd, now, hInv, hpre, hcase⟩
    simp only at hj hal hbl hAt hInv hcase
    subst hj
    unfold ref03_reach_L2
    simp only
    by_cases hlt : i < (bnds s).length
    · left
      have hmem : (bnds s)[i] ∈ bnds s := List.getElem_mem hlt
      obtain ⟨hF, hTo⟩ := bnd_ends h hmem
      have hd : (bnds s).drop i = (bnds s)[i] :: (bnds s).drop (i + 1) := List.drop_eq_getElem_cons hlt
      rw [hd] at hInv
      have htake : ∀ e, e ∈ (bnds s).take (i + 1) → e ∈ (bnds s)[i] :: pre := by
        intro e he
        rw [List.take_succ_eq_append_getElem hlt, List.mem_append, List.mem_singleton] at he
        rcases he with he | rfl
        · exact List.mem_cons_of_mem _ (hpre e he)
        · exact List.mem_cons_self ..
      have la : num s (bnds s)[i].From < at_.length := by rw [hal]; exact num_lt hF
      have lb : num s (bnds s)[i].To < at_.length := by rw [hal]; exact num_lt hTo
      have lb2 : num s (bnds s)[i].To < by_.length := by rw [hbl]; exact num_lt hTo
      rw [lt_t hlt, cond_true]
      simp only [idx_nat hlt, Option.bind_some, of_eq h hF, of_eq h hTo, idx_nat la, idx_nat lb]
      have a1 := stR_at (by_ := b) hF hal (List.getElem?_eq_getElem la)
      have a2 := stR_at (by_ := b) hTo hal (List.getElem?_eq_getElem lb)
      have hb := hM _ hmem
      have cold : BF.hot Bound.From Bound.To Bound.Most (stR s at_ b) (bnds s)[i] = false → ∃ pre' b' ts rd now, IR s frm k pre' ((bnds s).drop (i + 1)) at_ b' ts rd now ∧ (∀ e, e ∈ (bnds s).take (i + 1) → e ∈ pre') ∧
          ((hot = -1 ∧ ∀ e, e ∈ pre' → Closed Bound.From Bound.To Bound.Most (stR s at_ b') e) ∨ (0 ≤ hot ∧ ∃ z, rd z = k + 1)) := by
        intro hc
        refine ⟨(bnds s)[i] :: pre, b, ts, rd, now, hInv.cold hc, htake, ?_⟩
        rcases hcase with ⟨h0, hcl⟩ | h0
        · refine .inl ⟨h0, fun e he => ?_⟩
          rcases List.mem_cons.1 he with rfl | he
          · exact closed_of_cold hc
          · exact hcl e he
        · exact .inr h0
      by_cases hfa : at_[num s (bnds s)[i].From] < 1125899906842624
      · rw [if_pos hfa] at a1
        have hnb := hAt _ _ (List.getElem?_eq_getElem la) hfa
        have hw : W64 (at_[num s (bnds s)[i].From] + (bnds s)[i].Most) = at_[num s (bnds s)[i].From] + (bnds s)[i].Most := W64_id (by omega) (by omega)
        have e1 : decide (at_[num s (bnds s)[i].From] < 1125899906842624) = true := by simpa using hfa
        rw [e1, cond_true, hw]
        by_cases hup : at_[num s (bnds s)[i].From] + (bnds s)[i].Most < at_[num s (bnds s)[i].To]
        · have e2 : decide (at_[num s (bnds s)[i].From] + (bnds s)[i].Most < at_[num s (bnds s)[i].To]) = true := by simpa using hup
          rw [e2]
          simp only [Option.bind_some, cond_true, idx_nat lb2, Int.toNat_natCast]
          rw [W64_succ (by omega)]
          have hhot : BF.hot Bound.From Bound.To Bound.Most (stR s at_ b) (bnds s)[i] = true := by
            unfold BF.hot
            rw [a1]
            simp only
            rw [a2]
            by_cases hfb : at_[num s (bnds s)[i].To] < 1125899906842624
            · rw [if_pos hfb]; simpa using hup
            · rw [if_neg hfb]
          have hnew := hInv.hot hhot
          have hput : BF.put Bound.From Bound.To Bound.Most (stR s at_ b) (bnds s)[i] = stR s (at_.set (num s (bnds s)[i].To) (at_[num s (bnds s)[i].From] + (bnds s)[i].Most)) (fun x => if x = (bnds s)[i].To then some (bnds s)[i] else b x) := by
            rw [stR_set hTo hal (by omega)]
            unfold BF.put
            rw [a1]
          rw [hput] at hnew
          refine ⟨_, rfl, ⟨rfl, by simp [hal], by simp [hbl], ?_, (bnds s)[i] :: pre, _, _, _, _, hnew, htake, .inr ⟨by simp only; omega, (bnds s)[i].To, by simp⟩⟩, hlt⟩
          intro j v hj hv
          simp only at hj
          rw [List.getElem?_set] at hj
          by_cases hjn : num s (bnds s)[i].To = j
          · rw [if_pos hjn, if_pos lb] at hj
            cases hj; omega
          · rw [if_neg hjn] at hj
            have := hAt j v hj hv; omega
        · have e2 : decide (at_[num s (bnds s)[i].From] + (bnds s)[i].Most < at_[num s (bnds s)[i].To]) = false := by simpa using hup
          rw [e2]
          simp only [Option.bind_some, cond_false]
          rw [W64_succ (by omega)]
          refine ⟨_, rfl, ⟨rfl, hal, hbl, fun j v hj hv => by have := hAt j v hj hv; omega, cold ?_⟩, hlt⟩
          unfold BF.hot
          rw [a1]
          simp only
          rw [a2]
          have hfb : at_[num s (bnds s)[i].To] < 1125899906842624 := by omega
          rw [if_pos hfb]; simpa using hup
      · rw [if_neg hfa] at a1
        have e1 : decide (at_[num s (bnds s)[i].From] < 1125899906842624) = false := by simpa using hfa
        rw [e1]
        simp only [cond_false, Option.bind_some]
        rw [W64_succ (by omega)]
        refine ⟨_, rfl, ⟨rfl, hal, hbl, fun j v hj hv => by have := hAt j v hj hv; omega, cold ?_⟩, hlt⟩
        unfold BF.hot
        rw [a1]
    · have : i = (bnds s).length := by omega
      subst this
      right
      rw [lt_f, cond_false]
      have hd : (bnds s).drop (bnds s).length = [] := by simp
      rw [hd] at hInv
      have hall : ∀ e, e ∈ bnds s → e ∈ pre := fun e he => hpre e (by simpa using he)
      rcases hcase with ⟨rfl, hcl⟩ | ⟨h0, hz⟩
      · exact ⟨_, rfl, (fun _ h => by cases h), .inl ⟨at_, by_, rfl, ⟨hal, k, pre, b, ts, rd, now, hInv, fun e he => hcl e (hall e he)⟩, hbl⟩⟩
      · exact ⟨_, rfl, (fun _ h => by cases h), .inr ⟨hot, at_, by_, rfl, h0, hal, hbl, hAt, pre, b, ts, rd, now, hInv, hall, hz⟩⟩
  · obtain ⟨b, ts, rd, now, h⟩ := hI
    exact ⟨rfl, hal, hbl, hB, [], b, ts, rd, now, h, (fun e he => by simp at he), .inl ⟨rfl, fun e he => by cases he⟩⟩
theorem reach_eq (h : vCheck s = 0) (hf : FitS N s) (hN : 1000000 ≤ N) {frm : Ref} (hfr : Nd s frm) :
  ∃ at_ by_ hot, ref03_reach N s (num s frm : Int) = some (at_, by_, hot) ∧ ((hot = -1 ∧ FinR s frm at_) ∨ (0 ≤ hot ∧ ¬ Cls s)) := by
 unfold ref03_reach
 have hn := nAll_le h
 have hn1 : num s frm < nAll s := num_lt hfr
 rw [spots_eq hN h, Option.bind_some, bounds_r hf h, Option.bind_some]
 have hmk : mk0 (0 : Int) ((nAll s : Nat) : Int) = some (List.replicate (nAll s) 0) := by unfold mk0; rw [if_pos (by omega)]; simp
 simp only [hmk, Option.bind_some]
 obtain ⟨o, ho, rfl⟩ := iter_ex (body := ref03_reach_L0 N s (num s frm : Int) (spotS s) (bnds s) (List.replicate (nAll s) 0) (List.replicate (nAll s) 0)) (nAll s)
  (fun i q => q = ((i : Int), List.replicate i (1125899906842624 : Int) ++ List.replicate (nAll s - i) 0, List.replicate i (-1 : Int) ++ List.replicate (nAll s - i) 0))
  (fun o => o = .done ((nAll s : Int), List.replicate (nAll s) (1125899906842624 : Int), List.replicate (nAll s) (-1 : Int))) (by
  rintro i q hi rfl
  unfold ref03_reach_L0
  simp only
  by_cases hlt : i < nAll s
  ·left
   have key : ∀ v : Int, (List.replicate i v ++ List.replicate (nAll s - i) (0 : Int)).set i v = List.replicate (i + 1) v ++ List.replicate (nAll s - (i + 1)) 0 := by
    intro v
    have e : nAll s - i = (nAll s - (i + 1)) + 1 := by omega
    rw [e, List.replicate_succ, List.set_append_right _ _ (by simp)]
    simp only [List.length_replicate, Nat.sub_self, List.set_cons_zero]
    rw [List.replicate_succ', List.append_assoc]; rfl
   rw [lt_t hlt, cond_true, idx_nat (by simp; omega), Option.bind_some, idx_nat (by simp; omega), Option.bind_some, W64_succ (by omega)]
   refine ⟨_, rfl, ?_, hlt⟩
   simp only [Int.toNat_natCast, key]
  ·have : i = nAll s := by omega
   subst this
   right
   rw [lt_f, cond_false]
   exact ⟨_, rfl, (fun _ h => by cases h), by simp⟩) (nAll s) N 0 (0, List.replicate (nAll s) 0, List.replicate (nAll s) 0) (by omega) (by simp) (by omega)
 rw [ho]
 simp only [Option.bind_some, Flow.k]
 rw [idx_nat (by simpa using hn1)]
 simp only [Option.bind_some, Int.toNat_natCast]
 generalize hr : (List.replicate (nAll s) (1125899906842624 : Int)).set (num s frm) 0 = at0
 generalize hu : ((nAll s : Int), List.replicate (nAll s) (1125899906842624 : Int), List.replicate (nAll s) (-1 : Int)) = u
 generalize (List.replicate (nAll s) (1125899906842624 : Int))[num s frm]'_ = y
 have hal0 : at0.length = nAll s := by subst hr; simp
 have hinit : BF.init frm = stR s at0 (fun _ => none) := by
  subst hr
  unfold BF.init stR
  refine congrArg (fun a => (⟨a, fun _ => none⟩ : St Ref Bound)) ?_
  funext x
  by_cases hx : Nd s x
  ·rw [if_pos hx]
   by_cases he : x = frm
   ·subst he; rw [List.getElem?_set_self (by simpa using hn1)]; simp
   ·have hne : num s frm ≠ num s x := fun h => he (num_inj hx hfr h.symm)
    rw [List.getElem?_set_ne hne, List.getElem?_replicate, if_pos (num_lt hx)]; simp [he]
  ·rw [if_neg hx]
   have : x ≠ frm := fun h => hx (h ▸ hfr)
   simp [this]
 obtain ⟨o, ho, hR⟩ := iter_ex (body := ref03_reach_L1 N s (num s frm : Int) (spotS s) (bnds s) (List.replicate (nAll s) 0) (List.replicate (nAll s) 0) u y) (nAll s)
  (fun k q => q.1 = (k : Int) ∧ q.2.1.length = nAll s ∧ q.2.2.length = nAll s ∧ (∃ b ts rd now, IR s frm k [] (bnds s) q.2.1 b ts rd now) ∧ AtL q.2.1 (k * (bnds s).length))
  (fun o => ∃ at_ by_ hot, o = .ret (at_, by_, hot) ∧ ((hot = -1 ∧ FinR s frm at_) ∨ (0 ≤ hot ∧ ¬ Cls s))) (by
  rintro k ⟨j, at1, by1⟩ hk ⟨hj, hal, hbl, hI, hB⟩
  simp only at hj hal hbl hI hB
  subst hj
  have hbl' := bnds_len' h
  have hT : k * (bnds s).length ≤ 10000000000 := by
   have := Nat.mul_le_mul (show k ≤ 25601 by omega) hbl'
   omega
  obtain ⟨o, ho, hcase⟩ := reach_inner h hN (x1 := (num s frm : Int)) (p := List.replicate (nAll s) 0) (q := List.replicate (nAll s) 0) (u := u) (y := y) hT hal hbl hI hB
  unfold ref03_reach_L1
  have e1 : decide ((k : Int) ≤ (nAll s : Int)) = true := by simpa using hk
  simp only at ho ⊢
  rw [e1, cond_true, ho]
  rcases hcase with ⟨at_, by_, rfl, hfin, hbl2⟩ | ⟨hot, at_, by_, rfl, h0, hal2, hbl2, hB2, pre, b, ts, rd, now, hInv, hall, z, hz⟩
  ·right
   exact ⟨_, rfl, (fun _ h => by cases h), at_, by_, -1, rfl, .inl ⟨rfl, hfin⟩⟩
  ·have e2 : decide (hot < 0) = false := by simpa using h0
   simp only [Option.bind_some, Flow.k, e2, cond_false]
   by_cases hkn : k = nAll s
   ·right
    have e3 : ((k : Int) == (nAll s : Int)) = true := by simp [hkn]
    rw [e3, cond_true]
    refine ⟨_, rfl, (fun _ h => by cases h), at_, by_, hot, rfl, .inr ⟨h0, ?_⟩⟩
    refine hInv.neg_of_late (nodes := nodesOf s) (fun e he => mem_nodes.2 (bnd_ends h he).2) (z := z) ?_
    rw [nodes_all, hz, hkn]; exact Nat.le_refl _
   ·left
    have e3 : ((k : Int) == (nAll s : Int)) = false := by simp; omega
    rw [e3, cond_false, W64_succ (by omega)]
    exact ⟨_, rfl, ⟨rfl, hal2, hbl2, ⟨b, ts, rd, now, hInv.next hall⟩, by rw [Nat.succ_mul]; exact hB2⟩, by omega⟩) (nAll s) N 0 (0, at0, List.replicate (nAll s) (-1)) (by omega) (by
   refine ⟨rfl, hal0, by simp, ⟨fun _ => none, fun _ => 0, fun _ => 0, 0, ?_⟩, ?_⟩
   ·have := Inv.init (src := Bound.From) (dst := Bound.To) (w := Bound.Most) frm (bnds s)
    rw [hinit] at this
    exact this
   ·intro i v hi hv
    simp only at hi
    subst hr
    rw [List.getElem?_set] at hi
    by_cases hin : num s frm = i
    ·rw [if_pos hin, if_pos (by simpa using hn1)] at hi
     cases hi; omega
    ·rw [if_neg hin, List.getElem?_replicate] at hi
     split at hi
     ·cases hi; omega
     ·cases hi) (by omega)
 obtain ⟨at_, by_, hot, rfl, hcase⟩ := hR
 subst hu
 rw [ho]
 exact ⟨at_, by_, hot, rfl, hcase⟩
theorem FinR.val (h : vCheck s = 0) {frm : Ref} {at_ : List Int} (hf : FinR s frm at_) {x : Ref} (hfr : Nd s frm) (hx : Nd s x) : ∃ v, at_[num s x]? = some v ∧ Dst s frm x v := by
 obtain ⟨hl, k, pre, b, ts, rd, now, hI, hc⟩ := hf
 obtain ⟨n, hn⟩ := walk_any h hfr hx
 obtain ⟨m, hm, _⟩ := walk_closed hc hn (hI.frm_zero hc)
 have hd := (hI.dist hc).1 hm
 simp only [stR, if_pos hx] at hm
 cases hv : at_[num s x]? with
 | none => rw [hv] at hm; cases hm
 | some v =>
  rw [hv] at hm
  simp only at hm
  split at hm
  ·cases hm; exact ⟨m, rfl, hd⟩
  ·cases hm
theorem FinR.closes (h : vCheck s = 0) {frm : Ref} {at_ : List Int} (hf : FinR s frm at_) (hfr : Nd s frm) : Cls s := by
 obtain ⟨hl, k, pre, b, ts, rd, now, hI, hc⟩ := hf
 refine noNeg_of_closed hc (fun e he => ?_)
 obtain ⟨n, hn⟩ := walk_any h hfr (bnd_ends h he).2
 obtain ⟨m, hm, _⟩ := walk_closed hc hn (hI.frm_zero hc)
 exact ⟨m, hm⟩
open Classical in
theorem Closes_eq (h : vCheck s = 0) (hf : FitS N s) (hN : 1000000 ≤ N) : ref03_Closes N s = some (decide (Cls s)) := by
 unfold ref03_Closes
 obtain ⟨at_, by_, hot, h1, h2⟩ := reach_eq h hf hN (nd_beg s)
 rw [num_beg] at h1
 rw [show (0 : Int) = ((0 : Nat) : Int) from rfl, h1]
 simp only [Option.bind_some]
 rcases h2 with ⟨rfl, h2⟩ | ⟨h0, h2⟩
 ·have := h2.closes h (nd_beg s)
  simp [this]
 ·simp only [h2, decide_false, Option.some.injEq, decide_eq_false_iff_not]
  omega
end
end Go.Proofs.Ythbcnabeabcmlaa
namespace Go.Proofs.Ythbcnabeabcmlaa
open Go.Proofs
def ref03_offered_L0 (N : Nat) (x0 : System) (x1 : (List Tie)) (r4 : Int) : Int → Option (Flow Int Int) := fun s18 =>
 (bif (decide (s18 < (x1.length : Int))) then (((idx x1 s18).bind fun x54 => ((ref03_Has N x0 x54.A).bind fun r68 => (bif (!r68) then some true else ((idx x1 s18).bind fun x79 => ((ref03_Has N x0 x79.B).bind fun r85 => some (!r85)))))).bind fun j46 => (bif j46 then some (.ret 3) else some (.next (W64 (s18 + 1))))) else some (.done s18))
def ref03_offered_L1 (N : Nat) (x0 : System) (x1 : (List Tie)) (r4 : Int) (s26 : Int) : Int → Option (Flow Int Int) := fun s103 =>
 (bif (decide (s103 < (x1.length : Int))) then (((idx x1 s103).bind fun x139 => ((idx x1 s103).bind fun x153 => some (x139.A.Log == x153.B.Log))).bind fun j131 => (bif j131 then some (.ret 1) else some (.next (W64 (s103 + 1))))) else some (.done s103))
def ref03_offered (N : Nat) (x0 : System) (x1 : (List Tie)) : Option Int :=
 ((ref03_Check N x0).bind fun r4 => (bif (r4 != 0) then some r4 else ((iter (ref03_offered_L0 N x0 x1 r4) N 0).bind fun o => o.k (fun r => some r) (fun s26 => ((iter (ref03_offered_L1 N x0 x1 r4 s26) N 0).bind fun o => o.k (fun r => some r) (fun s111 => ((ref03_Closes N x0).bind fun r166 => (bif (!r166) then some 31 else (bif (decide ((W64 ((x0.Ties.length : Int) + (x1.length : Int))) > 400)) then some 2 else some 0)))))))))
theorem co_ref03_offered : CallOk Try.prog 88 := fun _ _ => by kernel_rfl
set_option maxHeartbeats 4000000 in
set_option maxRecDepth 100000 in
theorem c_ref03_offered (N : Nat) (w0 : World) (F0 : Mem) (hF : ∀ b o, F0 b = some o → w0.heap[b]? = some o) (x0 : System) (a0_0 : Option Addr) (n0_0 : Nat) (hb0_0 : LC x0.Tracks.length n0_0) (hs0_0 : SlA tTrack F0 a0_0 x0.Tracks) (a0_1 : Option Addr) (n0_1 : Nat) (hb0_1 : LC x0.Ties.length n0_1) (hs0_1 : SlA tTie F0 a0_1 x0.Ties) (x1 : (List Tie)) (a1_0 : Option Addr) (n1_0 : Nat) (hb1_0 : LC x1.length n1_0) (hs1_0 : SlA tTie F0 a1_0 x1) (r : Int) (h : ref03_offered N x0 x1 = some r) :
  Calls Try.prog 88 ([(.agg (kSystem x0 a0_0 n0_0 a0_1 n0_1)), (.slice a1_0 x1.length n1_0)] : List Value).toArray w0 (FRet w0 F0 fun F' v => v = (vi r)) := by
 have hs0 := HS.start hF
 refine calls_of (n := 66) (c := bodyOf Try.f88) Try.func88 (by kernel_rfl) (by kernel_rfl) (by kernel_rfl) ?_
 refine Sq (Rg [0, 1] ?_)
 refine Bx 2 0 0 25 (kSystem x0 a0_0 n0_0 a0_1 n0_1) hs0 (fun b1 w2 (hs3 : HS w0 F0 w2 F0 [(sb b1 (kSystem x0 a0_0 n0_0 a0_1 n0_1) 25)]) => ?_)
 refine V 4 30 (mc (vi 0) (vi 0)) ?_
 refine Nss (Rg [0, 1, 2] ?_)
 refine V 8 25 (ld 25 2 b1 0 true 3 (.agg (kSystem x0 a0_0 n0_0 a0_1 n0_1)) (hs3.ownAt (k := 0) rfl)) ?_
 obtain ⟨r4, hr5, h6⟩ := bind_some h
 refine Cl 9 30 40 #[(.tmp 8)] #[25] co_ref03_Check hs3 (c_ref03_Check N w2 F0 hs3.pers (x0) a0_0 n0_0 hb0_0 hs0_0 a0_1 n0_1 hb0_1 hs0_1 _ hr5) ?_
 intro v7 F1 w8 hs9 le10 hp11
 obtain rfl := hp11
 refine V 5 30 (ma 9 (vi r4)) ?_
 refine Nss ?_
 refine Sq (Rg [0, 1] ?_)
 refine V 10 30 (mv 5 (vi r4)) ?_
 refine V 11 4 (run_neq (t := 30) (t' := 30) (x := (.tmp 10)) (y := (.const (vi 0))) (k := .i64) (a := r4) (b := 0) rfl rfl) ?_
 refine Nt ?_
 refine CWP.cond (t := (r4 != 0)) (by kernel_rfl) rfl (fun hb12 => ?_) (fun hb12 => ?_)
 ·have h13 := cond_t h6 hb12
  refine Sq (Rg [0, 1] ?_)
  refine V 12 30 (mv 5 (vi r4)) ?_
  refine V 4 30 (ma 12 (vi r4)) ?_
  refine Nt ?_
  refine CWP.ret (by kernel_rfl) ?_
  refine thenQ_ret ?_
  have hfin := some_inj h13
  subst hfin
  exact ⟨rfl, (vi r4), res_of (l := [.tmp 4]) (by kernel_rfl) (vs := [(vi r4)]) ⟨rfl, trivial⟩, (vi r4), F1, rfl, hs9.clear, rfl⟩
 ·have h14 := cond_f h6 hb12
  refine Sc ?_
  refine thenQ_nrm ?_
  refine Sq ?_
  refine Sq (Rg [0] ?_)
  refine V 6 3 (mc (vi 0) (vi 0)) ?_
  refine Nt ?_
  obtain ⟨o15, ho16, h17⟩ := bind_some h14
  refine CWP.cut (fun f w => ∃ (s26 : Int) (F3 : Mem), o15 = .done s26 ∧ HS w0 F0 w F3 [(sb b1 (kSystem x0 a0_0 n0_0 a0_1 n0_1) 25)] ∧ Mem.le F1 F3 ∧ f.d = [] ∧ f 1 = (.slice a1_0 x1.length n1_0) ∧ f 2 = (.pointer (some ⟨b1, 0, none⟩))) ?_ ?_
  ·refine Bk ?_
   refine CWP.loop (by kernel_rfl) (fun m f w => ∃ (s18 : Int) (F2 : Mem), iter (ref03_offered_L0 N x0 x1 r4) m s18 = some o15 ∧ HS w0 F0 w F2 [(sb b1 (kSystem x0 a0_0 n0_0 a0_1 n0_1) 25)] ∧ Mem.le F1 F2 ∧ f.d = [] ∧ f 1 = (.slice a1_0 x1.length n1_0) ∧ f 2 = (.pointer (some ⟨b1, 0, none⟩)) ∧ f 6 = (vi s18)) N ⟨0, F1, ho16, hs9, (Mem.le.refl _), rfl, rfl, rfl, rfl⟩ ?_
   rintro m33 f w19 ⟨s18, F2, hit34, hs20, le21, e22, e23, e24, e25⟩
   obtain ⟨m35, fl36, rfl, hb37, hnx38⟩ := iter_step hit34
   refine Sq ?_
   refine Sq (Rg [0, 1, 2, 3] ?_)
   refine V 13 3 (mv 6 (vi s18) e25) ?_
   refine V 14 23 (mv 1 (.slice a1_0 x1.length n1_0) e23) ?_
   refine V 15 3 (ln 14 23 a1_0 x1.length n1_0 46 4 32) ?_
   refine V 16 4 (run_lss (t := 3) (t' := 3) (x := (.tmp 13)) (y := (.tmp 15)) (k := .i64) (a := s18) (b := (x1.length : Int)) rfl rfl) ?_
   refine Nt ?_
   refine CWP.cond (t := (decide (s18 < (x1.length : Int)))) (by kernel_rfl) rfl (fun hb39 => ?_) (fun hb39 => ?_)
   ·have h40 := cond_t hb37 hb39
    refine Sc ?_
    refine thenQ_nrm ?_
    refine Sq ?_
    refine Bk ?_
    refine Sq ?_
    obtain ⟨j46, hj52, h53⟩ := bind_some h40
    refine CWP.regionD (by kernel_rfl) (by kernel_rfl) (by kernel_rfl) (by kernel_rfl) (z := 18) (F := F2) (Lc := [(sb b1 (kSystem x0 a0_0 n0_0 a0_1 n0_1) 25)]) (Lz := []) (l := [false, false, false, false, false, false, false, false, false, false, false, false, false, false, false, false, false, false]) (fuel := 18) (by kernel_rfl) (by kernel_rfl) hs20 (by simp) (by simp) (fun f w => ∃ (F4 : Mem), HS w0 F0 w F4 [(sb b1 (kSystem x0 a0_0 n0_0 a0_1 n0_1) 25)] ∧ Mem.le F2 F4 ∧ f.d = [] ∧ f 1 = (.slice a1_0 x1.length n1_0) ∧ f 2 = (.pointer (some ⟨b1, 0, none⟩)) ∧ f 6 = (vi s18) ∧ f 36 = (.bool j46)) (fun wd41 hw42 => ?_) ?_
    ·refine Dt 0 19 25 _ (fun _ hq => ld 25 2 b1 0 true 3 (.agg (kSystem x0 a0_0 n0_0 a0_1 n0_1)) (hq.1.2 0 _ _ rfl) e24) ?_
     refine Dt 1 20 23 _ (fun _ hq => mv 1 (.slice a1_0 x1.length n1_0) e23) ?_
     refine Dt 2 21 3 _ (fun _ hq => mv 6 (vi s18) e25) ?_
     obtain ⟨x54, hx55, h57⟩ := bind_some hj52
     obtain ⟨hi56, hx55'⟩ := idx_spec hx55
     obtain ⟨b58, o59, C60, E61, fz62, rfl, hF64, hE65⟩ := SlA.open (SlA.mono hs1_0 (le10.trans le21)) hx55'
     have hc67 := hE65 _ _ hx55'
     refine Dt 3 22 0 (.pointer (some ⟨b58, (o59 + (s18 : Int).toNat * 4), none⟩)) (fun _ hq => ix 23 20 21 b58 o59 46 4 32 hi56) ?_
     refine Dt 4 23 0 (.pointer (some ⟨b58, (o59 + (s18 : Int).toNat * 4), none⟩)) (fun _ hq => fa 46 22 0 0 2 b58 (o59 + (s18 : Int).toNat * 4) (o59 + (s18 : Int).toNat * 4)) ?_
     refine Dt 5 24 27 _ (fun _ hq => lx 27 23 0 4 true 2 (.agg (kRef x54.A)) (hq.1.1 _ _ hF64) hc67) ?_
     refine DWP.one (i := 6) (by kernel_rfl) ?_
     obtain ⟨r68, hr69, h70⟩ := bind_some h57
     refine DStep.call (l' := [true, true, true, true, true, true, true, false, false, false, false, false, false, false, false, false, false, false]) (zd := true) (by kernel_rfl) (by kernel_rfl) (by kernel_rfl) (dst := (some 25)) (ty := 4) (g := none) (by kernel_rfl) rfl (f0 := (.func 85)) (aos := #[(.tmp 19), (.tmp 24)]) (ats := #[25, 27]) (fid := 85) (first := #[]) (cap := #[]) (args := [(.agg (kSystem x0 a0_0 n0_0 a0_1 n0_1)), (.agg (kRef x54.A))]) rfl co_ref03_Has (rfl) hw42 (c_ref03_Has N wd41 F2 hw42.pers (x0) a0_0 n0_0 hb0_0 (SlA.mono hs0_0 (le10.trans le21)) a0_1 n0_1 hb0_1 (SlA.mono hs0_1 (le10.trans le21)) (x54.A) _ hr69) ?_
     intro v71 F5 w72 hs73 le74 hp75
     obtain rfl := hp75
     refine Dt 7 26 4 (.bool (!r68)) (fun _ hq => run_not (t := 4) (x := (.tmp 25)) (a := r68) rfl) ?_
     refine Dt 8 27 4 _ (fun _ hq => mv 26 (.bool (!r68))) ?_
     refine DWP.split (!r68) (fun hb76 => ?_) (fun hb76 => ?_)
     ·have h77 := cond_t h70 hb76
      refine Dk [(9, 28), (10, 29), (11, 30), (12, 31), (13, 32), (14, 33), (15, 34), (16, 35)] 8 false 27 hb76 ?_
      refine Dt 17 36 4 _ (fun _ hq => p1 27 (.const (.bool true)) (.tmp 35) (.bool true) hb76) ?_
      obtain rfl := some_inj h77
      exact DWP.done (by kernel_rfl) ⟨F5, hs73, le74, e22, e23, e24, e25, rfl⟩
     ·have h78 := cond_f h70 hb76
      refine Dg 9 28 25 _ 8 false 27 hb76 (fun _ hq => ld 25 2 b1 0 true 3 (.agg (kSystem x0 a0_0 n0_0 a0_1 n0_1)) (hq.1.2 0 _ _ rfl) e24) ?_
      refine Dg 10 29 23 _ 8 false 27 hb76 (fun _ hq => mv 1 (.slice (some ⟨b58, o59, none⟩) x1.length n1_0) e23) ?_
      refine Dg 11 30 3 _ 8 false 27 hb76 (fun _ hq => mv 6 (vi s18) e25) ?_
      obtain ⟨x79, hx80, h82⟩ := bind_some h78
      obtain ⟨hi81, hx80'⟩ := idx_spec hx80
      have hc84 := hE65 _ _ hx80'
      refine Dg 12 31 0 (.pointer (some ⟨b58, (o59 + (s18 : Int).toNat * 4), none⟩)) 8 false 27 hb76 (fun _ hq => ix 23 29 30 b58 o59 46 4 32 hi81) ?_
      refine Dg 13 32 0 (.pointer (some ⟨b58, ((o59 + (s18 : Int).toNat * 4) + 2), none⟩)) 8 false 27 hb76 (fun _ hq => fa 46 31 1 2 2 b58 (o59 + (s18 : Int).toNat * 4) ((o59 + (s18 : Int).toNat * 4) + 2)) ?_
      refine Dg 14 33 27 _ 8 false 27 hb76 (fun _ hq => lx 27 32 2 4 true 2 (.agg (kRef x79.B)) (hq.1.1 _ _ hF64) hc84) ?_
      refine DWP.one (i := 15) (by kernel_rfl) ?_
      obtain ⟨r85, hr86, h87⟩ := bind_some h82
      refine DStep.call (l' := [true, true, true, true, true, true, true, true, true, true, true, true, true, true, true, true, false, false]) (zd := true) (by kernel_rfl) (by kernel_rfl) (by kernel_rfl) (dst := (some 34)) (ty := 4) (g := (some (8, false))) (by kernel_rfl) (gd_y (d := 27) (by kernel_rfl) rfl hb76) (f0 := (.func 85)) (aos := #[(.tmp 28), (.tmp 33)]) (ats := #[25, 27]) (fid := 85) (first := #[]) (cap := #[]) (args := [(.agg (kSystem x0 a0_0 n0_0 a0_1 n0_1)), (.agg (kRef x79.B))]) rfl co_ref03_Has (rfl) hs73 (c_ref03_Has N w72 F5 hs73.pers (x0) a0_0 n0_0 hb0_0 (SlA.mono hs0_0 ((le10.trans le21).trans le74)) a0_1 n0_1 hb0_1 (SlA.mono hs0_1 ((le10.trans le21).trans le74)) (x79.B) _ hr86) ?_
      intro v88 F6 w89 hs90 le91 hp92
      obtain rfl := hp92
      refine Dg 16 35 4 (.bool (!r85)) 8 false 27 hb76 (fun _ hq => run_not (t := 4) (x := (.tmp 34)) (a := r85) rfl) ?_
      refine Dt 17 36 4 _ (fun _ hq => p0 27 (.const (.bool true)) (.tmp 35) (.bool (!r85)) hb76) ?_
      obtain rfl := some_inj h87
      exact DWP.done (by kernel_rfl) ⟨F6, hs90, (le74.trans le91), e22, e23, e24, e25, rfl⟩
    ·rintro f w43 ⟨F4, hs44, le45, e47, e48, e49, e50, e51⟩
     refine thenQ_nrm ?_
     refine CWP.cond (t := j46) (by kernel_rfl) e51 (fun hb93 => ?_) (fun hb93 => ?_)
     ·have h94 := cond_t h53 hb93
      refine Sq (Rg [0] ?_)
      refine V 4 30 (mc (vi 3) (vi 3)) ?_
      refine Nt ?_
      refine CWP.ret (by kernel_rfl) ?_
      refine blockQ_ret ?_
      refine thenQ_ret ?_
      refine thenQ_ret ?_
      refine blockQ_ret ?_
      have hret := iter_ret h94 hnx38
      subst hret
      refine .inr ?_
      refine thenQ_ret ?_
      have hfin := some_inj h17
      subst hfin
      exact ⟨e47, (vi 3), res_of (l := [.tmp 4]) (by kernel_rfl) (vs := [(vi 3)]) ⟨rfl, trivial⟩, (vi 3), F4, rfl, hs44.clear, rfl⟩
     ·have h95 := cond_f h53 hb93
      refine Sc ?_
      refine blockQ_nrm ?_
      refine thenQ_nrm ?_
      refine Rg [0, 1, 2] ?_
      refine V 17 3 (mv 6 (vi s18) e50) ?_
      refine V 18 3 (run_add (t := 3) (t' := 3) (x := (.tmp 17)) (y := (.const (vi 1))) (k := .i64) (a := s18) (b := 1) rfl rfl) ?_
      refine V 6 3 (ma 18 (vi (W64 (s18 + 1)))) ?_
      refine RWP.nil ?_
      have hn96 := iter_next h95 hnx38
      exact ⟨m35, Nat.lt_succ_self _, (W64 (s18 + 1)), F4, hn96, hs44, (le21.trans le45), e47, e48, e49, rfl⟩
   ·have h97 := cond_f hb37 hb39
    refine CWP.exit (by kernel_rfl) ?_
    refine thenQ_ex ?_
    refine thenQ_ex ?_
    refine blockQ_hit rfl ?_
    have ho98 := iter_done h97 hnx38
    exact .inl ⟨rfl, s18, F2, ho98, hs20, le21, e22, e23, e24⟩
  ·rintro f w27 ⟨s26, F3, rfl, hs28, le29, e30, e31, e32⟩
   have h99 := k_done h17
   refine thenQ_nrm ?_
   refine Sq ?_
   refine Sq (Rg [0] ?_)
   refine V 7 3 (mc (vi 0) (vi 0)) ?_
   refine Nt ?_
   obtain ⟨o100, ho101, h102⟩ := bind_some h99
   refine CWP.cut (fun f w => ∃ (s111 : Int) (F8 : Mem), o100 = .done s111 ∧ HS w0 F0 w F8 [(sb b1 (kSystem x0 a0_0 n0_0 a0_1 n0_1) 25)] ∧ Mem.le F3 F8 ∧ f.d = [] ∧ f 1 = (.slice a1_0 x1.length n1_0) ∧ f 2 = (.pointer (some ⟨b1, 0, none⟩))) ?_ ?_
   ·refine Bk ?_
    refine CWP.loop (by kernel_rfl) (fun m f w => ∃ (s103 : Int) (F7 : Mem), iter (ref03_offered_L1 N x0 x1 r4 s26) m s103 = some o100 ∧ HS w0 F0 w F7 [(sb b1 (kSystem x0 a0_0 n0_0 a0_1 n0_1) 25)] ∧ Mem.le F3 F7 ∧ f.d = [] ∧ f 1 = (.slice a1_0 x1.length n1_0) ∧ f 2 = (.pointer (some ⟨b1, 0, none⟩)) ∧ f 7 = (vi s103)) N ⟨0, F3, ho101, hs28, (Mem.le.refl _), e30, e31, e32, rfl⟩ ?_
    rintro m118 f w104 ⟨s103, F7, hit119, hs105, le106, e107, e108, e109, e110⟩
    obtain ⟨m120, fl121, rfl, hb122, hnx123⟩ := iter_step hit119
    refine Sq ?_
    refine Sq (Rg [0, 1, 2, 3] ?_)
    refine V 37 3 (mv 7 (vi s103) e110) ?_
    refine V 38 23 (mv 1 (.slice a1_0 x1.length n1_0) e108) ?_
    refine V 39 3 (ln 38 23 a1_0 x1.length n1_0 46 4 32) ?_
    refine V 40 4 (run_lss (t := 3) (t' := 3) (x := (.tmp 37)) (y := (.tmp 39)) (k := .i64) (a := s103) (b := (x1.length : Int)) rfl rfl) ?_
    refine Nt ?_
    refine CWP.cond (t := (decide (s103 < (x1.length : Int)))) (by kernel_rfl) rfl (fun hb124 => ?_) (fun hb124 => ?_)
    ·have h125 := cond_t hb122 hb124
     refine Sc ?_
     refine thenQ_nrm ?_
     refine Sq ?_
     refine Bk ?_
     refine Sq ?_
     obtain ⟨j131, hj137, h138⟩ := bind_some h125
     refine CWP.regionD (by kernel_rfl) (by kernel_rfl) (by kernel_rfl) (by kernel_rfl) (z := 13) (F := F7) (Lc := [(sb b1 (kSystem x0 a0_0 n0_0 a0_1 n0_1) 25)]) (Lz := []) (l := [false, false, false, false, false, false, false, false, false, false, false, false, false]) (fuel := 13) (by kernel_rfl) (by kernel_rfl) hs105 (by simp) (by simp) (fun f w => ∃ (F9 : Mem), HS w0 F0 w F9 [(sb b1 (kSystem x0 a0_0 n0_0 a0_1 n0_1) 25)] ∧ Mem.le F7 F9 ∧ f.d = [] ∧ f 1 = (.slice a1_0 x1.length n1_0) ∧ f 2 = (.pointer (some ⟨b1, 0, none⟩)) ∧ f 7 = (vi s103) ∧ f 55 = (.bool j131)) (fun wd126 hw127 => ?_) ?_
     ·refine Dt 0 43 23 _ (fun _ hq => mv 1 (.slice a1_0 x1.length n1_0) e108) ?_
      refine Dt 1 44 3 _ (fun _ hq => mv 7 (vi s103) e110) ?_
      obtain ⟨x139, hx140, h142⟩ := bind_some hj137
      obtain ⟨hi141, hx140'⟩ := idx_spec hx140
      obtain ⟨b143, o144, C145, E146, fz147, rfl, hF149, hE150⟩ := SlA.open (SlA.mono hs1_0 ((le10.trans le29).trans le106)) hx140'
      have hc152 := hE150 _ _ hx140'
      refine Dt 2 45 0 (.pointer (some ⟨b143, (o144 + (s103 : Int).toNat * 4), none⟩)) (fun _ hq => ix 23 43 44 b143 o144 46 4 32 hi141) ?_
      refine Dt 3 46 0 (.pointer (some ⟨b143, (o144 + (s103 : Int).toNat * 4), none⟩)) (fun _ hq => fa 46 45 0 0 2 b143 (o144 + (s103 : Int).toNat * 4) (o144 + (s103 : Int).toNat * 4)) ?_
      refine Dt 4 47 0 (.pointer (some ⟨b143, (o144 + (s103 : Int).toNat * 4), none⟩)) (fun _ hq => fa 27 46 0 0 1 b143 (o144 + (s103 : Int).toNat * 4) (o144 + (s103 : Int).toNat * 4)) ?_
      refine Dt 5 48 3 _ (fun _ hq => lx 3 47 0 4 false 1 (vi x139.A.Log) (hq.1.1 _ _ hF149) hc152) ?_
      refine Dt 6 49 23 _ (fun _ hq => mv 1 (.slice (some ⟨b143, o144, none⟩) x1.length n1_0) e108) ?_
      refine Dt 7 50 3 _ (fun _ hq => mv 7 (vi s103) e110) ?_
      obtain ⟨x153, hx154, h156⟩ := bind_some h142
      obtain ⟨hi155, hx154'⟩ := idx_spec hx154
      have hc158 := hE150 _ _ hx154'
      refine Dt 8 51 0 (.pointer (some ⟨b143, (o144 + (s103 : Int).toNat * 4), none⟩)) (fun _ hq => ix 23 49 50 b143 o144 46 4 32 hi155) ?_
      refine Dt 9 52 0 (.pointer (some ⟨b143, ((o144 + (s103 : Int).toNat * 4) + 2), none⟩)) (fun _ hq => fa 46 51 1 2 2 b143 (o144 + (s103 : Int).toNat * 4) ((o144 + (s103 : Int).toNat * 4) + 2)) ?_
      refine Dt 10 53 0 (.pointer (some ⟨b143, ((o144 + (s103 : Int).toNat * 4) + 2), none⟩)) (fun _ hq => fa 27 52 0 0 1 b143 ((o144 + (s103 : Int).toNat * 4) + 2) ((o144 + (s103 : Int).toNat * 4) + 2)) ?_
      refine Dt 11 54 3 _ (fun _ hq => lx 3 53 2 4 false 1 (vi x153.B.Log) (hq.1.1 _ _ hF149) hc158) ?_
      refine Dt 12 55 4 (.bool (x139.A.Log == x153.B.Log)) (fun _ hq => run_eql (t := 3) (t' := 3) (x := (.tmp 48)) (y := (.tmp 54)) (k := .i64) (a := x139.A.Log) (b := x153.B.Log) rfl rfl) ?_
      obtain rfl := some_inj h156
      exact DWP.done (by kernel_rfl) ⟨F7, hw127, (Mem.le.refl _), e107, e108, e109, e110, rfl⟩
     ·rintro f w128 ⟨F9, hs129, le130, e132, e133, e134, e135, e136⟩
      refine thenQ_nrm ?_
      refine CWP.cond (t := j131) (by kernel_rfl) e136 (fun hb159 => ?_) (fun hb159 => ?_)
      ·have h160 := cond_t h138 hb159
       refine Sq (Rg [0] ?_)
       refine V 4 30 (mc (vi 1) (vi 1)) ?_
       refine Nt ?_
       refine CWP.ret (by kernel_rfl) ?_
       refine blockQ_ret ?_
       refine thenQ_ret ?_
       refine thenQ_ret ?_
       refine blockQ_ret ?_
       have hret := iter_ret h160 hnx123
       subst hret
       refine .inr ?_
       refine thenQ_ret ?_
       have hfin := some_inj h102
       subst hfin
       exact ⟨e132, (vi 1), res_of (l := [.tmp 4]) (by kernel_rfl) (vs := [(vi 1)]) ⟨rfl, trivial⟩, (vi 1), F9, rfl, hs129.clear, rfl⟩
      ·have h161 := cond_f h138 hb159
       refine Sc ?_
       refine blockQ_nrm ?_
       refine thenQ_nrm ?_
       refine Rg [0, 1, 2] ?_
       refine V 41 3 (mv 7 (vi s103) e135) ?_
       refine V 42 3 (run_add (t := 3) (t' := 3) (x := (.tmp 41)) (y := (.const (vi 1))) (k := .i64) (a := s103) (b := 1) rfl rfl) ?_
       refine V 7 3 (ma 42 (vi (W64 (s103 + 1)))) ?_
       refine RWP.nil ?_
       have hn162 := iter_next h161 hnx123
       exact ⟨m120, Nat.lt_succ_self _, (W64 (s103 + 1)), F9, hn162, hs129, (le106.trans le130), e132, e133, e134, rfl⟩
    ·have h163 := cond_f hb122 hb124
     refine CWP.exit (by kernel_rfl) ?_
     refine thenQ_ex ?_
     refine thenQ_ex ?_
     refine blockQ_hit rfl ?_
     have ho164 := iter_done h163 hnx123
     exact .inl ⟨rfl, s103, F7, ho164, hs105, le106, e107, e108, e109⟩
   ·rintro f w112 ⟨s111, F8, rfl, hs113, le114, e115, e116, e117⟩
    have h165 := k_done h102
    refine thenQ_nrm ?_
    refine Sq ?_
    refine Sq (Rg [0, 1, 2] ?_)
    refine V 56 25 (ld 25 2 b1 0 true 3 (.agg (kSystem x0 a0_0 n0_0 a0_1 n0_1)) (hs113.ownAt (k := 0) rfl) e117) ?_
    obtain ⟨r166, hr167, h168⟩ := bind_some h165
    refine Cl 57 4 90 #[(.tmp 56)] #[25] co_ref03_Closes hs113 (c_ref03_Closes N w112 F8 hs113.pers (x0) a0_0 n0_0 hb0_0 (SlA.mono hs0_0 ((le10.trans le29).trans le114)) a0_1 n0_1 hb0_1 (SlA.mono hs0_1 ((le10.trans le29).trans le114)) _ hr167) ?_
    intro v169 F10 w170 hs171 le172 hp173
    obtain rfl := hp173
    refine V 58 4 (run_not (t := 4) (x := (.tmp 57)) (a := r166) rfl) ?_
    refine Nt ?_
    refine CWP.cond (t := (!r166)) (by kernel_rfl) rfl (fun hb174 => ?_) (fun hb174 => ?_)
    ·have h175 := cond_t h168 hb174
     refine Sq (Rg [0] ?_)
     refine V 4 30 (mc (vi 31) (vi 31)) ?_
     refine Nt ?_
     refine CWP.ret (by kernel_rfl) ?_
     refine thenQ_ret ?_
     have hfin := some_inj h175
     subst hfin
     exact ⟨e115, (vi 31), res_of (l := [.tmp 4]) (by kernel_rfl) (vs := [(vi 31)]) ⟨rfl, trivial⟩, (vi 31), F10, rfl, hs171.clear, rfl⟩
    ·have h176 := cond_f h168 hb174
     refine Sc ?_
     refine thenQ_nrm ?_
     refine Sq ?_
     refine Sq (Rg [0, 1, 2, 3, 4, 5, 6] ?_)
     refine V 59 0 (fa 25 2 1 1 1 b1 0 1 e117) ?_
     refine V 60 23 (ld 23 59 b1 1 false 1 (.slice a0_1 x0.Ties.length n0_1) (hs171.ownAt (k := 0) rfl)) ?_
     refine V 61 3 (ln 60 23 a0_1 x0.Ties.length n0_1 46 4 32) ?_
     refine V 62 23 (mv 1 (.slice a1_0 x1.length n1_0) e116) ?_
     refine V 63 3 (ln 62 23 a1_0 x1.length n1_0 46 4 32) ?_
     refine V 64 3 (run_add (t := 3) (t' := 3) (x := (.tmp 61)) (y := (.tmp 63)) (k := .i64) (a := (x0.Ties.length : Int)) (b := (x1.length : Int)) rfl rfl) ?_
     refine V 65 4 (run_gtr (t := 3) (t' := 3) (x := (.tmp 64)) (y := (.const (vi 400))) (k := .i64) (a := (W64 ((x0.Ties.length : Int) + (x1.length : Int)))) (b := 400) rfl rfl) ?_
     refine Nt ?_
     refine CWP.cond (t := (decide ((W64 ((x0.Ties.length : Int) + (x1.length : Int))) > 400))) (by kernel_rfl) rfl (fun hb177 => ?_) (fun hb177 => ?_)
     ·have h178 := cond_t h176 hb177
      refine Sq (Rg [0] ?_)
      refine V 4 30 (mc (vi 2) (vi 2)) ?_
      refine Nt ?_
      refine CWP.ret (by kernel_rfl) ?_
      refine thenQ_ret ?_
      have hfin := some_inj h178
      subst hfin
      exact ⟨e115, (vi 2), res_of (l := [.tmp 4]) (by kernel_rfl) (vs := [(vi 2)]) ⟨rfl, trivial⟩, (vi 2), F10, rfl, hs171.clear, rfl⟩
     ·have h179 := cond_f h176 hb177
      refine Sc ?_
      refine thenQ_nrm ?_
      refine Sq (Rg [0] ?_)
      refine V 4 30 (mc (vi 0) (vi 0)) ?_
      refine Nt ?_
      refine CWP.ret (by kernel_rfl) ?_
      have hfin := some_inj h179
      subst hfin
      exact ⟨e115, (vi 0), res_of (l := [.tmp 4]) (by kernel_rfl) (vs := [(vi 0)]) ⟨rfl, trivial⟩, (vi 0), F10, rfl, hs171.clear, rfl⟩
end Go.Proofs.Ythbcnabeabcmlaa
namespace Go.Proofs.Ythbcnabeabcmlaa
open Go.Proofs
def ref03_with (N : Nat) (x0 : System) (x1 : Tie) : Option System :=
 (((apnd ([] : List Tie) x0.Ties).bind fun r32 => ((apnd r32 [x1]).bind fun r46 => some r46)).bind fun j21 => some ({ Tracks := x0.Tracks, Ties := j21, Window := x0.Window } : System))
theorem co_ref03_with : CallOk Try.prog 89 := fun _ _ => by kernel_rfl
set_option maxHeartbeats 4000000 in
set_option maxRecDepth 100000 in
theorem c_ref03_with (N : Nat) (w0 : World) (F0 : Mem) (hF : ∀ b o, F0 b = some o → w0.heap[b]? = some o) (x0 : System) (a0_0 : Option Addr) (n0_0 : Nat) (hb0_0 : LC x0.Tracks.length n0_0) (hs0_0 : SlA tTrack F0 a0_0 x0.Tracks) (a0_1 : Option Addr) (n0_1 : Nat) (hb0_1 : LC x0.Ties.length n0_1) (hs0_1 : SlA tTie F0 a0_1 x0.Ties) (x1 : Tie) (r : System) (h : ref03_with N x0 x1 = some r) :
  Calls Try.prog 89 ([(.agg (kSystem x0 a0_0 n0_0 a0_1 n0_1)), (.agg (kTie x1))] : List Value).toArray w0 (FRet w0 F0 fun F' v => ∃ (aq0_0 : Option Addr) (nq0_0 : Nat) (aq0_1 : Option Addr) (nq0_1 : Nat), v = (.agg (kSystem r aq0_0 nq0_0 aq0_1 nq0_1)) ∧ LC r.Tracks.length nq0_0 ∧ SlA tTrack F' aq0_0 r.Tracks ∧ LC r.Ties.length nq0_1 ∧ SlA tTie F' aq0_1 r.Ties) := by
 have hs0 := HS.start hF
 refine calls_of (n := 16) (c := bodyOf Try.f89) Try.func89 (by kernel_rfl) (by kernel_rfl) (by kernel_rfl) ?_
 refine Sq (Rg [0, 1, 2] ?_)
 refine Bx 2 0 0 25 (kSystem x0 a0_0 n0_0 a0_1 n0_1) hs0 (fun b1 w2 (hs3 : HS w0 F0 w2 F0 [(sb b1 (kSystem x0 a0_0 n0_0 a0_1 n0_1) 25)]) => ?_)
 refine Bx 3 0 1 46 (kTie x1) hs3 (fun b4 w5 (hs6 : HS w0 F0 w5 F0 [(sb b4 (kTie x1) 46), (sb b1 (kSystem x0 a0_0 n0_0 a0_1 n0_1) 25)]) => ?_)
 refine Al 4 0 25 #[(.slice none ([] : List Track).length 0), (.slice none ([] : List Tie).length 0), (vi 0)] hs6 (fun b7 w8 (hs9 : HS w0 F0 w8 F0 [(sb b7 #[(.slice none ([] : List Track).length 0), (.slice none ([] : List Tie).length 0), (vi 0)] 25), (sb b4 (kTie x1) 46), (sb b1 (kSystem x0 a0_0 n0_0 a0_1 n0_1) 25)]) => ?_)
 refine Nss (Rg [0, 1, 2] ?_)
 refine V 6 25 (ld 25 2 b1 0 true 3 (.agg (kSystem x0 a0_0 n0_0 a0_1 n0_1)) (hs9.ownAt (k := 2) rfl)) ?_
 refine Al 5 0 25 #[(.slice none ([] : List Track).length 0), (.slice none ([] : List Tie).length 0), (vi 0)] hs9 (fun b10 w11 (hs12 : HS w0 F0 w11 F0 [(sb b10 #[(.slice none ([] : List Track).length 0), (.slice none ([] : List Tie).length 0), (vi 0)] 25), (sb b7 #[(.slice none ([] : List Track).length 0), (.slice none ([] : List Tie).length 0), (vi 0)] 25), (sb b4 (kTie x1) 46), (sb b1 (kSystem x0 a0_0 n0_0 a0_1 n0_1) 25)]) => ?_)
 refine RWP.store (ty := 0) (g := none) (by kernel_rfl) rfl (x := (.tmp 5)) (y := (.tmp 6)) (t := 25) (gg := true) (s := 3) (v := (.agg (kSystem x0 a0_0 n0_0 a0_1 n0_1))) (b := b10) (o := 0) (C := #[(.slice none ([] : List Track).length 0), (.slice none ([] : List Tie).length 0), (vi 0)]) rfl rfl (by kernel_rfl) hs12 (k := 0) rfl rfl rfl rfl (C' := (kSystem x0 a0_0 n0_0 a0_1 n0_1)) rfl (fun w13 (hs14 : HS w0 F0 w13 F0 [(sb b10 (kSystem x0 a0_0 n0_0 a0_1 n0_1) 25), (sb b7 #[(.slice none ([] : List Track).length 0), (.slice none ([] : List Tie).length 0), (vi 0)] 25), (sb b4 (kTie x1) 46), (sb b1 (kSystem x0 a0_0 n0_0 a0_1 n0_1) 25)]) => ?_)
 refine Nss ?_
 obtain ⟨j21, hj25, h26⟩ := bind_some h
 refine CWP.regionD (by kernel_rfl) (by kernel_rfl) (by kernel_rfl) (by kernel_rfl) (z := 8) (F := F0) (Lc := [(sb b7 #[(.slice none ([] : List Track).length 0), (.slice none ([] : List Tie).length 0), (vi 0)] 25), (sb b4 (kTie x1) 46), (sb b1 (kSystem x0 a0_0 n0_0 a0_1 n0_1) 25)]) (Lz := [(sb b10 (kSystem x0 a0_0 n0_0 a0_1 n0_1) 25)]) (l := [false, false, false, false, false, false, false, false, false]) (fuel := 9) (by kernel_rfl) (by kernel_rfl) hs14 (by simp) (by simp) (fun f w => ∃ (F1 : Mem) (aj21_0 : Option Addr) (nj21_0 : Nat) (ej21_0 : Option Nat × Obj), HS w0 F0 w F1 [ej21_0, (sb b10 #[(.slice a0_0 x0.Tracks.length n0_0), (.slice aj21_0 j21.length nj21_0), (vi x0.Window)] 25), (sb b7 #[(.slice none ([] : List Track).length 0), (.slice none ([] : List Tie).length 0), (vi 0)] 25)] ∧ Mem.le F0 F1 ∧ f.d = [] ∧ f 4 = (.pointer (some ⟨b7, 0, none⟩)) ∧ f 5 = (.pointer (some ⟨b10, 0, none⟩)) ∧ RowR tTie 46 F1 aj21_0 nj21_0 j21 ej21_0) (fun wd15 hw16 => ?_) ?_
 ·refine Df 1 8 0 (.pointer (some ⟨b1, 1, none⟩)) (fun _ hq => fa 25 2 1 1 1 b1 0 1) ?_
  refine Df 2 9 23 _ (fun _ hq => ld 23 8 b1 1 false 1 (.slice a0_1 x0.Ties.length n0_1) (hq.1.2 2 _ _ rfl)) ?_
  refine Df 4 11 46 _ (fun _ hq => ld 46 3 b4 0 true 4 (.agg (kTie x1)) (hq.1.2 1 _ _ rfl)) ?_
  refine DWP.two (i := 0) (j := 5) (by kernel_rfl) ?_ ?_
  ·refine DStep.buildSlice (l' := [true, true, true, false, true, false, false, false, false]) (zd := false) (by kernel_rfl) (by kernel_rfl) (dst := (some 7)) (ty := 23) (g := none) (by kernel_rfl) rfl (t := 23) (len := 0) (parts := #[]) (vs := []) (rfl) (E := 46) (cs := []) (by kernel_rfl) hw16 (Mem.le.refl _) (by simp) (fun _ => by simp) (fun b27 w28 (hs29 : HS w0 F0 w28 F0 [(some b27, .cells ([] : List Value).toArray 46 (0, 0)), (sb b10 (kSystem x0 a0_0 n0_0 a0_1 n0_1) 25), (sb b7 #[(.slice none ([] : List Track).length 0), (.slice none ([] : List Tie).length 0), (vi 0)] 25), (sb b4 (kTie x1) 46), (sb b1 (kSystem x0 a0_0 n0_0 a0_1 n0_1) 25)]) => ?_)
   have hr31 : RowR tTie 46 F0 (some ⟨b27, 0, none⟩) 0 ([] : List Tie) (some b27, .cells ([] : List Value).toArray 46 (0, 0)) := RowR.lit rfl (by simp)
   refine DWP.two (i := 3) (j := 5) (by kernel_rfl) ?_ ?_
   ·obtain ⟨r32, hap33, h34⟩ := bind_some hj25
    refine DStep.append (l' := [true, true, true, true, true, false, false, false, false]) (zd := false) (by kernel_rfl) (by kernel_rfl) (dst := (some 10)) (ty := 23) (g := none) (by kernel_rfl) rfl (x := (.tmp 7)) (y := (.tmp 9)) (t := 23) (t2 := 23) (by_ := 32) (z := (.agg #[(vi 0), (vi 0), (vi 0), (vi 0)])) (a2 := a0_1) (c2 := n0_1) (m := x0.Ties) (T := tTie) (E := 46) (a := (some ⟨b27, 0, none⟩)) (cap := 0) (l := ([] : List Tie)) rfl rfl (by kernel_rfl) (by decide) (by kernel_rfl) (by kernel_rfl) rfl oTie hs29 (k := 0) rfl hr31 (SlA.rd hs29 hs0_1) (r := r32) hap33 (Mem.le.refl _) (fun _ => by simp) (fun _ _ => by simp) (fun a35 n36 e37 w38 (hs39 : HS w0 F0 w38 F0 [e37, (sb b10 (kSystem x0 a0_0 n0_0 a0_1 n0_1) 25), (sb b7 #[(.slice none ([] : List Track).length 0), (.slice none ([] : List Tie).length 0), (vi 0)] 25), (sb b4 (kTie x1) 46), (sb b1 (kSystem x0 a0_0 n0_0 a0_1 n0_1) 25)]) hr40 => ?_)
    refine DWP.one (i := 5) (by kernel_rfl) ?_
    refine DStep.buildSlice (l' := [true, true, true, true, true, true, false, false, false]) (zd := false) (by kernel_rfl) (by kernel_rfl) (dst := (some 12)) (ty := 23) (g := none) (by kernel_rfl) rfl (t := 23) (len := 1) (parts := #[(0, (.tmp 11))]) (vs := [(0, (.agg (kTie x1)))]) (rfl) (E := 46) (cs := [(vi x1.A.Log), (vi x1.A.Line), (vi x1.B.Log), (vi x1.B.Line)]) (by kernel_rfl) hs39 (Mem.le.refl _) (by simp) (fun _ => by simp) (fun b41 w42 (hs43 : HS w0 F0 w42 F0 [(some b41, .cells ([(vi x1.A.Log), (vi x1.A.Line), (vi x1.B.Log), (vi x1.B.Line)] : List Value).toArray 46 (0, 0)), e37, (sb b10 (kSystem x0 a0_0 n0_0 a0_1 n0_1) 25), (sb b7 #[(.slice none ([] : List Track).length 0), (.slice none ([] : List Tie).length 0), (vi 0)] 25), (sb b4 (kTie x1) 46), (sb b1 (kSystem x0 a0_0 n0_0 a0_1 n0_1) 25)]) => ?_)
    have hr45 : RowR tTie 46 F0 (some ⟨b41, 0, none⟩) 1 [x1] (some b41, .cells ([(vi x1.A.Log), (vi x1.A.Line), (vi x1.B.Log), (vi x1.B.Line)] : List Value).toArray 46 (0, 0)) := RowR.lit ⟨rfl, rfl⟩ (by simp)
    refine DWP.one (i := 6) (by kernel_rfl) ?_
    obtain ⟨r46, hap47, h48⟩ := bind_some h34
    refine DStep.append (l' := [true, true, true, true, true, true, true, false, false]) (zd := false) (by kernel_rfl) (by kernel_rfl) (dst := (some 13)) (ty := 23) (g := none) (by kernel_rfl) rfl (x := (.tmp 10)) (y := (.tmp 12)) (t := 23) (t2 := 23) (by_ := 32) (z := (.agg #[(vi 0), (vi 0), (vi 0), (vi 0)])) (a2 := (some ⟨b41, 0, none⟩)) (c2 := 1) (m := [x1]) (T := tTie) (E := 46) (a := a35) (cap := n36) (l := r32) rfl rfl (by kernel_rfl) (by decide) (by kernel_rfl) (by kernel_rfl) rfl oTie hs43 (k := 1) rfl hr40 (RowR.rd hs43 (k := 0) rfl hr45) (r := r46) hap47 (Mem.le.refl _) (fun _ => by simp) (fun _ _ => by simp) (fun a49 n50 e51 w52 (hs53 : HS w0 F0 w52 F0 [(some b41, .cells ([(vi x1.A.Log), (vi x1.A.Line), (vi x1.B.Log), (vi x1.B.Line)] : List Value).toArray 46 (0, 0)), e51, (sb b10 (kSystem x0 a0_0 n0_0 a0_1 n0_1) 25), (sb b7 #[(.slice none ([] : List Track).length 0), (.slice none ([] : List Tie).length 0), (vi 0)] 25), (sb b4 (kTie x1) 46), (sb b1 (kSystem x0 a0_0 n0_0 a0_1 n0_1) 25)]) hr54 => ?_)
    refine Df 7 14 0 (.pointer (some ⟨b10, 1, none⟩)) (fun _ hq => fa 25 5 1 1 1 b10 0 1) ?_
    refine DWP.one (i := 8) (by kernel_rfl) ?_
    refine DStep.store (l' := [true, true, true, true, true, true, true, true, true]) (zd := true) (by kernel_rfl) (by kernel_rfl) (ty := 0) (g := none) (by kernel_rfl) rfl (x := (.tmp 14)) (y := (.tmp 13)) (t := 23) (gg := false) (s := 1) (v := (.slice a49 r46.length n50)) (b := b10) (o := 1) (C := (kSystem x0 a0_0 n0_0 a0_1 n0_1)) rfl rfl (by kernel_rfl) hs53 (k := 2) rfl rfl rfl rfl (C' := #[(.slice a0_0 x0.Tracks.length n0_0), (.slice a49 r46.length n50), (vi x0.Window)]) rfl (Mem.le.refl _) (by simp) (fun e => by cases e) (fun w55 (hs56 : HS w0 F0 w55 F0 [(some b41, .cells ([(vi x1.A.Log), (vi x1.A.Line), (vi x1.B.Log), (vi x1.B.Line)] : List Value).toArray 46 (0, 0)), e51, (sb b10 #[(.slice a0_0 x0.Tracks.length n0_0), (.slice a49 r46.length n50), (vi x0.Window)] 25), (sb b7 #[(.slice none ([] : List Track).length 0), (.slice none ([] : List Tie).length 0), (vi 0)] 25), (sb b4 (kTie x1) 46), (sb b1 (kSystem x0 a0_0 n0_0 a0_1 n0_1) 25)]) => ?_)
    obtain rfl := some_inj h48
    have hs57 : HS w0 F0 w55 F0 [e51, (sb b10 #[(.slice a0_0 x0.Tracks.length n0_0), (.slice a49 r46.length n50), (vi x0.Window)] 25), (sb b7 #[(.slice none ([] : List Track).length 0), (.slice none ([] : List Tie).length 0), (vi 0)] 25), (sb b4 (kTie x1) 46), (sb b1 (kSystem x0 a0_0 n0_0 a0_1 n0_1) 25)] := hs56.drop 0
    have hs58 : HS w0 F0 w55 F0 [e51, (sb b10 #[(.slice a0_0 x0.Tracks.length n0_0), (.slice a49 r46.length n50), (vi x0.Window)] 25), (sb b7 #[(.slice none ([] : List Track).length 0), (.slice none ([] : List Tie).length 0), (vi 0)] 25), (sb b1 (kSystem x0 a0_0 n0_0 a0_1 n0_1) 25)] := hs57.drop 3
    have hs59 : HS w0 F0 w55 F0 [e51, (sb b10 #[(.slice a0_0 x0.Tracks.length n0_0), (.slice a49 r46.length n50), (vi x0.Window)] 25), (sb b7 #[(.slice none ([] : List Track).length 0), (.slice none ([] : List Tie).length 0), (vi 0)] 25)] := hs58.drop 3
    exact DWP.done (by kernel_rfl) ⟨F0, a49, n50, e51, hs59, (Mem.le.refl _), rfl, rfl, rfl, hr54⟩
   ·refine DStep.buildSlice (l' := [true, true, true, false, true, true, false, false, false]) (zd := false) (by kernel_rfl) (by kernel_rfl) (dst := (some 12)) (ty := 23) (g := none) (by kernel_rfl) rfl (t := 23) (len := 1) (parts := #[(0, (.tmp 11))]) (vs := [(0, (.agg (kTie x1)))]) (rfl) (E := 46) (cs := [(vi x1.A.Log), (vi x1.A.Line), (vi x1.B.Log), (vi x1.B.Line)]) (by kernel_rfl) hs29 (Mem.le.refl _) (by simp) (fun _ => by simp) (fun b60 w61 (hs62 : HS w0 F0 w61 F0 [(some b60, .cells ([(vi x1.A.Log), (vi x1.A.Line), (vi x1.B.Log), (vi x1.B.Line)] : List Value).toArray 46 (0, 0)), (some b27, .cells ([] : List Value).toArray 46 (0, 0)), (sb b10 (kSystem x0 a0_0 n0_0 a0_1 n0_1) 25), (sb b7 #[(.slice none ([] : List Track).length 0), (.slice none ([] : List Tie).length 0), (vi 0)] 25), (sb b4 (kTie x1) 46), (sb b1 (kSystem x0 a0_0 n0_0 a0_1 n0_1) 25)]) => ?_)
    have hr64 : RowR tTie 46 F0 (some ⟨b60, 0, none⟩) 1 [x1] (some b60, .cells ([(vi x1.A.Log), (vi x1.A.Line), (vi x1.B.Log), (vi x1.B.Line)] : List Value).toArray 46 (0, 0)) := RowR.lit ⟨rfl, rfl⟩ (by simp)
    refine DWP.one (i := 3) (by kernel_rfl) ?_
    obtain ⟨r65, hap66, h67⟩ := bind_some hj25
    refine DStep.append (l' := [true, true, true, true, true, true, false, false, false]) (zd := false) (by kernel_rfl) (by kernel_rfl) (dst := (some 10)) (ty := 23) (g := none) (by kernel_rfl) rfl (x := (.tmp 7)) (y := (.tmp 9)) (t := 23) (t2 := 23) (by_ := 32) (z := (.agg #[(vi 0), (vi 0), (vi 0), (vi 0)])) (a2 := a0_1) (c2 := n0_1) (m := x0.Ties) (T := tTie) (E := 46) (a := (some ⟨b27, 0, none⟩)) (cap := 0) (l := ([] : List Tie)) rfl rfl (by kernel_rfl) (by decide) (by kernel_rfl) (by kernel_rfl) rfl oTie hs62 (k := 1) rfl hr31 (SlA.rd hs62 hs0_1) (r := r65) hap66 (Mem.le.refl _) (fun _ => by simp) (fun _ _ => by simp) (fun a68 n69 e70 w71 (hs72 : HS w0 F0 w71 F0 [(some b60, .cells ([(vi x1.A.Log), (vi x1.A.Line), (vi x1.B.Log), (vi x1.B.Line)] : List Value).toArray 46 (0, 0)), e70, (sb b10 (kSystem x0 a0_0 n0_0 a0_1 n0_1) 25), (sb b7 #[(.slice none ([] : List Track).length 0), (.slice none ([] : List Tie).length 0), (vi 0)] 25), (sb b4 (kTie x1) 46), (sb b1 (kSystem x0 a0_0 n0_0 a0_1 n0_1) 25)]) hr73 => ?_)
    refine DWP.one (i := 6) (by kernel_rfl) ?_
    obtain ⟨r74, hap75, h76⟩ := bind_some h67
    refine DStep.append (l' := [true, true, true, true, true, true, true, false, false]) (zd := false) (by kernel_rfl) (by kernel_rfl) (dst := (some 13)) (ty := 23) (g := none) (by kernel_rfl) rfl (x := (.tmp 10)) (y := (.tmp 12)) (t := 23) (t2 := 23) (by_ := 32) (z := (.agg #[(vi 0), (vi 0), (vi 0), (vi 0)])) (a2 := (some ⟨b60, 0, none⟩)) (c2 := 1) (m := [x1]) (T := tTie) (E := 46) (a := a68) (cap := n69) (l := r65) rfl rfl (by kernel_rfl) (by decide) (by kernel_rfl) (by kernel_rfl) rfl oTie hs72 (k := 1) rfl hr73 (RowR.rd hs72 (k := 0) rfl hr64) (r := r74) hap75 (Mem.le.refl _) (fun _ => by simp) (fun _ _ => by simp) (fun a77 n78 e79 w80 (hs81 : HS w0 F0 w80 F0 [(some b60, .cells ([(vi x1.A.Log), (vi x1.A.Line), (vi x1.B.Log), (vi x1.B.Line)] : List Value).toArray 46 (0, 0)), e79, (sb b10 (kSystem x0 a0_0 n0_0 a0_1 n0_1) 25), (sb b7 #[(.slice none ([] : List Track).length 0), (.slice none ([] : List Tie).length 0), (vi 0)] 25), (sb b4 (kTie x1) 46), (sb b1 (kSystem x0 a0_0 n0_0 a0_1 n0_1) 25)]) hr82 => ?_)
    refine Df 7 14 0 (.pointer (some ⟨b10, 1, none⟩)) (fun _ hq => fa 25 5 1 1 1 b10 0 1) ?_
    refine DWP.one (i := 8) (by kernel_rfl) ?_
    refine DStep.store (l' := [true, true, true, true, true, true, true, true, true]) (zd := true) (by kernel_rfl) (by kernel_rfl) (ty := 0) (g := none) (by kernel_rfl) rfl (x := (.tmp 14)) (y := (.tmp 13)) (t := 23) (gg := false) (s := 1) (v := (.slice a77 r74.length n78)) (b := b10) (o := 1) (C := (kSystem x0 a0_0 n0_0 a0_1 n0_1)) rfl rfl (by kernel_rfl) hs81 (k := 2) rfl rfl rfl rfl (C' := #[(.slice a0_0 x0.Tracks.length n0_0), (.slice a77 r74.length n78), (vi x0.Window)]) rfl (Mem.le.refl _) (by simp) (fun e => by cases e) (fun w83 (hs84 : HS w0 F0 w83 F0 [(some b60, .cells ([(vi x1.A.Log), (vi x1.A.Line), (vi x1.B.Log), (vi x1.B.Line)] : List Value).toArray 46 (0, 0)), e79, (sb b10 #[(.slice a0_0 x0.Tracks.length n0_0), (.slice a77 r74.length n78), (vi x0.Window)] 25), (sb b7 #[(.slice none ([] : List Track).length 0), (.slice none ([] : List Tie).length 0), (vi 0)] 25), (sb b4 (kTie x1) 46), (sb b1 (kSystem x0 a0_0 n0_0 a0_1 n0_1) 25)]) => ?_)
    obtain rfl := some_inj h76
    have hs85 : HS w0 F0 w83 F0 [e79, (sb b10 #[(.slice a0_0 x0.Tracks.length n0_0), (.slice a77 r74.length n78), (vi x0.Window)] 25), (sb b7 #[(.slice none ([] : List Track).length 0), (.slice none ([] : List Tie).length 0), (vi 0)] 25), (sb b4 (kTie x1) 46), (sb b1 (kSystem x0 a0_0 n0_0 a0_1 n0_1) 25)] := hs84.drop 0
    have hs86 : HS w0 F0 w83 F0 [e79, (sb b10 #[(.slice a0_0 x0.Tracks.length n0_0), (.slice a77 r74.length n78), (vi x0.Window)] 25), (sb b7 #[(.slice none ([] : List Track).length 0), (.slice none ([] : List Tie).length 0), (vi 0)] 25), (sb b1 (kSystem x0 a0_0 n0_0 a0_1 n0_1) 25)] := hs85.drop 3
    have hs87 : HS w0 F0 w83 F0 [e79, (sb b10 #[(.slice a0_0 x0.Tracks.length n0_0), (.slice a77 r74.length n78), (vi x0.Window)] 25), (sb b7 #[(.slice none ([] : List Track).length 0), (.slice none ([] : List Tie).length 0), (vi 0)] 25)] := hs86.drop 3
    exact DWP.done (by kernel_rfl) ⟨F0, a77, n78, e79, hs87, (Mem.le.refl _), rfl, rfl, rfl, hr82⟩
  ·refine DStep.buildSlice (l' := [false, true, true, false, true, true, false, false, false]) (zd := false) (by kernel_rfl) (by kernel_rfl) (dst := (some 12)) (ty := 23) (g := none) (by kernel_rfl) rfl (t := 23) (len := 1) (parts := #[(0, (.tmp 11))]) (vs := [(0, (.agg (kTie x1)))]) (rfl) (E := 46) (cs := [(vi x1.A.Log), (vi x1.A.Line), (vi x1.B.Log), (vi x1.B.Line)]) (by kernel_rfl) hw16 (Mem.le.refl _) (by simp) (fun _ => by simp) (fun b88 w89 (hs90 : HS w0 F0 w89 F0 [(some b88, .cells ([(vi x1.A.Log), (vi x1.A.Line), (vi x1.B.Log), (vi x1.B.Line)] : List Value).toArray 46 (0, 0)), (sb b10 (kSystem x0 a0_0 n0_0 a0_1 n0_1) 25), (sb b7 #[(.slice none ([] : List Track).length 0), (.slice none ([] : List Tie).length 0), (vi 0)] 25), (sb b4 (kTie x1) 46), (sb b1 (kSystem x0 a0_0 n0_0 a0_1 n0_1) 25)]) => ?_)
   have hr92 : RowR tTie 46 F0 (some ⟨b88, 0, none⟩) 1 [x1] (some b88, .cells ([(vi x1.A.Log), (vi x1.A.Line), (vi x1.B.Log), (vi x1.B.Line)] : List Value).toArray 46 (0, 0)) := RowR.lit ⟨rfl, rfl⟩ (by simp)
   refine DWP.one (i := 0) (by kernel_rfl) ?_
   refine DStep.buildSlice (l' := [true, true, true, false, true, true, false, false, false]) (zd := false) (by kernel_rfl) (by kernel_rfl) (dst := (some 7)) (ty := 23) (g := none) (by kernel_rfl) rfl (t := 23) (len := 0) (parts := #[]) (vs := []) (rfl) (E := 46) (cs := []) (by kernel_rfl) hs90 (Mem.le.refl _) (by simp) (fun _ => by simp) (fun b93 w94 (hs95 : HS w0 F0 w94 F0 [(some b93, .cells ([] : List Value).toArray 46 (0, 0)), (some b88, .cells ([(vi x1.A.Log), (vi x1.A.Line), (vi x1.B.Log), (vi x1.B.Line)] : List Value).toArray 46 (0, 0)), (sb b10 (kSystem x0 a0_0 n0_0 a0_1 n0_1) 25), (sb b7 #[(.slice none ([] : List Track).length 0), (.slice none ([] : List Tie).length 0), (vi 0)] 25), (sb b4 (kTie x1) 46), (sb b1 (kSystem x0 a0_0 n0_0 a0_1 n0_1) 25)]) => ?_)
   have hr97 : RowR tTie 46 F0 (some ⟨b93, 0, none⟩) 0 ([] : List Tie) (some b93, .cells ([] : List Value).toArray 46 (0, 0)) := RowR.lit rfl (by simp)
   refine DWP.one (i := 3) (by kernel_rfl) ?_
   obtain ⟨r98, hap99, h100⟩ := bind_some hj25
   refine DStep.append (l' := [true, true, true, true, true, true, false, false, false]) (zd := false) (by kernel_rfl) (by kernel_rfl) (dst := (some 10)) (ty := 23) (g := none) (by kernel_rfl) rfl (x := (.tmp 7)) (y := (.tmp 9)) (t := 23) (t2 := 23) (by_ := 32) (z := (.agg #[(vi 0), (vi 0), (vi 0), (vi 0)])) (a2 := a0_1) (c2 := n0_1) (m := x0.Ties) (T := tTie) (E := 46) (a := (some ⟨b93, 0, none⟩)) (cap := 0) (l := ([] : List Tie)) rfl rfl (by kernel_rfl) (by decide) (by kernel_rfl) (by kernel_rfl) rfl oTie hs95 (k := 0) rfl hr97 (SlA.rd hs95 hs0_1) (r := r98) hap99 (Mem.le.refl _) (fun _ => by simp) (fun _ _ => by simp) (fun a101 n102 e103 w104 (hs105 : HS w0 F0 w104 F0 [e103, (some b88, .cells ([(vi x1.A.Log), (vi x1.A.Line), (vi x1.B.Log), (vi x1.B.Line)] : List Value).toArray 46 (0, 0)), (sb b10 (kSystem x0 a0_0 n0_0 a0_1 n0_1) 25), (sb b7 #[(.slice none ([] : List Track).length 0), (.slice none ([] : List Tie).length 0), (vi 0)] 25), (sb b4 (kTie x1) 46), (sb b1 (kSystem x0 a0_0 n0_0 a0_1 n0_1) 25)]) hr106 => ?_)
   refine DWP.one (i := 6) (by kernel_rfl) ?_
   obtain ⟨r107, hap108, h109⟩ := bind_some h100
   refine DStep.append (l' := [true, true, true, true, true, true, true, false, false]) (zd := false) (by kernel_rfl) (by kernel_rfl) (dst := (some 13)) (ty := 23) (g := none) (by kernel_rfl) rfl (x := (.tmp 10)) (y := (.tmp 12)) (t := 23) (t2 := 23) (by_ := 32) (z := (.agg #[(vi 0), (vi 0), (vi 0), (vi 0)])) (a2 := (some ⟨b88, 0, none⟩)) (c2 := 1) (m := [x1]) (T := tTie) (E := 46) (a := a101) (cap := n102) (l := r98) rfl rfl (by kernel_rfl) (by decide) (by kernel_rfl) (by kernel_rfl) rfl oTie hs105 (k := 0) rfl hr106 (RowR.rd hs105 (k := 1) rfl hr92) (r := r107) hap108 (Mem.le.refl _) (fun _ => by simp) (fun _ _ => by simp) (fun a110 n111 e112 w113 (hs114 : HS w0 F0 w113 F0 [e112, (some b88, .cells ([(vi x1.A.Log), (vi x1.A.Line), (vi x1.B.Log), (vi x1.B.Line)] : List Value).toArray 46 (0, 0)), (sb b10 (kSystem x0 a0_0 n0_0 a0_1 n0_1) 25), (sb b7 #[(.slice none ([] : List Track).length 0), (.slice none ([] : List Tie).length 0), (vi 0)] 25), (sb b4 (kTie x1) 46), (sb b1 (kSystem x0 a0_0 n0_0 a0_1 n0_1) 25)]) hr115 => ?_)
   refine Df 7 14 0 (.pointer (some ⟨b10, 1, none⟩)) (fun _ hq => fa 25 5 1 1 1 b10 0 1) ?_
   refine DWP.one (i := 8) (by kernel_rfl) ?_
   refine DStep.store (l' := [true, true, true, true, true, true, true, true, true]) (zd := true) (by kernel_rfl) (by kernel_rfl) (ty := 0) (g := none) (by kernel_rfl) rfl (x := (.tmp 14)) (y := (.tmp 13)) (t := 23) (gg := false) (s := 1) (v := (.slice a110 r107.length n111)) (b := b10) (o := 1) (C := (kSystem x0 a0_0 n0_0 a0_1 n0_1)) rfl rfl (by kernel_rfl) hs114 (k := 2) rfl rfl rfl rfl (C' := #[(.slice a0_0 x0.Tracks.length n0_0), (.slice a110 r107.length n111), (vi x0.Window)]) rfl (Mem.le.refl _) (by simp) (fun e => by cases e) (fun w116 (hs117 : HS w0 F0 w116 F0 [e112, (some b88, .cells ([(vi x1.A.Log), (vi x1.A.Line), (vi x1.B.Log), (vi x1.B.Line)] : List Value).toArray 46 (0, 0)), (sb b10 #[(.slice a0_0 x0.Tracks.length n0_0), (.slice a110 r107.length n111), (vi x0.Window)] 25), (sb b7 #[(.slice none ([] : List Track).length 0), (.slice none ([] : List Tie).length 0), (vi 0)] 25), (sb b4 (kTie x1) 46), (sb b1 (kSystem x0 a0_0 n0_0 a0_1 n0_1) 25)]) => ?_)
   obtain rfl := some_inj h109
   have hs118 : HS w0 F0 w116 F0 [e112, (sb b10 #[(.slice a0_0 x0.Tracks.length n0_0), (.slice a110 r107.length n111), (vi x0.Window)] 25), (sb b7 #[(.slice none ([] : List Track).length 0), (.slice none ([] : List Tie).length 0), (vi 0)] 25), (sb b4 (kTie x1) 46), (sb b1 (kSystem x0 a0_0 n0_0 a0_1 n0_1) 25)] := hs117.drop 1
   have hs119 : HS w0 F0 w116 F0 [e112, (sb b10 #[(.slice a0_0 x0.Tracks.length n0_0), (.slice a110 r107.length n111), (vi x0.Window)] 25), (sb b7 #[(.slice none ([] : List Track).length 0), (.slice none ([] : List Tie).length 0), (vi 0)] 25), (sb b1 (kSystem x0 a0_0 n0_0 a0_1 n0_1) 25)] := hs118.drop 3
   have hs120 : HS w0 F0 w116 F0 [e112, (sb b10 #[(.slice a0_0 x0.Tracks.length n0_0), (.slice a110 r107.length n111), (vi x0.Window)] 25), (sb b7 #[(.slice none ([] : List Track).length 0), (.slice none ([] : List Tie).length 0), (vi 0)] 25)] := hs119.drop 3
   exact DWP.done (by kernel_rfl) ⟨F0, a110, n111, e112, hs120, (Mem.le.refl _), rfl, rfl, rfl, hr115⟩
 ·rintro f w17 ⟨F1, aj21_0, nj21_0, ej21_0, hs18, le19, e22, e23, e24, hrj21_0⟩
  refine thenQ_nrm ?_
  refine Sq (Rg [0, 1] ?_)
  refine V 15 25 (ld 25 5 b10 0 true 3 (.agg #[(.slice a0_0 x0.Tracks.length n0_0), (.slice aj21_0 j21.length nj21_0), (vi x0.Window)]) (hs18.ownAt (k := 1) rfl) e24) ?_
  refine RWP.store (ty := 0) (g := none) (by kernel_rfl) rfl (x := (.tmp 4)) (y := (.tmp 15)) (t := 25) (gg := true) (s := 3) (v := (.agg #[(.slice a0_0 x0.Tracks.length n0_0), (.slice aj21_0 j21.length nj21_0), (vi x0.Window)])) (b := b7) (o := 0) (C := #[(.slice none ([] : List Track).length 0), (.slice none ([] : List Tie).length 0), (vi 0)]) e23 rfl (by kernel_rfl) hs18 (k := 2) rfl rfl rfl rfl (C' := #[(.slice a0_0 x0.Tracks.length n0_0), (.slice aj21_0 j21.length nj21_0), (vi x0.Window)]) rfl (fun w121 (hs122 : HS w0 F0 w121 F1 [ej21_0, (sb b10 #[(.slice a0_0 x0.Tracks.length n0_0), (.slice aj21_0 j21.length nj21_0), (vi x0.Window)] 25), (sb b7 #[(.slice a0_0 x0.Tracks.length n0_0), (.slice aj21_0 j21.length nj21_0), (vi x0.Window)] 25)]) => ?_)
  refine Nt ?_
  refine CWP.ret (by kernel_rfl) ?_
  have hb126 := RowR.bound hrj21_0
  obtain ⟨F2, hs123, le124, hs125⟩ : ∃ Fq, HS w0 F0 w121 Fq [(sb b10 #[(.slice a0_0 x0.Tracks.length n0_0), (.slice aj21_0 j21.length nj21_0), (vi x0.Window)] 25), (sb b7 #[(.slice a0_0 x0.Tracks.length n0_0), (.slice aj21_0 j21.length nj21_0), (vi x0.Window)] 25)] ∧ Mem.le F1 Fq ∧ SlA tTie Fq aj21_0 j21 := HS.freezeRow hs122 (k := 0) rfl hrj21_0
  have hfin := some_inj h26
  subst hfin
  exact ⟨e22, (.agg #[(.slice a0_0 x0.Tracks.length n0_0), (.slice aj21_0 j21.length nj21_0), (vi x0.Window)]), res_of (l := [.cell 4 25]) (by kernel_rfl) (vs := [(.agg #[(.slice a0_0 x0.Tracks.length n0_0), (.slice aj21_0 j21.length nj21_0), (vi x0.Window)])]) ⟨b7, 0, e23, run_loadVar' (t := 25) (g := true) (s := 3) (by kernel_rfl) (hs123.ownAt (k := 1) rfl) rfl (by decide), trivial⟩, (.agg #[(.slice a0_0 x0.Tracks.length n0_0), (.slice aj21_0 j21.length nj21_0), (vi x0.Window)]), F2, rfl, hs123.clear, ⟨a0_0, n0_0, aj21_0, nj21_0, rfl, hb0_0, (SlA.mono hs0_0 (le19.trans le124)), hb126, hs125⟩⟩
end Go.Proofs.Ythbcnabeabcmlaa
namespace Go.Proofs.Ythbcnabeabcmlaa
open Go.Proofs
def ref03_Accept_L0 (N : Nat) (x0 : System) (x1 : (List Tie)) (r4 : Int) : (List Bool × Int × List Track × List Tie × Int) → Option (Flow ((List Bool) × Int) (List Bool × Int × List Track × List Tie × Int)) := fun s20 =>
 (bif (decide (s20.2.1 < (x1.length : Int))) then (((idx x1 s20.2.1).bind fun x58 => ((ref03_with N ({ Tracks := s20.2.2.1, Ties := s20.2.2.2.1, Window := s20.2.2.2.2 } : System) x58).bind fun r72 => some (r72.Tracks, r72.Ties, r72.Window))).bind fun j49 => ((ref03_Closes N ({ Tracks := j49.1, Ties := j49.2.1, Window := j49.2.2 } : System)).bind fun r98 => ((bif r98 then some (j49.1, j49.2.1, j49.2.2) else some (s20.2.2.1, s20.2.2.2.1, s20.2.2.2.2)).bind fun j109 => ((apnd s20.1 [r98]).bind fun r130 => some (.next (r130, (W64 (s20.2.1 + 1)), j109.1, j109.2.1, j109.2.2)))))) else some (.done (s20.1, s20.2.1, s20.2.2.1, s20.2.2.2.1, s20.2.2.2.2)))
def ref03_Accept (N : Nat) (x0 : System) (x1 : (List Tie)) : Option ((List Bool) × Int) :=
 ((ref03_offered N x0 x1).bind fun r4 => (bif (r4 != 0) then some (([] : List Bool), r4) else ((iter (ref03_Accept_L0 N x0 x1 r4) N (([] : List Bool), 0, x0.Tracks, x0.Ties, x0.Window)).bind fun o => o.k (fun r => some r) (fun s29 => some (s29.1, 0)))))
theorem co_ref03_Accept : CallOk Try.prog 43 := fun _ _ => by kernel_rfl
set_option maxHeartbeats 4000000 in
set_option maxRecDepth 100000 in
theorem c_ref03_Accept (N : Nat) (w0 : World) (F0 : Mem) (hF : ∀ b o, F0 b = some o → w0.heap[b]? = some o) (x0 : System) (a0_0 : Option Addr) (n0_0 : Nat) (hb0_0 : LC x0.Tracks.length n0_0) (hs0_0 : SlA tTrack F0 a0_0 x0.Tracks) (a0_1 : Option Addr) (n0_1 : Nat) (hb0_1 : LC x0.Ties.length n0_1) (hs0_1 : SlA tTie F0 a0_1 x0.Ties) (x1 : (List Tie)) (a1_0 : Option Addr) (n1_0 : Nat) (hb1_0 : LC x1.length n1_0) (hs1_0 : SlA tTie F0 a1_0 x1) (r : ((List Bool) × Int)) (h : ref03_Accept N x0 x1 = some r) :
  Calls Try.prog 43 ([(.agg (kSystem x0 a0_0 n0_0 a0_1 n0_1)), (.slice a1_0 x1.length n1_0)] : List Value).toArray w0 (FRet w0 F0 fun F' v => ∃ (aq0_0 : Option Addr) (nq0_0 : Nat), v = (.tuple #[(.slice aq0_0 r.1.length nq0_0), (vi r.2)]) ∧ LC r.1.length nq0_0 ∧ SlA tBool F' aq0_0 r.1) := by
 have hs0 := HS.start hF
 refine calls_of (n := 38) (c := bodyOf Try.f43) Try.func43 (by kernel_rfl) (by kernel_rfl) (by kernel_rfl) ?_
 refine Sq (Rg [0, 1, 2] ?_)
 refine Bx 2 0 0 25 (kSystem x0 a0_0 n0_0 a0_1 n0_1) hs0 (fun b1 w2 (hs3 : HS w0 F0 w2 F0 [(sb b1 (kSystem x0 a0_0 n0_0 a0_1 n0_1) 25)]) => ?_)
 refine V 4 64 (mc (.slice none 0 0) (.slice none ([] : List Bool).length 0)) ?_
 refine V 5 30 (mc (vi 0) (vi 0)) ?_
 refine Nss (Rg [0, 1, 2, 3] ?_)
 refine V 11 25 (ld 25 2 b1 0 true 3 (.agg (kSystem x0 a0_0 n0_0 a0_1 n0_1)) (hs3.ownAt (k := 0) rfl)) ?_
 refine V 12 23 (mv 1 (.slice a1_0 x1.length n1_0)) ?_
 obtain ⟨r4, hr5, h6⟩ := bind_some h
 refine Cl 13 30 88 #[(.tmp 11), (.tmp 12)] #[25, 23] co_ref03_offered hs3 (c_ref03_offered N w2 F0 hs3.pers (x0) a0_0 n0_0 hb0_0 hs0_0 a0_1 n0_1 hb0_1 hs0_1 (x1) a1_0 n1_0 hb1_0 hs1_0 _ hr5) ?_
 intro v7 F1 w8 hs9 le10 hp11
 obtain rfl := hp11
 refine V 6 30 (ma 13 (vi r4)) ?_
 refine Nss ?_
 refine Sq (Rg [0, 1] ?_)
 refine V 14 30 (mv 6 (vi r4)) ?_
 refine V 15 4 (run_neq (t := 30) (t' := 30) (x := (.tmp 14)) (y := (.const (vi 0))) (k := .i64) (a := r4) (b := 0) rfl rfl) ?_
 refine Nt ?_
 refine CWP.cond (t := (r4 != 0)) (by kernel_rfl) rfl (fun hb12 => ?_) (fun hb12 => ?_)
 ·have h13 := cond_t h6 hb12
  refine Sq (Rg [0, 1, 2] ?_)
  refine V 16 30 (mv 6 (vi r4)) ?_
  refine V 4 64 (mc (.slice none 0 0) (.slice none ([] : List Bool).length 0)) ?_
  refine V 5 30 (ma 16 (vi r4)) ?_
  refine Nt ?_
  refine CWP.ret (by kernel_rfl) ?_
  refine thenQ_ret ?_
  have hfin := some_inj h13
  subst hfin
  exact ⟨rfl, (.tuple #[(.slice none ([] : List Bool).length 0), (vi r4)]), res_of (l := [.tmp 4, .tmp 5]) (by kernel_rfl) (vs := [(.slice none ([] : List Bool).length 0), (vi r4)]) ⟨rfl, ⟨rfl, trivial⟩⟩, (.tuple #[(.slice none ([] : List Bool).length 0), (vi r4)]), F1, rfl, hs9.clear, ⟨none, 0, rfl, LC.nil, (.inl rfl)⟩⟩
 ·have h14 := cond_f h6 hb12
  refine Sc ?_
  refine thenQ_nrm ?_
  refine Sq (Rg [0] ?_)
  refine V 7 64 (mc (.slice none 0 0) (.slice none ([] : List Bool).length 0)) ?_
  refine Nss ?_
  refine Sq (Rg [0] ?_)
  refine V 8 3 (mc (vi 0) (vi 0)) ?_
  refine Nt ?_
  have hs15 : HS w0 F0 w8 F1 [(none, .cells #[] 0 (0, 0)), (sb b1 (kSystem x0 a0_0 n0_0 a0_1 n0_1) 25)] := hs9.dummy _
  obtain ⟨o17, ho18, h19⟩ := bind_some h14
  refine CWP.cut (fun f w => ∃ (s29 : (List Bool × Int × List Track × List Tie × Int)) (F3 : Mem) (as29_0 : Option Addr) (ns29_0 : Nat) (es29_0 : Option Nat × Obj), o17 = .done s29 ∧ HS w0 F0 w F3 [es29_0] ∧ Mem.le F1 F3 ∧ f.d = [] ∧ f 7 = (.slice as29_0 s29.1.length ns29_0) ∧ RowR tBool 4 F3 as29_0 ns29_0 s29.1 es29_0) ?_ ?_
  ·refine Bk ?_
   refine CWP.loop (by kernel_rfl) (fun m f w => ∃ (s20 : (List Bool × Int × List Track × List Tie × Int)) (F2 : Mem) (as20_2 : Option Addr) (ns20_2 : Nat) (as20_3 : Option Addr) (ns20_3 : Nat) (as20_0 : Option Addr) (ns20_0 : Nat) (es20_0 : Option Nat × Obj), iter (ref03_Accept_L0 N x0 x1 r4) m s20 = some o17 ∧ HS w0 F0 w F2 [es20_0, (sb b1 #[(.slice as20_2 s20.2.2.1.length ns20_2), (.slice as20_3 s20.2.2.2.1.length ns20_3), (vi s20.2.2.2.2)] 25)] ∧ Mem.le F1 F2 ∧ f.d = [] ∧ f 1 = (.slice a1_0 x1.length n1_0) ∧ f 2 = (.pointer (some ⟨b1, 0, none⟩)) ∧ f 7 = (.slice as20_0 s20.1.length ns20_0) ∧ f 8 = (vi s20.2.1) ∧ LC s20.2.2.1.length ns20_2 ∧ SlA tTrack F2 as20_2 s20.2.2.1 ∧ LC s20.2.2.2.1.length ns20_3 ∧ SlA tTie F2 as20_3 s20.2.2.2.1 ∧ RowR tBool 4 F2 as20_0 ns20_0 s20.1 es20_0) N ⟨(([] : List Bool), 0, x0.Tracks, x0.Ties, x0.Window), F1, a0_0, n0_0, a0_1, n0_1, none, 0, (none, .cells #[] 0 (0, 0)), ho18, hs15, (Mem.le.refl _), rfl, rfl, rfl, rfl, rfl, hb0_0, (SlA.mono hs0_0 le10), hb0_1, (SlA.mono hs0_1 le10), (RowR.nil tBool 4 F1 _)⟩ ?_
   rintro m35 f w21 ⟨s20, F2, as20_2, ns20_2, as20_3, ns20_3, as20_0, ns20_0, es20_0, hit36, hs22, le23, e24, e25, e26, e27, e28, hbs20_2, hss20_2, hbs20_3, hss20_3, hrs20_0⟩
   obtain ⟨m37, fl38, rfl, hb39, hnx40⟩ := iter_step hit36
   refine Sq ?_
   refine Sq (Rg [0, 1, 2, 3] ?_)
   refine V 17 3 (mv 8 (vi s20.2.1) e28) ?_
   refine V 18 23 (mv 1 (.slice a1_0 x1.length n1_0) e25) ?_
   refine V 19 3 (ln 18 23 a1_0 x1.length n1_0 46 4 32) ?_
   refine V 20 4 (run_lss (t := 3) (t' := 3) (x := (.tmp 17)) (y := (.tmp 19)) (k := .i64) (a := s20.2.1) (b := (x1.length : Int)) rfl rfl) ?_
   refine Nt ?_
   refine CWP.cond (t := (decide (s20.2.1 < (x1.length : Int)))) (by kernel_rfl) rfl (fun hb41 => ?_) (fun hb41 => ?_)
   ·have h42 := cond_t hb39 hb41
    refine Sc ?_
    refine thenQ_nrm ?_
    refine Sq ?_
    refine Bk ?_
    refine Sq ?_
    obtain ⟨j49, hj56, h57⟩ := bind_some h42
    refine CWP.regionD (by kernel_rfl) (by kernel_rfl) (by kernel_rfl) (by kernel_rfl) (z := 7) (F := F2) (Lc := [es20_0, (sb b1 #[(.slice as20_2 s20.2.2.1.length ns20_2), (.slice as20_3 s20.2.2.2.1.length ns20_3), (vi s20.2.2.2.2)] 25)]) (Lz := []) (l := [false, false, false, false, false, false, false, false]) (fuel := 8) (by kernel_rfl) (by kernel_rfl) hs22 (by simp) (by simp) (fun f w => ∃ (F4 : Mem) (b48 : Nat) (aj49_0 : Option Addr) (nj49_0 : Nat) (aj49_1 : Option Addr) (nj49_1 : Nat), HS w0 F0 w F4 [(sb b48 #[(.slice aj49_0 j49.1.length nj49_0), (.slice aj49_1 j49.2.1.length nj49_1), (vi j49.2.2)] 25), es20_0, (sb b1 #[(.slice as20_2 s20.2.2.1.length ns20_2), (.slice as20_3 s20.2.2.2.1.length ns20_3), (vi s20.2.2.2.2)] 25)] ∧ Mem.le F2 F4 ∧ f.d = [] ∧ f 1 = (.slice a1_0 x1.length n1_0) ∧ f 2 = (.pointer (some ⟨b1, 0, none⟩)) ∧ f 7 = (.slice as20_0 s20.1.length ns20_0) ∧ f 8 = (vi s20.2.1) ∧ f 9 = (.pointer (some ⟨b48, 0, none⟩)) ∧ LC j49.1.length nj49_0 ∧ SlA tTrack F4 aj49_0 j49.1 ∧ LC j49.2.1.length nj49_1 ∧ SlA tTie F4 aj49_1 j49.2.1) (fun wd43 hw44 => ?_) ?_
    ·refine Df 0 23 25 _ (fun _ hq => ld 25 2 b1 0 true 3 (.agg #[(.slice as20_2 s20.2.2.1.length ns20_2), (.slice as20_3 s20.2.2.2.1.length ns20_3), (vi s20.2.2.2.2)]) (hq.1.2 1 _ _ rfl) e26) ?_
     refine Df 1 24 23 _ (fun _ hq => mv 1 (.slice a1_0 x1.length n1_0) e25) ?_
     refine Df 2 25 3 _ (fun _ hq => mv 8 (vi s20.2.1) e28) ?_
     obtain ⟨x58, hx59, h61⟩ := bind_some hj56
     obtain ⟨hi60, hx59'⟩ := idx_spec hx59
     obtain ⟨b62, o63, C64, E65, fz66, rfl, hF68, hE69⟩ := SlA.open (SlA.mono hs1_0 (le10.trans le23)) hx59'
     have hc71 := hE69 _ _ hx59'
     refine Df 3 26 0 (.pointer (some ⟨b62, (o63 + (s20.2.1 : Int).toNat * 4), none⟩)) (fun _ hq => ix 23 24 25 b62 o63 46 4 32 hi60) ?_
     refine Df 4 27 46 _ (fun _ hq => lx 46 26 0 4 true 4 (.agg (kTie x58)) (hq.1.1 _ _ hF68) hc71) ?_
     refine DWP.two (i := 5) (j := 6) (by kernel_rfl) ?_ ?_
     ·obtain ⟨r72, hr73, h74⟩ := bind_some h61
      refine DStep.call (l' := [true, true, true, true, true, true, false, false]) (zd := false) (by kernel_rfl) (by kernel_rfl) (by kernel_rfl) (dst := (some 28)) (ty := 25) (g := none) (by kernel_rfl) rfl (f0 := (.func 89)) (aos := #[(.tmp 23), (.tmp 27)]) (ats := #[25, 46]) (fid := 89) (first := #[]) (cap := #[]) (args := [(.agg #[(.slice as20_2 s20.2.2.1.length ns20_2), (.slice as20_3 s20.2.2.2.1.length ns20_3), (vi s20.2.2.2.2)]), (.agg (kTie x58))]) rfl co_ref03_with (rfl) hw44 (c_ref03_with N wd43 F2 hw44.pers (({ Tracks := s20.2.2.1, Ties := s20.2.2.2.1, Window := s20.2.2.2.2 } : System)) as20_2 ns20_2 hbs20_2 hss20_2 as20_3 ns20_3 hbs20_3 hss20_3 (x58) _ hr73) ?_
      intro v75 F5 w76 hs77 le78 hp79
      obtain ⟨ar72_0_0, nr72_0_0, ar72_0_1, nr72_0_1, rfl, hbr72_0_0, hsr72_0_0, hbr72_0_1, hsr72_0_1⟩ := hp79
      refine DWP.one (i := 6) (by kernel_rfl) ?_
      refine DStep.alloc (l' := [true, true, true, true, true, true, true, false]) (zd := false) (by kernel_rfl) (by kernel_rfl) (dst := (some 9)) (ty := 0) (g := none) (by kernel_rfl) rfl (t := 25) (z := (.agg #[(.slice none ([] : List Track).length 0), (.slice none ([] : List Tie).length 0), (vi 0)])) (by kernel_rfl) (C := #[(.slice none ([] : List Track).length 0), (.slice none ([] : List Tie).length 0), (vi 0)]) rfl hs77 le78 (by simp) (fun _ => by simp) (fun b80 w81 (hs82 : HS w0 F0 w81 F5 [(sb b80 #[(.slice none ([] : List Track).length 0), (.slice none ([] : List Tie).length 0), (vi 0)] 25), es20_0, (sb b1 #[(.slice as20_2 s20.2.2.1.length ns20_2), (.slice as20_3 s20.2.2.2.1.length ns20_3), (vi s20.2.2.2.2)] 25)]) => ?_)
      refine DWP.one (i := 7) (by kernel_rfl) ?_
      refine DStep.store (l' := [true, true, true, true, true, true, true, true]) (zd := true) (by kernel_rfl) (by kernel_rfl) (ty := 0) (g := none) (by kernel_rfl) rfl (x := (.tmp 9)) (y := (.tmp 28)) (t := 25) (gg := true) (s := 3) (v := (.agg (kSystem r72 ar72_0_0 nr72_0_0 ar72_0_1 nr72_0_1))) (b := b80) (o := 0) (C := #[(.slice none ([] : List Track).length 0), (.slice none ([] : List Tie).length 0), (vi 0)]) rfl rfl (by kernel_rfl) hs82 (k := 0) rfl rfl rfl rfl (C' := (kSystem r72 ar72_0_0 nr72_0_0 ar72_0_1 nr72_0_1)) rfl le78 (by simp) (fun e => by cases e) (fun w83 (hs84 : HS w0 F0 w83 F5 [(sb b80 (kSystem r72 ar72_0_0 nr72_0_0 ar72_0_1 nr72_0_1) 25), es20_0, (sb b1 #[(.slice as20_2 s20.2.2.1.length ns20_2), (.slice as20_3 s20.2.2.2.1.length ns20_3), (vi s20.2.2.2.2)] 25)]) => ?_)
      obtain rfl := some_inj h74
      exact DWP.done (by kernel_rfl) ⟨F5, b80, ar72_0_0, nr72_0_0, ar72_0_1, nr72_0_1, hs84, le78, e24, e25, e26, e27, e28, rfl, hbr72_0_0, hsr72_0_0, hbr72_0_1, hsr72_0_1⟩
     ·refine DStep.alloc (l' := [true, true, true, true, true, false, true, false]) (zd := false) (by kernel_rfl) (by kernel_rfl) (dst := (some 9)) (ty := 0) (g := none) (by kernel_rfl) rfl (t := 25) (z := (.agg #[(.slice none ([] : List Track).length 0), (.slice none ([] : List Tie).length 0), (vi 0)])) (by kernel_rfl) (C := #[(.slice none ([] : List Track).length 0), (.slice none ([] : List Tie).length 0), (vi 0)]) rfl hw44 (Mem.le.refl _) (by simp) (fun _ => by simp) (fun b85 w86 (hs87 : HS w0 F0 w86 F2 [(sb b85 #[(.slice none ([] : List Track).length 0), (.slice none ([] : List Tie).length 0), (vi 0)] 25), es20_0, (sb b1 #[(.slice as20_2 s20.2.2.1.length ns20_2), (.slice as20_3 s20.2.2.2.1.length ns20_3), (vi s20.2.2.2.2)] 25)]) => ?_)
      refine DWP.one (i := 5) (by kernel_rfl) ?_
      obtain ⟨r88, hr89, h90⟩ := bind_some h61
      refine DStep.call (l' := [true, true, true, true, true, true, true, false]) (zd := false) (by kernel_rfl) (by kernel_rfl) (by kernel_rfl) (dst := (some 28)) (ty := 25) (g := none) (by kernel_rfl) rfl (f0 := (.func 89)) (aos := #[(.tmp 23), (.tmp 27)]) (ats := #[25, 46]) (fid := 89) (first := #[]) (cap := #[]) (args := [(.agg #[(.slice as20_2 s20.2.2.1.length ns20_2), (.slice as20_3 s20.2.2.2.1.length ns20_3), (vi s20.2.2.2.2)]), (.agg (kTie x58))]) rfl co_ref03_with (rfl) hs87 (c_ref03_with N w86 F2 hs87.pers (({ Tracks := s20.2.2.1, Ties := s20.2.2.2.1, Window := s20.2.2.2.2 } : System)) as20_2 ns20_2 hbs20_2 hss20_2 as20_3 ns20_3 hbs20_3 hss20_3 (x58) _ hr89) ?_
      intro v91 F6 w92 hs93 le94 hp95
      obtain ⟨ar88_0_0, nr88_0_0, ar88_0_1, nr88_0_1, rfl, hbr88_0_0, hsr88_0_0, hbr88_0_1, hsr88_0_1⟩ := hp95
      refine DWP.one (i := 7) (by kernel_rfl) ?_
      refine DStep.store (l' := [true, true, true, true, true, true, true, true]) (zd := true) (by kernel_rfl) (by kernel_rfl) (ty := 0) (g := none) (by kernel_rfl) rfl (x := (.tmp 9)) (y := (.tmp 28)) (t := 25) (gg := true) (s := 3) (v := (.agg (kSystem r88 ar88_0_0 nr88_0_0 ar88_0_1 nr88_0_1))) (b := b85) (o := 0) (C := #[(.slice none ([] : List Track).length 0), (.slice none ([] : List Tie).length 0), (vi 0)]) rfl rfl (by kernel_rfl) hs93 (k := 0) rfl rfl rfl rfl (C' := (kSystem r88 ar88_0_0 nr88_0_0 ar88_0_1 nr88_0_1)) rfl le94 (by simp) (fun e => by cases e) (fun w96 (hs97 : HS w0 F0 w96 F6 [(sb b85 (kSystem r88 ar88_0_0 nr88_0_0 ar88_0_1 nr88_0_1) 25), es20_0, (sb b1 #[(.slice as20_2 s20.2.2.1.length ns20_2), (.slice as20_3 s20.2.2.2.1.length ns20_3), (vi s20.2.2.2.2)] 25)]) => ?_)
      obtain rfl := some_inj h90
      exact DWP.done (by kernel_rfl) ⟨F6, b85, ar88_0_0, nr88_0_0, ar88_0_1, nr88_0_1, hs97, le94, e24, e25, e26, e27, e28, rfl, hbr88_0_0, hsr88_0_0, hbr88_0_1, hsr88_0_1⟩
    ·rintro f w45 ⟨F4, b48, aj49_0, nj49_0, aj49_1, nj49_1, hs46, le47, e50, e51, e52, e53, e54, e55, hbj49_0, hsj49_0, hbj49_1, hsj49_1⟩
     refine thenQ_nrm ?_
     refine Sq (Rg [0, 1, 2] ?_)
     refine V 29 25 (ld 25 9 b48 0 true 3 (.agg #[(.slice aj49_0 j49.1.length nj49_0), (.slice aj49_1 j49.2.1.length nj49_1), (vi j49.2.2)]) (hs46.ownAt (k := 0) rfl) e55) ?_
     obtain ⟨r98, hr99, h100⟩ := bind_some h57
     refine Cl 30 4 90 #[(.tmp 29)] #[25] co_ref03_Closes hs46 (c_ref03_Closes N w45 F4 hs46.pers (({ Tracks := j49.1, Ties := j49.2.1, Window := j49.2.2 } : System)) aj49_0 nj49_0 hbj49_0 hsj49_0 aj49_1 nj49_1 hbj49_1 hsj49_1 _ hr99) ?_
     intro v101 F7 w102 hs103 le104 hp105
     obtain rfl := hp105
     refine V 10 4 (ma 30 (.bool r98)) ?_
     refine Nss ?_
     refine Sq (Rg [0] ?_)
     refine V 31 4 (mv 10 (.bool r98)) ?_
     refine Nt ?_
     obtain ⟨j109, hj116, h117⟩ := bind_some h100
     refine CWP.cut (fun f w => ∃ (F8 : Mem) (aj109_0 : Option Addr) (nj109_0 : Nat) (aj109_1 : Option Addr) (nj109_1 : Nat), HS w0 F0 w F8 [es20_0, (sb b1 #[(.slice aj109_0 j109.1.length nj109_0), (.slice aj109_1 j109.2.1.length nj109_1), (vi j109.2.2)] 25)] ∧ Mem.le F7 F8 ∧ f.d = [] ∧ f 1 = (.slice a1_0 x1.length n1_0) ∧ f 2 = (.pointer (some ⟨b1, 0, none⟩)) ∧ f 7 = (.slice as20_0 s20.1.length ns20_0) ∧ f 8 = (vi s20.2.1) ∧ f 10 = (.bool r98) ∧ LC j109.1.length nj109_0 ∧ SlA tTrack F8 aj109_0 j109.1 ∧ LC j109.2.1.length nj109_1 ∧ SlA tTie F8 aj109_1 j109.2.1) ?_ ?_
     ·refine CWP.cond (t := r98) (by kernel_rfl) rfl (fun hb118 => ?_) (fun hb118 => ?_)
      ·have h119 := cond_t hj116 hb118
       refine Rg [0, 1] ?_
       refine V 32 25 (ld 25 9 b48 0 true 3 (.agg #[(.slice aj49_0 j49.1.length nj49_0), (.slice aj49_1 j49.2.1.length nj49_1), (vi j49.2.2)]) (hs103.ownAt (k := 0) rfl) e55) ?_
       refine RWP.store (ty := 0) (g := none) (by kernel_rfl) rfl (x := (.tmp 2)) (y := (.tmp 32)) (t := 25) (gg := true) (s := 3) (v := (.agg #[(.slice aj49_0 j49.1.length nj49_0), (.slice aj49_1 j49.2.1.length nj49_1), (vi j49.2.2)])) (b := b1) (o := 0) (C := #[(.slice as20_2 s20.2.2.1.length ns20_2), (.slice as20_3 s20.2.2.2.1.length ns20_3), (vi s20.2.2.2.2)]) e52 rfl (by kernel_rfl) hs103 (k := 2) rfl rfl rfl rfl (C' := #[(.slice aj49_0 j49.1.length nj49_0), (.slice aj49_1 j49.2.1.length nj49_1), (vi j49.2.2)]) rfl (fun w120 (hs121 : HS w0 F0 w120 F7 [(sb b48 #[(.slice aj49_0 j49.1.length nj49_0), (.slice aj49_1 j49.2.1.length nj49_1), (vi j49.2.2)] 25), es20_0, (sb b1 #[(.slice aj49_0 j49.1.length nj49_0), (.slice aj49_1 j49.2.1.length nj49_1), (vi j49.2.2)] 25)]) => ?_)
       refine RWP.nil ?_
       obtain rfl := some_inj h119
       have hs122 : HS w0 F0 w120 F7 [es20_0, (sb b1 #[(.slice aj49_0 j49.1.length nj49_0), (.slice aj49_1 j49.2.1.length nj49_1), (vi j49.2.2)] 25)] := hs121.drop 0
       exact .inl ⟨rfl, F7, aj49_0, nj49_0, aj49_1, nj49_1, hs122, (Mem.le.refl _), e50, e51, e52, e53, e54, rfl, hbj49_0, (SlA.mono hsj49_0 le104), hbj49_1, (SlA.mono hsj49_1 le104)⟩
      ·have h123 := cond_f hj116 hb118
       refine Sc ?_
       obtain rfl := some_inj h123
       have hs124 : HS w0 F0 w102 F7 [es20_0, (sb b1 #[(.slice as20_2 s20.2.2.1.length ns20_2), (.slice as20_3 s20.2.2.2.1.length ns20_3), (vi s20.2.2.2.2)] 25)] := hs103.drop 0
       exact .inl ⟨rfl, F7, as20_2, ns20_2, as20_3, ns20_3, hs124, (Mem.le.refl _), e50, e51, e52, e53, e54, rfl, hbs20_2, (SlA.mono hss20_2 (le47.trans le104)), hbs20_3, (SlA.mono hss20_3 (le47.trans le104))⟩
     ·rintro f w106 ⟨F8, aj109_0, nj109_0, aj109_1, nj109_1, hs107, le108, e110, e111, e112, e113, e114, e115, hbj109_0, hsj109_0, hbj109_1, hsj109_1⟩
      refine thenQ_nrm ?_
      refine Rg [0, 1, 2, 3, 4] ?_
      refine V 33 64 (mv 7 (.slice as20_0 s20.1.length ns20_0) e113) ?_
      refine V 34 4 (mv 10 (.bool r98) e115) ?_
      refine RWP.buildSlice (dst := (some 35)) (ty := 64) (g := none) (by kernel_rfl) rfl (t := 64) (len := 1) (parts := #[(0, (.tmp 34))]) (vs := [(0, (.bool r98))]) (rfl) (E := 4) (cs := [(.bool r98)]) (by kernel_rfl) hs107 (fun b125 w126 (hs127 : HS w0 F0 w126 F8 [(some b125, .cells ([(.bool r98)] : List Value).toArray 4 (0, 0)), es20_0, (sb b1 #[(.slice aj109_0 j109.1.length nj109_0), (.slice aj109_1 j109.2.1.length nj109_1), (vi j109.2.2)] 25)]) => ?_)
      have hr129 : RowR tBool 4 F8 (some ⟨b125, 0, none⟩) 1 [r98] (some b125, .cells ([(.bool r98)] : List Value).toArray 4 (0, 0)) := RowR.lit ⟨rfl, rfl⟩ (by simp)
      obtain ⟨r130, hap131, h132⟩ := bind_some h117
      refine RWP.append (dst := (some 36)) (ty := 64) (g := none) (by kernel_rfl) rfl (x := (.tmp 33)) (y := (.tmp 35)) (t := 64) (t2 := 64) (by_ := 1) (z := (.bool false)) (a2 := (some ⟨b125, 0, none⟩)) (c2 := 1) (m := [r98]) (T := tBool) (E := 4) (a := as20_0) (cap := ns20_0) (l := s20.1) rfl rfl (by kernel_rfl) (by decide) (by kernel_rfl) (by kernel_rfl) rfl oBool hs127 (k := 1) rfl (hrs20_0.mono ((le47.trans le104).trans le108)) (RowR.rd hs127 (k := 0) rfl hr129) (r := r130) hap131 (fun a133 n134 e135 w136 (hs137 : HS w0 F0 w136 F8 [(some b125, .cells ([(.bool r98)] : List Value).toArray 4 (0, 0)), e135, (sb b1 #[(.slice aj109_0 j109.1.length nj109_0), (.slice aj109_1 j109.2.1.length nj109_1), (vi j109.2.2)] 25)]) hr138 => ?_)
      refine V 7 64 (ma 36 (.slice a133 r130.length n134)) ?_
      refine RWP.nil ?_
      refine blockQ_nrm ?_
      refine thenQ_nrm ?_
      refine Rg [0, 1, 2] ?_
      refine V 21 3 (mv 8 (vi s20.2.1) e114) ?_
      refine V 22 3 (run_add (t := 3) (t' := 3) (x := (.tmp 21)) (y := (.const (vi 1))) (k := .i64) (a := s20.2.1) (b := 1) rfl rfl) ?_
      refine V 8 3 (ma 22 (vi (W64 (s20.2.1 + 1)))) ?_
      refine RWP.nil ?_
      have hs139 : HS w0 F0 w136 F8 [e135, (sb b1 #[(.slice aj109_0 j109.1.length nj109_0), (.slice aj109_1 j109.2.1.length nj109_1), (vi j109.2.2)] 25)] := hs137.drop 0
      have hn140 := iter_next h132 hnx40
      exact ⟨m37, Nat.lt_succ_self _, (r130, (W64 (s20.2.1 + 1)), j109.1, j109.2.1, j109.2.2), F8, aj109_0, nj109_0, aj109_1, nj109_1, a133, n134, e135, hn140, hs139, (((le23.trans le47).trans le104).trans le108), e110, e111, e112, rfl, rfl, hbj109_0, hsj109_0, hbj109_1, hsj109_1, hr138⟩
   ·have h141 := cond_f hb39 hb41
    refine CWP.exit (by kernel_rfl) ?_
    refine thenQ_ex ?_
    refine thenQ_ex ?_
    refine blockQ_hit rfl ?_
    have hs142 : HS w0 F0 w21 F2 [es20_0] := hs22.drop 1
    have ho143 := iter_done h141 hnx40
    exact .inl ⟨rfl, (s20.1, s20.2.1, s20.2.2.1, s20.2.2.2.1, s20.2.2.2.2), F2, as20_0, ns20_0, es20_0, ho143, hs142, le23, e24, e27, hrs20_0⟩
  ·rintro f w30 ⟨s29, F3, as29_0, ns29_0, es29_0, rfl, hs31, le32, e33, e34, hrs29_0⟩
   have h144 := k_done h19
   refine thenQ_nrm ?_
   refine Sq (Rg [0, 1, 2] ?_)
   refine V 37 64 (mv 7 (.slice as29_0 s29.1.length ns29_0) e34) ?_
   refine V 4 64 (ma 37 (.slice as29_0 s29.1.length ns29_0)) ?_
   refine V 5 30 (mc (vi 0) (vi 0)) ?_
   refine Nt ?_
   refine CWP.ret (by kernel_rfl) ?_
   have hb148 := RowR.bound hrs29_0
   obtain ⟨F9, hs145, le146, hs147⟩ : ∃ Fq, HS w0 F0 w30 Fq [] ∧ Mem.le F3 Fq ∧ SlA tBool Fq as29_0 s29.1 := HS.freezeRow hs31 (k := 0) rfl hrs29_0
   have hfin := some_inj h144
   subst hfin
   exact ⟨e33, (.tuple #[(.slice as29_0 s29.1.length ns29_0), (vi 0)]), res_of (l := [.tmp 4, .tmp 5]) (by kernel_rfl) (vs := [(.slice as29_0 s29.1.length ns29_0), (vi 0)]) ⟨rfl, ⟨rfl, trivial⟩⟩, (.tuple #[(.slice as29_0 s29.1.length ns29_0), (vi 0)]), F9, rfl, hs145.clear, ⟨as29_0, ns29_0, rfl, hb148, hs147⟩⟩
end Go.Proofs.Ythbcnabeabcmlaa
namespace Go.Proofs.Ythbcnabeabcmlaa
open Go.Proofs
def ref03_SameBools_L0 (N : Nat) (x0 : (List Bool)) (x1 : (List Bool)) : Int → Option (Flow Bool Int) := fun s7 =>
 (bif (decide (s7 < (x0.length : Int))) then (((idx x0 s7).bind fun x41 => ((idx x1 s7).bind fun x55 => some (!(x41 == x55)))).bind fun j33 => (bif j33 then some (.ret false) else some (.next (W64 (s7 + 1))))) else some (.done s7))
def ref03_SameBools (N : Nat) (x0 : (List Bool)) (x1 : (List Bool)) : Option Bool :=
 (bif ((x0.length : Int) != (x1.length : Int)) then some false else ((iter (ref03_SameBools_L0 N x0 x1) N 0).bind fun o => o.k (fun r => some r) (fun s15 => some true)))
theorem co_ref03_SameBools : CallOk Try.prog 45 := fun _ _ => by kernel_rfl
set_option maxHeartbeats 4000000 in
set_option maxRecDepth 100000 in
theorem c_ref03_SameBools (N : Nat) (w0 : World) (F0 : Mem) (hF : ∀ b o, F0 b = some o → w0.heap[b]? = some o) (x0 : (List Bool)) (a0_0 : Option Addr) (n0_0 : Nat) (hb0_0 : LC x0.length n0_0) (hs0_0 : SlA tBool F0 a0_0 x0) (x1 : (List Bool)) (a1_0 : Option Addr) (n1_0 : Nat) (hb1_0 : LC x1.length n1_0) (hs1_0 : SlA tBool F0 a1_0 x1) (r : Bool) (h : ref03_SameBools N x0 x1 = some r) :
  Calls Try.prog 45 ([(.slice a0_0 x0.length n0_0), (.slice a1_0 x1.length n1_0)] : List Value).toArray w0 (FRet w0 F0 fun F' v => v = (.bool r)) := by
 have hs0 := HS.start hF
 refine calls_of (n := 26) (c := bodyOf Try.f45) Try.func45 (by kernel_rfl) (by kernel_rfl) (by kernel_rfl) ?_
 refine Sq (Rg [0] ?_)
 refine V 4 4 (mc (.bool false) (.bool false)) ?_
 refine Nss ?_
 refine Sq (Rg [0, 1, 2, 3, 4] ?_)
 refine V 6 64 (mv 0 (.slice a0_0 x0.length n0_0)) ?_
 refine V 7 3 (ln 6 64 a0_0 x0.length n0_0 4 1 1) ?_
 refine V 8 64 (mv 1 (.slice a1_0 x1.length n1_0)) ?_
 refine V 9 3 (ln 8 64 a1_0 x1.length n1_0 4 1 1) ?_
 refine V 10 4 (run_neq (t := 3) (t' := 3) (x := (.tmp 7)) (y := (.tmp 9)) (k := .i64) (a := (x0.length : Int)) (b := (x1.length : Int)) rfl rfl) ?_
 refine Nt ?_
 refine CWP.cond (t := ((x0.length : Int) != (x1.length : Int))) (by kernel_rfl) rfl (fun hb1 => ?_) (fun hb1 => ?_)
 ·have h2 := cond_t h hb1
  refine Sq (Rg [0] ?_)
  refine V 4 4 (mc (.bool false) (.bool false)) ?_
  refine Nt ?_
  refine CWP.ret (by kernel_rfl) ?_
  refine thenQ_ret ?_
  have hfin := some_inj h2
  subst hfin
  exact ⟨rfl, (.bool false), res_of (l := [.tmp 4]) (by kernel_rfl) (vs := [(.bool false)]) ⟨rfl, trivial⟩, (.bool false), F0, rfl, hs0.clear, rfl⟩
 ·have h3 := cond_f h hb1
  refine Sc ?_
  refine thenQ_nrm ?_
  refine Sq ?_
  refine Sq (Rg [0] ?_)
  refine V 5 3 (mc (vi 0) (vi 0)) ?_
  refine Nt ?_
  obtain ⟨o4, ho5, h6⟩ := bind_some h3
  refine CWP.cut (fun f w => ∃ (s15 : Int) (F2 : Mem), o4 = .done s15 ∧ HS w0 F0 w F2 [] ∧ Mem.le F0 F2 ∧ f.d = []) ?_ ?_
  ·refine Bk ?_
   refine CWP.loop (by kernel_rfl) (fun m f w => ∃ (s7 : Int) (F1 : Mem), iter (ref03_SameBools_L0 N x0 x1) m s7 = some o4 ∧ HS w0 F0 w F1 [] ∧ Mem.le F0 F1 ∧ f.d = [] ∧ f 0 = (.slice a0_0 x0.length n0_0) ∧ f 1 = (.slice a1_0 x1.length n1_0) ∧ f 5 = (vi s7)) N ⟨0, F0, ho5, hs0, (Mem.le.refl _), rfl, rfl, rfl, rfl⟩ ?_
   rintro m20 f w8 ⟨s7, F1, hit21, hs9, le10, e11, e12, e13, e14⟩
   obtain ⟨m22, fl23, rfl, hb24, hnx25⟩ := iter_step hit21
   refine Sq ?_
   refine Sq (Rg [0, 1, 2, 3] ?_)
   refine V 11 3 (mv 5 (vi s7) e14) ?_
   refine V 12 64 (mv 0 (.slice a0_0 x0.length n0_0) e12) ?_
   refine V 13 3 (ln 12 64 a0_0 x0.length n0_0 4 1 1) ?_
   refine V 14 4 (run_lss (t := 3) (t' := 3) (x := (.tmp 11)) (y := (.tmp 13)) (k := .i64) (a := s7) (b := (x0.length : Int)) rfl rfl) ?_
   refine Nt ?_
   refine CWP.cond (t := (decide (s7 < (x0.length : Int)))) (by kernel_rfl) rfl (fun hb26 => ?_) (fun hb26 => ?_)
   ·have h27 := cond_t hb24 hb26
    refine Sc ?_
    refine thenQ_nrm ?_
    refine Sq ?_
    refine Bk ?_
    refine Sq ?_
    obtain ⟨j33, hj39, h40⟩ := bind_some h27
    refine CWP.regionD (by kernel_rfl) (by kernel_rfl) (by kernel_rfl) (by kernel_rfl) (z := 9) (F := F1) (Lc := []) (Lz := []) (l := [false, false, false, false, false, false, false, false, false]) (fuel := 9) (by kernel_rfl) (by kernel_rfl) hs9 (by simp) (by simp) (fun f w => ∃ (F3 : Mem), HS w0 F0 w F3 [] ∧ Mem.le F1 F3 ∧ f.d = [] ∧ f 0 = (.slice a0_0 x0.length n0_0) ∧ f 1 = (.slice a1_0 x1.length n1_0) ∧ f 5 = (vi s7) ∧ f 25 = (.bool j33)) (fun wd28 hw29 => ?_) ?_
    ·refine Dt 0 17 64 _ (fun _ hq => mv 0 (.slice a0_0 x0.length n0_0) e12) ?_
     refine Dt 1 18 3 _ (fun _ hq => mv 5 (vi s7) e14) ?_
     obtain ⟨x41, hx42, h44⟩ := bind_some hj39
     obtain ⟨hi43, hx42'⟩ := idx_spec hx42
     obtain ⟨b45, o46, C47, E48, fz49, rfl, hF51, hE52⟩ := SlA.open (SlA.mono hs0_0 le10) hx42'
     have hc54 := hE52 _ _ hx42'
     refine Dt 2 19 0 (.pointer (some ⟨b45, (o46 + (s7 : Int).toNat * 1), none⟩)) (fun _ hq => ix 64 17 18 b45 o46 4 1 1 hi43) ?_
     refine Dt 3 20 4 _ (fun _ hq => lx 4 19 0 1 false 1 (.bool x41) (hq.1.1 _ _ hF51) hc54) ?_
     refine Dt 4 21 64 _ (fun _ hq => mv 1 (.slice a1_0 x1.length n1_0) e13) ?_
     refine Dt 5 22 3 _ (fun _ hq => mv 5 (vi s7) e14) ?_
     obtain ⟨x55, hx56, h58⟩ := bind_some h44
     obtain ⟨hi57, hx56'⟩ := idx_spec hx56
     obtain ⟨b59, o60, C61, E62, fz63, rfl, hF65, hE66⟩ := SlA.open (SlA.mono hs1_0 le10) hx56'
     have hc68 := hE66 _ _ hx56'
     refine Dt 6 23 0 (.pointer (some ⟨b59, (o60 + (s7 : Int).toNat * 1), none⟩)) (fun _ hq => ix 64 21 22 b59 o60 4 1 1 hi57) ?_
     refine Dt 7 24 4 _ (fun _ hq => lx 4 23 0 1 false 1 (.bool x55) (hq.1.1 _ _ hF65) hc68) ?_
     refine Dt 8 25 4 (.bool (!(x41 == x55))) (fun _ hq => run_neb (t := 4) (t' := 4) (x := (.tmp 20)) (y := (.tmp 24)) (a := x41) (b := x55) rfl rfl (by kernel_rfl)) ?_
     obtain rfl := some_inj h58
     exact DWP.done (by kernel_rfl) ⟨F1, hw29, (Mem.le.refl _), e11, e12, e13, e14, rfl⟩
    ·rintro f w30 ⟨F3, hs31, le32, e34, e35, e36, e37, e38⟩
     refine thenQ_nrm ?_
     refine CWP.cond (t := j33) (by kernel_rfl) e38 (fun hb69 => ?_) (fun hb69 => ?_)
     ·have h70 := cond_t h40 hb69
      refine Sq (Rg [0] ?_)
      refine V 4 4 (mc (.bool false) (.bool false)) ?_
      refine Nt ?_
      refine CWP.ret (by kernel_rfl) ?_
      refine blockQ_ret ?_
      refine thenQ_ret ?_
      refine thenQ_ret ?_
      refine blockQ_ret ?_
      have hret := iter_ret h70 hnx25
      subst hret
      refine .inr ?_
      refine thenQ_ret ?_
      have hfin := some_inj h6
      subst hfin
      exact ⟨e34, (.bool false), res_of (l := [.tmp 4]) (by kernel_rfl) (vs := [(.bool false)]) ⟨rfl, trivial⟩, (.bool false), F3, rfl, hs31.clear, rfl⟩
     ·have h71 := cond_f h40 hb69
      refine Sc ?_
      refine blockQ_nrm ?_
      refine thenQ_nrm ?_
      refine Rg [0, 1, 2] ?_
      refine V 15 3 (mv 5 (vi s7) e37) ?_
      refine V 16 3 (run_add (t := 3) (t' := 3) (x := (.tmp 15)) (y := (.const (vi 1))) (k := .i64) (a := s7) (b := 1) rfl rfl) ?_
      refine V 5 3 (ma 16 (vi (W64 (s7 + 1)))) ?_
      refine RWP.nil ?_
      have hn72 := iter_next h71 hnx25
      exact ⟨m22, Nat.lt_succ_self _, (W64 (s7 + 1)), F3, hn72, hs31, (le10.trans le32), e34, e35, e36, rfl⟩
   ·have h73 := cond_f hb24 hb26
    refine CWP.exit (by kernel_rfl) ?_
    refine thenQ_ex ?_
    refine thenQ_ex ?_
    refine blockQ_hit rfl ?_
    have ho74 := iter_done h73 hnx25
    exact .inl ⟨rfl, s7, F1, ho74, hs9, le10, e11⟩
  ·rintro f w16 ⟨s15, F2, rfl, hs17, le18, e19⟩
   have h75 := k_done h6
   refine thenQ_nrm ?_
   refine Sq (Rg [0] ?_)
   refine V 4 4 (mc (.bool true) (.bool true)) ?_
   refine Nt ?_
   refine CWP.ret (by kernel_rfl) ?_
   have hfin := some_inj h75
   subst hfin
   exact ⟨e19, (.bool true), res_of (l := [.tmp 4]) (by kernel_rfl) (vs := [(.bool true)]) ⟨rfl, trivial⟩, (.bool true), F2, rfl, hs17.clear, rfl⟩
end Go.Proofs.Ythbcnabeabcmlaa
namespace Go.Proofs.Ythbcnabeabcmlaa
open Go.Proofs
def ref03_Offered_L0 (N : Nat) (x0 : System) (x1 : (List Tie)) (x2 : Int) (j12 : (List Bool)) : (Int × List Track × List Tie × Int) → Option (Flow (System × Bool) (Int × List Track × List Tie × Int)) := fun s40 =>
 (bif (decide (s40.1 < (j12.length : Int))) then ((idx j12 s40.1).bind fun x68 => ((bif x68 then (((idx x1 s40.1).bind fun x112 => ((ref03_with N ({ Tracks := s40.2.1, Ties := s40.2.2.1, Window := s40.2.2.2 } : System) x112).bind fun r126 => some (r126.Tracks, r126.Ties, r126.Window))).bind fun j102 => some (j102.1, j102.2.1, j102.2.2)) else some (s40.2.1, s40.2.2.1, s40.2.2.2)).bind fun j85 => some (.next ((W64 (s40.1 + 1)), j85.1, j85.2.1, j85.2.2)))) else some (.done (s40.1, s40.2.1, s40.2.2.1, s40.2.2.2)))
def ref03_Offered (N : Nat) (x0 : System) (x1 : (List Tie)) (x2 : Int) : Option (System × Bool) :=
 (((sub x1 0 x2).bind fun r21 => ((ref03_Accept N x0 r21).bind fun r29 => some r29.1)).bind fun j12 => ((iter (ref03_Offered_L0 N x0 x1 x2 j12) N (0, x0.Tracks, x0.Ties, x0.Window)).bind fun o => o.k (fun r => some r) (fun s51 => (((idx x1 x2).bind fun x153 => ((ref03_with N ({ Tracks := s51.2.1, Ties := s51.2.2.1, Window := s51.2.2.2 } : System) x153).bind fun r167 => some (r167.Tracks, r167.Ties, r167.Window))).bind fun j147 => (((ref03_Closes N ({ Tracks := j147.1, Ties := j147.2.1, Window := j147.2.2 } : System)).bind fun r206 => some (r206, j147.1, j147.2.1, j147.2.2)).bind fun j200 => some (({ Tracks := j200.2.1, Ties := j200.2.2.1, Window := j200.2.2.2 } : System), j200.1))))))
theorem co_ref03_Offered : CallOk Try.prog 91 := fun _ _ => by kernel_rfl
set_option maxHeartbeats 4000000 in
set_option maxRecDepth 100000 in
theorem c_ref03_Offered (N : Nat) (w0 : World) (F0 : Mem) (hF : ∀ b o, F0 b = some o → w0.heap[b]? = some o) (x0 : System) (a0_0 : Option Addr) (n0_0 : Nat) (hb0_0 : LC x0.Tracks.length n0_0) (hs0_0 : SlA tTrack F0 a0_0 x0.Tracks) (a0_1 : Option Addr) (n0_1 : Nat) (hb0_1 : LC x0.Ties.length n0_1) (hs0_1 : SlA tTie F0 a0_1 x0.Ties) (x1 : (List Tie)) (a1_0 : Option Addr) (n1_0 : Nat) (hb1_0 : LC x1.length n1_0) (hs1_0 : SlA tTie F0 a1_0 x1) (x2 : Int) (r : (System × Bool)) (h : ref03_Offered N x0 x1 x2 = some r) :
  Calls Try.prog 91 ([(.agg (kSystem x0 a0_0 n0_0 a0_1 n0_1)), (.slice a1_0 x1.length n1_0), (vi x2)] : List Value).toArray w0 (FRet w0 F0 fun F' v => ∃ (aq0_0 : Option Addr) (nq0_0 : Nat) (aq0_1 : Option Addr) (nq0_1 : Nat), v = (.tuple #[(.agg (kSystem r.1 aq0_0 nq0_0 aq0_1 nq0_1)), (.bool r.2)]) ∧ LC r.1.Tracks.length nq0_0 ∧ SlA tTrack F' aq0_0 r.1.Tracks ∧ LC r.1.Ties.length nq0_1 ∧ SlA tTie F' aq0_1 r.1.Ties) := by
 have hs0 := HS.start hF
 refine calls_of (n := 45) (c := bodyOf Try.f91) Try.func91 (by kernel_rfl) (by kernel_rfl) (by kernel_rfl) ?_
 refine Sq (Rg [0, 1, 2] ?_)
 refine Bx 3 0 0 25 (kSystem x0 a0_0 n0_0 a0_1 n0_1) hs0 (fun b1 w2 (hs3 : HS w0 F0 w2 F0 [(sb b1 (kSystem x0 a0_0 n0_0 a0_1 n0_1) 25)]) => ?_)
 refine Al 6 0 25 #[(.slice none ([] : List Track).length 0), (.slice none ([] : List Tie).length 0), (vi 0)] hs3 (fun b4 w5 (hs6 : HS w0 F0 w5 F0 [(sb b4 #[(.slice none ([] : List Track).length 0), (.slice none ([] : List Tie).length 0), (vi 0)] 25), (sb b1 (kSystem x0 a0_0 n0_0 a0_1 n0_1) 25)]) => ?_)
 refine V 7 4 (mc (.bool false) (.bool false)) ?_
 refine Nss ?_
 obtain ⟨j12, hj19, h20⟩ := bind_some h
 refine CWP.regionD (by kernel_rfl) (by kernel_rfl) (by kernel_rfl) (by kernel_rfl) (z := 10) (F := F0) (Lc := [(sb b4 #[(.slice none ([] : List Track).length 0), (.slice none ([] : List Tie).length 0), (vi 0)] 25), (sb b1 (kSystem x0 a0_0 n0_0 a0_1 n0_1) 25)]) (Lz := []) (l := [false, false, false, false, false, false, false, false, false, false]) (fuel := 10) (by kernel_rfl) (by kernel_rfl) hs6 (by simp) (by simp) (fun f w => ∃ (F1 : Mem) (aj12_0 : Option Addr) (nj12_0 : Nat), HS w0 F0 w F1 [(sb b4 #[(.slice none ([] : List Track).length 0), (.slice none ([] : List Tie).length 0), (vi 0)] 25), (sb b1 (kSystem x0 a0_0 n0_0 a0_1 n0_1) 25)] ∧ Mem.le F0 F1 ∧ f.d = [] ∧ f 1 = (.slice a1_0 x1.length n1_0) ∧ f 2 = (vi x2) ∧ f 3 = (.pointer (some ⟨b1, 0, none⟩)) ∧ f 6 = (.pointer (some ⟨b4, 0, none⟩)) ∧ f 8 = (.slice aj12_0 j12.length nj12_0) ∧ LC j12.length nj12_0 ∧ SlA tBool F1 aj12_0 j12) (fun wd7 hw8 => ?_) ?_
 ·refine Dt 0 13 25 _ (fun _ hq => ld 25 3 b1 0 true 3 (.agg (kSystem x0 a0_0 n0_0 a0_1 n0_1)) (hq.1.2 1 _ _ rfl)) ?_
  refine Dt 1 14 23 _ (fun _ hq => mv 1 (.slice a1_0 x1.length n1_0)) ?_
  refine Dt 2 15 3 _ (fun _ hq => mv 2 (vi x2)) ?_
  obtain ⟨r21, hr22, h23⟩ := bind_some hj19
  obtain ⟨a24, n25, hb26, hs27, hrun28⟩ := part_val (P := Try.prog) (T := tTie) (lo := none) (hi := (some (.tmp 15))) (mx := none) (t := 23) (E := 46) (by_ := 32) (c := n1_0) (a := a1_0) (l := x1) (r := r21) (il := 0) (ih := x2) (im := 0) (by kernel_rfl) (by kernel_rfl) hb1_0 hs1_0 (fun h => by first | rfl | cases h) hr22
  refine Dt 3 16 23 (.slice a24 r21.length n25) (fun _ hq => hrun28 (x := (.tmp 14)) rfl rfl rfl trivial) ?_
  refine DWP.one (i := 4) (by kernel_rfl) ?_
  obtain ⟨r29, hr30, h31⟩ := bind_some h23
  refine DStep.call (l' := [true, true, true, true, true, false, false, false, false, false]) (zd := true) (by kernel_rfl) (by kernel_rfl) (by kernel_rfl) (dst := (some 17)) (ty := 65) (g := none) (by kernel_rfl) rfl (f0 := (.func 43)) (aos := #[(.tmp 13), (.tmp 16)]) (ats := #[25, 23]) (fid := 43) (first := #[]) (cap := #[]) (args := [(.agg (kSystem x0 a0_0 n0_0 a0_1 n0_1)), (.slice a24 r21.length n25)]) rfl co_ref03_Accept (rfl) hw8 (c_ref03_Accept N wd7 F0 hw8.pers (x0) a0_0 n0_0 hb0_0 hs0_0 a0_1 n0_1 hb0_1 hs0_1 (r21) a24 n25 hb26 hs27 _ hr30) ?_
  intro v32 F2 w33 hs34 le35 hp36
  obtain ⟨ar29_0_0, nr29_0_0, rfl, hbr29_0_0, hsr29_0_0⟩ := hp36
  refine Dt 5 12 65 _ (fun _ hq => mv 17 (.tuple #[(.slice ar29_0_0 r29.1.length nr29_0_0), (vi r29.2)])) ?_
  refine Dt 6 18 64 _ (fun _ hq => ex 12 0 (.slice ar29_0_0 r29.1.length nr29_0_0) (vs := #[(.slice ar29_0_0 r29.1.length nr29_0_0), (vi r29.2)])) ?_
  refine Dt 7 19 30 _ (fun _ hq => ex 12 1 (vi r29.2) (vs := #[(.slice ar29_0_0 r29.1.length nr29_0_0), (vi r29.2)])) ?_
  refine Dt 8 8 64 _ (fun _ hq => ma 18 (.slice ar29_0_0 r29.1.length nr29_0_0)) ?_
  refine Dt 9 9 30 _ (fun _ hq => ma 19 (vi r29.2)) ?_
  obtain rfl := some_inj h31
  exact DWP.done (by kernel_rfl) ⟨F2, ar29_0_0, nr29_0_0, hs34, le35, rfl, rfl, rfl, rfl, rfl, rfl, hbr29_0_0, hsr29_0_0⟩
 ·rintro f w9 ⟨F1, aj12_0, nj12_0, hs10, le11, e13, e14, e15, e16, e17, e18, hbj12_0, hsj12_0⟩
  refine thenQ_nrm ?_
  refine Sq ?_
  refine Sq (Rg [0] ?_)
  refine V 10 3 (mc (vi 0) (vi 0)) ?_
  refine Nt ?_
  obtain ⟨o37, ho38, h39⟩ := bind_some h20
  refine CWP.cut (fun f w => ∃ (s51 : (Int × List Track × List Tie × Int)) (F4 : Mem) (as51_1 : Option Addr) (ns51_1 : Nat) (as51_2 : Option Addr) (ns51_2 : Nat), o37 = .done s51 ∧ HS w0 F0 w F4 [(sb b4 #[(.slice none ([] : List Track).length 0), (.slice none ([] : List Tie).length 0), (vi 0)] 25), (sb b1 #[(.slice as51_1 s51.2.1.length ns51_1), (.slice as51_2 s51.2.2.1.length ns51_2), (vi s51.2.2.2)] 25)] ∧ Mem.le F1 F4 ∧ f.d = [] ∧ f 1 = (.slice a1_0 x1.length n1_0) ∧ f 2 = (vi x2) ∧ f 3 = (.pointer (some ⟨b1, 0, none⟩)) ∧ f 6 = (.pointer (some ⟨b4, 0, none⟩)) ∧ LC s51.2.1.length ns51_1 ∧ SlA tTrack F4 as51_1 s51.2.1 ∧ LC s51.2.2.1.length ns51_2 ∧ SlA tTie F4 as51_2 s51.2.2.1) ?_ ?_
  ·refine Bk ?_
   refine CWP.loop (by kernel_rfl) (fun m f w => ∃ (s40 : (Int × List Track × List Tie × Int)) (F3 : Mem) (as40_1 : Option Addr) (ns40_1 : Nat) (as40_2 : Option Addr) (ns40_2 : Nat), iter (ref03_Offered_L0 N x0 x1 x2 j12) m s40 = some o37 ∧ HS w0 F0 w F3 [(sb b4 #[(.slice none ([] : List Track).length 0), (.slice none ([] : List Tie).length 0), (vi 0)] 25), (sb b1 #[(.slice as40_1 s40.2.1.length ns40_1), (.slice as40_2 s40.2.2.1.length ns40_2), (vi s40.2.2.2)] 25)] ∧ Mem.le F1 F3 ∧ f.d = [] ∧ f 1 = (.slice a1_0 x1.length n1_0) ∧ f 2 = (vi x2) ∧ f 3 = (.pointer (some ⟨b1, 0, none⟩)) ∧ f 6 = (.pointer (some ⟨b4, 0, none⟩)) ∧ f 8 = (.slice aj12_0 j12.length nj12_0) ∧ f 10 = (vi s40.1) ∧ LC s40.2.1.length ns40_1 ∧ SlA tTrack F3 as40_1 s40.2.1 ∧ LC s40.2.2.1.length ns40_2 ∧ SlA tTie F3 as40_2 s40.2.2.1) N ⟨(0, x0.Tracks, x0.Ties, x0.Window), F1, a0_0, n0_0, a0_1, n0_1, ho38, hs10, (Mem.le.refl _), e13, e14, e15, e16, e17, e18, rfl, hb0_0, (SlA.mono hs0_0 le11), hb0_1, (SlA.mono hs0_1 le11)⟩ ?_
   rintro m60 f w41 ⟨s40, F3, as40_1, ns40_1, as40_2, ns40_2, hit61, hs42, le43, e44, e45, e46, e47, e48, e49, e50, hbs40_1, hss40_1, hbs40_2, hss40_2⟩
   obtain ⟨m62, fl63, rfl, hb64, hnx65⟩ := iter_step hit61
   refine Sq ?_
   refine Sq (Rg [0, 1, 2, 3] ?_)
   refine V 20 3 (mv 10 (vi s40.1) e50) ?_
   refine V 21 64 (mv 8 (.slice aj12_0 j12.length nj12_0) e49) ?_
   refine V 22 3 (ln 21 64 aj12_0 j12.length nj12_0 4 1 1) ?_
   refine V 23 4 (run_lss (t := 3) (t' := 3) (x := (.tmp 20)) (y := (.tmp 22)) (k := .i64) (a := s40.1) (b := (j12.length : Int)) rfl rfl) ?_
   refine Nt ?_
   refine CWP.cond (t := (decide (s40.1 < (j12.length : Int)))) (by kernel_rfl) rfl (fun hb66 => ?_) (fun hb66 => ?_)
   ·have h67 := cond_t hb64 hb66
    refine Sc ?_
    refine thenQ_nrm ?_
    refine Sq ?_
    refine Bk ?_
    refine Sq (Rg [0, 1, 2, 3] ?_)
    refine V 26 64 (mv 8 (.slice aj12_0 j12.length nj12_0) e49) ?_
    refine V 27 3 (mv 10 (vi s40.1) e50) ?_
    obtain ⟨x68, hx69, h71⟩ := bind_some h67
    obtain ⟨hi70, hx69'⟩ := idx_spec hx69
    obtain ⟨b72, o73, C74, E75, fz76, rfl, hF78, hE79⟩ := SlA.open (SlA.mono hsj12_0 le43) hx69'
    have hc81 := hE79 _ _ hx69'
    refine V 28 0 (ix 64 26 27 b72 o73 4 1 1 hi70) ?_
    refine V 29 4 (lx 4 28 0 1 false 1 (.bool x68) (hs42.pers _ _ hF78) hc81) ?_
    refine Nt ?_
    obtain ⟨j85, hj93, h94⟩ := bind_some h71
    refine CWP.cut (fun f w => ∃ (F5 : Mem) (aj85_0 : Option Addr) (nj85_0 : Nat) (aj85_1 : Option Addr) (nj85_1 : Nat), HS w0 F0 w F5 [(sb b4 #[(.slice none ([] : List Track).length 0), (.slice none ([] : List Tie).length 0), (vi 0)] 25), (sb b1 #[(.slice aj85_0 j85.1.length nj85_0), (.slice aj85_1 j85.2.1.length nj85_1), (vi j85.2.2)] 25)] ∧ Mem.le F3 F5 ∧ f.d = [] ∧ f 1 = (.slice a1_0 x1.length n1_0) ∧ f 2 = (vi x2) ∧ f 3 = (.pointer (some ⟨b1, 0, none⟩)) ∧ f 6 = (.pointer (some ⟨b4, 0, none⟩)) ∧ f 8 = (.slice (some ⟨b72, o73, none⟩) j12.length nj12_0) ∧ f 10 = (vi s40.1) ∧ LC j85.1.length nj85_0 ∧ SlA tTrack F5 aj85_0 j85.1 ∧ LC j85.2.1.length nj85_1 ∧ SlA tTie F5 aj85_1 j85.2.1) ?_ ?_
    ·refine CWP.cond (t := x68) (by kernel_rfl) rfl (fun hb95 => ?_) (fun hb95 => ?_)
     ·have h96 := cond_t hj93 hb95
      obtain ⟨j102, hj110, h111⟩ := bind_some h96
      refine CWP.regionD (by kernel_rfl) (by kernel_rfl) (by kernel_rfl) (by kernel_rfl) (z := 6) (F := F3) (Lc := [(sb b4 #[(.slice none ([] : List Track).length 0), (.slice none ([] : List Tie).length 0), (vi 0)] 25)]) (Lz := [(sb b1 #[(.slice as40_1 s40.2.1.length ns40_1), (.slice as40_2 s40.2.2.1.length ns40_2), (vi s40.2.2.2)] 25)]) (l := [false, false, false, false, false, false, false]) (fuel := 7) (by kernel_rfl) (by kernel_rfl) hs42 (by simp) (by simp) (fun f w => ∃ (F6 : Mem) (aj102_0 : Option Addr) (nj102_0 : Nat) (aj102_1 : Option Addr) (nj102_1 : Nat), HS w0 F0 w F6 [(sb b4 #[(.slice none ([] : List Track).length 0), (.slice none ([] : List Tie).length 0), (vi 0)] 25), (sb b1 #[(.slice aj102_0 j102.1.length nj102_0), (.slice aj102_1 j102.2.1.length nj102_1), (vi j102.2.2)] 25)] ∧ Mem.le F3 F6 ∧ f.d = [] ∧ f 1 = (.slice a1_0 x1.length n1_0) ∧ f 2 = (vi x2) ∧ f 3 = (.pointer (some ⟨b1, 0, none⟩)) ∧ f 6 = (.pointer (some ⟨b4, 0, none⟩)) ∧ f 8 = (.slice (some ⟨b72, o73, none⟩) j12.length nj12_0) ∧ f 10 = (vi s40.1) ∧ LC j102.1.length nj102_0 ∧ SlA tTrack F6 aj102_0 j102.1 ∧ LC j102.2.1.length nj102_1 ∧ SlA tTie F6 aj102_1 j102.2.1) (fun wd97 hw98 => ?_) ?_
      ·refine Df 0 30 25 _ (fun _ hq => ld 25 3 b1 0 true 3 (.agg #[(.slice as40_1 s40.2.1.length ns40_1), (.slice as40_2 s40.2.2.1.length ns40_2), (vi s40.2.2.2)]) ((hq.2 rfl).2 0 _ _ rfl) e47) ?_
       refine Df 1 31 23 _ (fun _ hq => mv 1 (.slice a1_0 x1.length n1_0) e45) ?_
       refine Df 2 32 3 _ (fun _ hq => mv 10 (vi s40.1) e50) ?_
       obtain ⟨x112, hx113, h115⟩ := bind_some hj110
       obtain ⟨hi114, hx113'⟩ := idx_spec hx113
       obtain ⟨b116, o117, C118, E119, fz120, rfl, hF122, hE123⟩ := SlA.open (SlA.mono hs1_0 (le11.trans le43)) hx113'
       have hc125 := hE123 _ _ hx113'
       refine Df 3 33 0 (.pointer (some ⟨b116, (o117 + (s40.1 : Int).toNat * 4), none⟩)) (fun _ hq => ix 23 31 32 b116 o117 46 4 32 hi114) ?_
       refine Df 4 34 46 _ (fun _ hq => lx 46 33 0 4 true 4 (.agg (kTie x112)) (hq.1.1 _ _ hF122) hc125) ?_
       refine DWP.one (i := 5) (by kernel_rfl) ?_
       obtain ⟨r126, hr127, h128⟩ := bind_some h115
       refine DStep.call (l' := [true, true, true, true, true, true, false]) (zd := false) (by kernel_rfl) (by kernel_rfl) (by kernel_rfl) (dst := (some 35)) (ty := 25) (g := none) (by kernel_rfl) rfl (f0 := (.func 89)) (aos := #[(.tmp 30), (.tmp 34)]) (ats := #[25, 46]) (fid := 89) (first := #[]) (cap := #[]) (args := [(.agg #[(.slice as40_1 s40.2.1.length ns40_1), (.slice as40_2 s40.2.2.1.length ns40_2), (vi s40.2.2.2)]), (.agg (kTie x112))]) rfl co_ref03_with (rfl) hw98 (c_ref03_with N wd97 F3 hw98.pers (({ Tracks := s40.2.1, Ties := s40.2.2.1, Window := s40.2.2.2 } : System)) as40_1 ns40_1 hbs40_1 hss40_1 as40_2 ns40_2 hbs40_2 hss40_2 (x112) _ hr127) ?_
       intro v129 F7 w130 hs131 le132 hp133
       obtain ⟨ar126_0_0, nr126_0_0, ar126_0_1, nr126_0_1, rfl, hbr126_0_0, hsr126_0_0, hbr126_0_1, hsr126_0_1⟩ := hp133
       refine DWP.one (i := 6) (by kernel_rfl) ?_
       refine DStep.store (l' := [true, true, true, true, true, true, true]) (zd := true) (by kernel_rfl) (by kernel_rfl) (ty := 0) (g := none) (by kernel_rfl) rfl (x := (.tmp 3)) (y := (.tmp 35)) (t := 25) (gg := true) (s := 3) (v := (.agg (kSystem r126 ar126_0_0 nr126_0_0 ar126_0_1 nr126_0_1))) (b := b1) (o := 0) (C := #[(.slice as40_1 s40.2.1.length ns40_1), (.slice as40_2 s40.2.2.1.length ns40_2), (vi s40.2.2.2)]) e47 rfl (by kernel_rfl) hs131 (k := 1) rfl rfl rfl rfl (C' := (kSystem r126 ar126_0_0 nr126_0_0 ar126_0_1 nr126_0_1)) rfl le132 (by simp) (fun e => by cases e) (fun w134 (hs135 : HS w0 F0 w134 F7 [(sb b4 #[(.slice none ([] : List Track).length 0), (.slice none ([] : List Tie).length 0), (vi 0)] 25), (sb b1 (kSystem r126 ar126_0_0 nr126_0_0 ar126_0_1 nr126_0_1) 25)]) => ?_)
       obtain rfl := some_inj h128
       exact DWP.done (by kernel_rfl) ⟨F7, ar126_0_0, nr126_0_0, ar126_0_1, nr126_0_1, hs135, le132, e44, e45, e46, e47, e48, e49, e50, hbr126_0_0, hsr126_0_0, hbr126_0_1, hsr126_0_1⟩
      ·rintro f w99 ⟨F6, aj102_0, nj102_0, aj102_1, nj102_1, hs100, le101, e103, e104, e105, e106, e107, e108, e109, hbj102_0, hsj102_0, hbj102_1, hsj102_1⟩
       obtain rfl := some_inj h111
       exact .inl ⟨rfl, F6, aj102_0, nj102_0, aj102_1, nj102_1, hs100, le101, e103, e104, e105, e106, e107, e108, e109, hbj102_0, hsj102_0, hbj102_1, hsj102_1⟩
     ·have h136 := cond_f hj93 hb95
      refine Sc ?_
      obtain rfl := some_inj h136
      exact .inl ⟨rfl, F3, as40_1, ns40_1, as40_2, ns40_2, hs42, (Mem.le.refl _), e44, e45, e46, e47, e48, e49, e50, hbs40_1, hss40_1, hbs40_2, hss40_2⟩
    ·rintro f w82 ⟨F5, aj85_0, nj85_0, aj85_1, nj85_1, hs83, le84, e86, e87, e88, e89, e90, e91, e92, hbj85_0, hsj85_0, hbj85_1, hsj85_1⟩
     refine blockQ_nrm ?_
     refine thenQ_nrm ?_
     refine Rg [0, 1, 2] ?_
     refine V 24 3 (mv 10 (vi s40.1) e92) ?_
     refine V 25 3 (run_add (t := 3) (t' := 3) (x := (.tmp 24)) (y := (.const (vi 1))) (k := .i64) (a := s40.1) (b := 1) rfl rfl) ?_
     refine V 10 3 (ma 25 (vi (W64 (s40.1 + 1)))) ?_
     refine RWP.nil ?_
     have hn137 := iter_next h94 hnx65
     exact ⟨m62, Nat.lt_succ_self _, ((W64 (s40.1 + 1)), j85.1, j85.2.1, j85.2.2), F5, aj85_0, nj85_0, aj85_1, nj85_1, hn137, hs83, (le43.trans le84), e86, e87, e88, e89, e90, e91, rfl, hbj85_0, hsj85_0, hbj85_1, hsj85_1⟩
   ·have h138 := cond_f hb64 hb66
    refine CWP.exit (by kernel_rfl) ?_
    refine thenQ_ex ?_
    refine thenQ_ex ?_
    refine blockQ_hit rfl ?_
    have ho139 := iter_done h138 hnx65
    exact .inl ⟨rfl, (s40.1, s40.2.1, s40.2.2.1, s40.2.2.2), F3, as40_1, ns40_1, as40_2, ns40_2, ho139, hs42, le43, e44, e45, e46, e47, e48, hbs40_1, hss40_1, hbs40_2, hss40_2⟩
  ·rintro f w52 ⟨s51, F4, as51_1, ns51_1, as51_2, ns51_2, rfl, hs53, le54, e55, e56, e57, e58, e59, hbs51_1, hss51_1, hbs51_2, hss51_2⟩
   have h140 := k_done h39
   refine thenQ_nrm ?_
   refine Sq ?_
   obtain ⟨j147, hj151, h152⟩ := bind_some h140
   refine CWP.regionD (by kernel_rfl) (by kernel_rfl) (by kernel_rfl) (by kernel_rfl) (z := 7) (F := F4) (Lc := [(sb b4 #[(.slice none ([] : List Track).length 0), (.slice none ([] : List Tie).length 0), (vi 0)] 25), (sb b1 #[(.slice as51_1 s51.2.1.length ns51_1), (.slice as51_2 s51.2.2.1.length ns51_2), (vi s51.2.2.2)] 25)]) (Lz := []) (l := [false, false, false, false, false, false, false, false]) (fuel := 8) (by kernel_rfl) (by kernel_rfl) hs53 (by simp) (by simp) (fun f w => ∃ (F8 : Mem) (b146 : Nat) (aj147_0 : Option Addr) (nj147_0 : Nat) (aj147_1 : Option Addr) (nj147_1 : Nat), HS w0 F0 w F8 [(sb b146 #[(.slice aj147_0 j147.1.length nj147_0), (.slice aj147_1 j147.2.1.length nj147_1), (vi j147.2.2)] 25), (sb b4 #[(.slice none ([] : List Track).length 0), (.slice none ([] : List Tie).length 0), (vi 0)] 25)] ∧ Mem.le F4 F8 ∧ f.d = [] ∧ f 6 = (.pointer (some ⟨b4, 0, none⟩)) ∧ f 11 = (.pointer (some ⟨b146, 0, none⟩)) ∧ LC j147.1.length nj147_0 ∧ SlA tTrack F8 aj147_0 j147.1 ∧ LC j147.2.1.length nj147_1 ∧ SlA tTie F8 aj147_1 j147.2.1) (fun wd141 hw142 => ?_) ?_
   ·refine Df 0 36 25 _ (fun _ hq => ld 25 3 b1 0 true 3 (.agg #[(.slice as51_1 s51.2.1.length ns51_1), (.slice as51_2 s51.2.2.1.length ns51_2), (vi s51.2.2.2)]) (hq.1.2 1 _ _ rfl) e58) ?_
    refine Df 1 37 23 _ (fun _ hq => mv 1 (.slice a1_0 x1.length n1_0) e56) ?_
    refine Df 2 38 3 _ (fun _ hq => mv 2 (vi x2) e57) ?_
    obtain ⟨x153, hx154, h156⟩ := bind_some hj151
    obtain ⟨hi155, hx154'⟩ := idx_spec hx154
    obtain ⟨b157, o158, C159, E160, fz161, rfl, hF163, hE164⟩ := SlA.open (SlA.mono hs1_0 (le11.trans le54)) hx154'
    have hc166 := hE164 _ _ hx154'
    refine Df 3 39 0 (.pointer (some ⟨b157, (o158 + (x2 : Int).toNat * 4), none⟩)) (fun _ hq => ix 23 37 38 b157 o158 46 4 32 hi155) ?_
    refine Df 4 40 46 _ (fun _ hq => lx 46 39 0 4 true 4 (.agg (kTie x153)) (hq.1.1 _ _ hF163) hc166) ?_
    refine DWP.two (i := 5) (j := 6) (by kernel_rfl) ?_ ?_
    ·obtain ⟨r167, hr168, h169⟩ := bind_some h156
     refine DStep.call (l' := [true, true, true, true, true, true, false, false]) (zd := false) (by kernel_rfl) (by kernel_rfl) (by kernel_rfl) (dst := (some 41)) (ty := 25) (g := none) (by kernel_rfl) rfl (f0 := (.func 89)) (aos := #[(.tmp 36), (.tmp 40)]) (ats := #[25, 46]) (fid := 89) (first := #[]) (cap := #[]) (args := [(.agg #[(.slice as51_1 s51.2.1.length ns51_1), (.slice as51_2 s51.2.2.1.length ns51_2), (vi s51.2.2.2)]), (.agg (kTie x153))]) rfl co_ref03_with (rfl) hw142 (c_ref03_with N wd141 F4 hw142.pers (({ Tracks := s51.2.1, Ties := s51.2.2.1, Window := s51.2.2.2 } : System)) as51_1 ns51_1 hbs51_1 hss51_1 as51_2 ns51_2 hbs51_2 hss51_2 (x153) _ hr168) ?_
     intro v170 F9 w171 hs172 le173 hp174
     obtain ⟨ar167_0_0, nr167_0_0, ar167_0_1, nr167_0_1, rfl, hbr167_0_0, hsr167_0_0, hbr167_0_1, hsr167_0_1⟩ := hp174
     refine DWP.one (i := 6) (by kernel_rfl) ?_
     refine DStep.alloc (l' := [true, true, true, true, true, true, true, false]) (zd := false) (by kernel_rfl) (by kernel_rfl) (dst := (some 11)) (ty := 0) (g := none) (by kernel_rfl) rfl (t := 25) (z := (.agg #[(.slice none ([] : List Track).length 0), (.slice none ([] : List Tie).length 0), (vi 0)])) (by kernel_rfl) (C := #[(.slice none ([] : List Track).length 0), (.slice none ([] : List Tie).length 0), (vi 0)]) rfl hs172 le173 (by simp) (fun _ => by simp) (fun b175 w176 (hs177 : HS w0 F0 w176 F9 [(sb b175 #[(.slice none ([] : List Track).length 0), (.slice none ([] : List Tie).length 0), (vi 0)] 25), (sb b4 #[(.slice none ([] : List Track).length 0), (.slice none ([] : List Tie).length 0), (vi 0)] 25), (sb b1 #[(.slice as51_1 s51.2.1.length ns51_1), (.slice as51_2 s51.2.2.1.length ns51_2), (vi s51.2.2.2)] 25)]) => ?_)
     refine DWP.one (i := 7) (by kernel_rfl) ?_
     refine DStep.store (l' := [true, true, true, true, true, true, true, true]) (zd := true) (by kernel_rfl) (by kernel_rfl) (ty := 0) (g := none) (by kernel_rfl) rfl (x := (.tmp 11)) (y := (.tmp 41)) (t := 25) (gg := true) (s := 3) (v := (.agg (kSystem r167 ar167_0_0 nr167_0_0 ar167_0_1 nr167_0_1))) (b := b175) (o := 0) (C := #[(.slice none ([] : List Track).length 0), (.slice none ([] : List Tie).length 0), (vi 0)]) rfl rfl (by kernel_rfl) hs177 (k := 0) rfl rfl rfl rfl (C' := (kSystem r167 ar167_0_0 nr167_0_0 ar167_0_1 nr167_0_1)) rfl le173 (by simp) (fun e => by cases e) (fun w178 (hs179 : HS w0 F0 w178 F9 [(sb b175 (kSystem r167 ar167_0_0 nr167_0_0 ar167_0_1 nr167_0_1) 25), (sb b4 #[(.slice none ([] : List Track).length 0), (.slice none ([] : List Tie).length 0), (vi 0)] 25), (sb b1 #[(.slice as51_1 s51.2.1.length ns51_1), (.slice as51_2 s51.2.2.1.length ns51_2), (vi s51.2.2.2)] 25)]) => ?_)
     obtain rfl := some_inj h169
     have hs180 : HS w0 F0 w178 F9 [(sb b175 (kSystem r167 ar167_0_0 nr167_0_0 ar167_0_1 nr167_0_1) 25), (sb b4 #[(.slice none ([] : List Track).length 0), (.slice none ([] : List Tie).length 0), (vi 0)] 25)] := hs179.drop 2
     exact DWP.done (by kernel_rfl) ⟨F9, b175, ar167_0_0, nr167_0_0, ar167_0_1, nr167_0_1, hs180, le173, e55, e59, rfl, hbr167_0_0, hsr167_0_0, hbr167_0_1, hsr167_0_1⟩
    ·refine DStep.alloc (l' := [true, true, true, true, true, false, true, false]) (zd := false) (by kernel_rfl) (by kernel_rfl) (dst := (some 11)) (ty := 0) (g := none) (by kernel_rfl) rfl (t := 25) (z := (.agg #[(.slice none ([] : List Track).length 0), (.slice none ([] : List Tie).length 0), (vi 0)])) (by kernel_rfl) (C := #[(.slice none ([] : List Track).length 0), (.slice none ([] : List Tie).length 0), (vi 0)]) rfl hw142 (Mem.le.refl _) (by simp) (fun _ => by simp) (fun b181 w182 (hs183 : HS w0 F0 w182 F4 [(sb b181 #[(.slice none ([] : List Track).length 0), (.slice none ([] : List Tie).length 0), (vi 0)] 25), (sb b4 #[(.slice none ([] : List Track).length 0), (.slice none ([] : List Tie).length 0), (vi 0)] 25), (sb b1 #[(.slice as51_1 s51.2.1.length ns51_1), (.slice as51_2 s51.2.2.1.length ns51_2), (vi s51.2.2.2)] 25)]) => ?_)
     refine DWP.one (i := 5) (by kernel_rfl) ?_
     obtain ⟨r184, hr185, h186⟩ := bind_some h156
     refine DStep.call (l' := [true, true, true, true, true, true, true, false]) (zd := false) (by kernel_rfl) (by kernel_rfl) (by kernel_rfl) (dst := (some 41)) (ty := 25) (g := none) (by kernel_rfl) rfl (f0 := (.func 89)) (aos := #[(.tmp 36), (.tmp 40)]) (ats := #[25, 46]) (fid := 89) (first := #[]) (cap := #[]) (args := [(.agg #[(.slice as51_1 s51.2.1.length ns51_1), (.slice as51_2 s51.2.2.1.length ns51_2), (vi s51.2.2.2)]), (.agg (kTie x153))]) rfl co_ref03_with (rfl) hs183 (c_ref03_with N w182 F4 hs183.pers (({ Tracks := s51.2.1, Ties := s51.2.2.1, Window := s51.2.2.2 } : System)) as51_1 ns51_1 hbs51_1 hss51_1 as51_2 ns51_2 hbs51_2 hss51_2 (x153) _ hr185) ?_
     intro v187 F10 w188 hs189 le190 hp191
     obtain ⟨ar184_0_0, nr184_0_0, ar184_0_1, nr184_0_1, rfl, hbr184_0_0, hsr184_0_0, hbr184_0_1, hsr184_0_1⟩ := hp191
     refine DWP.one (i := 7) (by kernel_rfl) ?_
     refine DStep.store (l' := [true, true, true, true, true, true, true, true]) (zd := true) (by kernel_rfl) (by kernel_rfl) (ty := 0) (g := none) (by kernel_rfl) rfl (x := (.tmp 11)) (y := (.tmp 41)) (t := 25) (gg := true) (s := 3) (v := (.agg (kSystem r184 ar184_0_0 nr184_0_0 ar184_0_1 nr184_0_1))) (b := b181) (o := 0) (C := #[(.slice none ([] : List Track).length 0), (.slice none ([] : List Tie).length 0), (vi 0)]) rfl rfl (by kernel_rfl) hs189 (k := 0) rfl rfl rfl rfl (C' := (kSystem r184 ar184_0_0 nr184_0_0 ar184_0_1 nr184_0_1)) rfl le190 (by simp) (fun e => by cases e) (fun w192 (hs193 : HS w0 F0 w192 F10 [(sb b181 (kSystem r184 ar184_0_0 nr184_0_0 ar184_0_1 nr184_0_1) 25), (sb b4 #[(.slice none ([] : List Track).length 0), (.slice none ([] : List Tie).length 0), (vi 0)] 25), (sb b1 #[(.slice as51_1 s51.2.1.length ns51_1), (.slice as51_2 s51.2.2.1.length ns51_2), (vi s51.2.2.2)] 25)]) => ?_)
     obtain rfl := some_inj h186
     have hs194 : HS w0 F0 w192 F10 [(sb b181 (kSystem r184 ar184_0_0 nr184_0_0 ar184_0_1 nr184_0_1) 25), (sb b4 #[(.slice none ([] : List Track).length 0), (.slice none ([] : List Tie).length 0), (vi 0)] 25)] := hs193.drop 2
     exact DWP.done (by kernel_rfl) ⟨F10, b181, ar184_0_0, nr184_0_0, ar184_0_1, nr184_0_1, hs194, le190, e55, e59, rfl, hbr184_0_0, hsr184_0_0, hbr184_0_1, hsr184_0_1⟩
   ·rintro f w143 ⟨F8, b146, aj147_0, nj147_0, aj147_1, nj147_1, hs144, le145, e148, e149, e150, hbj147_0, hsj147_0, hbj147_1, hsj147_1⟩
    refine thenQ_nrm ?_
    refine Sq ?_
    obtain ⟨j200, hj204, h205⟩ := bind_some h152
    refine CWP.regionD (by kernel_rfl) (by kernel_rfl) (by kernel_rfl) (by kernel_rfl) (z := 5) (F := F8) (Lc := [(sb b146 #[(.slice aj147_0 j147.1.length nj147_0), (.slice aj147_1 j147.2.1.length nj147_1), (vi j147.2.2)] 25)]) (Lz := []) (l := [false, false, false, false, false]) (fuel := 5) (by kernel_rfl) (by kernel_rfl) hs144 (by simp) (by simp) (fun f w => ∃ (F11 : Mem) (aj200_1 : Option Addr) (nj200_1 : Nat) (aj200_2 : Option Addr) (nj200_2 : Nat), HS w0 F0 w F11 [(sb b4 #[(.slice aj200_1 j200.2.1.length nj200_1), (.slice aj200_2 j200.2.2.1.length nj200_2), (vi j200.2.2.2)] 25)] ∧ Mem.le F8 F11 ∧ f.d = [] ∧ f 6 = (.pointer (some ⟨b4, 0, none⟩)) ∧ f 7 = (.bool j200.1) ∧ LC j200.2.1.length nj200_1 ∧ SlA tTrack F11 aj200_1 j200.2.1 ∧ LC j200.2.2.1.length nj200_2 ∧ SlA tTie F11 aj200_2 j200.2.2.1) (fun wd195 hw196 => ?_) ?_
    ·refine Dt 0 42 25 _ (fun _ hq => ld 25 11 b146 0 true 3 (.agg #[(.slice aj147_0 j147.1.length nj147_0), (.slice aj147_1 j147.2.1.length nj147_1), (vi j147.2.2)]) (hq.1.2 0 _ _ rfl) e150) ?_
     refine Dt 1 43 25 _ (fun _ hq => ld 25 11 b146 0 true 3 (.agg #[(.slice aj147_0 j147.1.length nj147_0), (.slice aj147_1 j147.2.1.length nj147_1), (vi j147.2.2)]) (hq.1.2 0 _ _ rfl) e150) ?_
     refine DWP.one (i := 2) (by kernel_rfl) ?_
     obtain ⟨r206, hr207, h208⟩ := bind_some hj204
     refine DStep.call (l' := [true, true, true, false, false]) (zd := true) (by kernel_rfl) (by kernel_rfl) (by kernel_rfl) (dst := (some 44)) (ty := 4) (g := none) (by kernel_rfl) rfl (f0 := (.func 90)) (aos := #[(.tmp 43)]) (ats := #[25]) (fid := 90) (first := #[]) (cap := #[]) (args := [(.agg #[(.slice aj147_0 j147.1.length nj147_0), (.slice aj147_1 j147.2.1.length nj147_1), (vi j147.2.2)])]) rfl co_ref03_Closes (rfl) hw196 (c_ref03_Closes N wd195 F8 hw196.pers (({ Tracks := j147.1, Ties := j147.2.1, Window := j147.2.2 } : System)) aj147_0 nj147_0 hbj147_0 hsj147_0 aj147_1 nj147_1 hbj147_1 hsj147_1 _ hr207) ?_
     intro v209 F12 w210 hs211 le212 hp213
     obtain rfl := hp213
     refine DWP.one (i := 3) (by kernel_rfl) ?_
     refine DStep.store (l' := [true, true, true, true, false]) (zd := true) (by kernel_rfl) (by kernel_rfl) (ty := 0) (g := none) (by kernel_rfl) rfl (x := (.tmp 6)) (y := (.tmp 42)) (t := 25) (gg := true) (s := 3) (v := (.agg #[(.slice aj147_0 j147.1.length nj147_0), (.slice aj147_1 j147.2.1.length nj147_1), (vi j147.2.2)])) (b := b4) (o := 0) (C := #[(.slice none ([] : List Track).length 0), (.slice none ([] : List Tie).length 0), (vi 0)]) e149 rfl (by kernel_rfl) hs211 (k := 1) rfl rfl rfl rfl (C' := #[(.slice aj147_0 j147.1.length nj147_0), (.slice aj147_1 j147.2.1.length nj147_1), (vi j147.2.2)]) rfl le212 (by simp) (fun e => by cases e) (fun w214 (hs215 : HS w0 F0 w214 F12 [(sb b146 #[(.slice aj147_0 j147.1.length nj147_0), (.slice aj147_1 j147.2.1.length nj147_1), (vi j147.2.2)] 25), (sb b4 #[(.slice aj147_0 j147.1.length nj147_0), (.slice aj147_1 j147.2.1.length nj147_1), (vi j147.2.2)] 25)]) => ?_)
     refine Dt 4 7 4 _ (fun _ hq => ma 44 (.bool r206)) ?_
     obtain rfl := some_inj h208
     have hs216 : HS w0 F0 w214 F12 [(sb b4 #[(.slice aj147_0 j147.1.length nj147_0), (.slice aj147_1 j147.2.1.length nj147_1), (vi j147.2.2)] 25)] := hs215.drop 0
     exact DWP.done (by kernel_rfl) ⟨F12, aj147_0, nj147_0, aj147_1, nj147_1, hs216, le212, e148, e149, rfl, hbj147_0, (SlA.mono hsj147_0 le212), hbj147_1, (SlA.mono hsj147_1 le212)⟩
    ·rintro f w197 ⟨F11, aj200_1, nj200_1, aj200_2, nj200_2, hs198, le199, e201, e202, e203, hbj200_1, hsj200_1, hbj200_2, hsj200_2⟩
     refine thenQ_nrm ?_
     refine CWP.ret (by kernel_rfl) ?_
     have hfin := some_inj h205
     subst hfin
     exact ⟨e201, (.tuple #[(.agg #[(.slice aj200_1 j200.2.1.length nj200_1), (.slice aj200_2 j200.2.2.1.length nj200_2), (vi j200.2.2.2)]), (.bool j200.1)]), res_of (l := [.cell 6 25, .tmp 7]) (by kernel_rfl) (vs := [(.agg #[(.slice aj200_1 j200.2.1.length nj200_1), (.slice aj200_2 j200.2.2.1.length nj200_2), (vi j200.2.2.2)]), (.bool j200.1)]) ⟨b4, 0, e202, run_loadVar' (t := 25) (g := true) (s := 3) (by kernel_rfl) (hs198.ownAt (k := 0) rfl) rfl (by decide), ⟨e203, trivial⟩⟩, (.tuple #[(.agg #[(.slice aj200_1 j200.2.1.length nj200_1), (.slice aj200_2 j200.2.2.1.length nj200_2), (vi j200.2.2.2)]), (.bool j200.1)]), F11, rfl, hs198.clear, ⟨aj200_1, nj200_1, aj200_2, nj200_2, rfl, hbj200_1, hsj200_1, hbj200_2, hsj200_2⟩⟩
end Go.Proofs.Ythbcnabeabcmlaa
namespace Go.Proofs.Ythbcnabeabcmlaa
open Go.Proofs
def ref03_RefusalError_L0 (N : Nat) (x0 : System) (x1 : (List Tie)) (x2 : Int) (r4 : Int) : Int → Option (Flow Int Int) := fun s18 =>
 (bif (decide (s18 < (x1.length : Int))) then (((idx x1 s18).bind fun x57 => ((ref03_Has N x0 x57.A).bind fun r71 => (bif (!r71) then some true else ((idx x1 s18).bind fun x82 => ((ref03_Has N x0 x82.B).bind fun r88 => some (!r88)))))).bind fun j48 => (bif j48 then some (.ret 3) else some (.next (W64 (s18 + 1))))) else some (.done s18))
def ref03_RefusalError (N : Nat) (x0 : System) (x1 : (List Tie)) (x2 : Int) : Option Int :=
 ((ref03_Check N x0).bind fun r4 => (bif (r4 != 0) then some r4 else ((iter (ref03_RefusalError_L0 N x0 x1 x2 r4) N 0).bind fun o => o.k (fun r => some r) (fun s27 => ((ref03_within N x2 0 (W64 ((x1.length : Int) - 1))).bind fun r103 => (bif (!r103) then some 1 else ((ref03_offered N x0 x1).bind fun r114 => (bif (r114 != 0) then some r114 else ((ref03_Offered N x0 x1 x2).bind fun r125 => (bif r125.2 then some 3 else some 0))))))))))
theorem co_ref03_RefusalError : CallOk Try.prog 46 := fun _ _ => by kernel_rfl
set_option maxHeartbeats 4000000 in
set_option maxRecDepth 100000 in
theorem c_ref03_RefusalError (N : Nat) (w0 : World) (F0 : Mem) (hF : ∀ b o, F0 b = some o → w0.heap[b]? = some o) (x0 : System) (a0_0 : Option Addr) (n0_0 : Nat) (hb0_0 : LC x0.Tracks.length n0_0) (hs0_0 : SlA tTrack F0 a0_0 x0.Tracks) (a0_1 : Option Addr) (n0_1 : Nat) (hb0_1 : LC x0.Ties.length n0_1) (hs0_1 : SlA tTie F0 a0_1 x0.Ties) (x1 : (List Tie)) (a1_0 : Option Addr) (n1_0 : Nat) (hb1_0 : LC x1.length n1_0) (hs1_0 : SlA tTie F0 a1_0 x1) (x2 : Int) (r : Int) (h : ref03_RefusalError N x0 x1 x2 = some r) :
  Calls Try.prog 46 ([(.agg (kSystem x0 a0_0 n0_0 a0_1 n0_1)), (.slice a1_0 x1.length n1_0), (vi x2)] : List Value).toArray w0 (FRet w0 F0 fun F' v => v = (vi r)) := by
 have hs0 := HS.start hF
 refine calls_of (n := 60) (c := bodyOf Try.f46) Try.func46 (by kernel_rfl) (by kernel_rfl) (by kernel_rfl) ?_
 refine Sq (Rg [0, 1] ?_)
 refine Bx 3 0 0 25 (kSystem x0 a0_0 n0_0 a0_1 n0_1) hs0 (fun b1 w2 (hs3 : HS w0 F0 w2 F0 [(sb b1 (kSystem x0 a0_0 n0_0 a0_1 n0_1) 25)]) => ?_)
 refine V 6 30 (mc (vi 0) (vi 0)) ?_
 refine Nss (Rg [0, 1, 2] ?_)
 refine V 11 25 (ld 25 3 b1 0 true 3 (.agg (kSystem x0 a0_0 n0_0 a0_1 n0_1)) (hs3.ownAt (k := 0) rfl)) ?_
 obtain ⟨r4, hr5, h6⟩ := bind_some h
 refine Cl 12 30 40 #[(.tmp 11)] #[25] co_ref03_Check hs3 (c_ref03_Check N w2 F0 hs3.pers (x0) a0_0 n0_0 hb0_0 hs0_0 a0_1 n0_1 hb0_1 hs0_1 _ hr5) ?_
 intro v7 F1 w8 hs9 le10 hp11
 obtain rfl := hp11
 refine V 7 30 (ma 12 (vi r4)) ?_
 refine Nss ?_
 refine Sq (Rg [0, 1] ?_)
 refine V 13 30 (mv 7 (vi r4)) ?_
 refine V 14 4 (run_neq (t := 30) (t' := 30) (x := (.tmp 13)) (y := (.const (vi 0))) (k := .i64) (a := r4) (b := 0) rfl rfl) ?_
 refine Nt ?_
 refine CWP.cond (t := (r4 != 0)) (by kernel_rfl) rfl (fun hb12 => ?_) (fun hb12 => ?_)
 ·have h13 := cond_t h6 hb12
  refine Sq (Rg [0, 1] ?_)
  refine V 15 30 (mv 7 (vi r4)) ?_
  refine V 6 30 (ma 15 (vi r4)) ?_
  refine Nt ?_
  refine CWP.ret (by kernel_rfl) ?_
  refine thenQ_ret ?_
  have hfin := some_inj h13
  subst hfin
  exact ⟨rfl, (vi r4), res_of (l := [.tmp 6]) (by kernel_rfl) (vs := [(vi r4)]) ⟨rfl, trivial⟩, (vi r4), F1, rfl, hs9.clear, rfl⟩
 ·have h14 := cond_f h6 hb12
  refine Sc ?_
  refine thenQ_nrm ?_
  refine Sq ?_
  refine Sq (Rg [0] ?_)
  refine V 8 3 (mc (vi 0) (vi 0)) ?_
  refine Nt ?_
  obtain ⟨o15, ho16, h17⟩ := bind_some h14
  refine CWP.cut (fun f w => ∃ (s27 : Int) (F3 : Mem), o15 = .done s27 ∧ HS w0 F0 w F3 [(sb b1 (kSystem x0 a0_0 n0_0 a0_1 n0_1) 25)] ∧ Mem.le F1 F3 ∧ f.d = [] ∧ f 1 = (.slice a1_0 x1.length n1_0) ∧ f 2 = (vi x2) ∧ f 3 = (.pointer (some ⟨b1, 0, none⟩))) ?_ ?_
  ·refine Bk ?_
   refine CWP.loop (by kernel_rfl) (fun m f w => ∃ (s18 : Int) (F2 : Mem), iter (ref03_RefusalError_L0 N x0 x1 x2 r4) m s18 = some o15 ∧ HS w0 F0 w F2 [(sb b1 (kSystem x0 a0_0 n0_0 a0_1 n0_1) 25)] ∧ Mem.le F1 F2 ∧ f.d = [] ∧ f 1 = (.slice a1_0 x1.length n1_0) ∧ f 2 = (vi x2) ∧ f 3 = (.pointer (some ⟨b1, 0, none⟩)) ∧ f 8 = (vi s18)) N ⟨0, F1, ho16, hs9, (Mem.le.refl _), rfl, rfl, rfl, rfl, rfl⟩ ?_
   rintro m35 f w19 ⟨s18, F2, hit36, hs20, le21, e22, e23, e24, e25, e26⟩
   obtain ⟨m37, fl38, rfl, hb39, hnx40⟩ := iter_step hit36
   refine Sq ?_
   refine Sq (Rg [0, 1, 2, 3] ?_)
   refine V 16 3 (mv 8 (vi s18) e26) ?_
   refine V 17 23 (mv 1 (.slice a1_0 x1.length n1_0) e23) ?_
   refine V 18 3 (ln 17 23 a1_0 x1.length n1_0 46 4 32) ?_
   refine V 19 4 (run_lss (t := 3) (t' := 3) (x := (.tmp 16)) (y := (.tmp 18)) (k := .i64) (a := s18) (b := (x1.length : Int)) rfl rfl) ?_
   refine Nt ?_
   refine CWP.cond (t := (decide (s18 < (x1.length : Int)))) (by kernel_rfl) rfl (fun hb41 => ?_) (fun hb41 => ?_)
   ·have h42 := cond_t hb39 hb41
    refine Sc ?_
    refine thenQ_nrm ?_
    refine Sq ?_
    refine Bk ?_
    refine Sq ?_
    obtain ⟨j48, hj55, h56⟩ := bind_some h42
    refine CWP.regionD (by kernel_rfl) (by kernel_rfl) (by kernel_rfl) (by kernel_rfl) (z := 18) (F := F2) (Lc := [(sb b1 (kSystem x0 a0_0 n0_0 a0_1 n0_1) 25)]) (Lz := []) (l := [false, false, false, false, false, false, false, false, false, false, false, false, false, false, false, false, false, false]) (fuel := 18) (by kernel_rfl) (by kernel_rfl) hs20 (by simp) (by simp) (fun f w => ∃ (F4 : Mem), HS w0 F0 w F4 [(sb b1 (kSystem x0 a0_0 n0_0 a0_1 n0_1) 25)] ∧ Mem.le F2 F4 ∧ f.d = [] ∧ f 1 = (.slice a1_0 x1.length n1_0) ∧ f 2 = (vi x2) ∧ f 3 = (.pointer (some ⟨b1, 0, none⟩)) ∧ f 8 = (vi s18) ∧ f 39 = (.bool j48)) (fun wd43 hw44 => ?_) ?_
    ·refine Dt 0 22 25 _ (fun _ hq => ld 25 3 b1 0 true 3 (.agg (kSystem x0 a0_0 n0_0 a0_1 n0_1)) (hq.1.2 0 _ _ rfl) e25) ?_
     refine Dt 1 23 23 _ (fun _ hq => mv 1 (.slice a1_0 x1.length n1_0) e23) ?_
     refine Dt 2 24 3 _ (fun _ hq => mv 8 (vi s18) e26) ?_
     obtain ⟨x57, hx58, h60⟩ := bind_some hj55
     obtain ⟨hi59, hx58'⟩ := idx_spec hx58
     obtain ⟨b61, o62, C63, E64, fz65, rfl, hF67, hE68⟩ := SlA.open (SlA.mono hs1_0 (le10.trans le21)) hx58'
     have hc70 := hE68 _ _ hx58'
     refine Dt 3 25 0 (.pointer (some ⟨b61, (o62 + (s18 : Int).toNat * 4), none⟩)) (fun _ hq => ix 23 23 24 b61 o62 46 4 32 hi59) ?_
     refine Dt 4 26 0 (.pointer (some ⟨b61, (o62 + (s18 : Int).toNat * 4), none⟩)) (fun _ hq => fa 46 25 0 0 2 b61 (o62 + (s18 : Int).toNat * 4) (o62 + (s18 : Int).toNat * 4)) ?_
     refine Dt 5 27 27 _ (fun _ hq => lx 27 26 0 4 true 2 (.agg (kRef x57.A)) (hq.1.1 _ _ hF67) hc70) ?_
     refine DWP.one (i := 6) (by kernel_rfl) ?_
     obtain ⟨r71, hr72, h73⟩ := bind_some h60
     refine DStep.call (l' := [true, true, true, true, true, true, true, false, false, false, false, false, false, false, false, false, false, false]) (zd := true) (by kernel_rfl) (by kernel_rfl) (by kernel_rfl) (dst := (some 28)) (ty := 4) (g := none) (by kernel_rfl) rfl (f0 := (.func 85)) (aos := #[(.tmp 22), (.tmp 27)]) (ats := #[25, 27]) (fid := 85) (first := #[]) (cap := #[]) (args := [(.agg (kSystem x0 a0_0 n0_0 a0_1 n0_1)), (.agg (kRef x57.A))]) rfl co_ref03_Has (rfl) hw44 (c_ref03_Has N wd43 F2 hw44.pers (x0) a0_0 n0_0 hb0_0 (SlA.mono hs0_0 (le10.trans le21)) a0_1 n0_1 hb0_1 (SlA.mono hs0_1 (le10.trans le21)) (x57.A) _ hr72) ?_
     intro v74 F5 w75 hs76 le77 hp78
     obtain rfl := hp78
     refine Dt 7 29 4 (.bool (!r71)) (fun _ hq => run_not (t := 4) (x := (.tmp 28)) (a := r71) rfl) ?_
     refine Dt 8 30 4 _ (fun _ hq => mv 29 (.bool (!r71))) ?_
     refine DWP.split (!r71) (fun hb79 => ?_) (fun hb79 => ?_)
     ·have h80 := cond_t h73 hb79
      refine Dk [(9, 31), (10, 32), (11, 33), (12, 34), (13, 35), (14, 36), (15, 37), (16, 38)] 8 false 30 hb79 ?_
      refine Dt 17 39 4 _ (fun _ hq => p1 30 (.const (.bool true)) (.tmp 38) (.bool true) hb79) ?_
      obtain rfl := some_inj h80
      exact DWP.done (by kernel_rfl) ⟨F5, hs76, le77, e22, e23, e24, e25, e26, rfl⟩
     ·have h81 := cond_f h73 hb79
      refine Dg 9 31 25 _ 8 false 30 hb79 (fun _ hq => ld 25 3 b1 0 true 3 (.agg (kSystem x0 a0_0 n0_0 a0_1 n0_1)) (hq.1.2 0 _ _ rfl) e25) ?_
      refine Dg 10 32 23 _ 8 false 30 hb79 (fun _ hq => mv 1 (.slice (some ⟨b61, o62, none⟩) x1.length n1_0) e23) ?_
      refine Dg 11 33 3 _ 8 false 30 hb79 (fun _ hq => mv 8 (vi s18) e26) ?_
      obtain ⟨x82, hx83, h85⟩ := bind_some h81
      obtain ⟨hi84, hx83'⟩ := idx_spec hx83
      have hc87 := hE68 _ _ hx83'
      refine Dg 12 34 0 (.pointer (some ⟨b61, (o62 + (s18 : Int).toNat * 4), none⟩)) 8 false 30 hb79 (fun _ hq => ix 23 32 33 b61 o62 46 4 32 hi84) ?_
      refine Dg 13 35 0 (.pointer (some ⟨b61, ((o62 + (s18 : Int).toNat * 4) + 2), none⟩)) 8 false 30 hb79 (fun _ hq => fa 46 34 1 2 2 b61 (o62 + (s18 : Int).toNat * 4) ((o62 + (s18 : Int).toNat * 4) + 2)) ?_
      refine Dg 14 36 27 _ 8 false 30 hb79 (fun _ hq => lx 27 35 2 4 true 2 (.agg (kRef x82.B)) (hq.1.1 _ _ hF67) hc87) ?_
      refine DWP.one (i := 15) (by kernel_rfl) ?_
      obtain ⟨r88, hr89, h90⟩ := bind_some h85
      refine DStep.call (l' := [true, true, true, true, true, true, true, true, true, true, true, true, true, true, true, true, false, false]) (zd := true) (by kernel_rfl) (by kernel_rfl) (by kernel_rfl) (dst := (some 37)) (ty := 4) (g := (some (8, false))) (by kernel_rfl) (gd_y (d := 30) (by kernel_rfl) rfl hb79) (f0 := (.func 85)) (aos := #[(.tmp 31), (.tmp 36)]) (ats := #[25, 27]) (fid := 85) (first := #[]) (cap := #[]) (args := [(.agg (kSystem x0 a0_0 n0_0 a0_1 n0_1)), (.agg (kRef x82.B))]) rfl co_ref03_Has (rfl) hs76 (c_ref03_Has N w75 F5 hs76.pers (x0) a0_0 n0_0 hb0_0 (SlA.mono hs0_0 ((le10.trans le21).trans le77)) a0_1 n0_1 hb0_1 (SlA.mono hs0_1 ((le10.trans le21).trans le77)) (x82.B) _ hr89) ?_
      intro v91 F6 w92 hs93 le94 hp95
      obtain rfl := hp95
      refine Dg 16 38 4 (.bool (!r88)) 8 false 30 hb79 (fun _ hq => run_not (t := 4) (x := (.tmp 37)) (a := r88) rfl) ?_
      refine Dt 17 39 4 _ (fun _ hq => p0 30 (.const (.bool true)) (.tmp 38) (.bool (!r88)) hb79) ?_
      obtain rfl := some_inj h90
      exact DWP.done (by kernel_rfl) ⟨F6, hs93, (le77.trans le94), e22, e23, e24, e25, e26, rfl⟩
    ·rintro f w45 ⟨F4, hs46, le47, e49, e50, e51, e52, e53, e54⟩
     refine thenQ_nrm ?_
     refine CWP.cond (t := j48) (by kernel_rfl) e54 (fun hb96 => ?_) (fun hb96 => ?_)
     ·have h97 := cond_t h56 hb96
      refine Sq (Rg [0] ?_)
      refine V 6 30 (mc (vi 3) (vi 3)) ?_
      refine Nt ?_
      refine CWP.ret (by kernel_rfl) ?_
      refine blockQ_ret ?_
      refine thenQ_ret ?_
      refine thenQ_ret ?_
      refine blockQ_ret ?_
      have hret := iter_ret h97 hnx40
      subst hret
      refine .inr ?_
      refine thenQ_ret ?_
      have hfin := some_inj h17
      subst hfin
      exact ⟨e49, (vi 3), res_of (l := [.tmp 6]) (by kernel_rfl) (vs := [(vi 3)]) ⟨rfl, trivial⟩, (vi 3), F4, rfl, hs46.clear, rfl⟩
     ·have h98 := cond_f h56 hb96
      refine Sc ?_
      refine blockQ_nrm ?_
      refine thenQ_nrm ?_
      refine Rg [0, 1, 2] ?_
      refine V 20 3 (mv 8 (vi s18) e53) ?_
      refine V 21 3 (run_add (t := 3) (t' := 3) (x := (.tmp 20)) (y := (.const (vi 1))) (k := .i64) (a := s18) (b := 1) rfl rfl) ?_
      refine V 8 3 (ma 21 (vi (W64 (s18 + 1)))) ?_
      refine RWP.nil ?_
      have hn99 := iter_next h98 hnx40
      exact ⟨m37, Nat.lt_succ_self _, (W64 (s18 + 1)), F4, hn99, hs46, (le21.trans le47), e49, e50, e51, e52, rfl⟩
   ·have h100 := cond_f hb39 hb41
    refine CWP.exit (by kernel_rfl) ?_
    refine thenQ_ex ?_
    refine thenQ_ex ?_
    refine blockQ_hit rfl ?_
    have ho101 := iter_done h100 hnx40
    exact .inl ⟨rfl, s18, F2, ho101, hs20, le21, e22, e23, e24, e25⟩
  ·rintro f w28 ⟨s27, F3, rfl, hs29, le30, e31, e32, e33, e34⟩
   have h102 := k_done h17
   refine thenQ_nrm ?_
   refine Sq ?_
   refine Sq (Rg [0, 1, 2, 3, 4, 5] ?_)
   refine V 40 3 (mv 2 (vi x2) e33) ?_
   refine V 41 23 (mv 1 (.slice a1_0 x1.length n1_0) e32) ?_
   refine V 42 3 (ln 41 23 a1_0 x1.length n1_0 46 4 32) ?_
   refine V 43 3 (run_sub (t := 3) (t' := 3) (x := (.tmp 42)) (y := (.const (vi 1))) (k := .i64) (a := (x1.length : Int)) (b := 1) rfl rfl) ?_
   obtain ⟨r103, hr104, h105⟩ := bind_some h102
   refine Cl 44 4 83 #[(.tmp 40), (.const (vi 0)), (.tmp 43)] #[3, 3, 3] co_ref03_within hs29 (c_ref03_within N w28 F3 hs29.pers (x2) (0) ((W64 ((x1.length : Int) - 1))) _ hr104) ?_
   intro v106 F7 w107 hs108 le109 hp110
   obtain rfl := hp110
   refine V 45 4 (run_not (t := 4) (x := (.tmp 44)) (a := r103) rfl) ?_
   refine Nt ?_
   refine CWP.cond (t := (!r103)) (by kernel_rfl) rfl (fun hb111 => ?_) (fun hb111 => ?_)
   ·have h112 := cond_t h105 hb111
    refine Sq (Rg [0] ?_)
    refine V 6 30 (mc (vi 1) (vi 1)) ?_
    refine Nt ?_
    refine CWP.ret (by kernel_rfl) ?_
    refine thenQ_ret ?_
    have hfin := some_inj h112
    subst hfin
    exact ⟨e31, (vi 1), res_of (l := [.tmp 6]) (by kernel_rfl) (vs := [(vi 1)]) ⟨rfl, trivial⟩, (vi 1), F7, rfl, hs108.clear, rfl⟩
   ·have h113 := cond_f h105 hb111
    refine Sc ?_
    refine thenQ_nrm ?_
    refine Sq (Rg [0, 1, 2, 3] ?_)
    refine V 46 25 (ld 25 3 b1 0 true 3 (.agg (kSystem x0 a0_0 n0_0 a0_1 n0_1)) (hs108.ownAt (k := 0) rfl) e34) ?_
    refine V 47 23 (mv 1 (.slice a1_0 x1.length n1_0) e32) ?_
    obtain ⟨r114, hr115, h116⟩ := bind_some h113
    refine Cl 48 30 88 #[(.tmp 46), (.tmp 47)] #[25, 23] co_ref03_offered hs108 (c_ref03_offered N w107 F7 hs108.pers (x0) a0_0 n0_0 hb0_0 (SlA.mono hs0_0 ((le10.trans le30).trans le109)) a0_1 n0_1 hb0_1 (SlA.mono hs0_1 ((le10.trans le30).trans le109)) (x1) a1_0 n1_0 hb1_0 (SlA.mono hs1_0 ((le10.trans le30).trans le109)) _ hr115) ?_
    intro v117 F8 w118 hs119 le120 hp121
    obtain rfl := hp121
    refine V 7 30 (ma 48 (vi r114)) ?_
    refine Nss ?_
    refine Sq (Rg [0, 1] ?_)
    refine V 49 30 (mv 7 (vi r114)) ?_
    refine V 50 4 (run_neq (t := 30) (t' := 30) (x := (.tmp 49)) (y := (.const (vi 0))) (k := .i64) (a := r114) (b := 0) rfl rfl) ?_
    refine Nt ?_
    refine CWP.cond (t := (r114 != 0)) (by kernel_rfl) rfl (fun hb122 => ?_) (fun hb122 => ?_)
    ·have h123 := cond_t h116 hb122
     refine Sq (Rg [0, 1] ?_)
     refine V 51 30 (mv 7 (vi r114)) ?_
     refine V 6 30 (ma 51 (vi r114)) ?_
     refine Nt ?_
     refine CWP.ret (by kernel_rfl) ?_
     refine thenQ_ret ?_
     have hfin := some_inj h123
     subst hfin
     exact ⟨e31, (vi r114), res_of (l := [.tmp 6]) (by kernel_rfl) (vs := [(vi r114)]) ⟨rfl, trivial⟩, (vi r114), F8, rfl, hs119.clear, rfl⟩
    ·have h124 := cond_f h116 hb122
     refine Sc ?_
     refine thenQ_nrm ?_
     refine Sq (Rg [0, 1, 2, 3, 4, 5, 6, 7, 8, 9] ?_)
     refine V 53 25 (ld 25 3 b1 0 true 3 (.agg (kSystem x0 a0_0 n0_0 a0_1 n0_1)) (hs119.ownAt (k := 0) rfl) e34) ?_
     refine V 54 23 (mv 1 (.slice a1_0 x1.length n1_0) e32) ?_
     refine V 55 3 (mv 2 (vi x2) e33) ?_
     obtain ⟨r125, hr126, h127⟩ := bind_some h124
     refine Cl 56 124 91 #[(.tmp 53), (.tmp 54), (.tmp 55)] #[25, 23, 3] co_ref03_Offered hs119 (c_ref03_Offered N w118 F8 hs119.pers (x0) a0_0 n0_0 hb0_0 (SlA.mono hs0_0 (((le10.trans le30).trans le109).trans le120)) a0_1 n0_1 hb0_1 (SlA.mono hs0_1 (((le10.trans le30).trans le109).trans le120)) (x1) a1_0 n1_0 hb1_0 (SlA.mono hs1_0 (((le10.trans le30).trans le109).trans le120)) (x2) _ hr126) ?_
     intro v128 F9 w129 hs130 le131 hp132
     obtain ⟨ar125_0_0, nr125_0_0, ar125_0_1, nr125_0_1, rfl, hbr125_0_0, hsr125_0_0, hbr125_0_1, hsr125_0_1⟩ := hp132
     refine V 52 124 (mv 56 (.tuple #[(.agg (kSystem r125.1 ar125_0_0 nr125_0_0 ar125_0_1 nr125_0_1)), (.bool r125.2)])) ?_
     refine V 57 25 (ex 52 0 (.agg (kSystem r125.1 ar125_0_0 nr125_0_0 ar125_0_1 nr125_0_1)) (vs := #[(.agg (kSystem r125.1 ar125_0_0 nr125_0_0 ar125_0_1 nr125_0_1)), (.bool r125.2)])) ?_
     refine V 58 4 (ex 52 1 (.bool r125.2) (vs := #[(.agg (kSystem r125.1 ar125_0_0 nr125_0_0 ar125_0_1 nr125_0_1)), (.bool r125.2)])) ?_
     refine Al 9 0 25 #[(.slice none ([] : List Track).length 0), (.slice none ([] : List Tie).length 0), (vi 0)] hs130 (fun b133 w134 (hs135 : HS w0 F0 w134 F9 [(sb b133 #[(.slice none ([] : List Track).length 0), (.slice none ([] : List Tie).length 0), (vi 0)] 25), (sb b1 (kSystem x0 a0_0 n0_0 a0_1 n0_1) 25)]) => ?_)
     refine RWP.store (ty := 0) (g := none) (by kernel_rfl) rfl (x := (.tmp 9)) (y := (.tmp 57)) (t := 25) (gg := true) (s := 3) (v := (.agg (kSystem r125.1 ar125_0_0 nr125_0_0 ar125_0_1 nr125_0_1))) (b := b133) (o := 0) (C := #[(.slice none ([] : List Track).length 0), (.slice none ([] : List Tie).length 0), (vi 0)]) rfl rfl (by kernel_rfl) hs135 (k := 0) rfl rfl rfl rfl (C' := (kSystem r125.1 ar125_0_0 nr125_0_0 ar125_0_1 nr125_0_1)) rfl (fun w136 (hs137 : HS w0 F0 w136 F9 [(sb b133 (kSystem r125.1 ar125_0_0 nr125_0_0 ar125_0_1 nr125_0_1) 25), (sb b1 (kSystem x0 a0_0 n0_0 a0_1 n0_1) 25)]) => ?_)
     refine V 10 4 (ma 58 (.bool r125.2)) ?_
     refine Nss ?_
     refine Sq (Rg [0] ?_)
     refine V 59 4 (mv 10 (.bool r125.2)) ?_
     refine Nt ?_
     refine CWP.cond (t := r125.2) (by kernel_rfl) rfl (fun hb138 => ?_) (fun hb138 => ?_)
     ·have h139 := cond_t h127 hb138
      refine Sq (Rg [0] ?_)
      refine V 6 30 (mc (vi 3) (vi 3)) ?_
      refine Nt ?_
      refine CWP.ret (by kernel_rfl) ?_
      refine thenQ_ret ?_
      have hfin := some_inj h139
      subst hfin
      exact ⟨e31, (vi 3), res_of (l := [.tmp 6]) (by kernel_rfl) (vs := [(vi 3)]) ⟨rfl, trivial⟩, (vi 3), F9, rfl, hs137.clear, rfl⟩
     ·have h140 := cond_f h127 hb138
      refine Sc ?_
      refine thenQ_nrm ?_
      refine Sq (Rg [0] ?_)
      refine V 6 30 (mc (vi 0) (vi 0)) ?_
      refine Nt ?_
      refine CWP.ret (by kernel_rfl) ?_
      have hfin := some_inj h140
      subst hfin
      exact ⟨e31, (vi 0), res_of (l := [.tmp 6]) (by kernel_rfl) (vs := [(vi 0)]) ⟨rfl, trivial⟩, (vi 0), F9, rfl, hs137.clear, rfl⟩
end Go.Proofs.Ythbcnabeabcmlaa
namespace Go.Proofs.Ythbcnabeabcmlaa
open BF
section
variable {N : Nat} {s : System}
theorem hasAll_r (hf : FitS N s) {l : List Tie} (hl : Fit N l.length) {body : Int → Option (Flow Int Int)}
  (hb : body = fun s18 => (bif (decide (s18 < (l.length : Int))) then (((idx l s18).bind fun x54 => ((ref03_Has N s x54.A).bind fun r68 => (bif (!r68) then some true else ((idx l s18).bind fun x79 => ((ref03_Has N s x79.B).bind fun r85 => some (!r85)))))).bind fun j46 => (bif j46 then some (.ret 3) else some (.next (W64 (s18 + 1))))) else some (.done s18)))
  {τ : Type} (fd : Int → Option τ) (fr : Int → Option τ) : ((iter body N 0).bind fun o => o.k fr fd) = bif l.all (fun t => vHas s t.A && vHas s t.B) then fd l.length else fr 3 := by
 subst hb
 have h1 := hl.1
 rw [iter_check' (n := l.length) (atB l fun t => vHas s t.A && vHas s t.B) 3 (fun i hi => by
  simp only [lt_t hi, cond_true, idx_nat hi, Option.bind_some, has_r hf, atB_at hi]
  rw [W64_succ (by omega)]
  cases vHas s l[i].A <;> cases vHas s l[i].B <;> rfl) (by simp only [lt_f]; rfl) hl.2, ← all_allB]
theorem offered_r (hN : 1000000 ≤ N) (hf : FitS N s) {l : List Tie} (hl : Fit N l.length) (hsm : l.length ≤ 1000000) : ref03_offered N s l = some (vOff s l true) := by
 unfold ref03_offered vOff
 rw [check_r hf, Option.bind_some]
 by_cases h : vCheck s = 0
 ·have e : (vCheck s != 0) = false := by simp [h]
  rw [if_neg (by omega), e, cond_false, hasAll_r hf hl (body := ref03_offered_L0 N s l (vCheck s)) rfl]
  cases hall : l.all (fun t => vHas s t.A && vHas s t.B) with
  | false => rfl
  | true =>
   simp only [cond_true]
   have h1 := hl.1
   rw [iter_check' (n := l.length) (atB l (vTie s)) 1 (fun i hi => by
    have hm := List.all_eq_true.1 hall _ (List.getElem_mem hi)
    simp only [Bool.and_eq_true] at hm
    unfold ref03_offered_L1
    simp only [lt_t hi, cond_true, idx_nat hi, Option.bind_some, atB_at hi]
    rw [W64_succ (by omega)]
    unfold vTie
    rw [hm.1, hm.2]
    unfold bne
    cases l[i].A.Log == l[i].B.Log <;> rfl) (by unfold ref03_offered_L1; rw [lt_f]; rfl) hl.2, ← all_allB]
   have hT := (check_ok h).2.1
   have hlim : decide (W64 ((s.Ties.length : Int) + (l.length : Int)) > 400) = decide (s.Ties.length + l.length > 400) := by
    rw [W64_id (by omega) (by omega), decide_eq_decide]; omega
   rw [Bool.true_and]
   cases l.all (vTie s) with
   | false => rfl
   | true =>
    rw [if_neg (by simp), if_neg (by simp), cond_true, Closes_eq h hf hN, Option.bind_some, hlim]
    by_cases hc : Cls s
    ·rw [if_pos hc]
     by_cases h5 : s.Ties.length + l.length > 400
     ·simp [hc, h5]
     ·simp [hc, h5]
    ·rw [if_neg hc]; simp [hc]
 ·have e : (vCheck s != 0) = true := by simpa using h
  rw [if_pos h, e]; rfl
theorem with_eq {T : List Tie} (hT : T.length ≤ 400) (t : Tie) : ref03_with N (sysT s T) t = some (sysT s (T ++ [t])) := by
 unfold ref03_with sysT
 rw [apnd_ok (by simp; omega), Option.bind_some, apnd_ok (by simp; omega)]
 rfl
theorem Accept_r (hN : 1000000 ≤ N) (hf : FitS N s) {l : List Tie} (hl : Fit N l.length) (hsm : l.length ≤ 1000000) : ref03_Accept N s l = some (if vOff s l true ≠ 0 then ([], vOff s l true) else ((accF s l).2, 0)) := by
 unfold ref03_Accept
 rw [offered_r hN hf hl hsm, Option.bind_some]
 by_cases h0 : vOff s l true = 0
 ·obtain ⟨h, _, ht, hc, hlen⟩ := off_zero h0
  have e : (vOff s l true != 0) = false := by simp [h0]
  rw [e, cond_false, if_neg (by omega)]
  obtain ⟨o, ho, q, rfl⟩ := iter_ex (body := ref03_Accept_L0 N s l (vOff s l true)) l.length
   (fun i q => q = ((accF s (l.take i)).2, (i : Int), s.Tracks, (accF s (l.take i)).1, s.Window)) (fun o => ∃ q, o = .done ((accF s l).2, q)) (by
   rintro i q hi rfl
   unfold ref03_Accept_L0
   simp only
   by_cases hlt : i < l.length
   ·left
    have g := good_acc h hc ht i (by omega)
    have hgl := g.len
    have hal : (accF s (l.take i)).2.length = i := by rw [accF_len]; simp; omega
    have hmem := ht _ (List.getElem_mem hlt)
    have hv := g.snoc h hmem (by omega)
    have hfT : FitS N (sysT s ((accF s (l.take i)).1 ++ [l[i]])) := sysT_fit hf (by simp; omega) hN
    have hw := with_eq (N := N) (s := s) (T := (accF s (l.take i)).1) (by omega) l[i]
    have hcl := Closes_eq hv hfT hN
    rw [show sysT s (accF s (l.take i)).1 = ({ Tracks := s.Tracks, Ties := (accF s (l.take i)).1, Window := s.Window } : System) from rfl] at hw
    rw [lt_t hlt, cond_true, idx_nat hlt, Option.bind_some, hw, Option.bind_some, Option.bind_some]
    rw [show ({ Tracks := (sysT s ((accF s (l.take i)).1 ++ [l[i]])).Tracks, Ties := (sysT s ((accF s (l.take i)).1 ++ [l[i]])).Ties, Window := (sysT s ((accF s (l.take i)).1 ++ [l[i]])).Window } : System) = sysT s ((accF s (l.take i)).1 ++ [l[i]]) from rfl, hcl, Option.bind_some, W64_succ (by omega)]
    by_cases hcc : Cls (sysT s ((accF s (l.take i)).1 ++ [l[i]]))
    ·simp only [hcc, decide_true, cond_true, Option.bind_some]
     rw [apnd_ok (by rw [hal]; simp; omega), Option.bind_some]
     refine ⟨_, rfl, ?_, hlt⟩
     rw [accF_take s hlt]
     unfold accStep
     rw [if_pos hcc]
     rfl
    ·simp only [hcc, decide_false, cond_false, Option.bind_some]
     rw [apnd_ok (by rw [hal]; simp; omega), Option.bind_some]
     refine ⟨_, rfl, ?_, hlt⟩
     rw [accF_take s hlt]
     unfold accStep
     rw [if_neg hcc]
   ·have : i = l.length := by omega
    subst this
    right
    rw [lt_f, cond_false]
    refine ⟨_, rfl, (fun _ h => by cases h), ((l.length : Int), s.Tracks, (accF s l).1, s.Window), ?_⟩
    rw [List.take_length]) l.length N 0 ([], 0, s.Tracks, s.Ties, s.Window) (by omega) rfl hl.2
  rw [ho]; rfl
 ·have e : (vOff s l true != 0) = true := by simpa using h0
  rw [e, if_pos h0]; rfl
open Classical in
theorem Offered_r (hN : 1000000 ≤ N) (hf : FitS N s) {l : List Tie} (hl : Fit N l.length) (hsm : l.length ≤ 1000000) (h0 : vOff s l true = 0) {k : Nat} (hk : k < l.length) :
  ∃ q, ref03_Offered N s l (k : Int) = some (q, decide (Cls (sysT s ((accF s (l.take k)).1 ++ [l[k]])))) := by
 obtain ⟨h, _, ht, hc, hlen⟩ := off_zero h0
 unfold ref03_Offered
 rw [sub_take (by omega), Option.bind_some]
 have hp0 : vOff s (l.take k) true = 0 := off_of h (fun t hm => ht t (List.mem_of_mem_take hm)) hc (by simp; omega)
 rw [Accept_r hN hf (l := l.take k) ⟨by simp; omega, by simp; omega⟩ (by simp; omega), Option.bind_some, if_neg (by omega), Option.bind_some]
 have hjl : (accF s (l.take k)).2.length = k := by rw [accF_len]; simp; omega
 obtain ⟨o, ho, a, rfl⟩ := iter_ex (body := ref03_Offered_L0 N s l (k : Int) (accF s (l.take k)).2) k
  (fun i q => q = ((i : Int), s.Tracks, (accF s (l.take i)).1, s.Window)) (fun o => ∃ a, o = .done (a, s.Tracks, (accF s (l.take k)).1, s.Window)) (by
  rintro i q hi rfl
  unfold ref03_Offered_L0
  simp only [hjl]
  by_cases hlt : i < k
  ·left
   have g := good_acc h hc ht i (by omega)
   have hgl := g.len
   have hil : i < l.length := by omega
   have hb : (accF s (l.take k)).2[i]? = some (decide (Cls (sysT s ((accF s (l.take i)).1 ++ [l[i]])))) := by
    rw [accF_bools s l k (by omega), List.getElem?_take, if_pos hlt, accF_at s hil]
   have hw := with_eq (N := N) (s := s) (T := (accF s (l.take i)).1) (by omega) l[i]
   rw [show sysT s (accF s (l.take i)).1 = ({ Tracks := s.Tracks, Ties := (accF s (l.take i)).1, Window := s.Window } : System) from rfl] at hw
   rw [lt_t hlt, cond_true, idx_nat', hb, Option.bind_some, W64_succ (by omega)]
   by_cases hcc : Cls (sysT s ((accF s (l.take i)).1 ++ [l[i]]))
   ·simp only [hcc, decide_true, cond_true, idx_nat hil, Option.bind_some, hw]
    refine ⟨_, rfl, ?_, hlt⟩
    rw [accF_take s hil]
    unfold accStep
    rw [if_pos hcc]
    rfl
   ·simp only [hcc, decide_false, cond_false, Option.bind_some]
    refine ⟨_, rfl, ?_, hlt⟩
    rw [accF_take s hil]
    unfold accStep
    rw [if_neg hcc]
  ·have : i = k := by omega
   subst this
   right
   rw [lt_f, cond_false]
   exact ⟨_, rfl, (fun _ h => by cases h), _, rfl⟩) k N 0 (0, s.Tracks, s.Ties, s.Window) (by omega) rfl (by omega)
 rw [ho]
 simp only [Option.bind_some, Flow.k]
 have g := good_acc h hc ht k (by omega)
 have hgl := g.len
 have hmem := ht _ (List.getElem_mem hk)
 have hv := g.snoc h hmem (by omega)
 have hfT : FitS N (sysT s ((accF s (l.take k)).1 ++ [l[k]])) := sysT_fit hf (by simp; omega) hN
 have hw := with_eq (N := N) (s := s) (T := (accF s (l.take k)).1) (by omega) l[k]
 have hcl := Closes_eq hv hfT hN
 rw [show sysT s (accF s (l.take k)).1 = ({ Tracks := s.Tracks, Ties := (accF s (l.take k)).1, Window := s.Window } : System) from rfl] at hw
 simp only [idx_nat hk, Option.bind_some, hw]
 rw [show ({ Tracks := (sysT s ((accF s (l.take k)).1 ++ [l[k]])).Tracks, Ties := (sysT s ((accF s (l.take k)).1 ++ [l[k]])).Ties, Window := (sysT s ((accF s (l.take k)).1 ++ [l[k]])).Window } : System) = sysT s ((accF s (l.take k)).1 ++ [l[k]]) from rfl, hcl]
 exact ⟨_, rfl⟩
theorem sameBools_self (hN : 1000000 ≤ N) {l : List Bool} (hl : l.length ≤ 900000) : ref03_SameBools N l l = some true := by
 unfold ref03_SameBools
 simp only [bne_self_eq_false, cond_false]
 rw [iter_check' (n := l.length) (fun _ => true) false (fun i hi => by
  unfold ref03_SameBools_L0
  rw [lt_t hi, cond_true, idx_nat hi, W64_succ (by omega)]
  simp) (by unfold ref03_SameBools_L0; rw [lt_f]; rfl) (by omega)]
 rw [allB_of (fun _ _ => rfl)]; rfl
end
end Go.Proofs.Ythbcnabeabcmlaa
namespace Go.Proofs.Ythbcnabeabcmlaa
open Go.Proofs
def clocks_Offset (N : Nat) (x0 : System) (x1 : Ref) : Option (Span × Int) :=
 ((clocks_Interval N x0 x1).bind fun r10 => (bif (r10.2 != 0) then some (({ Lo := 0, Hi := 0 } : Span), r10.2) else (((idx x0.Tracks x1.Log).bind fun x40 => ((idx x40.Times x1.Line).bind fun x54 => some x54)).bind fun j33 => some (({ Lo := (W64 (j33 - r10.1.Hi)), Hi := (W64 (j33 - r10.1.Lo)) } : Span), 0))))
theorem co_clocks_Offset : CallOk Try.prog 24 := fun _ _ => by kernel_rfl
set_option maxHeartbeats 4000000 in
set_option maxRecDepth 100000 in
theorem c_clocks_Offset (N : Nat) (w0 : World) (F0 : Mem) (hF : ∀ b o, F0 b = some o → w0.heap[b]? = some o) (x0 : System) (a0_0 : Option Addr) (n0_0 : Nat) (hb0_0 : LC x0.Tracks.length n0_0) (hs0_0 : SlA tTrack F0 a0_0 x0.Tracks) (a0_1 : Option Addr) (n0_1 : Nat) (hb0_1 : LC x0.Ties.length n0_1) (hs0_1 : SlA tTie F0 a0_1 x0.Ties) (x1 : Ref) (r : (Span × Int)) (h : clocks_Offset N x0 x1 = some r) :
  Calls Try.prog 24 ([(.agg (kSystem x0 a0_0 n0_0 a0_1 n0_1)), (.agg (kRef x1))] : List Value).toArray w0 (FRet w0 F0 fun F' v => v = (.tuple #[(.agg (kSpan r.1)), (vi r.2)])) := by
 have hs0 := HS.start hF
 refine calls_of (n := 39) (c := bodyOf Try.f24) Try.func24 (by kernel_rfl) (by kernel_rfl) (by kernel_rfl) ?_
 refine Sq (Rg [0, 1, 2, 3] ?_)
 refine Bx 2 0 0 25 (kSystem x0 a0_0 n0_0 a0_1 n0_1) hs0 (fun b1 w2 (hs3 : HS w0 F0 w2 F0 [(sb b1 (kSystem x0 a0_0 n0_0 a0_1 n0_1) 25)]) => ?_)
 refine Bx 3 0 1 27 (kRef x1) hs3 (fun b4 w5 (hs6 : HS w0 F0 w5 F0 [(sb b4 (kRef x1) 27), (sb b1 (kSystem x0 a0_0 n0_0 a0_1 n0_1) 25)]) => ?_)
 refine Al 4 0 38 #[(vi 0), (vi 0)] hs6 (fun b7 w8 (hs9 : HS w0 F0 w8 F0 [(sb b7 #[(vi 0), (vi 0)] 38), (sb b4 (kRef x1) 27), (sb b1 (kSystem x0 a0_0 n0_0 a0_1 n0_1) 25)]) => ?_)
 refine V 5 30 (mc (vi 0) (vi 0)) ?_
 refine Nss (Rg [0, 1, 2, 3, 4, 5, 6, 7, 8] ?_)
 refine V 10 25 (ld 25 2 b1 0 true 3 (.agg (kSystem x0 a0_0 n0_0 a0_1 n0_1)) (hs9.ownAt (k := 2) rfl)) ?_
 refine V 11 27 (ld 27 3 b4 0 true 2 (.agg (kRef x1)) (hs9.ownAt (k := 1) rfl)) ?_
 obtain ⟨r10, hr11, h12⟩ := bind_some h
 refine Cl 12 39 21 #[(.tmp 10), (.tmp 11)] #[25, 27] co_clocks_Interval hs9 (c_clocks_Interval N w8 F0 hs9.pers (x0) a0_0 n0_0 hb0_0 hs0_0 a0_1 n0_1 hb0_1 hs0_1 (x1) _ hr11) ?_
 intro v13 F1 w14 hs15 le16 hp17
 obtain rfl := hp17
 refine V 9 39 (mv 12 (.tuple #[(.agg (kSpan r10.1)), (vi r10.2)])) ?_
 refine V 13 38 (ex 9 0 (.agg (kSpan r10.1)) (vs := #[(.agg (kSpan r10.1)), (vi r10.2)])) ?_
 refine V 14 30 (ex 9 1 (vi r10.2) (vs := #[(.agg (kSpan r10.1)), (vi r10.2)])) ?_
 refine Al 6 0 38 #[(vi 0), (vi 0)] hs15 (fun b18 w19 (hs20 : HS w0 F0 w19 F1 [(sb b18 #[(vi 0), (vi 0)] 38), (sb b7 #[(vi 0), (vi 0)] 38), (sb b4 (kRef x1) 27), (sb b1 (kSystem x0 a0_0 n0_0 a0_1 n0_1) 25)]) => ?_)
 refine RWP.store (ty := 0) (g := none) (by kernel_rfl) rfl (x := (.tmp 6)) (y := (.tmp 13)) (t := 38) (gg := true) (s := 2) (v := (.agg (kSpan r10.1))) (b := b18) (o := 0) (C := #[(vi 0), (vi 0)]) rfl rfl (by kernel_rfl) hs20 (k := 0) rfl rfl rfl rfl (C' := (kSpan r10.1)) rfl (fun w21 (hs22 : HS w0 F0 w21 F1 [(sb b18 (kSpan r10.1) 38), (sb b7 #[(vi 0), (vi 0)] 38), (sb b4 (kRef x1) 27), (sb b1 (kSystem x0 a0_0 n0_0 a0_1 n0_1) 25)]) => ?_)
 refine V 7 30 (ma 14 (vi r10.2)) ?_
 refine Nss ?_
 refine Sq (Rg [0, 1] ?_)
 refine V 15 30 (mv 7 (vi r10.2)) ?_
 refine V 16 4 (run_neq (t := 30) (t' := 30) (x := (.tmp 15)) (y := (.const (vi 0))) (k := .i64) (a := r10.2) (b := 0) rfl rfl) ?_
 refine Nt ?_
 refine CWP.cond (t := (r10.2 != 0)) (by kernel_rfl) rfl (fun hb23 => ?_) (fun hb23 => ?_)
 ·have h24 := cond_t h12 hb23
  refine Sq (Rg [0, 1, 2, 3] ?_)
  refine V 17 38 (run_build2 (t := 38) (parts := #[]) (vs := []) (rfl) (cs := [(vi 0), (vi 0)]) (by kernel_rfl)) ?_
  refine V 18 30 (mv 7 (vi r10.2)) ?_
  refine RWP.store (ty := 0) (g := none) (by kernel_rfl) rfl (x := (.tmp 4)) (y := (.tmp 17)) (t := 38) (gg := true) (s := 2) (v := (.agg #[(vi 0), (vi 0)])) (b := b7) (o := 0) (C := #[(vi 0), (vi 0)]) rfl rfl (by kernel_rfl) hs22 (k := 1) rfl rfl rfl rfl (C' := #[(vi 0), (vi 0)]) rfl (fun w25 (hs26 : HS w0 F0 w25 F1 [(sb b18 (kSpan r10.1) 38), (sb b7 #[(vi 0), (vi 0)] 38), (sb b4 (kRef x1) 27), (sb b1 (kSystem x0 a0_0 n0_0 a0_1 n0_1) 25)]) => ?_)
  refine V 5 30 (ma 18 (vi r10.2)) ?_
  refine Nt ?_
  refine CWP.ret (by kernel_rfl) ?_
  refine thenQ_ret ?_
  have hfin := some_inj h24
  subst hfin
  exact ⟨rfl, (.tuple #[(.agg #[(vi 0), (vi 0)]), (vi r10.2)]), res_of (l := [.cell 4 38, .tmp 5]) (by kernel_rfl) (vs := [(.agg #[(vi 0), (vi 0)]), (vi r10.2)]) ⟨b7, 0, rfl, run_loadVar' (t := 38) (g := true) (s := 2) (by kernel_rfl) (hs26.ownAt (k := 1) rfl) rfl (by decide), ⟨rfl, trivial⟩⟩, (.tuple #[(.agg #[(vi 0), (vi 0)]), (vi r10.2)]), F1, rfl, hs26.clear, rfl⟩
 ·have h27 := cond_f h12 hb23
  refine Sc ?_
  refine thenQ_nrm ?_
  refine Sq ?_
  obtain ⟨j33, hj38, h39⟩ := bind_some h27
  refine CWP.regionD (by kernel_rfl) (by kernel_rfl) (by kernel_rfl) (by kernel_rfl) (z := 12) (F := F1) (Lc := [(sb b18 (kSpan r10.1) 38), (sb b7 #[(vi 0), (vi 0)] 38), (sb b4 (kRef x1) 27), (sb b1 (kSystem x0 a0_0 n0_0 a0_1 n0_1) 25)]) (Lz := []) (l := [false, false, false, false, false, false, false, false, false, false, false, false]) (fuel := 12) (by kernel_rfl) (by kernel_rfl) hs22 (by simp) (by simp) (fun f w => ∃ (F2 : Mem), HS w0 F0 w F2 [(sb b18 (kSpan r10.1) 38), (sb b7 #[(vi 0), (vi 0)] 38)] ∧ Mem.le F1 F2 ∧ f.d = [] ∧ f 4 = (.pointer (some ⟨b7, 0, none⟩)) ∧ f 6 = (.pointer (some ⟨b18, 0, none⟩)) ∧ f 8 = (vi j33)) (fun wd28 hw29 => ?_) ?_
  ·refine Dt 0 19 0 (.pointer (some ⟨b1, 0, none⟩)) (fun _ hq => fa 25 2 0 0 1 b1 0 0) ?_
   refine Dt 1 20 22 _ (fun _ hq => ld 22 19 b1 0 false 1 (.slice a0_0 x0.Tracks.length n0_0) (hq.1.2 3 _ _ rfl)) ?_
   refine Dt 2 21 0 (.pointer (some ⟨b4, 0, none⟩)) (fun _ hq => fa 27 3 0 0 1 b4 0 0) ?_
   refine Dt 3 22 3 _ (fun _ hq => ld 3 21 b4 0 false 1 (vi x1.Log) (hq.1.2 2 _ _ rfl)) ?_
   obtain ⟨x40, hx41, h43⟩ := bind_some hj38
   obtain ⟨hi42, hx41'⟩ := idx_spec hx41
   obtain ⟨b44, o45, C46, E47, fz48, rfl, hF50, hE51⟩ := SlA.open (SlA.mono hs0_0 le16) hx41'
   obtain ⟨ae52_2, ne52_2, ae52_3, ne52_3, hc53, hbe52_2, hse52_2, hbe52_3, hse52_3⟩ := hE51 _ _ hx41'
   refine Dt 4 23 0 (.pointer (some ⟨b44, (o45 + (x1.Log : Int).toNat * 4), none⟩)) (fun _ hq => ix 22 20 22 b44 o45 54 4 64 hi42) ?_
   refine Dt 5 24 0 (.pointer (some ⟨b44, ((o45 + (x1.Log : Int).toNat * 4) + 3), none⟩)) (fun _ hq => fa 54 23 1 3 1 b44 (o45 + (x1.Log : Int).toNat * 4) ((o45 + (x1.Log : Int).toNat * 4) + 3)) ?_
   refine Dt 6 25 50 _ (fun _ hq => lx 50 24 3 4 false 1 (.slice ae52_3 x40.Times.length ne52_3) (hq.1.1 _ _ hF50) hc53) ?_
   refine Dt 7 26 0 (.pointer (some ⟨b4, 1, none⟩)) (fun _ hq => fa 27 3 1 1 1 b4 0 1) ?_
   refine Dt 8 27 3 _ (fun _ hq => ld 3 26 b4 1 false 1 (vi x1.Line) (hq.1.2 2 _ _ rfl)) ?_
   obtain ⟨x54, hx55, h57⟩ := bind_some h43
   obtain ⟨hi56, hx55'⟩ := idx_spec hx55
   obtain ⟨b58, o59, C60, E61, fz62, rfl, hF64, hE65⟩ := SlA.open hse52_3 hx55'
   have hc67 := hE65 _ _ hx55'
   refine Dt 9 28 0 (.pointer (some ⟨b58, (o59 + (x1.Line : Int).toNat * 1), none⟩)) (fun _ hq => ix 50 25 27 b58 o59 3 1 8 hi56) ?_
   refine Dt 10 29 3 _ (fun _ hq => lx 3 28 0 1 false 1 (vi x54) (hq.1.1 _ _ hF64) hc67) ?_
   refine Dt 11 8 3 _ (fun _ hq => ma 29 (vi x54)) ?_
   obtain rfl := some_inj h57
   have hs68 : HS w0 F0 wd28 F1 [(sb b18 (kSpan r10.1) 38), (sb b7 #[(vi 0), (vi 0)] 38), (sb b1 (kSystem x0 (some ⟨b44, o45, none⟩) n0_0 a0_1 n0_1) 25)] := hw29.drop 2
   have hs69 : HS w0 F0 wd28 F1 [(sb b18 (kSpan r10.1) 38), (sb b7 #[(vi 0), (vi 0)] 38)] := hs68.drop 2
   exact DWP.done (by kernel_rfl) ⟨F1, hs69, (Mem.le.refl _), rfl, rfl, rfl, rfl⟩
  ·rintro f w30 ⟨F2, hs31, le32, e34, e35, e36, e37⟩
   refine thenQ_nrm ?_
   refine Sq (Rg [0, 1, 2, 3, 4, 5, 6, 7, 8, 9, 10] ?_)
   refine V 30 3 (mv 8 (vi j33) e37) ?_
   refine V 31 0 (fa 38 6 1 1 1 b18 0 1 e36) ?_
   refine V 32 3 (ld 3 31 b18 1 false 1 (vi r10.1.Hi) (hs31.ownAt (k := 0) rfl)) ?_
   refine V 33 3 (run_sub (t := 3) (t' := 3) (x := (.tmp 30)) (y := (.tmp 32)) (k := .i64) (a := j33) (b := r10.1.Hi) rfl rfl) ?_
   refine V 34 3 (mv 8 (vi j33) e37) ?_
   refine V 35 0 (fa 38 6 0 0 1 b18 0 0 e36) ?_
   refine V 36 3 (ld 3 35 b18 0 false 1 (vi r10.1.Lo) (hs31.ownAt (k := 0) rfl)) ?_
   refine V 37 3 (run_sub (t := 3) (t' := 3) (x := (.tmp 34)) (y := (.tmp 36)) (k := .i64) (a := j33) (b := r10.1.Lo) rfl rfl) ?_
   refine V 38 38 (run_build2 (t := 38) (parts := #[(0, (.tmp 33)), (1, (.tmp 37))]) (vs := [(0, (vi (W64 (j33 - r10.1.Hi)))), (1, (vi (W64 (j33 - r10.1.Lo))))]) (rfl) (cs := [(vi (W64 (j33 - r10.1.Hi))), (vi (W64 (j33 - r10.1.Lo)))]) (by kernel_rfl)) ?_
   refine RWP.store (ty := 0) (g := none) (by kernel_rfl) rfl (x := (.tmp 4)) (y := (.tmp 38)) (t := 38) (gg := true) (s := 2) (v := (.agg #[(vi (W64 (j33 - r10.1.Hi))), (vi (W64 (j33 - r10.1.Lo)))])) (b := b7) (o := 0) (C := #[(vi 0), (vi 0)]) e35 rfl (by kernel_rfl) hs31 (k := 1) rfl rfl rfl rfl (C' := #[(vi (W64 (j33 - r10.1.Hi))), (vi (W64 (j33 - r10.1.Lo)))]) rfl (fun w70 (hs71 : HS w0 F0 w70 F2 [(sb b18 (kSpan r10.1) 38), (sb b7 #[(vi (W64 (j33 - r10.1.Hi))), (vi (W64 (j33 - r10.1.Lo)))] 38)]) => ?_)
   refine V 5 30 (mc (vi 0) (vi 0)) ?_
   refine Nt ?_
   refine CWP.ret (by kernel_rfl) ?_
   have hfin := some_inj h39
   subst hfin
   exact ⟨e34, (.tuple #[(.agg #[(vi (W64 (j33 - r10.1.Hi))), (vi (W64 (j33 - r10.1.Lo)))]), (vi 0)]), res_of (l := [.cell 4 38, .tmp 5]) (by kernel_rfl) (vs := [(.agg #[(vi (W64 (j33 - r10.1.Hi))), (vi (W64 (j33 - r10.1.Lo)))]), (vi 0)]) ⟨b7, 0, e35, run_loadVar' (t := 38) (g := true) (s := 2) (by kernel_rfl) (hs71.ownAt (k := 1) rfl) rfl (by decide), ⟨rfl, trivial⟩⟩, (.tuple #[(.agg #[(vi (W64 (j33 - r10.1.Hi))), (vi (W64 (j33 - r10.1.Lo)))]), (vi 0)]), F2, rfl, hs71.clear, rfl⟩
end Go.Proofs.Ythbcnabeabcmlaa
namespace Go.Proofs.Ythbcnabeabcmlaa
open Go.Proofs
def clocks_Before (N : Nat) (x0 : System) (x1 : Ref) (x2 : Ref) : Option (Bool × Int) :=
 ((clocks_Relation N x0 x1 x2).bind fun r10 => some (((r10.2 == 0) && (decide (r10.1.Lo > 0))), r10.2))
theorem co_clocks_Before : CallOk Try.prog 30 := fun _ _ => by kernel_rfl
set_option maxHeartbeats 4000000 in
set_option maxRecDepth 100000 in
theorem c_clocks_Before (N : Nat) (w0 : World) (F0 : Mem) (hF : ∀ b o, F0 b = some o → w0.heap[b]? = some o) (x0 : System) (a0_0 : Option Addr) (n0_0 : Nat) (hb0_0 : LC x0.Tracks.length n0_0) (hs0_0 : SlA tTrack F0 a0_0 x0.Tracks) (a0_1 : Option Addr) (n0_1 : Nat) (hb0_1 : LC x0.Ties.length n0_1) (hs0_1 : SlA tTie F0 a0_1 x0.Ties) (x1 : Ref) (x2 : Ref) (r : (Bool × Int)) (h : clocks_Before N x0 x1 x2 = some r) :
  Calls Try.prog 30 ([(.agg (kSystem x0 a0_0 n0_0 a0_1 n0_1)), (.agg (kRef x1)), (.agg (kRef x2))] : List Value).toArray w0 (FRet w0 F0 fun F' v => v = (.tuple #[(.bool r.1), (vi r.2)])) := by
 have hs0 := HS.start hF
 refine calls_of (n := 25) (c := bodyOf Try.f30) Try.func30 (by kernel_rfl) (by kernel_rfl) (by kernel_rfl) ?_
 refine Sq (Rg [0, 1, 2, 3, 4] ?_)
 refine Bx 3 0 0 25 (kSystem x0 a0_0 n0_0 a0_1 n0_1) hs0 (fun b1 w2 (hs3 : HS w0 F0 w2 F0 [(sb b1 (kSystem x0 a0_0 n0_0 a0_1 n0_1) 25)]) => ?_)
 refine Bx 4 0 1 27 (kRef x1) hs3 (fun b4 w5 (hs6 : HS w0 F0 w5 F0 [(sb b4 (kRef x1) 27), (sb b1 (kSystem x0 a0_0 n0_0 a0_1 n0_1) 25)]) => ?_)
 refine Bx 5 0 2 27 (kRef x2) hs6 (fun b7 w8 (hs9 : HS w0 F0 w8 F0 [(sb b7 (kRef x2) 27), (sb b4 (kRef x1) 27), (sb b1 (kSystem x0 a0_0 n0_0 a0_1 n0_1) 25)]) => ?_)
 refine V 6 4 (mc (.bool false) (.bool false)) ?_
 refine V 7 30 (mc (vi 0) (vi 0)) ?_
 refine Nss (Rg [0, 1, 2, 3, 4, 5, 6, 7, 8, 9] ?_)
 refine V 11 25 (ld 25 3 b1 0 true 3 (.agg (kSystem x0 a0_0 n0_0 a0_1 n0_1)) (hs9.ownAt (k := 2) rfl)) ?_
 refine V 12 27 (ld 27 4 b4 0 true 2 (.agg (kRef x1)) (hs9.ownAt (k := 1) rfl)) ?_
 refine V 13 27 (ld 27 5 b7 0 true 2 (.agg (kRef x2)) (hs9.ownAt (k := 0) rfl)) ?_
 obtain ⟨r10, hr11, h12⟩ := bind_some h
 refine Cl 14 39 20 #[(.tmp 11), (.tmp 12), (.tmp 13)] #[25, 27, 27] co_clocks_Relation hs9 (c_clocks_Relation N w8 F0 hs9.pers (x0) a0_0 n0_0 hb0_0 hs0_0 a0_1 n0_1 hb0_1 hs0_1 (x1) (x2) _ hr11) ?_
 intro v13 F1 w14 hs15 le16 hp17
 obtain rfl := hp17
 refine V 10 39 (mv 14 (.tuple #[(.agg (kSpan r10.1)), (vi r10.2)])) ?_
 refine V 15 38 (ex 10 0 (.agg (kSpan r10.1)) (vs := #[(.agg (kSpan r10.1)), (vi r10.2)])) ?_
 refine V 16 30 (ex 10 1 (vi r10.2) (vs := #[(.agg (kSpan r10.1)), (vi r10.2)])) ?_
 refine Al 8 0 38 #[(vi 0), (vi 0)] hs15 (fun b18 w19 (hs20 : HS w0 F0 w19 F1 [(sb b18 #[(vi 0), (vi 0)] 38), (sb b7 (kRef x2) 27), (sb b4 (kRef x1) 27), (sb b1 (kSystem x0 a0_0 n0_0 a0_1 n0_1) 25)]) => ?_)
 refine RWP.store (ty := 0) (g := none) (by kernel_rfl) rfl (x := (.tmp 8)) (y := (.tmp 15)) (t := 38) (gg := true) (s := 2) (v := (.agg (kSpan r10.1))) (b := b18) (o := 0) (C := #[(vi 0), (vi 0)]) rfl rfl (by kernel_rfl) hs20 (k := 0) rfl rfl rfl rfl (C' := (kSpan r10.1)) rfl (fun w21 (hs22 : HS w0 F0 w21 F1 [(sb b18 (kSpan r10.1) 38), (sb b7 (kRef x2) 27), (sb b4 (kRef x1) 27), (sb b1 (kSystem x0 a0_0 n0_0 a0_1 n0_1) 25)]) => ?_)
 refine V 9 30 (ma 16 (vi r10.2)) ?_
 refine Nss (Rg [0, 1, 2, 3, 4, 5, 6, 7, 8, 9] ?_)
 refine RWP.cut (fun f w => ∃ (F2 : Mem), HS w0 F0 w F2 [] ∧ Mem.le F1 F2 ∧ f.d = [] ∧ f 6 = (.bool ((r10.2 == 0) && (decide (r10.1.Lo > 0)))) ∧ f 7 = (vi r10.2)) ?_ ?_
 ·refine V 17 30 (mv 9 (vi r10.2)) ?_
  refine V 18 4 (run_eql (t := 30) (t' := 30) (x := (.tmp 17)) (y := (.const (vi 0))) (k := .i64) (a := r10.2) (b := 0) rfl rfl) ?_
  refine V 19 4 (mv 18 (.bool (r10.2 == 0))) ?_
  refine RWP.split (r10.2 == 0) (fun hb29 => ?_) (fun hb29 => ?_)
  ·refine Vg 20 0 2 true 19 hb29 (fa 38 8 0 0 1 b18 0 0) ?_
   refine Vg 21 3 2 true 19 hb29 (ld 3 20 b18 0 false 1 (vi r10.1.Lo) (hs22.ownAt (k := 0) rfl)) ?_
   refine Vg 22 4 2 true 19 hb29 (run_gtr (t := 3) (t' := 3) (x := (.tmp 21)) (y := (.const (vi 0))) (k := .i64) (a := r10.1.Lo) (b := 0) rfl rfl) ?_
   refine V 23 4 (p1 19 (.tmp 22) (.const (.bool false)) (.bool (decide (r10.1.Lo > 0))) hb29) ?_
   refine V 24 30 (mv 9 (vi r10.2)) ?_
   refine V 6 4 (ma 23 (.bool (decide (r10.1.Lo > 0)))) ?_
   refine V 7 30 (ma 24 (vi r10.2)) ?_
   have hs30 : HS w0 F0 w21 F1 [(sb b7 (kRef x2) 27), (sb b4 (kRef x1) 27), (sb b1 (kSystem x0 a0_0 n0_0 a0_1 n0_1) 25)] := hs22.drop 0
   have hs31 : HS w0 F0 w21 F1 [(sb b4 (kRef x1) 27), (sb b1 (kSystem x0 a0_0 n0_0 a0_1 n0_1) 25)] := hs30.drop 0
   have hs32 : HS w0 F0 w21 F1 [(sb b1 (kSystem x0 a0_0 n0_0 a0_1 n0_1) 25)] := hs31.drop 0
   have hs33 : HS w0 F0 w21 F1 [] := hs32.drop 0
   exact RWP.nil ⟨rfl, F1, hs33, (Mem.le.refl _), rfl, (congrArg Value.bool (and_t hb29 (rfl))), rfl⟩
  ·refine Sk [20, 21, 22] 2 true 19 hb29 ?_
   refine V 23 4 (p0 19 (.tmp 22) (.const (.bool false)) (.bool false) hb29) ?_
   refine V 24 30 (mv 9 (vi r10.2)) ?_
   refine V 6 4 (ma 23 (.bool false)) ?_
   refine V 7 30 (ma 24 (vi r10.2)) ?_
   have hs34 : HS w0 F0 w21 F1 [(sb b7 (kRef x2) 27), (sb b4 (kRef x1) 27), (sb b1 (kSystem x0 a0_0 n0_0 a0_1 n0_1) 25)] := hs22.drop 0
   have hs35 : HS w0 F0 w21 F1 [(sb b4 (kRef x1) 27), (sb b1 (kSystem x0 a0_0 n0_0 a0_1 n0_1) 25)] := hs34.drop 0
   have hs36 : HS w0 F0 w21 F1 [(sb b1 (kSystem x0 a0_0 n0_0 a0_1 n0_1) 25)] := hs35.drop 0
   have hs37 : HS w0 F0 w21 F1 [] := hs36.drop 0
   exact RWP.nil ⟨rfl, F1, hs37, (Mem.le.refl _), rfl, (congrArg Value.bool (and_f hb29 (rfl))), rfl⟩
 ·rintro f w23 ⟨F2, hs24, le25, e26, e27, e28⟩
  refine thenQ_nrm ?_
  refine CWP.ret (by kernel_rfl) ?_
  have hfin := some_inj h12
  subst hfin
  exact ⟨e26, (.tuple #[(.bool ((r10.2 == 0) && (decide (r10.1.Lo > 0)))), (vi r10.2)]), res_of (l := [.tmp 6, .tmp 7]) (by kernel_rfl) (vs := [(.bool ((r10.2 == 0) && (decide (r10.1.Lo > 0)))), (vi r10.2)]) ⟨e27, ⟨e28, trivial⟩⟩, (.tuple #[(.bool ((r10.2 == 0) && (decide (r10.1.Lo > 0)))), (vi r10.2)]), F2, rfl, hs24.clear, rfl⟩
end Go.Proofs.Ythbcnabeabcmlaa
namespace Go.Proofs.Ythbcnabeabcmlaa
open Go.Proofs
def law03_pair (N : Nat) (x0 : Bool) : Option System :=
 ((bif x0 then some [({ A := ({ Log := 0, Line := 0 } : Ref), B := ({ Log := 1, Line := 0 } : Ref) } : Tie)] else some ([] : List Tie)).bind fun j35 => some ({ Tracks := [({ Clock := ({ Slip := 10, Drift := 0, Jumps := ([] : List Int) } : Clock), Times := [100, 160] } : Track), ({ Clock := ({ Slip := 3, Drift := 0, Jumps := ([] : List Int) } : Clock), Times := [95, 158] } : Track)], Ties := j35, Window := 2 } : System))
theorem co_law03_pair : CallOk Try.prog 64 := fun _ _ => by kernel_rfl
set_option maxHeartbeats 4000000 in
set_option maxRecDepth 100000 in
theorem c_law03_pair (N : Nat) (w0 : World) (F0 : Mem) (hF : ∀ b o, F0 b = some o → w0.heap[b]? = some o) (x0 : Bool) (r : System) (h : law03_pair N x0 = some r) :
  Calls Try.prog 64 ([(.bool x0)] : List Value).toArray w0 (FRet w0 F0 fun F' v => ∃ (aq0_0 : Option Addr) (nq0_0 : Nat) (aq0_1 : Option Addr) (nq0_1 : Nat), v = (.agg (kSystem r aq0_0 nq0_0 aq0_1 nq0_1)) ∧ LC r.Tracks.length nq0_0 ∧ SlA tTrack F' aq0_0 r.Tracks ∧ LC r.Ties.length nq0_1 ∧ SlA tTie F' aq0_1 r.Ties) := by
 have hs0 := HS.start hF
 refine calls_of (n := 19) (c := bodyOf Try.f64) Try.func64 (by kernel_rfl) (by kernel_rfl) (by kernel_rfl) ?_
 refine Sq (Rg [0] ?_)
 refine Al 2 0 25 #[(.slice none ([] : List Track).length 0), (.slice none ([] : List Tie).length 0), (vi 0)] hs0 (fun b1 w2 (hs3 : HS w0 F0 w2 F0 [(sb b1 #[(.slice none ([] : List Track).length 0), (.slice none ([] : List Tie).length 0), (vi 0)] 25)]) => ?_)
 refine Nss (Rg [0, 1, 2, 3, 4, 5, 6, 7, 8, 9] ?_)
 refine V 4 52 (run_build2 (t := 52) (parts := #[(0, (.const (vi 10)))]) (vs := [(0, (vi 10))]) (rfl) (cs := [(vi 10), (vi 0), (.slice none ([] : List Int).length 0)]) (by kernel_rfl)) ?_
 refine RWP.buildSlice (dst := (some 5)) (ty := 50) (g := none) (by kernel_rfl) rfl (t := 50) (len := 2) (parts := #[(0, (.const (vi 100))), (1, (.const (vi 160)))]) (vs := [(0, (vi 100)), (1, (vi 160))]) (rfl) (E := 3) (cs := [(vi 100), (vi 160)]) (by kernel_rfl) hs3 (fun b4 w5 (hs6 : HS w0 F0 w5 F0 [(some b4, .cells ([(vi 100), (vi 160)] : List Value).toArray 3 (0, 0)), (sb b1 #[(.slice none ([] : List Track).length 0), (.slice none ([] : List Tie).length 0), (vi 0)] 25)]) => ?_)
 have hr8 : RowR tInt 3 F0 (some ⟨b4, 0, none⟩) 2 [100, 160] (some b4, .cells ([(vi 100), (vi 160)] : List Value).toArray 3 (0, 0)) := RowR.lit ⟨rfl, ⟨rfl, rfl⟩⟩ (by simp)
 refine V 6 54 (run_build2 (t := 54) (parts := #[(0, (.tmp 4)), (1, (.tmp 5))]) (vs := [(0, (.agg #[(vi 10), (vi 0), (.slice none ([] : List Int).length 0)])), (1, (.slice (some ⟨b4, 0, none⟩) [100, 160].length 2))]) (rfl) (cs := [(vi 10), (vi 0), (.slice none ([] : List Int).length 0), (.slice (some ⟨b4, 0, none⟩) [100, 160].length 2)]) (by kernel_rfl)) ?_
 refine V 7 52 (run_build2 (t := 52) (parts := #[(0, (.const (vi 3)))]) (vs := [(0, (vi 3))]) (rfl) (cs := [(vi 3), (vi 0), (.slice none ([] : List Int).length 0)]) (by kernel_rfl)) ?_
 refine RWP.buildSlice (dst := (some 8)) (ty := 50) (g := none) (by kernel_rfl) rfl (t := 50) (len := 2) (parts := #[(0, (.const (vi 95))), (1, (.const (vi 158)))]) (vs := [(0, (vi 95)), (1, (vi 158))]) (rfl) (E := 3) (cs := [(vi 95), (vi 158)]) (by kernel_rfl) hs6 (fun b9 w10 (hs11 : HS w0 F0 w10 F0 [(some b9, .cells ([(vi 95), (vi 158)] : List Value).toArray 3 (0, 0)), (some b4, .cells ([(vi 100), (vi 160)] : List Value).toArray 3 (0, 0)), (sb b1 #[(.slice none ([] : List Track).length 0), (.slice none ([] : List Tie).length 0), (vi 0)] 25)]) => ?_)
 have hr13 : RowR tInt 3 F0 (some ⟨b9, 0, none⟩) 2 [95, 158] (some b9, .cells ([(vi 95), (vi 158)] : List Value).toArray 3 (0, 0)) := RowR.lit ⟨rfl, ⟨rfl, rfl⟩⟩ (by simp)
 refine V 9 54 (run_build2 (t := 54) (parts := #[(0, (.tmp 7)), (1, (.tmp 8))]) (vs := [(0, (.agg #[(vi 3), (vi 0), (.slice none ([] : List Int).length 0)])), (1, (.slice (some ⟨b9, 0, none⟩) [95, 158].length 2))]) (rfl) (cs := [(vi 3), (vi 0), (.slice none ([] : List Int).length 0), (.slice (some ⟨b9, 0, none⟩) [95, 158].length 2)]) (by kernel_rfl)) ?_
 have hb17 := RowR.bound hr8
 obtain ⟨F1, hs14, le15, hs16⟩ : ∃ Fq, HS w0 F0 w10 Fq [(some b9, .cells ([(vi 95), (vi 158)] : List Value).toArray 3 (0, 0)), (sb b1 #[(.slice none ([] : List Track).length 0), (.slice none ([] : List Tie).length 0), (vi 0)] 25)] ∧ Mem.le F0 Fq ∧ SlA tInt Fq (some ⟨b4, 0, none⟩) [100, 160] := HS.freezeRow hs11 (k := 1) rfl hr8
 have hb21 := RowR.bound (hr13.mono le15)
 obtain ⟨F2, hs18, le19, hs20⟩ : ∃ Fq, HS w0 F0 w10 Fq [(sb b1 #[(.slice none ([] : List Track).length 0), (.slice none ([] : List Tie).length 0), (vi 0)] 25)] ∧ Mem.le F1 Fq ∧ SlA tInt Fq (some ⟨b9, 0, none⟩) [95, 158] := HS.freezeRow hs14 (k := 0) rfl (hr13.mono le15)
 refine RWP.buildSlice (dst := (some 10)) (ty := 22) (g := none) (by kernel_rfl) rfl (t := 22) (len := 2) (parts := #[(0, (.tmp 6)), (1, (.tmp 9))]) (vs := [(0, (.agg #[(vi 10), (vi 0), (.slice none ([] : List Int).length 0), (.slice (some ⟨b4, 0, none⟩) [100, 160].length 2)])), (1, (.agg #[(vi 3), (vi 0), (.slice none ([] : List Int).length 0), (.slice (some ⟨b9, 0, none⟩) [95, 158].length 2)]))]) (rfl) (E := 54) (cs := [(vi 10), (vi 0), (.slice none ([] : List Int).length 0), (.slice (some ⟨b4, 0, none⟩) [100, 160].length 2), (vi 3), (vi 0), (.slice none ([] : List Int).length 0), (.slice (some ⟨b9, 0, none⟩) [95, 158].length 2)]) (by kernel_rfl) hs18 (fun b22 w23 (hs24 : HS w0 F0 w23 F2 [(some b22, .cells ([(vi 10), (vi 0), (.slice none ([] : List Int).length 0), (.slice (some ⟨b4, 0, none⟩) [100, 160].length 2), (vi 3), (vi 0), (.slice none ([] : List Int).length 0), (.slice (some ⟨b9, 0, none⟩) [95, 158].length 2)] : List Value).toArray 54 (0, 0)), (sb b1 #[(.slice none ([] : List Track).length 0), (.slice none ([] : List Tie).length 0), (vi 0)] 25)]) => ?_)
 have hr26 : RowR tTrack 54 F2 (some ⟨b22, 0, none⟩) 2 [({ Clock := ({ Slip := 10, Drift := 0, Jumps := ([] : List Int) } : Clock), Times := [100, 160] } : Track), ({ Clock := ({ Slip := 3, Drift := 0, Jumps := ([] : List Int) } : Clock), Times := [95, 158] } : Track)] (some b22, .cells ([(vi 10), (vi 0), (.slice none ([] : List Int).length 0), (.slice (some ⟨b4, 0, none⟩) [100, 160].length 2), (vi 3), (vi 0), (.slice none ([] : List Int).length 0), (.slice (some ⟨b9, 0, none⟩) [95, 158].length 2)] : List Value).toArray 54 (0, 0)) := RowR.lit ⟨⟨none, 0, (some ⟨b4, 0, none⟩), 2, rfl, LC.nil, (.inl rfl), hb17, (SlA.mono hs16 le19)⟩, ⟨⟨none, 0, (some ⟨b9, 0, none⟩), 2, rfl, LC.nil, (.inl rfl), hb21, hs20⟩, rfl⟩⟩ (by simp)
 refine V 11 25 (run_build2 (t := 25) (parts := #[(0, (.tmp 10)), (2, (.const (vi 2)))]) (vs := [(0, (.slice (some ⟨b22, 0, none⟩) [({ Clock := ({ Slip := 10, Drift := 0, Jumps := ([] : List Int) } : Clock), Times := [100, 160] } : Track), ({ Clock := ({ Slip := 3, Drift := 0, Jumps := ([] : List Int) } : Clock), Times := [95, 158] } : Track)].length 2)), (2, (vi 2))]) (rfl) (cs := [(.slice (some ⟨b22, 0, none⟩) [({ Clock := ({ Slip := 10, Drift := 0, Jumps := ([] : List Int) } : Clock), Times := [100, 160] } : Track), ({ Clock := ({ Slip := 3, Drift := 0, Jumps := ([] : List Int) } : Clock), Times := [95, 158] } : Track)].length 2), (.slice none ([] : List Tie).length 0), (vi 2)]) (by kernel_rfl)) ?_
 refine Al 3 0 25 #[(.slice none ([] : List Track).length 0), (.slice none ([] : List Tie).length 0), (vi 0)] hs24 (fun b27 w28 (hs29 : HS w0 F0 w28 F2 [(sb b27 #[(.slice none ([] : List Track).length 0), (.slice none ([] : List Tie).length 0), (vi 0)] 25), (some b22, .cells ([(vi 10), (vi 0), (.slice none ([] : List Int).length 0), (.slice (some ⟨b4, 0, none⟩) [100, 160].length 2), (vi 3), (vi 0), (.slice none ([] : List Int).length 0), (.slice (some ⟨b9, 0, none⟩) [95, 158].length 2)] : List Value).toArray 54 (0, 0)), (sb b1 #[(.slice none ([] : List Track).length 0), (.slice none ([] : List Tie).length 0), (vi 0)] 25)]) => ?_)
 refine RWP.store (ty := 0) (g := none) (by kernel_rfl) rfl (x := (.tmp 3)) (y := (.tmp 11)) (t := 25) (gg := true) (s := 3) (v := (.agg #[(.slice (some ⟨b22, 0, none⟩) [({ Clock := ({ Slip := 10, Drift := 0, Jumps := ([] : List Int) } : Clock), Times := [100, 160] } : Track), ({ Clock := ({ Slip := 3, Drift := 0, Jumps := ([] : List Int) } : Clock), Times := [95, 158] } : Track)].length 2), (.slice none ([] : List Tie).length 0), (vi 2)])) (b := b27) (o := 0) (C := #[(.slice none ([] : List Track).length 0), (.slice none ([] : List Tie).length 0), (vi 0)]) rfl rfl (by kernel_rfl) hs29 (k := 0) rfl rfl rfl rfl (C' := #[(.slice (some ⟨b22, 0, none⟩) [({ Clock := ({ Slip := 10, Drift := 0, Jumps := ([] : List Int) } : Clock), Times := [100, 160] } : Track), ({ Clock := ({ Slip := 3, Drift := 0, Jumps := ([] : List Int) } : Clock), Times := [95, 158] } : Track)].length 2), (.slice none ([] : List Tie).length 0), (vi 2)]) rfl (fun w30 (hs31 : HS w0 F0 w30 F2 [(sb b27 #[(.slice (some ⟨b22, 0, none⟩) [({ Clock := ({ Slip := 10, Drift := 0, Jumps := ([] : List Int) } : Clock), Times := [100, 160] } : Track), ({ Clock := ({ Slip := 3, Drift := 0, Jumps := ([] : List Int) } : Clock), Times := [95, 158] } : Track)].length 2), (.slice none ([] : List Tie).length 0), (vi 2)] 25), (some b22, .cells ([(vi 10), (vi 0), (.slice none ([] : List Int).length 0), (.slice (some ⟨b4, 0, none⟩) [100, 160].length 2), (vi 3), (vi 0), (.slice none ([] : List Int).length 0), (.slice (some ⟨b9, 0, none⟩) [95, 158].length 2)] : List Value).toArray 54 (0, 0)), (sb b1 #[(.slice none ([] : List Track).length 0), (.slice none ([] : List Tie).length 0), (vi 0)] 25)]) => ?_)
 refine Nss ?_
 refine Sq (Rg [0] ?_)
 refine V 12 4 (mv 0 (.bool x0)) ?_
 refine Nt ?_
 obtain ⟨j35, hj39, h40⟩ := bind_some h
 refine CWP.cut (fun f w => ∃ (F3 : Mem) (aj35_0 : Option Addr) (nj35_0 : Nat), HS w0 F0 w F3 [(sb b27 #[(.slice (some ⟨b22, 0, none⟩) [({ Clock := ({ Slip := 10, Drift := 0, Jumps := ([] : List Int) } : Clock), Times := [100, 160] } : Track), ({ Clock := ({ Slip := 3, Drift := 0, Jumps := ([] : List Int) } : Clock), Times := [95, 158] } : Track)].length 2), (.slice aj35_0 j35.length nj35_0), (vi 2)] 25), (some b22, .cells ([(vi 10), (vi 0), (.slice none ([] : List Int).length 0), (.slice (some ⟨b4, 0, none⟩) [100, 160].length 2), (vi 3), (vi 0), (.slice none ([] : List Int).length 0), (.slice (some ⟨b9, 0, none⟩) [95, 158].length 2)] : List Value).toArray 54 (0, 0)), (sb b1 #[(.slice none ([] : List Track).length 0), (.slice none ([] : List Tie).length 0), (vi 0)] 25)] ∧ Mem.le F2 F3 ∧ f.d = [] ∧ f 2 = (.pointer (some ⟨b1, 0, none⟩)) ∧ f 3 = (.pointer (some ⟨b27, 0, none⟩)) ∧ LC j35.length nj35_0 ∧ SlA tTie F3 aj35_0 j35) ?_ ?_
 ·refine CWP.cond (t := x0) (by kernel_rfl) rfl (fun hb41 => ?_) (fun hb41 => ?_)
  ·have h42 := cond_t hj39 hb41
   refine Rg [0, 1, 2, 3, 4, 5] ?_
   refine V 13 27 (run_build2 (t := 27) (parts := #[(0, (.const (vi 0))), (1, (.const (vi 0)))]) (vs := [(0, (vi 0)), (1, (vi 0))]) (rfl) (cs := [(vi 0), (vi 0)]) (by kernel_rfl)) ?_
   refine V 14 27 (run_build2 (t := 27) (parts := #[(0, (.const (vi 1))), (1, (.const (vi 0)))]) (vs := [(0, (vi 1)), (1, (vi 0))]) (rfl) (cs := [(vi 1), (vi 0)]) (by kernel_rfl)) ?_
   refine V 15 46 (run_build2 (t := 46) (parts := #[(0, (.tmp 13)), (1, (.tmp 14))]) (vs := [(0, (.agg #[(vi 0), (vi 0)])), (1, (.agg #[(vi 1), (vi 0)]))]) (rfl) (cs := [(vi 0), (vi 0), (vi 1), (vi 0)]) (by kernel_rfl)) ?_
   refine RWP.buildSlice (dst := (some 16)) (ty := 23) (g := none) (by kernel_rfl) rfl (t := 23) (len := 1) (parts := #[(0, (.tmp 15))]) (vs := [(0, (.agg #[(vi 0), (vi 0), (vi 1), (vi 0)]))]) (rfl) (E := 46) (cs := [(vi 0), (vi 0), (vi 1), (vi 0)]) (by kernel_rfl) hs31 (fun b43 w44 (hs45 : HS w0 F0 w44 F2 [(some b43, .cells ([(vi 0), (vi 0), (vi 1), (vi 0)] : List Value).toArray 46 (0, 0)), (sb b27 #[(.slice (some ⟨b22, 0, none⟩) [({ Clock := ({ Slip := 10, Drift := 0, Jumps := ([] : List Int) } : Clock), Times := [100, 160] } : Track), ({ Clock := ({ Slip := 3, Drift := 0, Jumps := ([] : List Int) } : Clock), Times := [95, 158] } : Track)].length 2), (.slice none ([] : List Tie).length 0), (vi 2)] 25), (some b22, .cells ([(vi 10), (vi 0), (.slice none ([] : List Int).length 0), (.slice (some ⟨b4, 0, none⟩) [100, 160].length 2), (vi 3), (vi 0), (.slice none ([] : List Int).length 0), (.slice (some ⟨b9, 0, none⟩) [95, 158].length 2)] : List Value).toArray 54 (0, 0)), (sb b1 #[(.slice none ([] : List Track).length 0), (.slice none ([] : List Tie).length 0), (vi 0)] 25)]) => ?_)
   have hr47 : RowR tTie 46 F2 (some ⟨b43, 0, none⟩) 1 [({ A := ({ Log := 0, Line := 0 } : Ref), B := ({ Log := 1, Line := 0 } : Ref) } : Tie)] (some b43, .cells ([(vi 0), (vi 0), (vi 1), (vi 0)] : List Value).toArray 46 (0, 0)) := RowR.lit ⟨rfl, rfl⟩ (by simp)
   refine V 17 0 (fa 25 3 1 1 1 b27 0 1) ?_
   refine RWP.store (ty := 0) (g := none) (by kernel_rfl) rfl (x := (.tmp 17)) (y := (.tmp 16)) (t := 23) (gg := false) (s := 1) (v := (.slice (some ⟨b43, 0, none⟩) [({ A := ({ Log := 0, Line := 0 } : Ref), B := ({ Log := 1, Line := 0 } : Ref) } : Tie)].length 1)) (b := b27) (o := 1) (C := #[(.slice (some ⟨b22, 0, none⟩) [({ Clock := ({ Slip := 10, Drift := 0, Jumps := ([] : List Int) } : Clock), Times := [100, 160] } : Track), ({ Clock := ({ Slip := 3, Drift := 0, Jumps := ([] : List Int) } : Clock), Times := [95, 158] } : Track)].length 2), (.slice none ([] : List Tie).length 0), (vi 2)]) rfl rfl (by kernel_rfl) hs45 (k := 1) rfl rfl rfl rfl (C' := #[(.slice (some ⟨b22, 0, none⟩) [({ Clock := ({ Slip := 10, Drift := 0, Jumps := ([] : List Int) } : Clock), Times := [100, 160] } : Track), ({ Clock := ({ Slip := 3, Drift := 0, Jumps := ([] : List Int) } : Clock), Times := [95, 158] } : Track)].length 2), (.slice (some ⟨b43, 0, none⟩) [({ A := ({ Log := 0, Line := 0 } : Ref), B := ({ Log := 1, Line := 0 } : Ref) } : Tie)].length 1), (vi 2)]) rfl (fun w48 (hs49 : HS w0 F0 w48 F2 [(some b43, .cells ([(vi 0), (vi 0), (vi 1), (vi 0)] : List Value).toArray 46 (0, 0)), (sb b27 #[(.slice (some ⟨b22, 0, none⟩) [({ Clock := ({ Slip := 10, Drift := 0, Jumps := ([] : List Int) } : Clock), Times := [100, 160] } : Track), ({ Clock := ({ Slip := 3, Drift := 0, Jumps := ([] : List Int) } : Clock), Times := [95, 158] } : Track)].length 2), (.slice (some ⟨b43, 0, none⟩) [({ A := ({ Log := 0, Line := 0 } : Ref), B := ({ Log := 1, Line := 0 } : Ref) } : Tie)].length 1), (vi 2)] 25), (some b22, .cells ([(vi 10), (vi 0), (.slice none ([] : List Int).length 0), (.slice (some ⟨b4, 0, none⟩) [100, 160].length 2), (vi 3), (vi 0), (.slice none ([] : List Int).length 0), (.slice (some ⟨b9, 0, none⟩) [95, 158].length 2)] : List Value).toArray 54 (0, 0)), (sb b1 #[(.slice none ([] : List Track).length 0), (.slice none ([] : List Tie).length 0), (vi 0)] 25)]) => ?_)
   refine RWP.nil ?_
   obtain rfl := some_inj h42
   have hb53 := RowR.bound hr47
   obtain ⟨F4, hs50, le51, hs52⟩ : ∃ Fq, HS w0 F0 w48 Fq [(sb b27 #[(.slice (some ⟨b22, 0, none⟩) [({ Clock := ({ Slip := 10, Drift := 0, Jumps := ([] : List Int) } : Clock), Times := [100, 160] } : Track), ({ Clock := ({ Slip := 3, Drift := 0, Jumps := ([] : List Int) } : Clock), Times := [95, 158] } : Track)].length 2), (.slice (some ⟨b43, 0, none⟩) [({ A := ({ Log := 0, Line := 0 } : Ref), B := ({ Log := 1, Line := 0 } : Ref) } : Tie)].length 1), (vi 2)] 25), (some b22, .cells ([(vi 10), (vi 0), (.slice none ([] : List Int).length 0), (.slice (some ⟨b4, 0, none⟩) [100, 160].length 2), (vi 3), (vi 0), (.slice none ([] : List Int).length 0), (.slice (some ⟨b9, 0, none⟩) [95, 158].length 2)] : List Value).toArray 54 (0, 0)), (sb b1 #[(.slice none ([] : List Track).length 0), (.slice none ([] : List Tie).length 0), (vi 0)] 25)] ∧ Mem.le F2 Fq ∧ SlA tTie Fq (some ⟨b43, 0, none⟩) [({ A := ({ Log := 0, Line := 0 } : Ref), B := ({ Log := 1, Line := 0 } : Ref) } : Tie)] := HS.freezeRow hs49 (k := 0) rfl hr47
   exact .inl ⟨rfl, F4, (some ⟨b43, 0, none⟩), 1, hs50, le51, rfl, rfl, rfl, hb53, hs52⟩
  ·have h54 := cond_f hj39 hb41
   refine Sc ?_
   obtain rfl := some_inj h54
   exact .inl ⟨rfl, F2, none, 0, hs31, (Mem.le.refl _), rfl, rfl, rfl, LC.nil, (.inl rfl)⟩
 ·rintro f w32 ⟨F3, aj35_0, nj35_0, hs33, le34, e36, e37, e38, hbj35_0, hsj35_0⟩
  refine thenQ_nrm ?_
  refine Sq (Rg [0, 1] ?_)
  refine V 18 25 (ld 25 3 b27 0 true 3 (.agg #[(.slice (some ⟨b22, 0, none⟩) [({ Clock := ({ Slip := 10, Drift := 0, Jumps := ([] : List Int) } : Clock), Times := [100, 160] } : Track), ({ Clock := ({ Slip := 3, Drift := 0, Jumps := ([] : List Int) } : Clock), Times := [95, 158] } : Track)].length 2), (.slice aj35_0 j35.length nj35_0), (vi 2)]) (hs33.ownAt (k := 0) rfl) e38) ?_
  refine RWP.store (ty := 0) (g := none) (by kernel_rfl) rfl (x := (.tmp 2)) (y := (.tmp 18)) (t := 25) (gg := true) (s := 3) (v := (.agg #[(.slice (some ⟨b22, 0, none⟩) [({ Clock := ({ Slip := 10, Drift := 0, Jumps := ([] : List Int) } : Clock), Times := [100, 160] } : Track), ({ Clock := ({ Slip := 3, Drift := 0, Jumps := ([] : List Int) } : Clock), Times := [95, 158] } : Track)].length 2), (.slice aj35_0 j35.length nj35_0), (vi 2)])) (b := b1) (o := 0) (C := #[(.slice none ([] : List Track).length 0), (.slice none ([] : List Tie).length 0), (vi 0)]) e37 rfl (by kernel_rfl) hs33 (k := 2) rfl rfl rfl rfl (C' := #[(.slice (some ⟨b22, 0, none⟩) [({ Clock := ({ Slip := 10, Drift := 0, Jumps := ([] : List Int) } : Clock), Times := [100, 160] } : Track), ({ Clock := ({ Slip := 3, Drift := 0, Jumps := ([] : List Int) } : Clock), Times := [95, 158] } : Track)].length 2), (.slice aj35_0 j35.length nj35_0), (vi 2)]) rfl (fun w55 (hs56 : HS w0 F0 w55 F3 [(sb b27 #[(.slice (some ⟨b22, 0, none⟩) [({ Clock := ({ Slip := 10, Drift := 0, Jumps := ([] : List Int) } : Clock), Times := [100, 160] } : Track), ({ Clock := ({ Slip := 3, Drift := 0, Jumps := ([] : List Int) } : Clock), Times := [95, 158] } : Track)].length 2), (.slice aj35_0 j35.length nj35_0), (vi 2)] 25), (some b22, .cells ([(vi 10), (vi 0), (.slice none ([] : List Int).length 0), (.slice (some ⟨b4, 0, none⟩) [100, 160].length 2), (vi 3), (vi 0), (.slice none ([] : List Int).length 0), (.slice (some ⟨b9, 0, none⟩) [95, 158].length 2)] : List Value).toArray 54 (0, 0)), (sb b1 #[(.slice (some ⟨b22, 0, none⟩) [({ Clock := ({ Slip := 10, Drift := 0, Jumps := ([] : List Int) } : Clock), Times := [100, 160] } : Track), ({ Clock := ({ Slip := 3, Drift := 0, Jumps := ([] : List Int) } : Clock), Times := [95, 158] } : Track)].length 2), (.slice aj35_0 j35.length nj35_0), (vi 2)] 25)]) => ?_)
  refine Nt ?_
  refine CWP.ret (by kernel_rfl) ?_
  have hb60 := RowR.bound (hr26.mono le34)
  obtain ⟨F5, hs57, le58, hs59⟩ : ∃ Fq, HS w0 F0 w55 Fq [(sb b27 #[(.slice (some ⟨b22, 0, none⟩) [({ Clock := ({ Slip := 10, Drift := 0, Jumps := ([] : List Int) } : Clock), Times := [100, 160] } : Track), ({ Clock := ({ Slip := 3, Drift := 0, Jumps := ([] : List Int) } : Clock), Times := [95, 158] } : Track)].length 2), (.slice aj35_0 j35.length nj35_0), (vi 2)] 25), (sb b1 #[(.slice (some ⟨b22, 0, none⟩) [({ Clock := ({ Slip := 10, Drift := 0, Jumps := ([] : List Int) } : Clock), Times := [100, 160] } : Track), ({ Clock := ({ Slip := 3, Drift := 0, Jumps := ([] : List Int) } : Clock), Times := [95, 158] } : Track)].length 2), (.slice aj35_0 j35.length nj35_0), (vi 2)] 25)] ∧ Mem.le F3 Fq ∧ SlA tTrack Fq (some ⟨b22, 0, none⟩) [({ Clock := ({ Slip := 10, Drift := 0, Jumps := ([] : List Int) } : Clock), Times := [100, 160] } : Track), ({ Clock := ({ Slip := 3, Drift := 0, Jumps := ([] : List Int) } : Clock), Times := [95, 158] } : Track)] := HS.freezeRow hs56 (k := 1) rfl (hr26.mono le34)
  have hfin := some_inj h40
  subst hfin
  exact ⟨e36, (.agg #[(.slice (some ⟨b22, 0, none⟩) [({ Clock := ({ Slip := 10, Drift := 0, Jumps := ([] : List Int) } : Clock), Times := [100, 160] } : Track), ({ Clock := ({ Slip := 3, Drift := 0, Jumps := ([] : List Int) } : Clock), Times := [95, 158] } : Track)].length 2), (.slice aj35_0 j35.length nj35_0), (vi 2)]), res_of (l := [.cell 2 25]) (by kernel_rfl) (vs := [(.agg #[(.slice (some ⟨b22, 0, none⟩) [({ Clock := ({ Slip := 10, Drift := 0, Jumps := ([] : List Int) } : Clock), Times := [100, 160] } : Track), ({ Clock := ({ Slip := 3, Drift := 0, Jumps := ([] : List Int) } : Clock), Times := [95, 158] } : Track)].length 2), (.slice aj35_0 j35.length nj35_0), (vi 2)])]) ⟨b1, 0, e37, run_loadVar' (t := 25) (g := true) (s := 3) (by kernel_rfl) (hs57.ownAt (k := 1) rfl) rfl (by decide), trivial⟩, (.agg #[(.slice (some ⟨b22, 0, none⟩) [({ Clock := ({ Slip := 10, Drift := 0, Jumps := ([] : List Int) } : Clock), Times := [100, 160] } : Track), ({ Clock := ({ Slip := 3, Drift := 0, Jumps := ([] : List Int) } : Clock), Times := [95, 158] } : Track)].length 2), (.slice aj35_0 j35.length nj35_0), (vi 2)]), F5, rfl, hs57.clear, ⟨(some ⟨b22, 0, none⟩), 2, aj35_0, nj35_0, rfl, hb60, hs59, hbj35_0, (SlA.mono hsj35_0 le58)⟩⟩
end Go.Proofs.Ythbcnabeabcmlaa
namespace Go.Proofs.Ythbcnabeabcmlaa
open Go.Proofs
def law03_awake (N : Nat)  : Option Bool :=
 ((law03_pair N true).bind fun r1 => ((clocks_Times N r1).bind fun r9 => ((law03_pair N true).bind fun r17 => ((clocks_Offset N r17 ({ Log := 0, Line := 0 } : Ref)).bind fun r25 => ((law03_pair N false).bind fun r38 => ((clocks_Accept N r38 ([({ A := ({ Log := 0, Line := 0 } : Ref), B := ({ Log := 1, Line := 1 } : Ref) } : Tie), ({ A := ({ Log := 0, Line := 0 } : Ref), B := ({ Log := 1, Line := 0 } : Ref) } : Tie)])).bind fun r55 => ((law03_pair N false).bind fun r63 => ((clocks_Before N r63 ({ Log := 1, Line := 0 } : Ref) ({ Log := 0, Line := 1 } : Ref)).bind fun r71 => ((bif (r9.2 != 0) then some true else (bif ((r9.1.length : Int) != 2) then some true else ((idx r9.1 0).bind fun x99 => (bif ((x99.length : Int) != 2) then some true else ((idx r9.1 0).bind fun x116 => ((idx x116 0).bind fun x122 => (bif (!((x122.Lo == 90) && ((x122.Hi == 100) && true))) then some true else ((idx r9.1 0).bind fun x139 => ((idx x139 1).bind fun x145 => some (!((x145.Lo == 150) && ((x145.Hi == 161) && true)))))))))))).bind fun j82 => (bif j82 then some false else ((bif (r25.2 == 0) then (bif ((r25.1.Lo == 0) && ((r25.1.Hi == 10) && true)) then (bif (r55.2 == 0) then (bif ((r55.1.length : Int) == 2) then ((idx r55.1 0).bind fun x178 => (bif (!x178) then ((idx r55.1 1).bind fun x194 => (bif x194 then (bif r71.1 then some (r71.2 == 0) else some false) else some false)) else some false)) else some false) else some false) else some false) else some false).bind fun j165 => some j165)))))))))))
theorem co_law03_awake : CallOk Try.prog 15 := fun _ _ => by kernel_rfl
set_option maxHeartbeats 4000000 in
set_option maxRecDepth 100000 in
theorem c_law03_awake (N : Nat) (w0 : World) (F0 : Mem) (hF : ∀ b o, F0 b = some o → w0.heap[b]? = some o)  (r : Bool) (h : law03_awake N  = some r) :
  Calls Try.prog 15 ([] : List Value).toArray w0 (FRet w0 F0 fun F' v => v = (.bool r)) := by
 have hs0 := HS.start hF
 refine calls_of (n := 105) (c := bodyOf Try.f15) Try.func15 (by kernel_rfl) (by kernel_rfl) (by kernel_rfl) ?_
 refine Sq (Rg [0] ?_)
 refine V 0 4 (mc (.bool false) (.bool false)) ?_
 refine Nss (Rg [0, 1, 2, 3, 4, 5, 6] ?_)
 obtain ⟨r1, hr2, h3⟩ := bind_some h
 refine Cl 10 25 64 #[(.const (.bool true))] #[4] co_law03_pair hs0 (c_law03_pair N w0 F0 hs0.pers (true) _ hr2) ?_
 intro v4 F1 w5 hs6 le7 hp8
 obtain ⟨ar1_0_0, nr1_0_0, ar1_0_1, nr1_0_1, rfl, hbr1_0_0, hsr1_0_0, hbr1_0_1, hsr1_0_1⟩ := hp8
 obtain ⟨r9, hr10, h11⟩ := bind_some h3
 refine Cl 11 34 19 #[(.tmp 10)] #[25] co_clocks_Times hs6 (c_clocks_Times N w5 F1 hs6.pers (r1) ar1_0_0 nr1_0_0 hbr1_0_0 hsr1_0_0 ar1_0_1 nr1_0_1 hbr1_0_1 hsr1_0_1 _ hr10) ?_
 intro v12 F2 w13 hs14 le15 hp16
 obtain ⟨ar9_0_0, nr9_0_0, rfl, hbr9_0_0, hsr9_0_0⟩ := hp16
 refine V 9 34 (mv 11 (.tuple #[(.slice ar9_0_0 r9.1.length nr9_0_0), (vi r9.2)])) ?_
 refine V 12 33 (ex 9 0 (.slice ar9_0_0 r9.1.length nr9_0_0) (vs := #[(.slice ar9_0_0 r9.1.length nr9_0_0), (vi r9.2)])) ?_
 refine V 13 30 (ex 9 1 (vi r9.2) (vs := #[(.slice ar9_0_0 r9.1.length nr9_0_0), (vi r9.2)])) ?_
 refine V 1 33 (ma 12 (.slice ar9_0_0 r9.1.length nr9_0_0)) ?_
 refine V 2 30 (ma 13 (vi r9.2)) ?_
 refine Nss (Rg [0, 1, 2, 3, 4, 5, 6, 7, 8] ?_)
 obtain ⟨r17, hr18, h19⟩ := bind_some h11
 refine Cl 15 25 64 #[(.const (.bool true))] #[4] co_law03_pair hs14 (c_law03_pair N w13 F2 hs14.pers (true) _ hr18) ?_
 intro v20 F3 w21 hs22 le23 hp24
 obtain ⟨ar17_0_0, nr17_0_0, ar17_0_1, nr17_0_1, rfl, hbr17_0_0, hsr17_0_0, hbr17_0_1, hsr17_0_1⟩ := hp24
 refine V 16 27 (run_build2 (t := 27) (parts := #[]) (vs := []) (rfl) (cs := [(vi 0), (vi 0)]) (by kernel_rfl)) ?_
 obtain ⟨r25, hr26, h27⟩ := bind_some h19
 refine Cl 17 39 24 #[(.tmp 15), (.tmp 16)] #[25, 27] co_clocks_Offset hs22 (c_clocks_Offset N w21 F3 hs22.pers (r17) ar17_0_0 nr17_0_0 hbr17_0_0 hsr17_0_0 ar17_0_1 nr17_0_1 hbr17_0_1 hsr17_0_1 (({ Log := 0, Line := 0 } : Ref)) _ hr26) ?_
 intro v28 F4 w29 hs30 le31 hp32
 obtain rfl := hp32
 refine V 14 39 (mv 17 (.tuple #[(.agg (kSpan r25.1)), (vi r25.2)])) ?_
 refine V 18 38 (ex 14 0 (.agg (kSpan r25.1)) (vs := #[(.agg (kSpan r25.1)), (vi r25.2)])) ?_
 refine V 19 30 (ex 14 1 (vi r25.2) (vs := #[(.agg (kSpan r25.1)), (vi r25.2)])) ?_
 refine Al 3 0 38 #[(vi 0), (vi 0)] hs30 (fun b33 w34 (hs35 : HS w0 F0 w34 F4 [(sb b33 #[(vi 0), (vi 0)] 38)]) => ?_)
 refine RWP.store (ty := 0) (g := none) (by kernel_rfl) rfl (x := (.tmp 3)) (y := (.tmp 18)) (t := 38) (gg := true) (s := 2) (v := (.agg (kSpan r25.1))) (b := b33) (o := 0) (C := #[(vi 0), (vi 0)]) rfl rfl (by kernel_rfl) hs35 (k := 0) rfl rfl rfl rfl (C' := (kSpan r25.1)) rfl (fun w36 (hs37 : HS w0 F0 w36 F4 [(sb b33 (kSpan r25.1) 38)]) => ?_)
 refine V 4 30 (ma 19 (vi r25.2)) ?_
 refine Nss (Rg [0, 1, 2, 3, 4, 5, 6, 7, 8, 9, 10, 11, 12, 13] ?_)
 obtain ⟨r38, hr39, h40⟩ := bind_some h27
 refine Cl 21 25 64 #[(.const (.bool false))] #[4] co_law03_pair hs37 (c_law03_pair N w36 F4 hs37.pers (false) _ hr39) ?_
 intro v41 F5 w42 hs43 le44 hp45
 obtain ⟨ar38_0_0, nr38_0_0, ar38_0_1, nr38_0_1, rfl, hbr38_0_0, hsr38_0_0, hbr38_0_1, hsr38_0_1⟩ := hp45
 refine V 22 27 (run_build2 (t := 27) (parts := #[]) (vs := []) (rfl) (cs := [(vi 0), (vi 0)]) (by kernel_rfl)) ?_
 refine V 23 27 (run_build2 (t := 27) (parts := #[(0, (.const (vi 1))), (1, (.const (vi 1)))]) (vs := [(0, (vi 1)), (1, (vi 1))]) (rfl) (cs := [(vi 1), (vi 1)]) (by kernel_rfl)) ?_
 refine V 24 46 (run_build2 (t := 46) (parts := #[(0, (.tmp 22)), (1, (.tmp 23))]) (vs := [(0, (.agg #[(vi 0), (vi 0)])), (1, (.agg #[(vi 1), (vi 1)]))]) (rfl) (cs := [(vi 0), (vi 0), (vi 1), (vi 1)]) (by kernel_rfl)) ?_
 refine V 25 27 (run_build2 (t := 27) (parts := #[]) (vs := []) (rfl) (cs := [(vi 0), (vi 0)]) (by kernel_rfl)) ?_
 refine V 26 27 (run_build2 (t := 27) (parts := #[(0, (.const (vi 1)))]) (vs := [(0, (vi 1))]) (rfl) (cs := [(vi 1), (vi 0)]) (by kernel_rfl)) ?_
 refine V 27 46 (run_build2 (t := 46) (parts := #[(0, (.tmp 25)), (1, (.tmp 26))]) (vs := [(0, (.agg #[(vi 0), (vi 0)])), (1, (.agg #[(vi 1), (vi 0)]))]) (rfl) (cs := [(vi 0), (vi 0), (vi 1), (vi 0)]) (by kernel_rfl)) ?_
 refine RWP.buildSlice (dst := (some 28)) (ty := 23) (g := none) (by kernel_rfl) rfl (t := 23) (len := 2) (parts := #[(0, (.tmp 24)), (1, (.tmp 27))]) (vs := [(0, (.agg #[(vi 0), (vi 0), (vi 1), (vi 1)])), (1, (.agg #[(vi 0), (vi 0), (vi 1), (vi 0)]))]) (rfl) (E := 46) (cs := [(vi 0), (vi 0), (vi 1), (vi 1), (vi 0), (vi 0), (vi 1), (vi 0)]) (by kernel_rfl) hs43 (fun b46 w47 (hs48 : HS w0 F0 w47 F5 [(some b46, .cells ([(vi 0), (vi 0), (vi 1), (vi 1), (vi 0), (vi 0), (vi 1), (vi 0)] : List Value).toArray 46 (0, 0)), (sb b33 (kSpan r25.1) 38)]) => ?_)
 have hr50 : RowR tTie 46 F5 (some ⟨b46, 0, none⟩) 2 [({ A := ({ Log := 0, Line := 0 } : Ref), B := ({ Log := 1, Line := 1 } : Ref) } : Tie), ({ A := ({ Log := 0, Line := 0 } : Ref), B := ({ Log := 1, Line := 0 } : Ref) } : Tie)] (some b46, .cells ([(vi 0), (vi 0), (vi 1), (vi 1), (vi 0), (vi 0), (vi 1), (vi 0)] : List Value).toArray 46 (0, 0)) := RowR.lit ⟨rfl, ⟨rfl, rfl⟩⟩ (by simp)
 have hb54 := RowR.bound hr50
 obtain ⟨F6, hs51, le52, hs53⟩ : ∃ Fq, HS w0 F0 w47 Fq [(sb b33 (kSpan r25.1) 38)] ∧ Mem.le F5 Fq ∧ SlA tTie Fq (some ⟨b46, 0, none⟩) [({ A := ({ Log := 0, Line := 0 } : Ref), B := ({ Log := 1, Line := 1 } : Ref) } : Tie), ({ A := ({ Log := 0, Line := 0 } : Ref), B := ({ Log := 1, Line := 0 } : Ref) } : Tie)] := HS.freezeRow hs48 (k := 0) rfl hr50
 obtain ⟨r55, hr56, h57⟩ := bind_some h40
 refine Cl 29 65 42 #[(.tmp 21), (.tmp 28)] #[25, 23] co_clocks_Accept hs51 (c_clocks_Accept N w47 F6 hs51.pers (r38) ar38_0_0 nr38_0_0 hbr38_0_0 (SlA.mono hsr38_0_0 le52) ar38_0_1 nr38_0_1 hbr38_0_1 (SlA.mono hsr38_0_1 le52) ([({ A := ({ Log := 0, Line := 0 } : Ref), B := ({ Log := 1, Line := 1 } : Ref) } : Tie), ({ A := ({ Log := 0, Line := 0 } : Ref), B := ({ Log := 1, Line := 0 } : Ref) } : Tie)]) (some ⟨b46, 0, none⟩) 2 hb54 hs53 _ hr56) ?_
 intro v58 F7 w59 hs60 le61 hp62
 obtain ⟨ar55_0_0, nr55_0_0, rfl, hbr55_0_0, hsr55_0_0⟩ := hp62
 refine V 20 65 (mv 29 (.tuple #[(.slice ar55_0_0 r55.1.length nr55_0_0), (vi r55.2)])) ?_
 refine V 30 64 (ex 20 0 (.slice ar55_0_0 r55.1.length nr55_0_0) (vs := #[(.slice ar55_0_0 r55.1.length nr55_0_0), (vi r55.2)])) ?_
 refine V 31 30 (ex 20 1 (vi r55.2) (vs := #[(.slice ar55_0_0 r55.1.length nr55_0_0), (vi r55.2)])) ?_
 refine V 5 64 (ma 30 (.slice ar55_0_0 r55.1.length nr55_0_0)) ?_
 refine V 6 30 (ma 31 (vi r55.2)) ?_
 refine Nss (Rg [0, 1, 2, 3, 4, 5, 6, 7, 8] ?_)
 obtain ⟨r63, hr64, h65⟩ := bind_some h57
 refine Cl 33 25 64 #[(.const (.bool false))] #[4] co_law03_pair hs60 (c_law03_pair N w59 F7 hs60.pers (false) _ hr64) ?_
 intro v66 F8 w67 hs68 le69 hp70
 obtain ⟨ar63_0_0, nr63_0_0, ar63_0_1, nr63_0_1, rfl, hbr63_0_0, hsr63_0_0, hbr63_0_1, hsr63_0_1⟩ := hp70
 refine V 34 27 (run_build2 (t := 27) (parts := #[(0, (.const (vi 1)))]) (vs := [(0, (vi 1))]) (rfl) (cs := [(vi 1), (vi 0)]) (by kernel_rfl)) ?_
 refine V 35 27 (run_build2 (t := 27) (parts := #[(1, (.const (vi 1)))]) (vs := [(1, (vi 1))]) (rfl) (cs := [(vi 0), (vi 1)]) (by kernel_rfl)) ?_
 obtain ⟨r71, hr72, h73⟩ := bind_some h65
 refine Cl 36 43 30 #[(.tmp 33), (.tmp 34), (.tmp 35)] #[25, 27, 27] co_clocks_Before hs68 (c_clocks_Before N w67 F8 hs68.pers (r63) ar63_0_0 nr63_0_0 hbr63_0_0 hsr63_0_0 ar63_0_1 nr63_0_1 hbr63_0_1 hsr63_0_1 (({ Log := 1, Line := 0 } : Ref)) (({ Log := 0, Line := 1 } : Ref)) _ hr72) ?_
 intro v74 F9 w75 hs76 le77 hp78
 obtain rfl := hp78
 refine V 32 43 (mv 36 (.tuple #[(.bool r71.1), (vi r71.2)])) ?_
 refine V 37 4 (ex 32 0 (.bool r71.1) (vs := #[(.bool r71.1), (vi r71.2)])) ?_
 refine V 38 30 (ex 32 1 (vi r71.2) (vs := #[(.bool r71.1), (vi r71.2)])) ?_
 refine V 7 4 (ma 37 (.bool r71.1)) ?_
 refine V 8 30 (ma 38 (vi r71.2)) ?_
 refine Nss ?_
 refine Sq (Rg [0, 1, 2, 3, 4, 5, 6, 7, 8, 9, 10, 11, 12, 13, 14, 15, 16, 17, 18, 19, 20, 21, 22, 23, 24, 25, 26, 27, 28, 29, 30, 31] ?_)
 obtain ⟨j82, hj91, h92⟩ := bind_some h73
 refine RWP.cut (fun f w => ∃ (F10 : Mem), HS w0 F0 w F10 [(sb b33 (kSpan r25.1) 38)] ∧ Mem.le F9 F10 ∧ f.d = [] ∧ f 3 = (.pointer (some ⟨b33, 0, none⟩)) ∧ f 4 = (vi r25.2) ∧ f 5 = (.slice ar55_0_0 r55.1.length nr55_0_0) ∧ f 6 = (vi r55.2) ∧ f 7 = (.bool r71.1) ∧ f 8 = (vi r71.2) ∧ f 70 = (.bool j82)) ?_ ?_
 ·refine V 39 30 (mv 2 (vi r9.2)) ?_
  refine V 40 4 (run_neq (t := 30) (t' := 30) (x := (.tmp 39)) (y := (.const (vi 0))) (k := .i64) (a := r9.2) (b := 0) rfl rfl) ?_
  refine V 41 4 (mv 40 (.bool (r9.2 != 0))) ?_
  refine RWP.split (r9.2 != 0) (fun hb93 => ?_) (fun hb93 => ?_)
  ·have h94 := cond_t hj91 hb93
   refine Sk [42, 43, 44] 2 false 41 hb93 ?_
   refine V 45 4 (p1 41 (.const (.bool true)) (.tmp 44) (.bool true) hb93) ?_
   refine V 46 4 (mv 45 (.bool true)) ?_
   refine Sk [47, 48, 49, 50, 51] 7 false 46 rfl ?_
   refine V 52 4 (p1 46 (.const (.bool true)) (.tmp 51) (.bool true) rfl) ?_
   refine V 53 4 (mv 52 (.bool true)) ?_
   refine Sk [54, 55, 56, 57, 58, 59, 60] 14 false 53 rfl ?_
   refine V 61 4 (p1 53 (.const (.bool true)) (.tmp 60) (.bool true) rfl) ?_
   refine V 62 4 (mv 61 (.bool true)) ?_
   refine Sk [63, 64, 65, 66, 67, 68, 69] 23 false 62 rfl ?_
   refine V 70 4 (p1 62 (.const (.bool true)) (.tmp 69) (.bool true) rfl) ?_
   obtain rfl := some_inj h94
   exact RWP.nil ⟨rfl, F9, hs76, (Mem.le.refl _), rfl, rfl, rfl, rfl, rfl, rfl, rfl, rfl⟩
  ·have h95 := cond_f hj91 hb93
   refine Vg 42 33 2 false 41 hb93 (mv 1 (.slice ar9_0_0 r9.1.length nr9_0_0)) ?_
   refine Vg 43 3 2 false 41 hb93 (ln 42 33 ar9_0_0 r9.1.length nr9_0_0 36 1 24) ?_
   refine Vg 44 4 2 false 41 hb93 (run_neq (t := 3) (t' := 3) (x := (.tmp 43)) (y := (.const (vi 2))) (k := .i64) (a := (r9.1.length : Int)) (b := 2) rfl rfl) ?_
   refine V 45 4 (p0 41 (.const (.bool true)) (.tmp 44) (.bool ((r9.1.length : Int) != 2)) hb93) ?_
   refine V 46 4 (mv 45 (.bool ((r9.1.length : Int) != 2))) ?_
   refine RWP.split ((r9.1.length : Int) != 2) (fun hb96 => ?_) (fun hb96 => ?_)
   ·have h97 := cond_t h95 hb96
    refine Sk [47, 48, 49, 50, 51] 7 false 46 hb96 ?_
    refine V 52 4 (p1 46 (.const (.bool true)) (.tmp 51) (.bool true) hb96) ?_
    refine V 53 4 (mv 52 (.bool true)) ?_
    refine Sk [54, 55, 56, 57, 58, 59, 60] 14 false 53 rfl ?_
    refine V 61 4 (p1 53 (.const (.bool true)) (.tmp 60) (.bool true) rfl) ?_
    refine V 62 4 (mv 61 (.bool true)) ?_
    refine Sk [63, 64, 65, 66, 67, 68, 69] 23 false 62 rfl ?_
    refine V 70 4 (p1 62 (.const (.bool true)) (.tmp 69) (.bool true) rfl) ?_
    obtain rfl := some_inj h97
    exact RWP.nil ⟨rfl, F9, hs76, (Mem.le.refl _), rfl, rfl, rfl, rfl, rfl, rfl, rfl, rfl⟩
   ·have h98 := cond_f h95 hb96
    refine Vg 47 33 7 false 46 hb96 (mv 1 (.slice ar9_0_0 r9.1.length nr9_0_0)) ?_
    obtain ⟨x99, hx100, h102⟩ := bind_some h98
    obtain ⟨hi101, hx100'⟩ := idx_spec hx100
    obtain ⟨b103, o104, C105, E106, fz107, rfl, hF109, hE110⟩ := SlA.open (SlA.mono hsr9_0_0 ((((((le23.trans le31).trans le44).trans le52).trans le61).trans le69).trans le77)) hx100'
    obtain ⟨ae111_0, ne111_0, hc112, hbe111_0, hse111_0⟩ := hE110 _ _ hx100'
    refine Vg 48 0 7 false 46 hb96 (run_index (t := 33) (x := (.tmp 47)) (y := (.const (vi 0))) (b := b103) (o := o104) (E := 36) (s := 1) (by_ := 24) rfl rfl (by kernel_rfl) hi101) ?_
    refine Vg 49 36 7 false 46 hb96 (lx 36 48 0 1 false 1 (.slice ae111_0 x99.length ne111_0) (hs76.pers _ _ hF109) hc112) ?_
    refine Vg 50 3 7 false 46 hb96 (ln 49 36 ae111_0 x99.length ne111_0 38 2 16) ?_
    refine Vg 51 4 7 false 46 hb96 (run_neq (t := 3) (t' := 3) (x := (.tmp 50)) (y := (.const (vi 2))) (k := .i64) (a := (x99.length : Int)) (b := 2) rfl rfl) ?_
    refine V 52 4 (p0 46 (.const (.bool true)) (.tmp 51) (.bool ((x99.length : Int) != 2)) hb96) ?_
    refine V 53 4 (mv 52 (.bool ((x99.length : Int) != 2))) ?_
    refine RWP.split ((x99.length : Int) != 2) (fun hb113 => ?_) (fun hb113 => ?_)
    ·have h114 := cond_t h102 hb113
     refine Sk [54, 55, 56, 57, 58, 59, 60] 14 false 53 hb113 ?_
     refine V 61 4 (p1 53 (.const (.bool true)) (.tmp 60) (.bool true) hb113) ?_
     refine V 62 4 (mv 61 (.bool true)) ?_
     refine Sk [63, 64, 65, 66, 67, 68, 69] 23 false 62 rfl ?_
     refine V 70 4 (p1 62 (.const (.bool true)) (.tmp 69) (.bool true) rfl) ?_
     obtain rfl := some_inj h114
     exact RWP.nil ⟨rfl, F9, hs76, (Mem.le.refl _), rfl, rfl, rfl, rfl, rfl, rfl, rfl, rfl⟩
    ·have h115 := cond_f h102 hb113
     refine Vg 54 33 14 false 53 hb113 (mv 1 (.slice (some ⟨b103, o104, none⟩) r9.1.length nr9_0_0)) ?_
     obtain ⟨x116, hx117, h119⟩ := bind_some h115
     obtain ⟨hi118, hx117'⟩ := idx_spec hx117
     obtain ⟨ae120_0, ne120_0, hc121, hbe120_0, hse120_0⟩ := hE110 _ _ hx117'
     refine Vg 55 0 14 false 53 hb113 (run_index (t := 33) (x := (.tmp 54)) (y := (.const (vi 0))) (b := b103) (o := o104) (E := 36) (s := 1) (by_ := 24) rfl rfl (by kernel_rfl) hi118) ?_
     refine Vg 56 36 14 false 53 hb113 (lx 36 55 0 1 false 1 (.slice ae120_0 x116.length ne120_0) (hs76.pers _ _ hF109) hc121) ?_
     obtain ⟨x122, hx123, h125⟩ := bind_some h119
     obtain ⟨hi124, hx123'⟩ := idx_spec hx123
     obtain ⟨b126, o127, C128, E129, fz130, rfl, hF132, hE133⟩ := SlA.open hse120_0 hx123'
     have hc135 := hE133 _ _ hx123'
     refine Vg 57 0 14 false 53 hb113 (run_index (t := 36) (x := (.tmp 56)) (y := (.const (vi 0))) (b := b126) (o := o127) (E := 38) (s := 2) (by_ := 16) rfl rfl (by kernel_rfl) hi124) ?_
     refine Vg 58 38 14 false 53 hb113 (lx 38 57 0 2 true 2 (.agg (kSpan x122)) (hs76.pers _ _ hF132) hc135) ?_
     refine Vg 59 38 14 false 53 hb113 (run_build2 (t := 38) (parts := #[(0, (.const (vi 90))), (1, (.const (vi 100)))]) (vs := [(0, (vi 90)), (1, (vi 100))]) (rfl) (cs := [(vi 90), (vi 100)]) (by kernel_rfl)) ?_
     refine Vg 60 4 14 false 53 hb113 (run_nes (t := 38) (t' := 38) (x := (.tmp 58)) (y := (.tmp 59)) (xs := (kSpan x122)) (ys := #[(vi 90), (vi 100)]) (b := ((x122.Lo == 90) && ((x122.Hi == 100) && true))) rfl rfl (by kernel_rfl) (by kernel_rfl)) ?_
     refine V 61 4 (p0 53 (.const (.bool true)) (.tmp 60) (.bool (!((x122.Lo == 90) && ((x122.Hi == 100) && true)))) hb113) ?_
     refine V 62 4 (mv 61 (.bool (!((x122.Lo == 90) && ((x122.Hi == 100) && true))))) ?_
     refine RWP.split (!((x122.Lo == 90) && ((x122.Hi == 100) && true))) (fun hb136 => ?_) (fun hb136 => ?_)
     ·have h137 := cond_t h125 hb136
      refine Sk [63, 64, 65, 66, 67, 68, 69] 23 false 62 hb136 ?_
      refine V 70 4 (p1 62 (.const (.bool true)) (.tmp 69) (.bool true) hb136) ?_
      obtain rfl := some_inj h137
      exact RWP.nil ⟨rfl, F9, hs76, (Mem.le.refl _), rfl, rfl, rfl, rfl, rfl, rfl, rfl, rfl⟩
     ·have h138 := cond_f h125 hb136
      refine Vg 63 33 23 false 62 hb136 (mv 1 (.slice (some ⟨b103, o104, none⟩) r9.1.length nr9_0_0)) ?_
      obtain ⟨x139, hx140, h142⟩ := bind_some h138
      obtain ⟨hi141, hx140'⟩ := idx_spec hx140
      obtain ⟨ae143_0, ne143_0, hc144, hbe143_0, hse143_0⟩ := hE110 _ _ hx140'
      refine Vg 64 0 23 false 62 hb136 (run_index (t := 33) (x := (.tmp 63)) (y := (.const (vi 0))) (b := b103) (o := o104) (E := 36) (s := 1) (by_ := 24) rfl rfl (by kernel_rfl) hi141) ?_
      refine Vg 65 36 23 false 62 hb136 (lx 36 64 0 1 false 1 (.slice ae143_0 x139.length ne143_0) (hs76.pers _ _ hF109) hc144) ?_
      obtain ⟨x145, hx146, h148⟩ := bind_some h142
      obtain ⟨hi147, hx146'⟩ := idx_spec hx146
      obtain ⟨b149, o150, C151, E152, fz153, rfl, hF155, hE156⟩ := SlA.open hse143_0 hx146'
      have hc158 := hE156 _ _ hx146'
      refine Vg 66 0 23 false 62 hb136 (run_index (t := 36) (x := (.tmp 65)) (y := (.const (vi 1))) (b := b149) (o := o150) (E := 38) (s := 2) (by_ := 16) rfl rfl (by kernel_rfl) hi147) ?_
      refine Vg 67 38 23 false 62 hb136 (lx 38 66 0 2 true 2 (.agg (kSpan x145)) (hs76.pers _ _ hF155) hc158) ?_
      refine Vg 68 38 23 false 62 hb136 (run_build2 (t := 38) (parts := #[(0, (.const (vi 150))), (1, (.const (vi 161)))]) (vs := [(0, (vi 150)), (1, (vi 161))]) (rfl) (cs := [(vi 150), (vi 161)]) (by kernel_rfl)) ?_
      refine Vg 69 4 23 false 62 hb136 (run_nes (t := 38) (t' := 38) (x := (.tmp 67)) (y := (.tmp 68)) (xs := (kSpan x145)) (ys := #[(vi 150), (vi 161)]) (b := ((x145.Lo == 150) && ((x145.Hi == 161) && true))) rfl rfl (by kernel_rfl) (by kernel_rfl)) ?_
      refine V 70 4 (p0 62 (.const (.bool true)) (.tmp 69) (.bool (!((x145.Lo == 150) && ((x145.Hi == 161) && true)))) hb136) ?_
      obtain rfl := some_inj h148
      exact RWP.nil ⟨rfl, F9, hs76, (Mem.le.refl _), rfl, rfl, rfl, rfl, rfl, rfl, rfl, rfl⟩
 ·rintro f w79 ⟨F10, hs80, le81, e83, e84, e85, e86, e87, e88, e89, e90⟩
  refine thenQ_nrm ?_
  refine CWP.cond (t := j82) (by kernel_rfl) e90 (fun hb159 => ?_) (fun hb159 => ?_)
  ·have h160 := cond_t h92 hb159
   refine Sq (Rg [0] ?_)
   refine V 0 4 (mc (.bool false) (.bool false)) ?_
   refine Nt ?_
   refine CWP.ret (by kernel_rfl) ?_
   refine thenQ_ret ?_
   have hfin := some_inj h160
   subst hfin
   exact ⟨e83, (.bool false), res_of (l := [.tmp 0]) (by kernel_rfl) (vs := [(.bool false)]) ⟨rfl, trivial⟩, (.bool false), F10, rfl, hs80.clear, rfl⟩
  ·have h161 := cond_f h92 hb159
   refine Sc ?_
   refine thenQ_nrm ?_
   refine Sq (Rg [0, 1, 2, 3, 4, 5, 6, 7, 8, 9, 10, 11, 12, 13, 14, 15, 16, 17, 18, 19, 20, 21, 22, 23, 24, 25, 26, 27, 28, 29, 30, 31, 32, 33, 34] ?_)
   obtain ⟨j165, hj168, h169⟩ := bind_some h161
   refine RWP.cut (fun f w => ∃ (F11 : Mem), HS w0 F0 w F11 [] ∧ Mem.le F10 F11 ∧ f.d = [] ∧ f 0 = (.bool j165)) ?_ ?_
   ·refine V 71 30 (mv 4 (vi r25.2) e85) ?_
    refine V 72 4 (run_eql (t := 30) (t' := 30) (x := (.tmp 71)) (y := (.const (vi 0))) (k := .i64) (a := r25.2) (b := 0) rfl rfl) ?_
    refine V 73 4 (mv 72 (.bool (r25.2 == 0))) ?_
    refine RWP.split (r25.2 == 0) (fun hb170 => ?_) (fun hb170 => ?_)
    ·have h171 := cond_t hj168 hb170
     refine Vg 74 38 2 true 73 hb170 (ld 38 3 b33 0 true 2 (.agg (kSpan r25.1)) (hs80.ownAt (k := 0) rfl) e84) ?_
     refine Vg 75 38 2 true 73 hb170 (run_build2 (t := 38) (parts := #[(0, (.const (vi 0))), (1, (.const (vi 10)))]) (vs := [(0, (vi 0)), (1, (vi 10))]) (rfl) (cs := [(vi 0), (vi 10)]) (by kernel_rfl)) ?_
     refine Vg 76 4 2 true 73 hb170 (run_eqs (t := 38) (t' := 38) (x := (.tmp 74)) (y := (.tmp 75)) (xs := (kSpan r25.1)) (ys := #[(vi 0), (vi 10)]) (b := ((r25.1.Lo == 0) && ((r25.1.Hi == 10) && true))) rfl rfl (by kernel_rfl) (by kernel_rfl)) ?_
     refine V 77 4 (p1 73 (.tmp 76) (.const (.bool false)) (.bool ((r25.1.Lo == 0) && ((r25.1.Hi == 10) && true))) hb170) ?_
     refine V 78 4 (mv 77 (.bool ((r25.1.Lo == 0) && ((r25.1.Hi == 10) && true)))) ?_
     refine RWP.split ((r25.1.Lo == 0) && ((r25.1.Hi == 10) && true)) (fun hb172 => ?_) (fun hb172 => ?_)
     ·have h173 := cond_t h171 hb172
      refine Vg 79 30 7 true 78 hb172 (mv 6 (vi r55.2) e87) ?_
      refine Vg 80 4 7 true 78 hb172 (run_eql (t := 30) (t' := 30) (x := (.tmp 79)) (y := (.const (vi 0))) (k := .i64) (a := r55.2) (b := 0) rfl rfl) ?_
      refine V 81 4 (p1 78 (.tmp 80) (.const (.bool false)) (.bool (r55.2 == 0)) hb172) ?_
      refine V 82 4 (mv 81 (.bool (r55.2 == 0))) ?_
      refine RWP.split (r55.2 == 0) (fun hb174 => ?_) (fun hb174 => ?_)
      ·have h175 := cond_t h173 hb174
       refine Vg 83 64 11 true 82 hb174 (mv 5 (.slice ar55_0_0 r55.1.length nr55_0_0) e86) ?_
       refine Vg 84 3 11 true 82 hb174 (ln 83 64 ar55_0_0 r55.1.length nr55_0_0 4 1 1) ?_
       refine Vg 85 4 11 true 82 hb174 (run_eql (t := 3) (t' := 3) (x := (.tmp 84)) (y := (.const (vi 2))) (k := .i64) (a := (r55.1.length : Int)) (b := 2) rfl rfl) ?_
       refine V 86 4 (p1 82 (.tmp 85) (.const (.bool false)) (.bool ((r55.1.length : Int) == 2)) hb174) ?_
       refine V 87 4 (mv 86 (.bool ((r55.1.length : Int) == 2))) ?_
       refine RWP.split ((r55.1.length : Int) == 2) (fun hb176 => ?_) (fun hb176 => ?_)
       ·have h177 := cond_t h175 hb176
        refine Vg 88 64 16 true 87 hb176 (mv 5 (.slice ar55_0_0 r55.1.length nr55_0_0) e86) ?_
        obtain ⟨x178, hx179, h181⟩ := bind_some h177
        obtain ⟨hi180, hx179'⟩ := idx_spec hx179
        obtain ⟨b182, o183, C184, E185, fz186, rfl, hF188, hE189⟩ := SlA.open (SlA.mono hsr55_0_0 ((le69.trans le77).trans le81)) hx179'
        have hc191 := hE189 _ _ hx179'
        refine Vg 89 0 16 true 87 hb176 (run_index (t := 64) (x := (.tmp 88)) (y := (.const (vi 0))) (b := b182) (o := o183) (E := 4) (s := 1) (by_ := 1) rfl rfl (by kernel_rfl) hi180) ?_
        refine Vg 90 4 16 true 87 hb176 (lx 4 89 0 1 false 1 (.bool x178) (hs80.pers _ _ hF188) hc191) ?_
        refine Vg 91 4 16 true 87 hb176 (run_not (t := 4) (x := (.tmp 90)) (a := x178) rfl) ?_
        refine V 92 4 (p1 87 (.tmp 91) (.const (.bool false)) (.bool (!x178)) hb176) ?_
        refine V 93 4 (mv 92 (.bool (!x178))) ?_
        refine RWP.split (!x178) (fun hb192 => ?_) (fun hb192 => ?_)
        ·have h193 := cond_t h181 hb192
         refine Vg 94 64 22 true 93 hb192 (mv 5 (.slice (some ⟨b182, o183, none⟩) r55.1.length nr55_0_0) e86) ?_
         obtain ⟨x194, hx195, h197⟩ := bind_some h193
         obtain ⟨hi196, hx195'⟩ := idx_spec hx195
         have hc199 := hE189 _ _ hx195'
         refine Vg 95 0 22 true 93 hb192 (run_index (t := 64) (x := (.tmp 94)) (y := (.const (vi 1))) (b := b182) (o := o183) (E := 4) (s := 1) (by_ := 1) rfl rfl (by kernel_rfl) hi196) ?_
         refine Vg 96 4 22 true 93 hb192 (lx 4 95 0 1 false 1 (.bool x194) (hs80.pers _ _ hF188) hc199) ?_
         refine V 97 4 (p1 93 (.tmp 96) (.const (.bool false)) (.bool x194) hb192) ?_
         refine V 98 4 (mv 97 (.bool x194)) ?_
         refine RWP.split x194 (fun hb200 => ?_) (fun hb200 => ?_)
         ·have h201 := cond_t h197 hb200
          refine Vg 99 4 27 true 98 hb200 (mv 7 (.bool r71.1) e88) ?_
          refine V 100 4 (p1 98 (.tmp 99) (.const (.bool false)) (.bool r71.1) hb200) ?_
          refine V 101 4 (mv 100 (.bool r71.1)) ?_
          refine RWP.split r71.1 (fun hb202 => ?_) (fun hb202 => ?_)
          ·have h203 := cond_t h201 hb202
           refine Vg 102 30 30 true 101 hb202 (mv 8 (vi r71.2) e89) ?_
           refine Vg 103 4 30 true 101 hb202 (run_eql (t := 30) (t' := 30) (x := (.tmp 102)) (y := (.const (vi 0))) (k := .i64) (a := r71.2) (b := 0) rfl rfl) ?_
           refine V 104 4 (p1 101 (.tmp 103) (.const (.bool false)) (.bool (r71.2 == 0)) hb202) ?_
           refine V 0 4 (ma 104 (.bool (r71.2 == 0))) ?_
           obtain rfl := some_inj h203
           have hs204 : HS w0 F0 w79 F10 [] := hs80.drop 0
           exact RWP.nil ⟨rfl, F10, hs204, (Mem.le.refl _), e83, rfl⟩
          ·have h205 := cond_f h201 hb202
           refine Sk [102, 103] 30 true 101 hb202 ?_
           refine V 104 4 (p0 101 (.tmp 103) (.const (.bool false)) (.bool false) hb202) ?_
           refine V 0 4 (ma 104 (.bool false)) ?_
           obtain rfl := some_inj h205
           have hs206 : HS w0 F0 w79 F10 [] := hs80.drop 0
           exact RWP.nil ⟨rfl, F10, hs206, (Mem.le.refl _), e83, rfl⟩
         ·have h207 := cond_f h197 hb200
          refine Sk [99] 27 true 98 hb200 ?_
          refine V 100 4 (p0 98 (.tmp 99) (.const (.bool false)) (.bool false) hb200) ?_
          refine V 101 4 (mv 100 (.bool false)) ?_
          refine Sk [102, 103] 30 true 101 rfl ?_
          refine V 104 4 (p0 101 (.tmp 103) (.const (.bool false)) (.bool false) rfl) ?_
          refine V 0 4 (ma 104 (.bool false)) ?_
          obtain rfl := some_inj h207
          have hs208 : HS w0 F0 w79 F10 [] := hs80.drop 0
          exact RWP.nil ⟨rfl, F10, hs208, (Mem.le.refl _), e83, rfl⟩
        ·have h209 := cond_f h181 hb192
         refine Sk [94, 95, 96] 22 true 93 hb192 ?_
         refine V 97 4 (p0 93 (.tmp 96) (.const (.bool false)) (.bool false) hb192) ?_
         refine V 98 4 (mv 97 (.bool false)) ?_
         refine Sk [99] 27 true 98 rfl ?_
         refine V 100 4 (p0 98 (.tmp 99) (.const (.bool false)) (.bool false) rfl) ?_
         refine V 101 4 (mv 100 (.bool false)) ?_
         refine Sk [102, 103] 30 true 101 rfl ?_
         refine V 104 4 (p0 101 (.tmp 103) (.const (.bool false)) (.bool false) rfl) ?_
         refine V 0 4 (ma 104 (.bool false)) ?_
         obtain rfl := some_inj h209
         have hs210 : HS w0 F0 w79 F10 [] := hs80.drop 0
         exact RWP.nil ⟨rfl, F10, hs210, (Mem.le.refl _), e83, rfl⟩
       ·have h211 := cond_f h175 hb176
        refine Sk [88, 89, 90, 91] 16 true 87 hb176 ?_
        refine V 92 4 (p0 87 (.tmp 91) (.const (.bool false)) (.bool false) hb176) ?_
        refine V 93 4 (mv 92 (.bool false)) ?_
        refine Sk [94, 95, 96] 22 true 93 rfl ?_
        refine V 97 4 (p0 93 (.tmp 96) (.const (.bool false)) (.bool false) rfl) ?_
        refine V 98 4 (mv 97 (.bool false)) ?_
        refine Sk [99] 27 true 98 rfl ?_
        refine V 100 4 (p0 98 (.tmp 99) (.const (.bool false)) (.bool false) rfl) ?_
        refine V 101 4 (mv 100 (.bool false)) ?_
        refine Sk [102, 103] 30 true 101 rfl ?_
        refine V 104 4 (p0 101 (.tmp 103) (.const (.bool false)) (.bool false) rfl) ?_
        refine V 0 4 (ma 104 (.bool false)) ?_
        obtain rfl := some_inj h211
        have hs212 : HS w0 F0 w79 F10 [] := hs80.drop 0
        exact RWP.nil ⟨rfl, F10, hs212, (Mem.le.refl _), e83, rfl⟩
      ·have h213 := cond_f h173 hb174
       refine Sk [83, 84, 85] 11 true 82 hb174 ?_
       refine V 86 4 (p0 82 (.tmp 85) (.const (.bool false)) (.bool false) hb174) ?_
       refine V 87 4 (mv 86 (.bool false)) ?_
       refine Sk [88, 89, 90, 91] 16 true 87 rfl ?_
       refine V 92 4 (p0 87 (.tmp 91) (.const (.bool false)) (.bool false) rfl) ?_
       refine V 93 4 (mv 92 (.bool false)) ?_
       refine Sk [94, 95, 96] 22 true 93 rfl ?_
       refine V 97 4 (p0 93 (.tmp 96) (.const (.bool false)) (.bool false) rfl) ?_
       refine V 98 4 (mv 97 (.bool false)) ?_
       refine Sk [99] 27 true 98 rfl ?_
       refine V 100 4 (p0 98 (.tmp 99) (.const (.bool false)) (.bool false) rfl) ?_
       refine V 101 4 (mv 100 (.bool false)) ?_
       refine Sk [102, 103] 30 true 101 rfl ?_
       refine V 104 4 (p0 101 (.tmp 103) (.const (.bool false)) (.bool false) rfl) ?_
       refine V 0 4 (ma 104 (.bool false)) ?_
       obtain rfl := some_inj h213
       have hs214 : HS w0 F0 w79 F10 [] := hs80.drop 0
       exact RWP.nil ⟨rfl, F10, hs214, (Mem.le.refl _), e83, rfl⟩
     ·have h215 := cond_f h171 hb172
      refine Sk [79, 80] 7 true 78 hb172 ?_
      refine V 81 4 (p0 78 (.tmp 80) (.const (.bool false)) (.bool false) hb172) ?_
      refine V 82 4 (mv 81 (.bool false)) ?_
      refine Sk [83, 84, 85] 11 true 82 rfl ?_
      refine V 86 4 (p0 82 (.tmp 85) (.const (.bool false)) (.bool false) rfl) ?_
      refine V 87 4 (mv 86 (.bool false)) ?_
      refine Sk [88, 89, 90, 91] 16 true 87 rfl ?_
      refine V 92 4 (p0 87 (.tmp 91) (.const (.bool false)) (.bool false) rfl) ?_
      refine V 93 4 (mv 92 (.bool false)) ?_
      refine Sk [94, 95, 96] 22 true 93 rfl ?_
      refine V 97 4 (p0 93 (.tmp 96) (.const (.bool false)) (.bool false) rfl) ?_
      refine V 98 4 (mv 97 (.bool false)) ?_
      refine Sk [99] 27 true 98 rfl ?_
      refine V 100 4 (p0 98 (.tmp 99) (.const (.bool false)) (.bool false) rfl) ?_
      refine V 101 4 (mv 100 (.bool false)) ?_
      refine Sk [102, 103] 30 true 101 rfl ?_
      refine V 104 4 (p0 101 (.tmp 103) (.const (.bool false)) (.bool false) rfl) ?_
      refine V 0 4 (ma 104 (.bool false)) ?_
      obtain rfl := some_inj h215
      have hs216 : HS w0 F0 w79 F10 [] := hs80.drop 0
      exact RWP.nil ⟨rfl, F10, hs216, (Mem.le.refl _), e83, rfl⟩
    ·have h217 := cond_f hj168 hb170
     refine Sk [74, 75, 76] 2 true 73 hb170 ?_
     refine V 77 4 (p0 73 (.tmp 76) (.const (.bool false)) (.bool false) hb170) ?_
     refine V 78 4 (mv 77 (.bool false)) ?_
     refine Sk [79, 80] 7 true 78 rfl ?_
     refine V 81 4 (p0 78 (.tmp 80) (.const (.bool false)) (.bool false) rfl) ?_
     refine V 82 4 (mv 81 (.bool false)) ?_
     refine Sk [83, 84, 85] 11 true 82 rfl ?_
     refine V 86 4 (p0 82 (.tmp 85) (.const (.bool false)) (.bool false) rfl) ?_
     refine V 87 4 (mv 86 (.bool false)) ?_
     refine Sk [88, 89, 90, 91] 16 true 87 rfl ?_
     refine V 92 4 (p0 87 (.tmp 91) (.const (.bool false)) (.bool false) rfl) ?_
     refine V 93 4 (mv 92 (.bool false)) ?_
     refine Sk [94, 95, 96] 22 true 93 rfl ?_
     refine V 97 4 (p0 93 (.tmp 96) (.const (.bool false)) (.bool false) rfl) ?_
     refine V 98 4 (mv 97 (.bool false)) ?_
     refine Sk [99] 27 true 98 rfl ?_
     refine V 100 4 (p0 98 (.tmp 99) (.const (.bool false)) (.bool false) rfl) ?_
     refine V 101 4 (mv 100 (.bool false)) ?_
     refine Sk [102, 103] 30 true 101 rfl ?_
     refine V 104 4 (p0 101 (.tmp 103) (.const (.bool false)) (.bool false) rfl) ?_
     refine V 0 4 (ma 104 (.bool false)) ?_
     obtain rfl := some_inj h217
     have hs218 : HS w0 F0 w79 F10 [] := hs80.drop 0
     exact RWP.nil ⟨rfl, F10, hs218, (Mem.le.refl _), e83, rfl⟩
   ·rintro f w162 ⟨F11, hs163, le164, e166, e167⟩
    refine thenQ_nrm ?_
    refine CWP.ret (by kernel_rfl) ?_
    have hfin := some_inj h169
    subst hfin
    exact ⟨e166, (.bool j165), res_of (l := [.tmp 0]) (by kernel_rfl) (vs := [(.bool j165)]) ⟨e167, trivial⟩, (.bool j165), F11, rfl, hs163.clear, rfl⟩
end Go.Proofs.Ythbcnabeabcmlaa
