/- Lemmas of the claim ClocksRelations, printed by a program of the claimant and by hand. No statement of the seat is proved here. -/
import Derived.Test.YthbcnabeabcmlaaA4
set_option linter.unusedVariables false
set_option linter.unusedSimpArgs false
set_option linter.unusedSectionVars false
namespace Go.Proofs.Ythbcnabeabcmlaa
open Go.Proofs
def ref03_reach_L0 (N : Nat) (x0 : System) (x1 : Int) (r4 : Spot) (r17 : (List Bound)) (r25 : List Int) (r35 : List Int) : (Int × List Int × List Int) → Option (Flow ((List Int) × (List Int) × Int) (Int × List Int × List Int)) := fun s49 =>
 (bif (decide (s49.1 < r4.n_)) then ((idx s49.2.1 s49.1).bind fun x78 => ((idx s49.2.2 s49.1).bind fun x94 => some (.next ((W64 (s49.1 + 1)), (s49.2.1.set (s49.1 : Int).toNat (1125899906842624)), (s49.2.2.set (s49.1 : Int).toNat ((-1))))))) else some (.done (s49.1, s49.2.1, s49.2.2)))
def ref03_reach_L2 (N : Nat) (x0 : System) (x1 : Int) (r4 : Spot) (r17 : (List Bound)) (r25 : List Int) (r35 : List Int) (s60 : (Int × List Int × List Int)) (x114 : Int) (s133 : (Int × List Int × List Int)) : (Int × Int × List Int × List Int) → Option (Flow ((List Int) × (List Int) × Int) (Int × Int × List Int × List Int)) := fun s161 =>
 (bif (decide (s161.2.1 < (r17.length : Int))) then (((idx r17 s161.2.1).bind fun x209 => ((ref03_spot_of N r4 x209.From).bind fun r223 => some r223)).bind fun j197 => (((idx r17 s161.2.1).bind fun x249 => ((ref03_spot_of N r4 x249.To).bind fun r263 => some r263)).bind fun j236 => (((idx s161.2.2.1 j197).bind fun x290 => (bif (decide (x290 < 1125899906842624)) then ((idx s161.2.2.1 j197).bind fun x304 => ((idx r17 s161.2.1).bind fun x315 => ((idx s161.2.2.1 j236).bind fun x329 => some (decide ((W64 (x304 + x315.Most)) < x329))))) else some false)).bind fun j276 => ((bif j276 then (((idx s161.2.2.1 j197).bind fun x373 => ((idx r17 s161.2.1).bind fun x385 => ((idx s161.2.2.1 j236).bind fun x399 => some (s161.2.2.1.set (j236 : Int).toNat ((W64 (x373 + x385.Most))))))).bind fun j362 => ((idx s161.2.2.2 j236).bind fun x414 => some (j362, (s161.2.2.2.set (j236 : Int).toNat (s161.2.1)), j236))) else some (s161.2.2.1, s161.2.2.2, s161.1)).bind fun j344 => some (.next (j344.2.2, (W64 (s161.2.1 + 1)), j344.1, j344.2.1)))))) else some (.done (s161.1, s161.2.1, s161.2.2.1, s161.2.2.2)))
def ref03_reach_L1 (N : Nat) (x0 : System) (x1 : Int) (r4 : Spot) (r17 : (List Bound)) (r25 : List Int) (r35 : List Int) (s60 : (Int × List Int × List Int)) (x114 : Int) : (Int × List Int × List Int) → Option (Flow ((List Int) × (List Int) × Int) (Int × List Int × List Int)) := fun s133 =>
 (bif (decide (s133.1 ≤ r4.n_)) then ((iter (ref03_reach_L2 N x0 x1 r4 r17 r25 r35 s60 x114 s133) N ((-1), 0, s133.2.1, s133.2.2)).bind fun o => o.k (fun r => some (.ret r)) (fun s173 => (bif (decide (s173.1 < 0)) then some (.ret (s173.2.2.1, s173.2.2.2, (-1))) else (bif (s133.1 == r4.n_) then some (.ret (s173.2.2.1, s173.2.2.2, s173.1)) else some (.next ((W64 (s133.1 + 1)), s173.2.2.1, s173.2.2.2)))))) else some (.done (s133.1, s133.2.1, s133.2.2)))
def ref03_reach (N : Nat) (x0 : System) (x1 : Int) : Option ((List Int) × (List Int) × Int) :=
 ((ref03_spots N x0).bind fun r4 => ((ref03_bounds N x0).bind fun r17 => ((mk0 0 r4.n_).bind fun r25 => ((mk0 0 r4.n_).bind fun r35 => ((iter (ref03_reach_L0 N x0 x1 r4 r17 r25 r35) N (0, r25, r35)).bind fun o => o.k (fun r => some r) (fun s60 => ((idx s60.2.1 x1).bind fun x114 => ((iter (ref03_reach_L1 N x0 x1 r4 r17 r25 r35 s60 x114) N (0, (s60.2.1.set (x1 : Int).toNat (0)), s60.2.2)).bind fun o => o.k (fun r => some r) (fun s143 => some (s143.2.1, s143.2.2, (-1)))))))))))
theorem co_ref03_reach : CallOk Try.prog 92 := fun _ _ => by kernel_rfl
set_option maxHeartbeats 4000000 in
set_option maxRecDepth 100000 in
theorem c_ref03_reach (N : Nat) (w0 : World) (F0 : Mem) (hF : ∀ b o, F0 b = some o → w0.heap[b]? = some o) (x0 : System) (a0_0 : Option Addr) (n0_0 : Nat) (hb0_0 : LC x0.Tracks.length n0_0) (hs0_0 : SlA tTrack F0 a0_0 x0.Tracks) (a0_1 : Option Addr) (n0_1 : Nat) (hb0_1 : LC x0.Ties.length n0_1) (hs0_1 : SlA tTie F0 a0_1 x0.Ties) (x1 : Int) (r : ((List Int) × (List Int) × Int)) (h : ref03_reach N x0 x1 = some r) :
  Calls Try.prog 92 ([(.agg (kSystem x0 a0_0 n0_0 a0_1 n0_1)), (vi x1)] : List Value).toArray w0 (FRet w0 F0 fun F' v => ∃ (aq0_0 : Option Addr) (nq0_0 : Nat) (aq1_0 : Option Addr) (nq1_0 : Nat), v = (.tuple #[(.slice aq0_0 r.1.length nq0_0), (.slice aq1_0 r.2.1.length nq1_0), (vi r.2.2)]) ∧ LC r.1.length nq0_0 ∧ SlA tInt F' aq0_0 r.1 ∧ LC r.2.1.length nq1_0 ∧ SlA tInt F' aq1_0 r.2.1) := by
 have hs0 := HS.start hF
 refine calls_of (n := 121) (c := bodyOf Try.f92) Try.func92 (by kernel_rfl) (by kernel_rfl) (by kernel_rfl) ?_
 refine Sq (Rg [0, 1, 2, 3] ?_)
 refine Bx 2 0 0 25 (kSystem x0 a0_0 n0_0 a0_1 n0_1) hs0 (fun b1 w2 (hs3 : HS w0 F0 w2 F0 [(sb b1 (kSystem x0 a0_0 n0_0 a0_1 n0_1) 25)]) => ?_)
 refine V 4 50 (mc (.slice none 0 0) (.slice none ([] : List Int).length 0)) ?_
 refine V 5 50 (mc (.slice none 0 0) (.slice none ([] : List Int).length 0)) ?_
 refine V 6 3 (mc (vi 0) (vi 0)) ?_
 refine Nss (Rg [0, 1, 2, 3] ?_)
 refine V 17 25 (ld 25 2 b1 0 true 3 (.agg (kSystem x0 a0_0 n0_0 a0_1 n0_1)) (hs3.ownAt (k := 0) rfl)) ?_
 obtain ⟨r4, hr5, h6⟩ := bind_some h
 refine Cl 18 112 80 #[(.tmp 17)] #[25] co_ref03_spots hs3 (c_ref03_spots N w2 F0 hs3.pers (x0) a0_0 n0_0 hb0_0 hs0_0 a0_1 n0_1 hb0_1 hs0_1 _ hr5) ?_
 intro v7 F1 w8 hs9 le10 hp11
 obtain ⟨ar4_0_0, nr4_0_0, rfl, hbr4_0_0, hsr4_0_0⟩ := hp11
 refine Al 7 0 112 #[(.slice none ([] : List Int).length 0), (vi 0)] hs9 (fun b12 w13 (hs14 : HS w0 F0 w13 F1 [(sb b12 #[(.slice none ([] : List Int).length 0), (vi 0)] 112), (sb b1 (kSystem x0 a0_0 n0_0 a0_1 n0_1) 25)]) => ?_)
 refine RWP.store (ty := 0) (g := none) (by kernel_rfl) rfl (x := (.tmp 7)) (y := (.tmp 18)) (t := 112) (gg := true) (s := 2) (v := (.agg (kSpot r4 ar4_0_0 nr4_0_0))) (b := b12) (o := 0) (C := #[(.slice none ([] : List Int).length 0), (vi 0)]) rfl rfl (by kernel_rfl) hs14 (k := 0) rfl rfl rfl rfl (C' := (kSpot r4 ar4_0_0 nr4_0_0)) rfl (fun w15 (hs16 : HS w0 F0 w15 F1 [(sb b12 (kSpot r4 ar4_0_0 nr4_0_0) 112), (sb b1 (kSystem x0 a0_0 n0_0 a0_1 n0_1) 25)]) => ?_)
 refine Nss (Rg [0, 1, 2] ?_)
 refine V 19 25 (ld 25 2 b1 0 true 3 (.agg (kSystem x0 a0_0 n0_0 a0_1 n0_1)) (hs16.ownAt (k := 1) rfl)) ?_
 obtain ⟨r17, hr18, h19⟩ := bind_some h6
 refine Cl 20 57 84 #[(.tmp 19)] #[25] co_ref03_bounds hs16 (c_ref03_bounds N w15 F1 hs16.pers (x0) a0_0 n0_0 hb0_0 (SlA.mono hs0_0 le10) a0_1 n0_1 hb0_1 (SlA.mono hs0_1 le10) _ hr18) ?_
 intro v20 F2 w21 hs22 le23 hp24
 obtain ⟨ar17_0_0, nr17_0_0, rfl, hbr17_0_0, hsr17_0_0⟩ := hp24
 refine V 8 57 (ma 20 (.slice ar17_0_0 r17.length nr17_0_0)) ?_
 refine Nss (Rg [0, 1, 2, 3] ?_)
 refine V 21 0 (fa 112 7 1 1 1 b12 0 1) ?_
 refine V 22 3 (ld 3 21 b12 1 false 1 (vi r4.n_) (hs22.ownAt (k := 0) rfl)) ?_
 obtain ⟨r25, hm26, h27⟩ := bind_some h19
 refine RWP.makeSlice (dst := (some 23)) (ty := 50) (g := none) (by kernel_rfl) rfl (x := (.tmp 22)) (y := (.tmp 22)) (t := 50) (by_ := 8) (z := (vi 0)) (T := tInt) (E := 3) rfl rfl (by kernel_rfl) (by decide) (by kernel_rfl) (z0 := 0) (fun _ => rfl) (by decide) hs22 hm26 (fun b28 n29 C30 w31 (hs32 : HS w0 F0 w31 F2 [(some b28, .cells C30 3 (0, 0)), (sb b12 (kSpot r4 ar4_0_0 nr4_0_0) 112), (sb b1 (kSystem x0 a0_0 n0_0 a0_1 n0_1) 25)]) hr33 => ?_)
 refine V 9 50 (ma 23 (.slice (some ⟨b28, 0, none⟩) r25.length n29)) ?_
 refine Nss (Rg [0, 1, 2, 3] ?_)
 refine V 24 0 (fa 112 7 1 1 1 b12 0 1) ?_
 refine V 25 3 (ld 3 24 b12 1 false 1 (vi r4.n_) (hs32.ownAt (k := 1) rfl)) ?_
 obtain ⟨r35, hm36, h37⟩ := bind_some h27
 refine RWP.makeSlice (dst := (some 26)) (ty := 50) (g := none) (by kernel_rfl) rfl (x := (.tmp 25)) (y := (.tmp 25)) (t := 50) (by_ := 8) (z := (vi 0)) (T := tInt) (E := 3) rfl rfl (by kernel_rfl) (by decide) (by kernel_rfl) (z0 := 0) (fun _ => rfl) (by decide) hs32 hm36 (fun b38 n39 C40 w41 (hs42 : HS w0 F0 w41 F2 [(some b38, .cells C40 3 (0, 0)), (some b28, .cells C30 3 (0, 0)), (sb b12 (kSpot r4 ar4_0_0 nr4_0_0) 112), (sb b1 (kSystem x0 a0_0 n0_0 a0_1 n0_1) 25)]) hr43 => ?_)
 refine V 10 50 (ma 26 (.slice (some ⟨b38, 0, none⟩) r35.length n39)) ?_
 refine Nss ?_
 refine Sq (Rg [0] ?_)
 refine V 11 3 (mc (vi 0) (vi 0)) ?_
 refine Nt ?_
 have hs45 : HS w0 F0 w41 F2 [(some b38, .cells C40 3 (0, 0)), (some b28, .cells C30 3 (0, 0)), (sb b12 (kSpot r4 ar4_0_0 nr4_0_0) 112)] := hs42.drop 3
 obtain ⟨o46, ho47, h48⟩ := bind_some h37
 refine CWP.cut (fun f w => ∃ (s60 : (Int × List Int × List Int)) (F4 : Mem) (es60_1 : Option Nat × Obj) (es60_2 : Option Nat × Obj), o46 = .done s60 ∧ HS w0 F0 w F4 [es60_2, es60_1, (sb b12 (kSpot r4 ar4_0_0 nr4_0_0) 112)] ∧ Mem.le F2 F4 ∧ f.d = [] ∧ f 1 = (vi x1) ∧ f 7 = (.pointer (some ⟨b12, 0, none⟩)) ∧ f 8 = (.slice ar17_0_0 r17.length nr17_0_0) ∧ f 9 = (.slice (some ⟨b28, 0, none⟩) s60.2.1.length n29) ∧ f 10 = (.slice (some ⟨b38, 0, none⟩) s60.2.2.length n39) ∧ RowR tInt 3 F4 (some ⟨b28, 0, none⟩) n29 s60.2.1 es60_1 ∧ RowR tInt 3 F4 (some ⟨b38, 0, none⟩) n39 s60.2.2 es60_2) ?_ ?_
 ·refine Bk ?_
  refine CWP.loop (by kernel_rfl) (fun m f w => ∃ (s49 : (Int × List Int × List Int)) (F3 : Mem) (es49_1 : Option Nat × Obj) (es49_2 : Option Nat × Obj), iter (ref03_reach_L0 N x0 x1 r4 r17 r25 r35) m s49 = some o46 ∧ HS w0 F0 w F3 [es49_2, es49_1, (sb b12 (kSpot r4 ar4_0_0 nr4_0_0) 112)] ∧ Mem.le F2 F3 ∧ f.d = [] ∧ f 1 = (vi x1) ∧ f 7 = (.pointer (some ⟨b12, 0, none⟩)) ∧ f 8 = (.slice ar17_0_0 r17.length nr17_0_0) ∧ f 9 = (.slice (some ⟨b28, 0, none⟩) s49.2.1.length n29) ∧ f 10 = (.slice (some ⟨b38, 0, none⟩) s49.2.2.length n39) ∧ f 11 = (vi s49.1) ∧ RowR tInt 3 F3 (some ⟨b28, 0, none⟩) n29 s49.2.1 es49_1 ∧ RowR tInt 3 F3 (some ⟨b38, 0, none⟩) n39 s49.2.2 es49_2) N ⟨(0, r25, r35), F2, (some b28, .cells C30 3 (0, 0)), (some b38, .cells C40 3 (0, 0)), ho47, hs45, (Mem.le.refl _), rfl, rfl, rfl, rfl, rfl, rfl, rfl, hr33, hr43⟩ ?_
  rintro m70 f w50 ⟨s49, F3, es49_1, es49_2, hit71, hs51, le52, e53, e54, e55, e56, e57, e58, e59, hrs49_1, hrs49_2⟩
  obtain ⟨m72, fl73, rfl, hb74, hnx75⟩ := iter_step hit71
  refine Sq ?_
  refine Sq (Rg [0, 1, 2, 3] ?_)
  refine V 27 3 (mv 11 (vi s49.1) e59) ?_
  refine V 28 0 (fa 112 7 1 1 1 b12 0 1 e55) ?_
  refine V 29 3 (ld 3 28 b12 1 false 1 (vi r4.n_) (hs51.ownAt (k := 2) rfl)) ?_
  refine V 30 4 (run_lss (t := 3) (t' := 3) (x := (.tmp 27)) (y := (.tmp 29)) (k := .i64) (a := s49.1) (b := r4.n_) rfl rfl) ?_
  refine Nt ?_
  refine CWP.cond (t := (decide (s49.1 < r4.n_))) (by kernel_rfl) rfl (fun hb76 => ?_) (fun hb76 => ?_)
  ·have h77 := cond_t hb74 hb76
   refine Sc ?_
   refine thenQ_nrm ?_
   refine Sq ?_
   refine Bk ?_
   refine Sq (Rg [0, 1, 2, 3] ?_)
   refine V 33 50 (mv 9 (.slice (some ⟨b28, 0, none⟩) s49.2.1.length n29) e57) ?_
   refine V 34 3 (mv 11 (vi s49.1) e59) ?_
   obtain ⟨x78, hx79, h81⟩ := bind_some h77
   obtain ⟨hi80, hx79'⟩ := idx_spec hx79
   obtain ⟨b82, C83, ha84, rfl, hE86⟩ := RowR.open hrs49_1 hx79'
   cases ha84
   have hr87 := hrs49_1
   have hc89 := hE86 _ _ hx79'
   refine V 35 0 (run_index0 (t := 50) (x := (.tmp 33)) (y := (.tmp 34)) (b := b28) (E := 3) (s := 1) (by_ := 8) rfl rfl (by kernel_rfl) hi80) ?_
   refine RWP.storeRow (ty := 0) (g := none) (by kernel_rfl) rfl (x := (.tmp 35)) (y := (.const (vi 1125899906842624))) (t := 3) (v := (vi 1125899906842624)) (gg := false) (b := b28) (j := (s49.1 : Int).toNat) (C := C83) (T := tInt) (E := 3) (u := (1125899906842624)) rfl rfl (by kernel_rfl) hs51 (k := 1) rfl hr87 hx79' rfl rfl (fun C90 w91 (hs92 : HS w0 F0 w91 F3 [es49_2, (some b28, .cells C90 3 (0, 0)), (sb b12 (kSpot r4 ar4_0_0 nr4_0_0) 112)]) hr93 => ?_)
   refine Nt ?_
   refine Rg [0, 1, 2, 3] ?_
   refine V 36 50 (mv 10 (.slice (some ⟨b38, 0, none⟩) s49.2.2.length n39) e58) ?_
   refine V 37 3 (mv 11 (vi s49.1) e59) ?_
   obtain ⟨x94, hx95, h97⟩ := bind_some h81
   obtain ⟨hi96, hx95'⟩ := idx_spec hx95
   obtain ⟨b98, C99, ha100, rfl, hE102⟩ := RowR.open hrs49_2 hx95'
   cases ha100
   have hr103 := hrs49_2
   have hc105 := hE102 _ _ hx95'
   refine V 38 0 (run_index0 (t := 50) (x := (.tmp 36)) (y := (.tmp 37)) (b := b38) (E := 3) (s := 1) (by_ := 8) rfl rfl (by kernel_rfl) hi96) ?_
   refine RWP.storeRow (ty := 0) (g := none) (by kernel_rfl) rfl (x := (.tmp 38)) (y := (.const (vi (-1)))) (t := 3) (v := (vi (-1))) (gg := false) (b := b38) (j := (s49.1 : Int).toNat) (C := C99) (T := tInt) (E := 3) (u := ((-1))) rfl rfl (by kernel_rfl) hs92 (k := 0) rfl hr103 hx95' rfl rfl (fun C106 w107 (hs108 : HS w0 F0 w107 F3 [(some b38, .cells C106 3 (0, 0)), (some b28, .cells C90 3 (0, 0)), (sb b12 (kSpot r4 ar4_0_0 nr4_0_0) 112)]) hr109 => ?_)
   refine RWP.nil ?_
   refine blockQ_nrm ?_
   refine thenQ_nrm ?_
   refine Rg [0, 1, 2] ?_
   refine V 31 3 (mv 11 (vi s49.1) e59) ?_
   refine V 32 3 (run_add (t := 3) (t' := 3) (x := (.tmp 31)) (y := (.const (vi 1))) (k := .i64) (a := s49.1) (b := 1) rfl rfl) ?_
   refine V 11 3 (ma 32 (vi (W64 (s49.1 + 1)))) ?_
   refine RWP.nil ?_
   have hn110 := iter_next h97 hnx75
   exact ⟨m72, Nat.lt_succ_self _, ((W64 (s49.1 + 1)), (s49.2.1.set (s49.1 : Int).toNat (1125899906842624)), (s49.2.2.set (s49.1 : Int).toNat ((-1)))), F3, (some b28, .cells C90 3 (0, 0)), (some b38, .cells C106 3 (0, 0)), hn110, hs108, le52, e53, e54, e55, e56, (len_set e57), (len_set e58), rfl, hr93, hr109⟩
  ·have h111 := cond_f hb74 hb76
   refine CWP.exit (by kernel_rfl) ?_
   refine thenQ_ex ?_
   refine thenQ_ex ?_
   refine blockQ_hit rfl ?_
   have ho112 := iter_done h111 hnx75
   exact .inl ⟨rfl, (s49.1, s49.2.1, s49.2.2), F3, es49_1, es49_2, ho112, hs51, le52, e53, e54, e55, e56, e57, e58, hrs49_1, hrs49_2⟩
 ·rintro f w61 ⟨s60, F4, es60_1, es60_2, rfl, hs62, le63, e64, e65, e66, e67, e68, e69, hrs60_1, hrs60_2⟩
  have h113 := k_done h48
  refine thenQ_nrm ?_
  refine Sq (Rg [0, 1, 2, 3] ?_)
  refine V 39 50 (mv 9 (.slice (some ⟨b28, 0, none⟩) s60.2.1.length n29) e68) ?_
  refine V 40 3 (mv 1 (vi x1) e65) ?_
  obtain ⟨x114, hx115, h117⟩ := bind_some h113
  obtain ⟨hi116, hx115'⟩ := idx_spec hx115
  obtain ⟨b118, C119, ha120, rfl, hE122⟩ := RowR.open hrs60_1 hx115'
  cases ha120
  have hr123 := hrs60_1
  have hc125 := hE122 _ _ hx115'
  refine V 41 0 (run_index0 (t := 50) (x := (.tmp 39)) (y := (.tmp 40)) (b := b28) (E := 3) (s := 1) (by_ := 8) rfl rfl (by kernel_rfl) hi116) ?_
  refine RWP.storeRow (ty := 0) (g := none) (by kernel_rfl) rfl (x := (.tmp 41)) (y := (.const (vi 0))) (t := 3) (v := (vi 0)) (gg := false) (b := b28) (j := (x1 : Int).toNat) (C := C119) (T := tInt) (E := 3) (u := (0)) rfl rfl (by kernel_rfl) hs62 (k := 1) rfl hr123 hx115' rfl rfl (fun C126 w127 (hs128 : HS w0 F0 w127 F4 [es60_2, (some b28, .cells C126 3 (0, 0)), (sb b12 (kSpot r4 ar4_0_0 nr4_0_0) 112)]) hr129 => ?_)
  refine Nss ?_
  refine Sq (Rg [0] ?_)
  refine V 12 3 (mc (vi 0) (vi 0)) ?_
  refine Nt ?_
  obtain ⟨o130, ho131, h132⟩ := bind_some h117
  refine CWP.cut (fun f w => ∃ (s143 : (Int × List Int × List Int)) (F6 : Mem) (es143_1 : Option Nat × Obj) (es143_2 : Option Nat × Obj), o130 = .done s143 ∧ HS w0 F0 w F6 [es143_2, es143_1] ∧ Mem.le F4 F6 ∧ f.d = [] ∧ f 9 = (.slice (some ⟨b28, 0, none⟩) s143.2.1.length n29) ∧ f 10 = (.slice (some ⟨b38, 0, none⟩) s143.2.2.length n39) ∧ RowR tInt 3 F6 (some ⟨b28, 0, none⟩) n29 s143.2.1 es143_1 ∧ RowR tInt 3 F6 (some ⟨b38, 0, none⟩) n39 s143.2.2 es143_2) ?_ ?_
  ·refine Bk ?_
   refine CWP.loop (by kernel_rfl) (fun m f w => ∃ (s133 : (Int × List Int × List Int)) (F5 : Mem) (es133_1 : Option Nat × Obj) (es133_2 : Option Nat × Obj), iter (ref03_reach_L1 N x0 x1 r4 r17 r25 r35 s60 x114) m s133 = some o130 ∧ HS w0 F0 w F5 [es133_2, es133_1, (sb b12 (kSpot r4 ar4_0_0 nr4_0_0) 112)] ∧ Mem.le F4 F5 ∧ f.d = [] ∧ f 7 = (.pointer (some ⟨b12, 0, none⟩)) ∧ f 8 = (.slice ar17_0_0 r17.length nr17_0_0) ∧ f 9 = (.slice (some ⟨b28, 0, none⟩) s133.2.1.length n29) ∧ f 10 = (.slice (some ⟨b38, 0, none⟩) s133.2.2.length n39) ∧ f 12 = (vi s133.1) ∧ RowR tInt 3 F5 (some ⟨b28, 0, none⟩) n29 s133.2.1 es133_1 ∧ RowR tInt 3 F5 (some ⟨b38, 0, none⟩) n39 s133.2.2 es133_2) N ⟨(0, (s60.2.1.set (x1 : Int).toNat (0)), s60.2.2), F4, (some b28, .cells C126 3 (0, 0)), es60_2, ho131, hs128, (Mem.le.refl _), e64, e66, e67, (len_set e68), e69, rfl, hr129, hrs60_2⟩ ?_
   rintro m150 f w134 ⟨s133, F5, es133_1, es133_2, hit151, hs135, le136, e137, e138, e139, e140, e141, e142, hrs133_1, hrs133_2⟩
   obtain ⟨m152, fl153, rfl, hb154, hnx155⟩ := iter_step hit151
   refine Sq ?_
   refine Sq (Rg [0, 1, 2, 3] ?_)
   refine V 42 3 (mv 12 (vi s133.1) e142) ?_
   refine V 43 0 (fa 112 7 1 1 1 b12 0 1 e138) ?_
   refine V 44 3 (ld 3 43 b12 1 false 1 (vi r4.n_) (hs135.ownAt (k := 2) rfl)) ?_
   refine V 45 4 (run_leq (t := 3) (t' := 3) (x := (.tmp 42)) (y := (.tmp 44)) (k := .i64) (a := s133.1) (b := r4.n_) rfl rfl) ?_
   refine Nt ?_
   refine CWP.cond (t := (decide (s133.1 ≤ r4.n_))) (by kernel_rfl) rfl (fun hb156 => ?_) (fun hb156 => ?_)
   ·have h157 := cond_t hb154 hb156
    refine Sc ?_
    refine thenQ_nrm ?_
    refine Sq ?_
    refine Bk ?_
    refine Sq (Rg [0] ?_)
    refine V 13 3 (mc (vi (-1)) (vi (-1))) ?_
    refine Nss ?_
    refine Sq (Rg [0] ?_)
    refine V 14 3 (mc (vi 0) (vi 0)) ?_
    refine Nt ?_
    obtain ⟨o158, ho159, h160⟩ := bind_some h157
    refine CWP.cut (fun f w => ∃ (s173 : (Int × Int × List Int × List Int)) (F8 : Mem) (es173_2 : Option Nat × Obj) (es173_3 : Option Nat × Obj), o158 = .done s173 ∧ HS w0 F0 w F8 [es173_3, es173_2, (sb b12 (kSpot r4 ar4_0_0 nr4_0_0) 112)] ∧ Mem.le F5 F8 ∧ f.d = [] ∧ f 7 = (.pointer (some ⟨b12, 0, none⟩)) ∧ f 8 = (.slice ar17_0_0 r17.length nr17_0_0) ∧ f 9 = (.slice (some ⟨b28, 0, none⟩) s173.2.2.1.length n29) ∧ f 10 = (.slice (some ⟨b38, 0, none⟩) s173.2.2.2.length n39) ∧ f 12 = (vi s133.1) ∧ f 13 = (vi s173.1) ∧ RowR tInt 3 F8 (some ⟨b28, 0, none⟩) n29 s173.2.2.1 es173_2 ∧ RowR tInt 3 F8 (some ⟨b38, 0, none⟩) n39 s173.2.2.2 es173_3) ?_ ?_
    ·refine Bk ?_
     refine CWP.loop (by kernel_rfl) (fun m f w => ∃ (s161 : (Int × Int × List Int × List Int)) (F7 : Mem) (es161_2 : Option Nat × Obj) (es161_3 : Option Nat × Obj), iter (ref03_reach_L2 N x0 x1 r4 r17 r25 r35 s60 x114 s133) m s161 = some o158 ∧ HS w0 F0 w F7 [es161_3, es161_2, (sb b12 (kSpot r4 ar4_0_0 nr4_0_0) 112)] ∧ Mem.le F5 F7 ∧ f.d = [] ∧ f 7 = (.pointer (some ⟨b12, 0, none⟩)) ∧ f 8 = (.slice ar17_0_0 r17.length nr17_0_0) ∧ f 9 = (.slice (some ⟨b28, 0, none⟩) s161.2.2.1.length n29) ∧ f 10 = (.slice (some ⟨b38, 0, none⟩) s161.2.2.2.length n39) ∧ f 12 = (vi s133.1) ∧ f 13 = (vi s161.1) ∧ f 14 = (vi s161.2.1) ∧ RowR tInt 3 F7 (some ⟨b28, 0, none⟩) n29 s161.2.2.1 es161_2 ∧ RowR tInt 3 F7 (some ⟨b38, 0, none⟩) n39 s161.2.2.2 es161_3) N ⟨((-1), 0, s133.2.1, s133.2.2), F5, es133_1, es133_2, ho159, hs135, (Mem.le.refl _), e137, e138, e139, e140, e141, e142, rfl, rfl, hrs133_1, hrs133_2⟩ ?_
     rintro m184 f w162 ⟨s161, F7, es161_2, es161_3, hit185, hs163, le164, e165, e166, e167, e168, e169, e170, e171, e172, hrs161_2, hrs161_3⟩
     obtain ⟨m186, fl187, rfl, hb188, hnx189⟩ := iter_step hit185
     refine Sq ?_
     refine Sq (Rg [0, 1, 2, 3] ?_)
     refine V 48 3 (mv 14 (vi s161.2.1) e172) ?_
     refine V 49 57 (mv 8 (.slice ar17_0_0 r17.length nr17_0_0) e167) ?_
     refine V 50 3 (ln 49 57 ar17_0_0 r17.length nr17_0_0 103 7 56) ?_
     refine V 51 4 (run_lss (t := 3) (t' := 3) (x := (.tmp 48)) (y := (.tmp 50)) (k := .i64) (a := s161.2.1) (b := (r17.length : Int)) rfl rfl) ?_
     refine Nt ?_
     refine CWP.cond (t := (decide (s161.2.1 < (r17.length : Int)))) (by kernel_rfl) rfl (fun hb190 => ?_) (fun hb190 => ?_)
     ·have h191 := cond_t hb188 hb190
      refine Sc ?_
      refine thenQ_nrm ?_
      refine Sq ?_
      refine Bk ?_
      refine Sq ?_
      obtain ⟨j197, hj207, h208⟩ := bind_some h191
      refine CWP.regionD (by kernel_rfl) (by kernel_rfl) (by kernel_rfl) (by kernel_rfl) (z := 8) (F := F7) (Lc := [es161_3, es161_2, (sb b12 (kSpot r4 ar4_0_0 nr4_0_0) 112)]) (Lz := []) (l := [false, false, false, false, false, false, false, false]) (fuel := 8) (by kernel_rfl) (by kernel_rfl) hs163 (by simp) (by simp) (fun f w => ∃ (F9 : Mem), HS w0 F0 w F9 [es161_3, es161_2, (sb b12 (kSpot r4 ar4_0_0 nr4_0_0) 112)] ∧ Mem.le F7 F9 ∧ f.d = [] ∧ f 7 = (.pointer (some ⟨b12, 0, none⟩)) ∧ f 8 = (.slice ar17_0_0 r17.length nr17_0_0) ∧ f 9 = (.slice (some ⟨b28, 0, none⟩) s161.2.2.1.length n29) ∧ f 10 = (.slice (some ⟨b38, 0, none⟩) s161.2.2.2.length n39) ∧ f 12 = (vi s133.1) ∧ f 13 = (vi s161.1) ∧ f 14 = (vi s161.2.1) ∧ f 15 = (vi j197)) (fun wd192 hw193 => ?_) ?_
      ·refine Dt 0 54 112 _ (fun _ hq => ld 112 7 b12 0 true 2 (.agg (kSpot r4 ar4_0_0 nr4_0_0)) (hq.1.2 2 _ _ rfl) e166) ?_
       refine Dt 1 55 57 _ (fun _ hq => mv 8 (.slice ar17_0_0 r17.length nr17_0_0) e167) ?_
       refine Dt 2 56 3 _ (fun _ hq => mv 14 (vi s161.2.1) e172) ?_
       obtain ⟨x209, hx210, h212⟩ := bind_some hj207
       obtain ⟨hi211, hx210'⟩ := idx_spec hx210
       obtain ⟨b213, o214, C215, E216, fz217, rfl, hF219, hE220⟩ := SlA.open (SlA.mono hsr17_0_0 ((le63.trans le136).trans le164)) hx210'
       have hc222 := hE220 _ _ hx210'
       refine Dt 3 57 0 (.pointer (some ⟨b213, (o214 + (s161.2.1 : Int).toNat * 7), none⟩)) (fun _ hq => ix 57 55 56 b213 o214 103 7 56 hi211) ?_
       refine Dt 4 58 0 (.pointer (some ⟨b213, (o214 + (s161.2.1 : Int).toNat * 7), none⟩)) (fun _ hq => fa 103 57 0 0 2 b213 (o214 + (s161.2.1 : Int).toNat * 7) (o214 + (s161.2.1 : Int).toNat * 7)) ?_
       refine Dt 5 59 27 _ (fun _ hq => lx 27 58 0 7 true 2 (.agg (kRef x209.From)) (hq.1.1 _ _ hF219) hc222) ?_
       refine DWP.one (i := 6) (by kernel_rfl) ?_
       obtain ⟨r223, hr224, h225⟩ := bind_some h212
       refine DStep.call (l' := [true, true, true, true, true, true, true, false]) (zd := true) (by kernel_rfl) (by kernel_rfl) (by kernel_rfl) (dst := (some 60)) (ty := 3) (g := none) (by kernel_rfl) rfl (f0 := (.func 81)) (aos := #[(.tmp 54), (.tmp 59)]) (ats := #[112, 27]) (fid := 81) (first := #[]) (cap := #[]) (args := [(.agg (kSpot r4 ar4_0_0 nr4_0_0)), (.agg (kRef x209.From))]) rfl co_ref03_spot_of (rfl) hw193 (c_ref03_spot_of N wd192 F7 hw193.pers (r4) ar4_0_0 nr4_0_0 hbr4_0_0 (SlA.mono hsr4_0_0 (((le23.trans le63).trans le136).trans le164)) (x209.From) _ hr224) ?_
       intro v226 F10 w227 hs228 le229 hp230
       obtain rfl := hp230
       refine Dt 7 15 3 _ (fun _ hq => ma 60 (vi r223)) ?_
       obtain rfl := some_inj h225
       exact DWP.done (by kernel_rfl) ⟨F10, hs228, le229, e165, e166, e167, e168, e169, e170, e171, e172, rfl⟩
      ·rintro f w194 ⟨F9, hs195, le196, e198, e199, e200, e201, e202, e203, e204, e205, e206⟩
       refine thenQ_nrm ?_
       refine Sq ?_
       obtain ⟨j236, hj247, h248⟩ := bind_some h208
       refine CWP.regionD (by kernel_rfl) (by kernel_rfl) (by kernel_rfl) (by kernel_rfl) (z := 8) (F := F9) (Lc := [es161_3, es161_2, (sb b12 (kSpot r4 ar4_0_0 nr4_0_0) 112)]) (Lz := []) (l := [false, false, false, false, false, false, false, false]) (fuel := 8) (by kernel_rfl) (by kernel_rfl) hs195 (by simp) (by simp) (fun f w => ∃ (F11 : Mem), HS w0 F0 w F11 [es161_3, es161_2, (sb b12 (kSpot r4 ar4_0_0 nr4_0_0) 112)] ∧ Mem.le F9 F11 ∧ f.d = [] ∧ f 7 = (.pointer (some ⟨b12, 0, none⟩)) ∧ f 8 = (.slice ar17_0_0 r17.length nr17_0_0) ∧ f 9 = (.slice (some ⟨b28, 0, none⟩) s161.2.2.1.length n29) ∧ f 10 = (.slice (some ⟨b38, 0, none⟩) s161.2.2.2.length n39) ∧ f 12 = (vi s133.1) ∧ f 13 = (vi s161.1) ∧ f 14 = (vi s161.2.1) ∧ f 15 = (vi j197) ∧ f 16 = (vi j236)) (fun wd231 hw232 => ?_) ?_
       ·refine Dt 0 61 112 _ (fun _ hq => ld 112 7 b12 0 true 2 (.agg (kSpot r4 ar4_0_0 nr4_0_0)) (hq.1.2 2 _ _ rfl) e199) ?_
        refine Dt 1 62 57 _ (fun _ hq => mv 8 (.slice ar17_0_0 r17.length nr17_0_0) e200) ?_
        refine Dt 2 63 3 _ (fun _ hq => mv 14 (vi s161.2.1) e205) ?_
        obtain ⟨x249, hx250, h252⟩ := bind_some hj247
        obtain ⟨hi251, hx250'⟩ := idx_spec hx250
        obtain ⟨b253, o254, C255, E256, fz257, rfl, hF259, hE260⟩ := SlA.open (SlA.mono hsr17_0_0 (((le63.trans le136).trans le164).trans le196)) hx250'
        have hc262 := hE260 _ _ hx250'
        refine Dt 3 64 0 (.pointer (some ⟨b253, (o254 + (s161.2.1 : Int).toNat * 7), none⟩)) (fun _ hq => ix 57 62 63 b253 o254 103 7 56 hi251) ?_
        refine Dt 4 65 0 (.pointer (some ⟨b253, ((o254 + (s161.2.1 : Int).toNat * 7) + 2), none⟩)) (fun _ hq => fa 103 64 1 2 2 b253 (o254 + (s161.2.1 : Int).toNat * 7) ((o254 + (s161.2.1 : Int).toNat * 7) + 2)) ?_
        refine Dt 5 66 27 _ (fun _ hq => lx 27 65 2 7 true 2 (.agg (kRef x249.To)) (hq.1.1 _ _ hF259) hc262) ?_
        refine DWP.one (i := 6) (by kernel_rfl) ?_
        obtain ⟨r263, hr264, h265⟩ := bind_some h252
        refine DStep.call (l' := [true, true, true, true, true, true, true, false]) (zd := true) (by kernel_rfl) (by kernel_rfl) (by kernel_rfl) (dst := (some 67)) (ty := 3) (g := none) (by kernel_rfl) rfl (f0 := (.func 81)) (aos := #[(.tmp 61), (.tmp 66)]) (ats := #[112, 27]) (fid := 81) (first := #[]) (cap := #[]) (args := [(.agg (kSpot r4 ar4_0_0 nr4_0_0)), (.agg (kRef x249.To))]) rfl co_ref03_spot_of (rfl) hw232 (c_ref03_spot_of N wd231 F9 hw232.pers (r4) ar4_0_0 nr4_0_0 hbr4_0_0 (SlA.mono hsr4_0_0 ((((le23.trans le63).trans le136).trans le164).trans le196)) (x249.To) _ hr264) ?_
        intro v266 F12 w267 hs268 le269 hp270
        obtain rfl := hp270
        refine Dt 7 16 3 _ (fun _ hq => ma 67 (vi r263)) ?_
        obtain rfl := some_inj h265
        exact DWP.done (by kernel_rfl) ⟨F12, hs268, le269, e198, e199, e200, e201, e202, e203, e204, e205, e206, rfl⟩
       ·rintro f w233 ⟨F11, hs234, le235, e237, e238, e239, e240, e241, e242, e243, e244, e245, e246⟩
        refine thenQ_nrm ?_
        refine Sq ?_
        obtain ⟨j276, hj288, h289⟩ := bind_some h248
        refine CWP.regionD (by kernel_rfl) (by kernel_rfl) (by kernel_rfl) (by kernel_rfl) (z := 22) (F := F11) (Lc := [es161_3, es161_2, (sb b12 (kSpot r4 ar4_0_0 nr4_0_0) 112)]) (Lz := []) (l := [false, false, false, false, false, false, false, false, false, false, false, false, false, false, false, false, false, false, false, false, false, false]) (fuel := 22) (by kernel_rfl) (by kernel_rfl) hs234 (by simp) (by simp) (fun f w => ∃ (F13 : Mem), HS w0 F0 w F13 [es161_3, es161_2, (sb b12 (kSpot r4 ar4_0_0 nr4_0_0) 112)] ∧ Mem.le F11 F13 ∧ f.d = [] ∧ f 7 = (.pointer (some ⟨b12, 0, none⟩)) ∧ f 8 = (.slice ar17_0_0 r17.length nr17_0_0) ∧ f 9 = (.slice (some ⟨b28, 0, none⟩) s161.2.2.1.length n29) ∧ f 10 = (.slice (some ⟨b38, 0, none⟩) s161.2.2.2.length n39) ∧ f 12 = (vi s133.1) ∧ f 13 = (vi s161.1) ∧ f 14 = (vi s161.2.1) ∧ f 15 = (vi j197) ∧ f 16 = (vi j236) ∧ f 89 = (.bool j276)) (fun wd271 hw272 => ?_) ?_
        ·refine Dtl 0 68 50 _ [tt, ff, ff, ff, ff, ff, ff, ff, ff, ff, ff, ff, ff, ff, ff, ff, ff, ff, ff, ff, ff, ff] (fun _ hq => mv 9 (.slice (some ⟨b28, 0, none⟩) s161.2.2.1.length n29) e240) ?_
         refine Dtl 1 69 3 _ [tt, tt, ff, ff, ff, ff, ff, ff, ff, ff, ff, ff, ff, ff, ff, ff, ff, ff, ff, ff, ff, ff] (fun _ hq => mv 15 (vi j197) e245) ?_
         obtain ⟨x290, hx291, h293⟩ := bind_some hj288
         obtain ⟨hi292, hx291'⟩ := idx_spec hx291
         obtain ⟨b294, C295, ha296, rfl, hE298⟩ := RowR.open (hrs161_2.mono (le196.trans le235)) hx291'
         cases ha296
         have hr299 := (hrs161_2.mono (le196.trans le235))
         have hc301 := hE298 _ _ hx291'
         refine Dtl 2 70 0 (.pointer (some ⟨b28, ((j197 : Int).toNat * 1), none⟩)) [tt, tt, tt, ff, ff, ff, ff, ff, ff, ff, ff, ff, ff, ff, ff, ff, ff, ff, ff, ff, ff, ff] (fun _ hq => run_index0 (t := 50) (x := (.tmp 68)) (y := (.tmp 69)) (b := b28) (E := 3) (s := 1) (by_ := 8) rfl rfl (by kernel_rfl) hi292) ?_
         refine Dtl 3 71 3 _ [tt, tt, tt, tt, ff, ff, ff, ff, ff, ff, ff, ff, ff, ff, ff, ff, ff, ff, ff, ff, ff, ff] (fun _ hq => lx 3 70 0 1 false 1 (vi x290) (hq.1.2 1 _ _ rfl) hc301) ?_
         refine Dtl 4 72 4 (.bool (decide (x290 < 1125899906842624))) [tt, tt, tt, tt, tt, ff, ff, ff, ff, ff, ff, ff, ff, ff, ff, ff, ff, ff, ff, ff, ff, ff] (fun _ hq => run_lss (t := 3) (t' := 3) (x := (.tmp 71)) (y := (.const (vi 1125899906842624))) (k := .i64) (a := x290) (b := 1125899906842624) rfl rfl) ?_
         refine Dtl 5 73 4 _ [tt, tt, tt, tt, tt, tt, ff, ff, ff, ff, ff, ff, ff, ff, ff, ff, ff, ff, ff, ff, ff, ff] (fun _ hq => mv 72 (.bool (decide (x290 < 1125899906842624)))) ?_
         refine DWP.split (decide (x290 < 1125899906842624)) (fun hb302 => ?_) (fun hb302 => ?_)
         ·have h303 := cond_t h293 hb302
          refine Dgl 6 74 50 _ [tt, tt, tt, tt, tt, tt, tt, ff, ff, ff, ff, ff, ff, ff, ff, ff, ff, ff, ff, ff, ff, ff] 5 true 73 hb302 (fun _ hq => mv 9 (.slice (some ⟨b28, 0, none⟩) s161.2.2.1.length n29) e240) ?_
          refine Dgl 7 75 3 _ [tt, tt, tt, tt, tt, tt, tt, tt, ff, ff, ff, ff, ff, ff, ff, ff, ff, ff, ff, ff, ff, ff] 5 true 73 hb302 (fun _ hq => mv 15 (vi j197) e245) ?_
          obtain ⟨x304, hx305, h307⟩ := bind_some h303
          obtain ⟨hi306, hx305'⟩ := idx_spec hx305
          obtain ⟨b308, C309, ha310, he311, hE312⟩ := RowR.open hr299 hx305'
          cases ha310
          cases he311
          have hc314 := hE312 _ _ hx305'
          refine Dgl 8 76 0 (.pointer (some ⟨b28, ((j197 : Int).toNat * 1), none⟩)) [tt, tt, tt, tt, tt, tt, tt, tt, tt, ff, ff, ff, ff, ff, ff, ff, ff, ff, ff, ff, ff, ff] 5 true 73 hb302 (fun _ hq => run_index0 (t := 50) (x := (.tmp 74)) (y := (.tmp 75)) (b := b28) (E := 3) (s := 1) (by_ := 8) rfl rfl (by kernel_rfl) hi306) ?_
          refine Dgl 9 77 3 _ [tt, tt, tt, tt, tt, tt, tt, tt, tt, tt, ff, ff, ff, ff, ff, ff, ff, ff, ff, ff, ff, ff] 5 true 73 hb302 (fun _ hq => lx 3 76 0 1 false 1 (vi x304) (hq.1.2 1 _ _ rfl) hc314) ?_
          refine Dgl 10 78 57 _ [tt, tt, tt, tt, tt, tt, tt, tt, tt, tt, tt, ff, ff, ff, ff, ff, ff, ff, ff, ff, ff, ff] 5 true 73 hb302 (fun _ hq => mv 8 (.slice ar17_0_0 r17.length nr17_0_0) e239) ?_
          refine Dgl 11 79 3 _ [tt, tt, tt, tt, tt, tt, tt, tt, tt, tt, tt, tt, ff, ff, ff, ff, ff, ff, ff, ff, ff, ff] 5 true 73 hb302 (fun _ hq => mv 14 (vi s161.2.1) e244) ?_
          obtain ⟨x315, hx316, h318⟩ := bind_some h307
          obtain ⟨hi317, hx316'⟩ := idx_spec hx316
          obtain ⟨b319, o320, C321, E322, fz323, rfl, hF325, hE326⟩ := SlA.open (SlA.mono hsr17_0_0 ((((le63.trans le136).trans le164).trans le196).trans le235)) hx316'
          have hc328 := hE326 _ _ hx316'
          refine Dgl 12 80 0 (.pointer (some ⟨b319, (o320 + (s161.2.1 : Int).toNat * 7), none⟩)) [tt, tt, tt, tt, tt, tt, tt, tt, tt, tt, tt, tt, tt, ff, ff, ff, ff, ff, ff, ff, ff, ff] 5 true 73 hb302 (fun _ hq => ix 57 78 79 b319 o320 103 7 56 hi317) ?_
          refine Dgl 13 81 0 (.pointer (some ⟨b319, ((o320 + (s161.2.1 : Int).toNat * 7) + 4), none⟩)) [tt, tt, tt, tt, tt, tt, tt, tt, tt, tt, tt, tt, tt, tt, ff, ff, ff, ff, ff, ff, ff, ff] 5 true 73 hb302 (fun _ hq => fa 103 80 2 4 1 b319 (o320 + (s161.2.1 : Int).toNat * 7) ((o320 + (s161.2.1 : Int).toNat * 7) + 4)) ?_
          refine Dgl 14 82 3 _ [tt, tt, tt, tt, tt, tt, tt, tt, tt, tt, tt, tt, tt, tt, tt, ff, ff, ff, ff, ff, ff, ff] 5 true 73 hb302 (fun _ hq => lx 3 81 4 7 false 1 (vi x315.Most) (hq.1.1 _ _ hF325) hc328) ?_
          refine Dgl 15 83 3 (vi (W64 (x304 + x315.Most))) [tt, tt, tt, tt, tt, tt, tt, tt, tt, tt, tt, tt, tt, tt, tt, tt, ff, ff, ff, ff, ff, ff] 5 true 73 hb302 (fun _ hq => run_add (t := 3) (t' := 3) (x := (.tmp 77)) (y := (.tmp 82)) (k := .i64) (a := x304) (b := x315.Most) rfl rfl) ?_
          refine Dgl 16 84 50 _ [tt, tt, tt, tt, tt, tt, tt, tt, tt, tt, tt, tt, tt, tt, tt, tt, tt, ff, ff, ff, ff, ff] 5 true 73 hb302 (fun _ hq => mv 9 (.slice (some ⟨b28, 0, none⟩) s161.2.2.1.length n29) e240) ?_
          refine Dgl 17 85 3 _ [tt, tt, tt, tt, tt, tt, tt, tt, tt, tt, tt, tt, tt, tt, tt, tt, tt, tt, ff, ff, ff, ff] 5 true 73 hb302 (fun _ hq => mv 16 (vi j236) e246) ?_
          obtain ⟨x329, hx330, h332⟩ := bind_some h318
          obtain ⟨hi331, hx330'⟩ := idx_spec hx330
          obtain ⟨b333, C334, ha335, he336, hE337⟩ := RowR.open hr299 hx330'
          cases ha335
          cases he336
          have hc339 := hE337 _ _ hx330'
          refine Dgl 18 86 0 (.pointer (some ⟨b28, ((j236 : Int).toNat * 1), none⟩)) [tt, tt, tt, tt, tt, tt, tt, tt, tt, tt, tt, tt, tt, tt, tt, tt, tt, tt, tt, ff, ff, ff] 5 true 73 hb302 (fun _ hq => run_index0 (t := 50) (x := (.tmp 84)) (y := (.tmp 85)) (b := b28) (E := 3) (s := 1) (by_ := 8) rfl rfl (by kernel_rfl) hi331) ?_
          refine Dgl 19 87 3 _ [tt, tt, tt, tt, tt, tt, tt, tt, tt, tt, tt, tt, tt, tt, tt, tt, tt, tt, tt, tt, ff, ff] 5 true 73 hb302 (fun _ hq => lx 3 86 0 1 false 1 (vi x329) (hq.1.2 1 _ _ rfl) hc339) ?_
          refine Dgl 20 88 4 (.bool (decide ((W64 (x304 + x315.Most)) < x329))) [tt, tt, tt, tt, tt, tt, tt, tt, tt, tt, tt, tt, tt, tt, tt, tt, tt, tt, tt, tt, tt, ff] 5 true 73 hb302 (fun _ hq => run_lss (t := 3) (t' := 3) (x := (.tmp 83)) (y := (.tmp 87)) (k := .i64) (a := (W64 (x304 + x315.Most))) (b := x329) rfl rfl) ?_
          refine Dtl 21 89 4 _ [tt, tt, tt, tt, tt, tt, tt, tt, tt, tt, tt, tt, tt, tt, tt, tt, tt, tt, tt, tt, tt, tt] (fun _ hq => p1 73 (.tmp 88) (.const (.bool false)) (.bool (decide ((W64 (x304 + x315.Most)) < x329))) hb302) ?_
          obtain rfl := some_inj h332
          exact DWP.done (by kernel_rfl) ⟨F11, hw272, (Mem.le.refl _), e237, e238, e239, e240, e241, e242, e243, e244, e245, e246, rfl⟩
         ·have h340 := cond_f h293 hb302
          refine Dkl [(6, 74), (7, 75), (8, 76), (9, 77), (10, 78), (11, 79)] 5 true 73 hb302 [tt, tt, tt, tt, tt, tt, tt, tt, tt, tt, tt, tt, ff, ff, ff, ff, ff, ff, ff, ff, ff, ff] ?_
          refine Dkl [(12, 80), (13, 81), (14, 82), (15, 83), (16, 84), (17, 85)] 5 true 73 hb302 [tt, tt, tt, tt, tt, tt, tt, tt, tt, tt, tt, tt, tt, tt, tt, tt, tt, tt, ff, ff, ff, ff] ?_
          refine Dkl [(18, 86), (19, 87), (20, 88)] 5 true 73 hb302 [tt, tt, tt, tt, tt, tt, tt, tt, tt, tt, tt, tt, tt, tt, tt, tt, tt, tt, tt, tt, tt, ff] ?_
          refine Dtl 21 89 4 _ [tt, tt, tt, tt, tt, tt, tt, tt, tt, tt, tt, tt, tt, tt, tt, tt, tt, tt, tt, tt, tt, tt] (fun _ hq => p0 73 (.tmp 88) (.const (.bool false)) (.bool false) hb302) ?_
          obtain rfl := some_inj h340
          exact DWP.done (by kernel_rfl) ⟨F11, hw272, (Mem.le.refl _), e237, e238, e239, e240, e241, e242, e243, e244, e245, e246, rfl⟩
        ·rintro f w273 ⟨F13, hs274, le275, e277, e278, e279, e280, e281, e282, e283, e284, e285, e286, e287⟩
         refine thenQ_nrm ?_
         obtain ⟨j344, hj353, h354⟩ := bind_some h289
         refine CWP.cut (fun f w => ∃ (F14 : Mem) (ej344_0 : Option Nat × Obj) (ej344_1 : Option Nat × Obj), HS w0 F0 w F14 [ej344_1, ej344_0, (sb b12 (kSpot r4 ar4_0_0 nr4_0_0) 112)] ∧ Mem.le F13 F14 ∧ f.d = [] ∧ f 7 = (.pointer (some ⟨b12, 0, none⟩)) ∧ f 8 = (.slice ar17_0_0 r17.length nr17_0_0) ∧ f 9 = (.slice (some ⟨b28, 0, none⟩) j344.1.length n29) ∧ f 10 = (.slice (some ⟨b38, 0, none⟩) j344.2.1.length n39) ∧ f 12 = (vi s133.1) ∧ f 13 = (vi j344.2.2) ∧ f 14 = (vi s161.2.1) ∧ RowR tInt 3 F14 (some ⟨b28, 0, none⟩) n29 j344.1 ej344_0 ∧ RowR tInt 3 F14 (some ⟨b38, 0, none⟩) n39 j344.2.1 ej344_1) ?_ ?_
         ·refine CWP.cond (t := j276) (by kernel_rfl) e287 (fun hb355 => ?_) (fun hb355 => ?_)
          ·have h356 := cond_t hj353 hb355
           refine Sq ?_
           obtain ⟨j362, hj371, h372⟩ := bind_some h356
           refine CWP.regionD (by kernel_rfl) (by kernel_rfl) (by kernel_rfl) (by kernel_rfl) (z := 13) (F := F13) (Lc := [es161_3, (sb b12 (kSpot r4 ar4_0_0 nr4_0_0) 112)]) (Lz := [es161_2]) (l := [false, false, false, false, false, false, false, false, false, false, false, false, false, false]) (fuel := 14) (by kernel_rfl) (by kernel_rfl) hs274 (by simp) (by simp) (fun f w => ∃ (F15 : Mem) (ej362_0 : Option Nat × Obj), HS w0 F0 w F15 [es161_3, ej362_0, (sb b12 (kSpot r4 ar4_0_0 nr4_0_0) 112)] ∧ Mem.le F13 F15 ∧ f.d = [] ∧ f 7 = (.pointer (some ⟨b12, 0, none⟩)) ∧ f 8 = (.slice ar17_0_0 r17.length nr17_0_0) ∧ f 9 = (.slice (some ⟨b28, 0, none⟩) j362.length n29) ∧ f 10 = (.slice (some ⟨b38, 0, none⟩) s161.2.2.2.length n39) ∧ f 12 = (vi s133.1) ∧ f 14 = (vi s161.2.1) ∧ f 16 = (vi j236) ∧ RowR tInt 3 F15 (some ⟨b28, 0, none⟩) n29 j362 ej362_0) (fun wd357 hw358 => ?_) ?_
           ·refine Df 0 90 50 _ (fun _ hq => mv 9 (.slice (some ⟨b28, 0, none⟩) s161.2.2.1.length n29) e280) ?_
            refine Df 1 91 3 _ (fun _ hq => mv 16 (vi j236) e286) ?_
            refine Df 2 92 50 _ (fun _ hq => mv 9 (.slice (some ⟨b28, 0, none⟩) s161.2.2.1.length n29) e280) ?_
            refine Df 3 93 3 _ (fun _ hq => mv 15 (vi j197) e285) ?_
            obtain ⟨x373, hx374, h376⟩ := bind_some hj371
            obtain ⟨hi375, hx374'⟩ := idx_spec hx374
            obtain ⟨b377, C378, ha379, rfl, hE381⟩ := RowR.open (hrs161_2.mono ((le196.trans le235).trans le275)) hx374'
            cases ha379
            have hr382 := (hrs161_2.mono ((le196.trans le235).trans le275))
            have hc384 := hE381 _ _ hx374'
            refine Df 4 94 0 (.pointer (some ⟨b28, ((j197 : Int).toNat * 1), none⟩)) (fun _ hq => run_index0 (t := 50) (x := (.tmp 92)) (y := (.tmp 93)) (b := b28) (E := 3) (s := 1) (by_ := 8) rfl rfl (by kernel_rfl) hi375) ?_
            refine Df 5 95 3 _ (fun _ hq => lx 3 94 0 1 false 1 (vi x373) ((hq.2 rfl).2 0 _ _ rfl) hc384) ?_
            refine Df 6 96 57 _ (fun _ hq => mv 8 (.slice ar17_0_0 r17.length nr17_0_0) e279) ?_
            refine Df 7 97 3 _ (fun _ hq => mv 14 (vi s161.2.1) e284) ?_
            obtain ⟨x385, hx386, h388⟩ := bind_some h376
            obtain ⟨hi387, hx386'⟩ := idx_spec hx386
            obtain ⟨b389, o390, C391, E392, fz393, rfl, hF395, hE396⟩ := SlA.open (SlA.mono hsr17_0_0 (((((le63.trans le136).trans le164).trans le196).trans le235).trans le275)) hx386'
            have hc398 := hE396 _ _ hx386'
            refine Df 8 98 0 (.pointer (some ⟨b389, (o390 + (s161.2.1 : Int).toNat * 7), none⟩)) (fun _ hq => ix 57 96 97 b389 o390 103 7 56 hi387) ?_
            refine Df 9 99 0 (.pointer (some ⟨b389, ((o390 + (s161.2.1 : Int).toNat * 7) + 4), none⟩)) (fun _ hq => fa 103 98 2 4 1 b389 (o390 + (s161.2.1 : Int).toNat * 7) ((o390 + (s161.2.1 : Int).toNat * 7) + 4)) ?_
            refine Df 10 100 3 _ (fun _ hq => lx 3 99 4 7 false 1 (vi x385.Most) (hq.1.1 _ _ hF395) hc398) ?_
            refine Df 11 101 3 (vi (W64 (x373 + x385.Most))) (fun _ hq => run_add (t := 3) (t' := 3) (x := (.tmp 95)) (y := (.tmp 100)) (k := .i64) (a := x373) (b := x385.Most) rfl rfl) ?_
            obtain ⟨x399, hx400, h402⟩ := bind_some h388
            obtain ⟨hi401, hx400'⟩ := idx_spec hx400
            obtain ⟨b403, C404, ha405, he406, hE407⟩ := RowR.open hr382 hx400'
            cases ha405
            cases he406
            have hc409 := hE407 _ _ hx400'
            refine Df 12 102 0 (.pointer (some ⟨b28, ((j236 : Int).toNat * 1), none⟩)) (fun _ hq => run_index0 (t := 50) (x := (.tmp 90)) (y := (.tmp 91)) (b := b28) (E := 3) (s := 1) (by_ := 8) rfl rfl (by kernel_rfl) hi401) ?_
            refine DWP.one (i := 13) (by kernel_rfl) ?_
            refine DStep.storeRow (l' := [true, true, true, true, true, true, true, true, true, true, true, true, true, true]) (zd := true) (by kernel_rfl) (by kernel_rfl) (ty := 0) (g := none) (by kernel_rfl) rfl (x := (.tmp 102)) (y := (.tmp 101)) (t := 3) (v := (vi (W64 (x373 + x385.Most)))) (gg := false) (b := b28) (j := (j236 : Int).toNat) (C := C378) (T := tInt) (E := 3) (u := ((W64 (x373 + x385.Most)))) rfl rfl (by kernel_rfl) hw358 (k := 1) rfl hr382 hx400' rfl rfl (Mem.le.refl _) (fun _ => by simp) (fun e => by cases e) (fun C410 w411 (hs412 : HS w0 F0 w411 F13 [es161_3, (some b28, .cells C410 3 (0, 0)), (sb b12 (kSpot r4 ar4_0_0 nr4_0_0) 112)]) hr413 => ?_)
            obtain rfl := some_inj h402
            exact DWP.done (by kernel_rfl) ⟨F13, (some b28, .cells C410 3 (0, 0)), hs412, (Mem.le.refl _), e277, e278, e279, (len_set e280), e281, e282, e284, e286, hr413⟩
           ·rintro f w359 ⟨F15, ej362_0, hs360, le361, e363, e364, e365, e366, e367, e368, e369, e370, hrj362_0⟩
            refine thenQ_nrm ?_
            refine Sq (Rg [0, 1, 2, 3, 4] ?_)
            refine V 103 50 (mv 10 (.slice (some ⟨b38, 0, none⟩) s161.2.2.2.length n39) e367) ?_
            refine V 104 3 (mv 16 (vi j236) e370) ?_
            refine V 105 3 (mv 14 (vi s161.2.1) e369) ?_
            obtain ⟨x414, hx415, h417⟩ := bind_some h372
            obtain ⟨hi416, hx415'⟩ := idx_spec hx415
            obtain ⟨b418, C419, ha420, rfl, hE422⟩ := RowR.open (hrs161_3.mono (((le196.trans le235).trans le275).trans le361)) hx415'
            cases ha420
            have hr423 := (hrs161_3.mono (((le196.trans le235).trans le275).trans le361))
            have hc425 := hE422 _ _ hx415'
            refine V 106 0 (run_index0 (t := 50) (x := (.tmp 103)) (y := (.tmp 104)) (b := b38) (E := 3) (s := 1) (by_ := 8) rfl rfl (by kernel_rfl) hi416) ?_
            refine RWP.storeRow (ty := 0) (g := none) (by kernel_rfl) rfl (x := (.tmp 106)) (y := (.tmp 105)) (t := 3) (v := (vi s161.2.1)) (gg := false) (b := b38) (j := (j236 : Int).toNat) (C := C419) (T := tInt) (E := 3) (u := (s161.2.1)) rfl rfl (by kernel_rfl) hs360 (k := 0) rfl hr423 hx415' rfl rfl (fun C426 w427 (hs428 : HS w0 F0 w427 F15 [(some b38, .cells C426 3 (0, 0)), ej362_0, (sb b12 (kSpot r4 ar4_0_0 nr4_0_0) 112)]) hr429 => ?_)
            refine Nt ?_
            refine Rg [0, 1] ?_
            refine V 107 3 (mv 16 (vi j236) e370) ?_
            refine V 13 3 (ma 107 (vi j236)) ?_
            refine RWP.nil ?_
            obtain rfl := some_inj h417
            exact .inl ⟨rfl, F15, ej362_0, (some b38, .cells C426 3 (0, 0)), hs428, le361, e363, e364, e365, e366, (len_set e367), e368, rfl, e369, hrj362_0, hr429⟩
          ·have h430 := cond_f hj353 hb355
           refine Sc ?_
           obtain rfl := some_inj h430
           exact .inl ⟨rfl, F13, es161_2, es161_3, hs274, (Mem.le.refl _), e277, e278, e279, e280, e281, e282, e283, e284, (hrs161_2.mono ((le196.trans le235).trans le275)), (hrs161_3.mono ((le196.trans le235).trans le275))⟩
         ·rintro f w341 ⟨F14, ej344_0, ej344_1, hs342, le343, e345, e346, e347, e348, e349, e350, e351, e352, hrj344_0, hrj344_1⟩
          refine blockQ_nrm ?_
          refine thenQ_nrm ?_
          refine Rg [0, 1, 2] ?_
          refine V 52 3 (mv 14 (vi s161.2.1) e352) ?_
          refine V 53 3 (run_add (t := 3) (t' := 3) (x := (.tmp 52)) (y := (.const (vi 1))) (k := .i64) (a := s161.2.1) (b := 1) rfl rfl) ?_
          refine V 14 3 (ma 53 (vi (W64 (s161.2.1 + 1)))) ?_
          refine RWP.nil ?_
          have hn431 := iter_next h354 hnx189
          exact ⟨m186, Nat.lt_succ_self _, (j344.2.2, (W64 (s161.2.1 + 1)), j344.1, j344.2.1), F14, ej344_0, ej344_1, hn431, hs342, ((((le164.trans le196).trans le235).trans le275).trans le343), e345, e346, e347, e348, e349, e350, e351, rfl, hrj344_0, hrj344_1⟩
     ·have h432 := cond_f hb188 hb190
      refine CWP.exit (by kernel_rfl) ?_
      refine thenQ_ex ?_
      refine thenQ_ex ?_
      refine blockQ_hit rfl ?_
      have ho433 := iter_done h432 hnx189
      exact .inl ⟨rfl, (s161.1, s161.2.1, s161.2.2.1, s161.2.2.2), F7, es161_2, es161_3, ho433, hs163, le164, e165, e166, e167, e168, e169, e170, e171, hrs161_2, hrs161_3⟩
    ·rintro f w174 ⟨s173, F8, es173_2, es173_3, rfl, hs175, le176, e177, e178, e179, e180, e181, e182, e183, hrs173_2, hrs173_3⟩
     have h434 := k_done h160
     refine thenQ_nrm ?_
     refine Sq ?_
     refine Sq (Rg [0, 1] ?_)
     refine V 108 3 (mv 13 (vi s173.1) e183) ?_
     refine V 109 4 (run_lss (t := 3) (t' := 3) (x := (.tmp 108)) (y := (.const (vi 0))) (k := .i64) (a := s173.1) (b := 0) rfl rfl) ?_
     refine Nt ?_
     refine CWP.cond (t := (decide (s173.1 < 0))) (by kernel_rfl) rfl (fun hb435 => ?_) (fun hb435 => ?_)
     ·have h436 := cond_t h434 hb435
      refine Sq (Rg [0, 1, 2, 3, 4] ?_)
      refine V 110 50 (mv 9 (.slice (some ⟨b28, 0, none⟩) s173.2.2.1.length n29) e180) ?_
      refine V 111 50 (mv 10 (.slice (some ⟨b38, 0, none⟩) s173.2.2.2.length n39) e181) ?_
      refine V 4 50 (ma 110 (.slice (some ⟨b28, 0, none⟩) s173.2.2.1.length n29)) ?_
      refine V 5 50 (ma 111 (.slice (some ⟨b38, 0, none⟩) s173.2.2.2.length n39)) ?_
      refine V 6 3 (mc (vi (-1)) (vi (-1))) ?_
      refine Nt ?_
      refine CWP.ret (by kernel_rfl) ?_
      refine thenQ_ret ?_
      refine blockQ_ret ?_
      refine thenQ_ret ?_
      refine thenQ_ret ?_
      refine blockQ_ret ?_
      have hret := iter_ret h436 hnx155
      subst hret
      refine .inr ?_
      refine thenQ_ret ?_
      have hb440 := RowR.bound hrs173_2
      obtain ⟨F16, hs437, le438, hs439⟩ : ∃ Fq, HS w0 F0 w174 Fq [es173_3, (sb b12 (kSpot r4 ar4_0_0 nr4_0_0) 112)] ∧ Mem.le F8 Fq ∧ SlA tInt Fq (some ⟨b28, 0, none⟩) s173.2.2.1 := HS.freezeRow hs175 (k := 1) rfl hrs173_2
      have hb444 := RowR.bound (hrs173_3.mono le438)
      obtain ⟨F17, hs441, le442, hs443⟩ : ∃ Fq, HS w0 F0 w174 Fq [(sb b12 (kSpot r4 ar4_0_0 nr4_0_0) 112)] ∧ Mem.le F16 Fq ∧ SlA tInt Fq (some ⟨b38, 0, none⟩) s173.2.2.2 := HS.freezeRow hs437 (k := 0) rfl (hrs173_3.mono le438)
      have hfin := some_inj h132
      subst hfin
      exact ⟨e177, (.tuple #[(.slice (some ⟨b28, 0, none⟩) s173.2.2.1.length n29), (.slice (some ⟨b38, 0, none⟩) s173.2.2.2.length n39), (vi (-1))]), res_of (l := [.tmp 4, .tmp 5, .tmp 6]) (by kernel_rfl) (vs := [(.slice (some ⟨b28, 0, none⟩) s173.2.2.1.length n29), (.slice (some ⟨b38, 0, none⟩) s173.2.2.2.length n39), (vi (-1))]) ⟨rfl, ⟨rfl, ⟨rfl, trivial⟩⟩⟩, (.tuple #[(.slice (some ⟨b28, 0, none⟩) s173.2.2.1.length n29), (.slice (some ⟨b38, 0, none⟩) s173.2.2.2.length n39), (vi (-1))]), F17, rfl, hs441.clear, ⟨(some ⟨b28, 0, none⟩), n29, (some ⟨b38, 0, none⟩), n39, rfl, hb440, (SlA.mono hs439 le442), hb444, hs443⟩⟩
     ·have h445 := cond_f h434 hb435
      refine Sc ?_
      refine thenQ_nrm ?_
      refine Sq (Rg [0, 1, 2, 3] ?_)
      refine V 112 3 (mv 12 (vi s133.1) e182) ?_
      refine V 113 0 (fa 112 7 1 1 1 b12 0 1 e178) ?_
      refine V 114 3 (ld 3 113 b12 1 false 1 (vi r4.n_) (hs175.ownAt (k := 2) rfl)) ?_
      refine V 115 4 (run_eql (t := 3) (t' := 3) (x := (.tmp 112)) (y := (.tmp 114)) (k := .i64) (a := s133.1) (b := r4.n_) rfl rfl) ?_
      refine Nt ?_
      refine CWP.cond (t := (s133.1 == r4.n_)) (by kernel_rfl) rfl (fun hb446 => ?_) (fun hb446 => ?_)
      ·have h447 := cond_t h445 hb446
       refine Sq (Rg [0, 1, 2, 3, 4, 5] ?_)
       refine V 116 50 (mv 9 (.slice (some ⟨b28, 0, none⟩) s173.2.2.1.length n29) e180) ?_
       refine V 117 50 (mv 10 (.slice (some ⟨b38, 0, none⟩) s173.2.2.2.length n39) e181) ?_
       refine V 118 3 (mv 13 (vi s173.1) e183) ?_
       refine V 4 50 (ma 116 (.slice (some ⟨b28, 0, none⟩) s173.2.2.1.length n29)) ?_
       refine V 5 50 (ma 117 (.slice (some ⟨b38, 0, none⟩) s173.2.2.2.length n39)) ?_
       refine V 6 3 (ma 118 (vi s173.1)) ?_
       refine Nt ?_
       refine CWP.ret (by kernel_rfl) ?_
       refine blockQ_ret ?_
       refine thenQ_ret ?_
       refine thenQ_ret ?_
       refine blockQ_ret ?_
       have hret := iter_ret h447 hnx155
       subst hret
       refine .inr ?_
       refine thenQ_ret ?_
       have hb451 := RowR.bound hrs173_2
       obtain ⟨F18, hs448, le449, hs450⟩ : ∃ Fq, HS w0 F0 w174 Fq [es173_3, (sb b12 (kSpot r4 ar4_0_0 nr4_0_0) 112)] ∧ Mem.le F8 Fq ∧ SlA tInt Fq (some ⟨b28, 0, none⟩) s173.2.2.1 := HS.freezeRow hs175 (k := 1) rfl hrs173_2
       have hb455 := RowR.bound (hrs173_3.mono le449)
       obtain ⟨F19, hs452, le453, hs454⟩ : ∃ Fq, HS w0 F0 w174 Fq [(sb b12 (kSpot r4 ar4_0_0 nr4_0_0) 112)] ∧ Mem.le F18 Fq ∧ SlA tInt Fq (some ⟨b38, 0, none⟩) s173.2.2.2 := HS.freezeRow hs448 (k := 0) rfl (hrs173_3.mono le449)
       have hfin := some_inj h132
       subst hfin
       exact ⟨e177, (.tuple #[(.slice (some ⟨b28, 0, none⟩) s173.2.2.1.length n29), (.slice (some ⟨b38, 0, none⟩) s173.2.2.2.length n39), (vi s173.1)]), res_of (l := [.tmp 4, .tmp 5, .tmp 6]) (by kernel_rfl) (vs := [(.slice (some ⟨b28, 0, none⟩) s173.2.2.1.length n29), (.slice (some ⟨b38, 0, none⟩) s173.2.2.2.length n39), (vi s173.1)]) ⟨rfl, ⟨rfl, ⟨rfl, trivial⟩⟩⟩, (.tuple #[(.slice (some ⟨b28, 0, none⟩) s173.2.2.1.length n29), (.slice (some ⟨b38, 0, none⟩) s173.2.2.2.length n39), (vi s173.1)]), F19, rfl, hs452.clear, ⟨(some ⟨b28, 0, none⟩), n29, (some ⟨b38, 0, none⟩), n39, rfl, hb451, (SlA.mono hs450 le453), hb455, hs454⟩⟩
      ·have h456 := cond_f h445 hb446
       refine Sc ?_
       refine blockQ_nrm ?_
       refine thenQ_nrm ?_
       refine Rg [0, 1, 2] ?_
       refine V 46 3 (mv 12 (vi s133.1) e182) ?_
       refine V 47 3 (run_add (t := 3) (t' := 3) (x := (.tmp 46)) (y := (.const (vi 1))) (k := .i64) (a := s133.1) (b := 1) rfl rfl) ?_
       refine V 12 3 (ma 47 (vi (W64 (s133.1 + 1)))) ?_
       refine RWP.nil ?_
       have hn457 := iter_next h456 hnx155
       exact ⟨m152, Nat.lt_succ_self _, ((W64 (s133.1 + 1)), s173.2.2.1, s173.2.2.2), F8, es173_2, es173_3, hn457, hs175, (le136.trans le176), e177, e178, e179, e180, e181, rfl, hrs173_2, hrs173_3⟩
   ·have h458 := cond_f hb154 hb156
    refine CWP.exit (by kernel_rfl) ?_
    refine thenQ_ex ?_
    refine thenQ_ex ?_
    refine blockQ_hit rfl ?_
    have hs459 : HS w0 F0 w134 F5 [es133_2, es133_1] := hs135.drop 2
    have ho460 := iter_done h458 hnx155
    exact .inl ⟨rfl, (s133.1, s133.2.1, s133.2.2), F5, es133_1, es133_2, ho460, hs459, le136, e137, e140, e141, hrs133_1, hrs133_2⟩
  ·rintro f w144 ⟨s143, F6, es143_1, es143_2, rfl, hs145, le146, e147, e148, e149, hrs143_1, hrs143_2⟩
   have h461 := k_done h132
   refine thenQ_nrm ?_
   refine Sq (Rg [0, 1, 2, 3, 4] ?_)
   refine V 119 50 (mv 9 (.slice (some ⟨b28, 0, none⟩) s143.2.1.length n29) e148) ?_
   refine V 120 50 (mv 10 (.slice (some ⟨b38, 0, none⟩) s143.2.2.length n39) e149) ?_
   refine V 4 50 (ma 119 (.slice (some ⟨b28, 0, none⟩) s143.2.1.length n29)) ?_
   refine V 5 50 (ma 120 (.slice (some ⟨b38, 0, none⟩) s143.2.2.length n39)) ?_
   refine V 6 3 (mc (vi (-1)) (vi (-1))) ?_
   refine Nt ?_
   refine CWP.ret (by kernel_rfl) ?_
   have hb465 := RowR.bound hrs143_1
   obtain ⟨F20, hs462, le463, hs464⟩ : ∃ Fq, HS w0 F0 w144 Fq [es143_2] ∧ Mem.le F6 Fq ∧ SlA tInt Fq (some ⟨b28, 0, none⟩) s143.2.1 := HS.freezeRow hs145 (k := 1) rfl hrs143_1
   have hb469 := RowR.bound (hrs143_2.mono le463)
   obtain ⟨F21, hs466, le467, hs468⟩ : ∃ Fq, HS w0 F0 w144 Fq [] ∧ Mem.le F20 Fq ∧ SlA tInt Fq (some ⟨b38, 0, none⟩) s143.2.2 := HS.freezeRow hs462 (k := 0) rfl (hrs143_2.mono le463)
   have hfin := some_inj h461
   subst hfin
   exact ⟨e147, (.tuple #[(.slice (some ⟨b28, 0, none⟩) s143.2.1.length n29), (.slice (some ⟨b38, 0, none⟩) s143.2.2.length n39), (vi (-1))]), res_of (l := [.tmp 4, .tmp 5, .tmp 6]) (by kernel_rfl) (vs := [(.slice (some ⟨b28, 0, none⟩) s143.2.1.length n29), (.slice (some ⟨b38, 0, none⟩) s143.2.2.length n39), (vi (-1))]) ⟨rfl, ⟨rfl, ⟨rfl, trivial⟩⟩⟩, (.tuple #[(.slice (some ⟨b28, 0, none⟩) s143.2.1.length n29), (.slice (some ⟨b38, 0, none⟩) s143.2.2.length n39), (vi (-1))]), F21, rfl, hs466.clear, ⟨(some ⟨b28, 0, none⟩), n29, (some ⟨b38, 0, none⟩), n39, rfl, hb465, (SlA.mono hs464 le467), hb469, hs468⟩⟩
end Go.Proofs.Ythbcnabeabcmlaa
namespace Go.Proofs.Ythbcnabeabcmlaa
open Go.Proofs
def ref03_relation (N : Nat) (x0 : System) (x1 : Int) (x2 : Int) : Option Span :=
 ((ref03_reach N x0 x1).bind fun r7 => ((ref03_reach N x0 x2).bind fun r15 => (((idx r15.1 x1).bind fun x33 => ((idx r7.1 x2).bind fun x47 => some ((W64 (0 - x33)), x47))).bind fun j28 => some ({ Lo := j28.1, Hi := j28.2 } : Span))))
theorem co_ref03_relation : CallOk Try.prog 79 := fun _ _ => by kernel_rfl
set_option maxHeartbeats 4000000 in
set_option maxRecDepth 100000 in
theorem c_ref03_relation (N : Nat) (w0 : World) (F0 : Mem) (hF : ∀ b o, F0 b = some o → w0.heap[b]? = some o) (x0 : System) (a0_0 : Option Addr) (n0_0 : Nat) (hb0_0 : LC x0.Tracks.length n0_0) (hs0_0 : SlA tTrack F0 a0_0 x0.Tracks) (a0_1 : Option Addr) (n0_1 : Nat) (hb0_1 : LC x0.Ties.length n0_1) (hs0_1 : SlA tTie F0 a0_1 x0.Ties) (x1 : Int) (x2 : Int) (r : Span) (h : ref03_relation N x0 x1 x2 = some r) :
  Calls Try.prog 79 ([(.agg (kSystem x0 a0_0 n0_0 a0_1 n0_1)), (vi x1), (vi x2)] : List Value).toArray w0 (FRet w0 F0 fun F' v => v = (.agg (kSpan r))) := by
 have hs0 := HS.start hF
 refine calls_of (n := 37) (c := bodyOf Try.f79) Try.func79 (by kernel_rfl) (by kernel_rfl) (by kernel_rfl) ?_
 refine Sq (Rg [0, 1] ?_)
 refine Bx 3 0 0 25 (kSystem x0 a0_0 n0_0 a0_1 n0_1) hs0 (fun b1 w2 (hs3 : HS w0 F0 w2 F0 [(sb b1 (kSystem x0 a0_0 n0_0 a0_1 n0_1) 25)]) => ?_)
 refine Al 6 0 38 #[(vi 0), (vi 0)] hs3 (fun b4 w5 (hs6 : HS w0 F0 w5 F0 [(sb b4 #[(vi 0), (vi 0)] 38), (sb b1 (kSystem x0 a0_0 n0_0 a0_1 n0_1) 25)]) => ?_)
 refine Nss (Rg [0, 1, 2, 3, 4, 5, 6, 7, 8, 9] ?_)
 refine V 14 25 (ld 25 3 b1 0 true 3 (.agg (kSystem x0 a0_0 n0_0 a0_1 n0_1)) (hs6.ownAt (k := 1) rfl)) ?_
 refine V 15 3 (mv 1 (vi x1)) ?_
 obtain ⟨r7, hr8, h9⟩ := bind_some h
 refine Cl 16 126 92 #[(.tmp 14), (.tmp 15)] #[25, 3] co_ref03_reach hs6 (c_ref03_reach N w5 F0 hs6.pers (x0) a0_0 n0_0 hb0_0 hs0_0 a0_1 n0_1 hb0_1 hs0_1 (x1) _ hr8) ?_
 intro v10 F1 w11 hs12 le13 hp14
 obtain ⟨ar7_0_0, nr7_0_0, ar7_1_0, nr7_1_0, rfl, hbr7_0_0, hsr7_0_0, hbr7_1_0, hsr7_1_0⟩ := hp14
 refine V 13 126 (mv 16 (.tuple #[(.slice ar7_0_0 r7.1.length nr7_0_0), (.slice ar7_1_0 r7.2.1.length nr7_1_0), (vi r7.2.2)])) ?_
 refine V 17 50 (ex 13 0 (.slice ar7_0_0 r7.1.length nr7_0_0) (vs := #[(.slice ar7_0_0 r7.1.length nr7_0_0), (.slice ar7_1_0 r7.2.1.length nr7_1_0), (vi r7.2.2)])) ?_
 refine V 18 50 (ex 13 1 (.slice ar7_1_0 r7.2.1.length nr7_1_0) (vs := #[(.slice ar7_0_0 r7.1.length nr7_0_0), (.slice ar7_1_0 r7.2.1.length nr7_1_0), (vi r7.2.2)])) ?_
 refine V 19 3 (ex 13 2 (vi r7.2.2) (vs := #[(.slice ar7_0_0 r7.1.length nr7_0_0), (.slice ar7_1_0 r7.2.1.length nr7_1_0), (vi r7.2.2)])) ?_
 refine V 7 50 (ma 17 (.slice ar7_0_0 r7.1.length nr7_0_0)) ?_
 refine V 8 50 (ma 18 (.slice ar7_1_0 r7.2.1.length nr7_1_0)) ?_
 refine V 9 3 (ma 19 (vi r7.2.2)) ?_
 refine Nss (Rg [0, 1, 2, 3, 4, 5, 6, 7, 8, 9] ?_)
 refine V 21 25 (ld 25 3 b1 0 true 3 (.agg (kSystem x0 a0_0 n0_0 a0_1 n0_1)) (hs12.ownAt (k := 1) rfl)) ?_
 refine V 22 3 (mv 2 (vi x2)) ?_
 obtain ⟨r15, hr16, h17⟩ := bind_some h9
 refine Cl 23 126 92 #[(.tmp 21), (.tmp 22)] #[25, 3] co_ref03_reach hs12 (c_ref03_reach N w11 F1 hs12.pers (x0) a0_0 n0_0 hb0_0 (SlA.mono hs0_0 le13) a0_1 n0_1 hb0_1 (SlA.mono hs0_1 le13) (x2) _ hr16) ?_
 intro v18 F2 w19 hs20 le21 hp22
 obtain ⟨ar15_0_0, nr15_0_0, ar15_1_0, nr15_1_0, rfl, hbr15_0_0, hsr15_0_0, hbr15_1_0, hsr15_1_0⟩ := hp22
 refine V 20 126 (mv 23 (.tuple #[(.slice ar15_0_0 r15.1.length nr15_0_0), (.slice ar15_1_0 r15.2.1.length nr15_1_0), (vi r15.2.2)])) ?_
 refine V 24 50 (ex 20 0 (.slice ar15_0_0 r15.1.length nr15_0_0) (vs := #[(.slice ar15_0_0 r15.1.length nr15_0_0), (.slice ar15_1_0 r15.2.1.length nr15_1_0), (vi r15.2.2)])) ?_
 refine V 25 50 (ex 20 1 (.slice ar15_1_0 r15.2.1.length nr15_1_0) (vs := #[(.slice ar15_0_0 r15.1.length nr15_0_0), (.slice ar15_1_0 r15.2.1.length nr15_1_0), (vi r15.2.2)])) ?_
 refine V 26 3 (ex 20 2 (vi r15.2.2) (vs := #[(.slice ar15_0_0 r15.1.length nr15_0_0), (.slice ar15_1_0 r15.2.1.length nr15_1_0), (vi r15.2.2)])) ?_
 refine V 10 50 (ma 24 (.slice ar15_0_0 r15.1.length nr15_0_0)) ?_
 refine V 11 50 (ma 25 (.slice ar15_1_0 r15.2.1.length nr15_1_0)) ?_
 refine V 12 3 (ma 26 (vi r15.2.2)) ?_
 refine Nss ?_
 obtain ⟨j28, hj31, h32⟩ := bind_some h17
 refine CWP.regionD (by kernel_rfl) (by kernel_rfl) (by kernel_rfl) (by kernel_rfl) (z := 10) (F := F2) (Lc := [(sb b1 (kSystem x0 a0_0 n0_0 a0_1 n0_1) 25)]) (Lz := [(sb b4 #[(vi 0), (vi 0)] 38)]) (l := [false, false, false, false, false, false, false, false, false, false, false]) (fuel := 11) (by kernel_rfl) (by kernel_rfl) hs20 (by simp) (by simp) (fun f w => ∃ (F3 : Mem), HS w0 F0 w F3 [(sb b4 #[(vi j28.1), (vi j28.2)] 38)] ∧ Mem.le F2 F3 ∧ f.d = [] ∧ f 6 = (.pointer (some ⟨b4, 0, none⟩))) (fun wd23 hw24 => ?_) ?_
 ·refine Df 0 27 50 _ (fun _ hq => mv 10 (.slice ar15_0_0 r15.1.length nr15_0_0)) ?_
  refine Df 1 28 3 _ (fun _ hq => mv 1 (vi x1)) ?_
  obtain ⟨x33, hx34, h36⟩ := bind_some hj31
  obtain ⟨hi35, hx34'⟩ := idx_spec hx34
  obtain ⟨b37, o38, C39, E40, fz41, rfl, hF43, hE44⟩ := SlA.open hsr15_0_0 hx34'
  have hc46 := hE44 _ _ hx34'
  refine Df 2 29 0 (.pointer (some ⟨b37, (o38 + (x1 : Int).toNat * 1), none⟩)) (fun _ hq => ix 50 27 28 b37 o38 3 1 8 hi35) ?_
  refine Df 3 30 3 _ (fun _ hq => lx 3 29 0 1 false 1 (vi x33) (hq.1.1 _ _ hF43) hc46) ?_
  refine Df 4 31 3 (vi (W64 (0 - x33))) (fun _ hq => run_sub (t := 3) (t' := 3) (x := (.const (vi 0))) (y := (.tmp 30)) (k := .i64) (a := 0) (b := x33) rfl rfl) ?_
  refine Df 5 32 50 _ (fun _ hq => mv 7 (.slice ar7_0_0 r7.1.length nr7_0_0)) ?_
  refine Df 6 33 3 _ (fun _ hq => mv 2 (vi x2)) ?_
  obtain ⟨x47, hx48, h50⟩ := bind_some h36
  obtain ⟨hi49, hx48'⟩ := idx_spec hx48
  obtain ⟨b51, o52, C53, E54, fz55, rfl, hF57, hE58⟩ := SlA.open (SlA.mono hsr7_0_0 le21) hx48'
  have hc60 := hE58 _ _ hx48'
  refine Df 7 34 0 (.pointer (some ⟨b51, (o52 + (x2 : Int).toNat * 1), none⟩)) (fun _ hq => ix 50 32 33 b51 o52 3 1 8 hi49) ?_
  refine Df 8 35 3 _ (fun _ hq => lx 3 34 0 1 false 1 (vi x47) (hq.1.1 _ _ hF57) hc60) ?_
  refine Df 9 36 38 (.agg #[(vi (W64 (0 - x33))), (vi x47)]) (fun _ hq => run_build2 (t := 38) (parts := #[(0, (.tmp 31)), (1, (.tmp 35))]) (vs := [(0, (vi (W64 (0 - x33)))), (1, (vi x47))]) (rfl) (cs := [(vi (W64 (0 - x33))), (vi x47)]) (by kernel_rfl)) ?_
  refine DWP.one (i := 10) (by kernel_rfl) ?_
  refine DStep.store (l' := [true, true, true, true, true, true, true, true, true, true, true]) (zd := true) (by kernel_rfl) (by kernel_rfl) (ty := 0) (g := none) (by kernel_rfl) rfl (x := (.tmp 6)) (y := (.tmp 36)) (t := 38) (gg := true) (s := 2) (v := (.agg #[(vi (W64 (0 - x33))), (vi x47)])) (b := b4) (o := 0) (C := #[(vi 0), (vi 0)]) rfl rfl (by kernel_rfl) hw24 (k := 0) rfl rfl rfl rfl (C' := #[(vi (W64 (0 - x33))), (vi x47)]) rfl (Mem.le.refl _) (by simp) (fun e => by cases e) (fun w61 (hs62 : HS w0 F0 w61 F2 [(sb b4 #[(vi (W64 (0 - x33))), (vi x47)] 38), (sb b1 (kSystem x0 a0_0 n0_0 a0_1 n0_1) 25)]) => ?_)
  obtain rfl := some_inj h50
  have hs63 : HS w0 F0 w61 F2 [(sb b4 #[(vi (W64 (0 - x33))), (vi x47)] 38)] := hs62.drop 1
  exact DWP.done (by kernel_rfl) ⟨F2, hs63, (Mem.le.refl _), rfl, rfl⟩
 ·rintro f w25 ⟨F3, hs26, le27, e29, e30⟩
  refine thenQ_nrm ?_
  refine CWP.ret (by kernel_rfl) ?_
  have hfin := some_inj h32
  subst hfin
  exact ⟨e29, (.agg #[(vi j28.1), (vi j28.2)]), res_of (l := [.cell 6 38]) (by kernel_rfl) (vs := [(.agg #[(vi j28.1), (vi j28.2)])]) ⟨b4, 0, e30, run_loadVar' (t := 38) (g := true) (s := 2) (by kernel_rfl) (hs26.ownAt (k := 0) rfl) rfl (by decide), trivial⟩, (.agg #[(vi j28.1), (vi j28.2)]), F3, rfl, hs26.clear, rfl⟩
end Go.Proofs.Ythbcnabeabcmlaa
namespace Go.Proofs.Ythbcnabeabcmlaa
open Go.Proofs
def ref03_Closes (N : Nat) (x0 : System) : Option Bool :=
 ((ref03_reach N x0 0).bind fun r4 => some (decide (r4.2.2 < 0)))
theorem co_ref03_Closes : CallOk Try.prog 90 := fun _ _ => by kernel_rfl
set_option maxHeartbeats 4000000 in
set_option maxRecDepth 100000 in
theorem c_ref03_Closes (N : Nat) (w0 : World) (F0 : Mem) (hF : ∀ b o, F0 b = some o → w0.heap[b]? = some o) (x0 : System) (a0_0 : Option Addr) (n0_0 : Nat) (hb0_0 : LC x0.Tracks.length n0_0) (hs0_0 : SlA tTrack F0 a0_0 x0.Tracks) (a0_1 : Option Addr) (n0_1 : Nat) (hb0_1 : LC x0.Ties.length n0_1) (hs0_1 : SlA tTie F0 a0_1 x0.Ties) (r : Bool) (h : ref03_Closes N x0 = some r) :
  Calls Try.prog 90 ([(.agg (kSystem x0 a0_0 n0_0 a0_1 n0_1))] : List Value).toArray w0 (FRet w0 F0 fun F' v => v = (.bool r)) := by
 have hs0 := HS.start hF
 refine calls_of (n := 14) (c := bodyOf Try.f90) Try.func90 (by kernel_rfl) (by kernel_rfl) (by kernel_rfl) ?_
 refine Sq (Rg [0, 1] ?_)
 refine Bx 1 0 0 25 (kSystem x0 a0_0 n0_0 a0_1 n0_1) hs0 (fun b1 w2 (hs3 : HS w0 F0 w2 F0 [(sb b1 (kSystem x0 a0_0 n0_0 a0_1 n0_1) 25)]) => ?_)
 refine V 2 4 (mc (.bool false) (.bool false)) ?_
 refine Nss (Rg [0, 1, 2, 3, 4, 5, 6, 7, 8] ?_)
 refine V 7 25 (ld 25 1 b1 0 true 3 (.agg (kSystem x0 a0_0 n0_0 a0_1 n0_1)) (hs3.ownAt (k := 0) rfl)) ?_
 obtain ⟨r4, hr5, h6⟩ := bind_some h
 refine Cl 8 126 92 #[(.tmp 7), (.const (vi 0))] #[25, 3] co_ref03_reach hs3 (c_ref03_reach N w2 F0 hs3.pers (x0) a0_0 n0_0 hb0_0 hs0_0 a0_1 n0_1 hb0_1 hs0_1 (0) _ hr5) ?_
 intro v7 F1 w8 hs9 le10 hp11
 obtain ⟨ar4_0_0, nr4_0_0, ar4_1_0, nr4_1_0, rfl, hbr4_0_0, hsr4_0_0, hbr4_1_0, hsr4_1_0⟩ := hp11
 refine V 6 126 (mv 8 (.tuple #[(.slice ar4_0_0 r4.1.length nr4_0_0), (.slice ar4_1_0 r4.2.1.length nr4_1_0), (vi r4.2.2)])) ?_
 refine V 9 50 (ex 6 0 (.slice ar4_0_0 r4.1.length nr4_0_0) (vs := #[(.slice ar4_0_0 r4.1.length nr4_0_0), (.slice ar4_1_0 r4.2.1.length nr4_1_0), (vi r4.2.2)])) ?_
 refine V 10 50 (ex 6 1 (.slice ar4_1_0 r4.2.1.length nr4_1_0) (vs := #[(.slice ar4_0_0 r4.1.length nr4_0_0), (.slice ar4_1_0 r4.2.1.length nr4_1_0), (vi r4.2.2)])) ?_
 refine V 11 3 (ex 6 2 (vi r4.2.2) (vs := #[(.slice ar4_0_0 r4.1.length nr4_0_0), (.slice ar4_1_0 r4.2.1.length nr4_1_0), (vi r4.2.2)])) ?_
 refine V 3 50 (ma 9 (.slice ar4_0_0 r4.1.length nr4_0_0)) ?_
 refine V 4 50 (ma 10 (.slice ar4_1_0 r4.2.1.length nr4_1_0)) ?_
 refine V 5 3 (ma 11 (vi r4.2.2)) ?_
 refine Nss (Rg [0, 1, 2] ?_)
 refine V 12 3 (mv 5 (vi r4.2.2)) ?_
 refine V 13 4 (run_lss (t := 3) (t' := 3) (x := (.tmp 12)) (y := (.const (vi 0))) (k := .i64) (a := r4.2.2) (b := 0) rfl rfl) ?_
 refine V 2 4 (ma 13 (.bool (decide (r4.2.2 < 0)))) ?_
 refine Nt ?_
 refine CWP.ret (by kernel_rfl) ?_
 have hfin := some_inj h6
 subst hfin
 exact ⟨rfl, (.bool (decide (r4.2.2 < 0))), res_of (l := [.tmp 2]) (by kernel_rfl) (vs := [(.bool (decide (r4.2.2 < 0)))]) ⟨rfl, trivial⟩, (.bool (decide (r4.2.2 < 0))), F1, rfl, hs9.clear, rfl⟩
end Go.Proofs.Ythbcnabeabcmlaa
namespace Go.Proofs.Ythbcnabeabcmlaa
open BF
def lenAt (s : System) (i : Nat) : Nat := match s.Tracks[i]? with
  | none => 0
  | some t => t.Times.length
def first (s : System) : Nat → Nat
  | 0 => 1
  | i + 1 => first s i + lenAt s i
theorem first_mono (s : System) {i j : Nat} (h : i ≤ j) : first s i ≤ first s j := by
  induction h with
  | refl => exact Nat.le_refl _
  | step _ ih => exact Nat.le_trans ih (by simp [first])
theorem first_pos (s : System) (i : Nat) : 1 ≤ first s i := first_mono s (Nat.zero_le i)
def num (s : System) (r : Ref) : Nat := if r.Log < 0 then 0 else first s r.Log.toNat + r.Line.toNat
theorem num_beg (s : System) : num s beg = 0 := by unfold num beg; simp
theorem num_li (s : System) (i j : Nat) : num s (li i j) = first s i + j := by
  unfold num li
  simp only [Int.toNat_natCast]
  rw [if_neg (by omega)]
def nAll (s : System) : Nat := first s s.Tracks.length
section
variable {N : Nat} {s : System}
theorem lt_of_get {α : Type} {l : List α} {i : Nat} {x : α} (hx : l[i]? = some x) : i < l.length := by
  rcases Nat.lt_or_ge i l.length with h | h
  · exact h
  · rw [List.getElem?_eq_none h] at hx; cases hx
theorem num_lt {r : Ref} (h : Nd s r) : num s r < nAll s := by
  rcases h with rfl | h
  · rw [num_beg]; exact first_pos _ _
  · obtain ⟨i, t, j, rfl, ht, hj⟩ := li_has h
    rw [num_li]
    have h1 := first_mono s (show i + 1 ≤ s.Tracks.length from lt_of_get ht)
    have h2 : lenAt s i = t.Times.length := by unfold lenAt; rw [ht]
    simp only [first] at h1
    unfold nAll
    omega
theorem num_inj {a b : Ref} (ha : Nd s a) (hb : Nd s b) (h : num s a = num s b) : a = b := by
  rcases ha with rfl | ha <;> rcases hb with rfl | hb
  · rfl
  · obtain ⟨i, t, j, rfl, ht, hj⟩ := li_has hb
    rw [num_beg, num_li] at h
    have := first_pos s i
    omega
  · obtain ⟨i, t, j, rfl, ht, hj⟩ := li_has ha
    rw [num_beg, num_li] at h
    have := first_pos s i
    omega
  · obtain ⟨i, t, j, rfl, ht, hj⟩ := li_has ha
    obtain ⟨i', t', j', rfl, ht', hj'⟩ := li_has hb
    rw [num_li, num_li] at h
    have l1 : lenAt s i = t.Times.length := by unfold lenAt; rw [ht]
    have l2 : lenAt s i' = t'.Times.length := by unfold lenAt; rw [ht']
    rcases Nat.lt_trichotomy i i' with hlt | rfl | hlt
    · have := first_mono s (show i + 1 ≤ i' from hlt)
      simp only [first] at this
      omega
    · have : j = j' := by omega
      rw [this]
    · have := first_mono s (show i' + 1 ≤ i from hlt)
      simp only [first] at this
      omega
theorem cat_len {α : Type} {f : Nat → List α} : ∀ n, (cat n f).length = (List.range n).foldl (fun k i => k + (f i).length) 0
  | 0 => rfl
  | n + 1 => by rw [cat_succ, List.length_append, cat_len n, List.range_succ, List.foldl_append]; rfl
theorem nodes_all : (nodesOf s).length = nAll s := by
  unfold nodesOf nAll
  rw [List.length_cons]
  have : ∀ n, (cat n fun i => match s.Tracks[i]? with
      | none => []
      | some t => (List.range t.Times.length).map fun j => li i j).length + 1 = first s n := by
    intro n
    induction n with
    | zero => rfl
    | succ n ih =>
      rw [cat_succ, List.length_append]
      have e : (match s.Tracks[n]? with
        | none => []
        | some t => (List.range t.Times.length).map fun j => li n j).length = lenAt s n := by
        unfold lenAt
        cases s.Tracks[n]? <;> simp
      rw [e]
      simp only [first]
      omega
  exact this _
theorem nAll_le (h : vCheck s = 0) : nAll s ≤ 25601 := by rw [← nodes_all]; exact nodes_len h
theorem first_le (h : vCheck s = 0) {i : Nat} (hi : i ≤ s.Tracks.length) : first s i ≤ 25601 := Nat.le_trans (first_mono s hi) (nAll_le h)
theorem spots_eq (hN : 1000000 ≤ N) (h : vCheck s = 0) : ref03_spots N s = some { first_ := (List.range s.Tracks.length).map fun i => (first s i : Int), n_ := (nAll s : Int) } := by
  unfold ref03_spots
  have hn := (check_ok h).1
  obtain ⟨o, ho, rfl⟩ := iter_ex (body := ref03_spots_L0 N s) s.Tracks.length (fun i q => q = ((i : Int), (List.range i).map (fun i => (first s i : Int)), (first s i : Int)))
    (fun o => o = .done ((s.Tracks.length : Int), (List.range s.Tracks.length).map (fun i => (first s i : Int)), (nAll s : Int))) (by
    rintro i q hi rfl
    unfold ref03_spots_L0
    simp only
    by_cases hlt : i < s.Tracks.length
    · left
      rw [lt_t hlt, cond_true, apnd_ok (by simp; omega), Option.bind_some, idx_nat hlt]
      simp only [Option.bind_some]
      have h1 := first_le h (i := i) (by omega)
      have h2 := (track_facts (track_at h (List.getElem?_eq_getElem hlt))).2.2
      have h3 : lenAt s i = s.Tracks[i].Times.length := by unfold lenAt; rw [List.getElem?_eq_getElem hlt]
      rw [W64_succ (by omega), W64_id (by omega) (by omega)]
      refine ⟨_, rfl, ?_, hlt⟩
      simp only [List.range_succ, List.map_append, List.map_cons, List.map_nil, first, h3]
      simp
    · have : i = s.Tracks.length := by omega
      subst this
      right
      rw [lt_f, cond_false]
      exact ⟨_, rfl, (fun _ h => by cases h), rfl⟩) s.Tracks.length N 0 (0, [], 1) (by omega) rfl (by omega)
  rw [ho]; rfl
abbrev spotS (s : System) : Spot := { first_ := (List.range s.Tracks.length).map fun i => (first s i : Int), n_ := (nAll s : Int) }
theorem of_eq (h : vCheck s = 0) {r : Ref} (hr : Nd s r) : ref03_spot_of N (spotS s) r = some (num s r : Int) := by
  unfold ref03_spot_of
  rcases hr with rfl | hr
  · rw [num_beg]; rfl
  · obtain ⟨i, t, j, rfl, ht, hj⟩ := li_has hr
    have hi := lt_of_get ht
    have e : decide ((li i j).Log < 0) = false := by simp [li]
    rw [e, cond_false, num_li]
    have h1 := first_le h (i := i) (by omega)
    have h2 := (track_facts (track_at h ht)).2.2
    simp only [li, idx_nat', List.getElem?_map, List.getElem?_range hi, Option.map_some, Option.bind_some]
    rw [W64_id (by omega) (by omega)]
    simp
/-! ### rounds -/
open Classical in
noncomputable def stR (s : System) (at_ : List Int) (by_ : Ref → Option Bound) : St Ref Bound :=
  ⟨fun x => if Nd s x then (match at_[num s x]? with | some v => if v < 1125899906842624 then some v else none | none => none) else none, by_⟩
theorem stR_at {at_ : List Int} {by_ : Ref → Option Bound} {x : Ref} (hx : Nd s x) (hl : at_.length = nAll s) {v : Int} (hv : at_[num s x]? = some v) : (stR s at_ by_).at_ x = if v < 1125899906842624 then some v else none := by
  simp only [stR, if_pos hx, hv]
theorem stR_set {at_ : List Int} {by_ : Ref → Option Bound} {z : Ref} (hz : Nd s z) (hl : at_.length = nAll s) {v : Int} (hv : v < 1125899906842624) (e : Bound) :
    stR s (at_.set (num s z) v) (fun x => if x = z then some e else by_ x) = ⟨fun x => if x = z then some v else (stR s at_ by_).at_ x, fun x => if x = z then some e else (stR s at_ by_).by_ x⟩ := by
  unfold stR
  congr 1
  funext x
  by_cases hx : Nd s x
  · simp only [if_pos hx]
    by_cases he : x = z
    · subst he
      rw [List.getElem?_set_self (by rw [hl]; exact num_lt hz)]
      simp [hv]
    · have hne : num s z ≠ num s x := fun h => he (num_inj hx hz h.symm)
      rw [List.getElem?_set_ne hne]
      simp [he]
  · simp only [if_neg hx]
    have : x ≠ z := fun h => hx (h ▸ hz)
    simp [this]
abbrev IR (s : System) (frm : Ref) (k : Nat) (pre suf : List Bound) (at_ : List Int) (b : Ref → Option Bound) (ts rd : Ref → Nat) (now : Nat) : Prop :=
  Inv Bound.From Bound.To Bound.Most frm (bnds s) k pre suf (stR s at_ b) ts rd now
def AtL (at_ : List Int) (T : Nat) : Prop := ∀ (i : Nat) v, at_[i]? = some v → v < 1125899906842624 → -(50000 * (T : Int)) ≤ v ∧ v ≤ 50000 * (T : Int)
def FinR (s : System) (frm : Ref) (at_ : List Int) : Prop := at_.length = nAll s ∧ (∃ k pre b ts rd now, IR s frm k pre [] at_ b ts rd now ∧ ∀ e, e ∈ bnds s → Closed Bound.From Bound.To Bound.Most (stR s at_ b) e)
theorem reach_inner (h : vCheck s = 0) (hN : 1000000 ≤ N) {frm : Ref} {x1 : Int} {p q : List Int} {u : Int × List Int × List Int} {y : Int} {k T : Nat} (hT : T ≤ 10000000000) {at0 by0 : List Int} (hal : at0.length = nAll s) (hbl : by0.length = nAll s)
    (hI : ∃ b ts rd now, IR s frm k [] (bnds s) at0 b ts rd now) (hB : AtL at0 T) :
    ∃ o, iter (ref03_reach_L2 N s x1 (spotS s) (bnds s) p q u y ((k : Int), at0, by0)) N (-1, 0, at0, by0) = some o ∧
      ((∃ at_ by_, o = .done (-1, ((bnds s).length : Int), at_, by_) ∧ FinR s frm at_ ∧ by_.length = nAll s) ∨
       (∃ hot at_ by_, o = .done (hot, ((bnds s).length : Int), at_, by_) ∧ 0 ≤ hot ∧ at_.length = nAll s ∧ by_.length = nAll s ∧ AtL at_ (T + (bnds s).length) ∧
         ∃ pre b ts rd now, IR s frm k pre [] at_ b ts rd now ∧ (∀ e, e ∈ bnds s → e ∈ pre) ∧ ∃ z, rd z = k + 1)) := by
  have hM := bnd_most h
  have hlen := bnds_len' h
  refine iter_ex (body := ref03_reach_L2 N s x1 (spotS s) (bnds s) p q u y ((k : Int), at0, by0)) (bnds s).length
    (fun i r => r.2.1 = (i : Int) ∧ r.2.2.1.length = nAll s ∧ r.2.2.2.length = nAll s ∧ AtL r.2.2.1 (T + i) ∧ ∃ pre b ts rd now, IR s frm k pre ((bnds s).drop i) r.2.2.1 b ts rd now ∧ (∀ e, e ∈ (bnds s).take i → e ∈ pre) ∧
      ((r.1 = -1 ∧ ∀ e, e ∈ pre → Closed Bound.From Bound.To Bound.Most (stR s r.2.2.1 b) e) ∨ (0 ≤ r.1 ∧ ∃ z, rd z = k + 1))) _ ?_ (bnds s).length N 0 (-1, 0, at0, by0) (by omega) ?_ (by omega)
  · rintro i ⟨hot, j, at_, by_⟩ hi ⟨hj, hal, hbl, hAt, pre, b, ts, rd, now, hInv, hpre, hcase⟩
    simp only at hj hal hbl hAt hInv hcase
    subst hj
    unfold ref03_reach_L2
    simp only
    by_cases hlt : i < (bnds s).length
    · left
      have hmem : (bnds s)[i] ∈ bnds s := List.getElem_mem hlt
      obtain ⟨hF, hTo⟩ := bnd_ends h hmem
      have hd : (bnds s).drop i = (bnds s)[i] :: (bnds s).drop (i + 1) := List.drop_eq_getElem_cons hlt
      rw [hd] at hInv
      have htake : ∀ e, e ∈ (bnds s).take (i + 1) → e ∈ (bnds s)[i] :: pre := by
        intro e he
        rw [List.take_succ_eq_append_getElem hlt, List.mem_append, List.mem_singleton] at he
        rcases he with he | rfl
        · exact List.mem_cons_of_mem _ (hpre e he)
        · exact List.mem_cons_self ..
      have la : num s (bnds s)[i].From < at_.length := by rw [hal]; exact num_lt hF
      have lb : num s (bnds s)[i].To < at_.length := by rw [hal]; exact num_lt hTo
      have lb2 : num s (bnds s)[i].To < by_.length := by rw [hbl]; exact num_lt hTo
      rw [lt_t hlt, cond_true]
      simp only [idx_nat hlt, Option.bind_some, of_eq h hF, of_eq h hTo, idx_nat la, idx_nat lb]
      have a1 := stR_at (by_ := b) hF hal (List.getElem?_eq_getElem la)
      have a2 := stR_at (by_ := b) hTo hal (List.getElem?_eq_getElem lb)
      have hb := hM _ hmem
      have cold : BF.hot Bound.From Bound.To Bound.Most (stR s at_ b) (bnds s)[i] = false → ∃ pre' b' ts rd now, IR s frm k pre' ((bnds s).drop (i + 1)) at_ b' ts rd now ∧ (∀ e, e ∈ (bnds s).take (i + 1) → e ∈ pre') ∧
          ((hot = -1 ∧ ∀ e, e ∈ pre' → Closed Bound.From Bound.To Bound.Most (stR s at_ b') e) ∨ (0 ≤ hot ∧ ∃ z, rd z = k + 1)) := by
        intro hc
        refine ⟨(bnds s)[i] :: pre, b, ts, rd, now, hInv.cold hc, htake, ?_⟩
        rcases hcase with ⟨h0, hcl⟩ | h0
        · refine .inl ⟨h0, fun e he => ?_⟩
          rcases List.mem_cons.1 he with rfl | he
          · exact closed_of_cold hc
          · exact hcl e he
        · exact .inr h0
      by_cases hfa : at_[num s (bnds s)[i].From] < 1125899906842624
      · rw [if_pos hfa] at a1
        have hnb := hAt _ _ (List.getElem?_eq_getElem la) hfa
        have hw : W64 (at_[num s (bnds s)[i].From] + (bnds s)[i].Most) = at_[num s (bnds s)[i].From] + (bnds s)[i].Most := W64_id (by omega) (by omega)
        have e1 : decide (at_[num s (bnds s)[i].From] < 1125899906842624) = true := by simpa using hfa
        rw [e1, cond_true, hw]
        by_cases hup : at_[num s (bnds s)[i].From] + (bnds s)[i].Most < at_[num s (bnds s)[i].To]
        · have e2 : decide (at_[num s (bnds s)[i].From] + (bnds s)[i].Most < at_[num s (bnds s)[i].To]) = true := by simpa using hup
          rw [e2]
          simp only [Option.bind_some, cond_true, idx_nat lb2, Int.toNat_natCast]
          rw [W64_succ (by omega)]
          have hhot : BF.hot Bound.From Bound.To Bound.Most (stR s at_ b) (bnds s)[i] = true := by
            unfold BF.hot
            rw [a1]
            simp only
            rw [a2]
            by_cases hfb : at_[num s (bnds s)[i].To] < 1125899906842624
            · rw [if_pos hfb]; simpa using hup
            · rw [if_neg hfb]
          have hnew := hInv.hot hhot
          have hput : BF.put Bound.From Bound.To Bound.Most (stR s at_ b) (bnds s)[i] = stR s (at_.set (num s (bnds s)[i].To) (at_[num s (bnds s)[i].From] + (bnds s)[i].Most)) (fun x => if x = (bnds s)[i].To then some (bnds s)[i] else b x) := by
            rw [stR_set hTo hal (by omega)]
            unfold BF.put
            rw [a1]
          rw [hput] at hnew
          refine ⟨_, rfl, ⟨rfl, by simp [hal], by simp [hbl], ?_, (bnds s)[i] :: pre, _, _, _, _, hnew, htake, .inr ⟨by simp only; omega, (bnds s)[i].To, by simp⟩⟩, hlt⟩
          intro j v hj hv
          simp only at hj
          rw [List.getElem?_set] at hj
          by_cases hjn : num s (bnds s)[i].To = j
          · rw [if_pos hjn, if_pos lb] at hj
            cases hj; omega
          · rw [if_neg hjn] at hj
            have := hAt j v hj hv; omega
        · have e2 : decide (at_[num s (bnds s)[i].From] + (bnds s)[i].Most < at_[num s (bnds s)[i].To]) = false := by simpa using hup
          rw [e2]
          simp only [Option.bind_some, cond_false]
          rw [W64_succ (by omega)]
          refine ⟨_, rfl, ⟨rfl, hal, hbl, fun j v hj hv => by have := hAt j v hj hv; omega, cold ?_⟩, hlt⟩
          unfold BF.hot
          rw [a1]
          simp only
          rw [a2]
          have hfb : at_[num s (bnds s)[i].To] < 1125899906842624 := by omega
          rw [if_pos hfb]; simpa using hup
      · rw [if_neg hfa] at a1
        have e1 : decide (at_[num s (bnds s)[i].From] < 1125899906842624) = false := by simpa using hfa
        rw [e1]
        simp only [cond_false, Option.bind_some]
        rw [W64_succ (by omega)]
        refine ⟨_, rfl, ⟨rfl, hal, hbl, fun j v hj hv => by have := hAt j v hj hv; omega, cold ?_⟩, hlt⟩
        unfold BF.hot
        rw [a1]
    · have : i = (bnds s).length := by omega
      subst this
      right
      rw [lt_f, cond_false]
      have hd : (bnds s).drop (bnds s).length = [] := by simp
      rw [hd] at hInv
      have hall : ∀ e, e ∈ bnds s → e ∈ pre := fun e he => hpre e (by simpa using he)
      rcases hcase with ⟨rfl, hcl⟩ | ⟨h0, hz⟩
      · exact ⟨_, rfl, (fun _ h => by cases h), .inl ⟨at_, by_, rfl, ⟨hal, k, pre, b, ts, rd, now, hInv, fun e he => hcl e (hall e he)⟩, hbl⟩⟩
      · exact ⟨_, rfl, (fun _ h => by cases h), .inr ⟨hot, at_, by_, rfl, h0, hal, hbl, hAt, pre, b, ts, rd, now, hInv, hall, hz⟩⟩
  · obtain ⟨b, ts, rd, now, h⟩ := hI
    exact ⟨rfl, hal, hbl, hB, [], b, ts, rd, now, h, (fun e he => by simp at he), .inl ⟨rfl, fun e he => by cases he⟩⟩
theorem reach_eq (h : vCheck s = 0) (hf : FitS N s) (hN : 1000000 ≤ N) {frm : Ref} (hfr : Nd s frm) :
    ∃ at_ by_ hot, ref03_reach N s (num s frm : Int) = some (at_, by_, hot) ∧ ((hot = -1 ∧ FinR s frm at_) ∨ (0 ≤ hot ∧ ¬ Cls s)) := by
  unfold ref03_reach
  have hn := nAll_le h
  have hn1 : num s frm < nAll s := num_lt hfr
  rw [spots_eq hN h, Option.bind_some, bounds_r hf h, Option.bind_some]
  have hmk : mk0 (0 : Int) ((nAll s : Nat) : Int) = some (List.replicate (nAll s) 0) := by unfold mk0; rw [if_pos (by omega)]; simp
  simp only [hmk, Option.bind_some]
  obtain ⟨o, ho, rfl⟩ := iter_ex (body := ref03_reach_L0 N s (num s frm : Int) (spotS s) (bnds s) (List.replicate (nAll s) 0) (List.replicate (nAll s) 0)) (nAll s)
    (fun i q => q = ((i : Int), List.replicate i (1125899906842624 : Int) ++ List.replicate (nAll s - i) 0, List.replicate i (-1 : Int) ++ List.replicate (nAll s - i) 0))
    (fun o => o = .done ((nAll s : Int), List.replicate (nAll s) (1125899906842624 : Int), List.replicate (nAll s) (-1 : Int))) (by
    rintro i q hi rfl
    unfold ref03_reach_L0
    simp only
    by_cases hlt : i < nAll s
    · left
      have key : ∀ v : Int, (List.replicate i v ++ List.replicate (nAll s - i) (0 : Int)).set i v = List.replicate (i + 1) v ++ List.replicate (nAll s - (i + 1)) 0 := by
        intro v
        have e : nAll s - i = (nAll s - (i + 1)) + 1 := by omega
        rw [e, List.replicate_succ, List.set_append_right _ _ (by simp)]
        simp only [List.length_replicate, Nat.sub_self, List.set_cons_zero]
        rw [List.replicate_succ', List.append_assoc]; rfl
      rw [lt_t hlt, cond_true, idx_nat (by simp; omega), Option.bind_some, idx_nat (by simp; omega), Option.bind_some, W64_succ (by omega)]
      refine ⟨_, rfl, ?_, hlt⟩
      simp only [Int.toNat_natCast, key]
    · have : i = nAll s := by omega
      subst this
      right
      rw [lt_f, cond_false]
      exact ⟨_, rfl, (fun _ h => by cases h), by simp⟩) (nAll s) N 0 (0, List.replicate (nAll s) 0, List.replicate (nAll s) 0) (by omega) (by simp) (by omega)
  rw [ho]
  simp only [Option.bind_some, Flow.k]
  rw [idx_nat (by simpa using hn1)]
  simp only [Option.bind_some, Int.toNat_natCast]
  generalize hr : (List.replicate (nAll s) (1125899906842624 : Int)).set (num s frm) 0 = at0
  generalize hu : ((nAll s : Int), List.replicate (nAll s) (1125899906842624 : Int), List.replicate (nAll s) (-1 : Int)) = u
  generalize (List.replicate (nAll s) (1125899906842624 : Int))[num s frm]'_ = y
  have hal0 : at0.length = nAll s := by subst hr; simp
  have hinit : BF.init frm = stR s at0 (fun _ => none) := by
    subst hr
    unfold BF.init stR
    refine congrArg (fun a => (⟨a, fun _ => none⟩ : St Ref Bound)) ?_
    funext x
    by_cases hx : Nd s x
    · rw [if_pos hx]
      by_cases he : x = frm
      · subst he; rw [List.getElem?_set_self (by simpa using hn1)]; simp
      · have hne : num s frm ≠ num s x := fun h => he (num_inj hx hfr h.symm)
        rw [List.getElem?_set_ne hne, List.getElem?_replicate, if_pos (num_lt hx)]; simp [he]
    · rw [if_neg hx]
      have : x ≠ frm := fun h => hx (h ▸ hfr)
      simp [this]
  obtain ⟨o, ho, hR⟩ := iter_ex (body := ref03_reach_L1 N s (num s frm : Int) (spotS s) (bnds s) (List.replicate (nAll s) 0) (List.replicate (nAll s) 0) u y) (nAll s)
    (fun k q => q.1 = (k : Int) ∧ q.2.1.length = nAll s ∧ q.2.2.length = nAll s ∧ (∃ b ts rd now, IR s frm k [] (bnds s) q.2.1 b ts rd now) ∧ AtL q.2.1 (k * (bnds s).length))
    (fun o => ∃ at_ by_ hot, o = .ret (at_, by_, hot) ∧ ((hot = -1 ∧ FinR s frm at_) ∨ (0 ≤ hot ∧ ¬ Cls s))) (by
    rintro k ⟨j, at1, by1⟩ hk ⟨hj, hal, hbl, hI, hB⟩
    simp only at hj hal hbl hI hB
    subst hj
    have hbl' := bnds_len' h
    have hT : k * (bnds s).length ≤ 10000000000 := by
      have := Nat.mul_le_mul (show k ≤ 25601 by omega) hbl'
      omega
    obtain ⟨o, ho, hcase⟩ := reach_inner h hN (x1 := (num s frm : Int)) (p := List.replicate (nAll s) 0) (q := List.replicate (nAll s) 0) (u := u) (y := y) hT hal hbl hI hB
    unfold ref03_reach_L1
    have e1 : decide ((k : Int) ≤ (nAll s : Int)) = true := by simpa using hk
    simp only at ho ⊢
    rw [e1, cond_true, ho]
    rcases hcase with ⟨at_, by_, rfl, hfin, hbl2⟩ | ⟨hot, at_, by_, rfl, h0, hal2, hbl2, hB2, pre, b, ts, rd, now, hInv, hall, z, hz⟩
    · right
      exact ⟨_, rfl, (fun _ h => by cases h), at_, by_, -1, rfl, .inl ⟨rfl, hfin⟩⟩
    · have e2 : decide (hot < 0) = false := by simpa using h0
      simp only [Option.bind_some, Flow.k, e2, cond_false]
      by_cases hkn : k = nAll s
      · right
        have e3 : ((k : Int) == (nAll s : Int)) = true := by simp [hkn]
        rw [e3, cond_true]
        refine ⟨_, rfl, (fun _ h => by cases h), at_, by_, hot, rfl, .inr ⟨h0, ?_⟩⟩
        refine hInv.neg_of_late (nodes := nodesOf s) (fun e he => mem_nodes.2 (bnd_ends h he).2) (z := z) ?_
        rw [nodes_all, hz, hkn]; exact Nat.le_refl _
      · left
        have e3 : ((k : Int) == (nAll s : Int)) = false := by simp; omega
        rw [e3, cond_false, W64_succ (by omega)]
        exact ⟨_, rfl, ⟨rfl, hal2, hbl2, ⟨b, ts, rd, now, hInv.next hall⟩, by rw [Nat.succ_mul]; exact hB2⟩, by omega⟩) (nAll s) N 0 (0, at0, List.replicate (nAll s) (-1)) (by omega) (by
      refine ⟨rfl, hal0, by simp, ⟨fun _ => none, fun _ => 0, fun _ => 0, 0, ?_⟩, ?_⟩
      · have := Inv.init (src := Bound.From) (dst := Bound.To) (w := Bound.Most) frm (bnds s)
        rw [hinit] at this
        exact this
      · intro i v hi hv
        simp only at hi
        subst hr
        rw [List.getElem?_set] at hi
        by_cases hin : num s frm = i
        · rw [if_pos hin, if_pos (by simpa using hn1)] at hi
          cases hi; omega
        · rw [if_neg hin, List.getElem?_replicate] at hi
          split at hi
          · cases hi; omega
          · cases hi) (by omega)
  obtain ⟨at_, by_, hot, rfl, hcase⟩ := hR
  subst hu
  rw [ho]
  exact ⟨at_, by_, hot, rfl, hcase⟩
theorem FinR.val (h : vCheck s = 0) {frm : Ref} {at_ : List Int} (hf : FinR s frm at_) {x : Ref} (hfr : Nd s frm) (hx : Nd s x) : ∃ v, at_[num s x]? = some v ∧ Dst s frm x v := by
  obtain ⟨hl, k, pre, b, ts, rd, now, hI, hc⟩ := hf
  obtain ⟨n, hn⟩ := walk_any h hfr hx
  obtain ⟨m, hm, _⟩ := walk_closed hc hn (hI.frm_zero hc)
  have hd := (hI.dist hc).1 hm
  simp only [stR, if_pos hx] at hm
  cases hv : at_[num s x]? with
  | none => rw [hv] at hm; cases hm
  | some v =>
    rw [hv] at hm
    simp only at hm
    split at hm
    · cases hm; exact ⟨m, rfl, hd⟩
    · cases hm
theorem FinR.closes (h : vCheck s = 0) {frm : Ref} {at_ : List Int} (hf : FinR s frm at_) (hfr : Nd s frm) : Cls s := by
  obtain ⟨hl, k, pre, b, ts, rd, now, hI, hc⟩ := hf
  refine noNeg_of_closed hc (fun e he => ?_)
  obtain ⟨n, hn⟩ := walk_any h hfr (bnd_ends h he).2
  obtain ⟨m, hm, _⟩ := walk_closed hc hn (hI.frm_zero hc)
  exact ⟨m, hm⟩
theorem reach_ok (h : vCheck s = 0) (hf : FitS N s) (hN : 1000000 ≤ N) (hc : Cls s) {frm : Ref} (hfr : Nd s frm) : ∃ at_ by_, ref03_reach N s (num s frm : Int) = some (at_, by_, -1) ∧ ∀ x, Nd s x → at_[num s x]? = some (dd s frm x) := by
  obtain ⟨at_, by_, hot, h1, h2⟩ := reach_eq h hf hN hfr
  rcases h2 with ⟨rfl, h2⟩ | ⟨_, h2⟩
  · refine ⟨at_, by_, h1, fun x hx => ?_⟩
    obtain ⟨v, h3, h4⟩ := h2.val h hfr hx
    rw [h3, dd_eq h4]
  · exact absurd hc h2
open Classical in
theorem Closes_eq (h : vCheck s = 0) (hf : FitS N s) (hN : 1000000 ≤ N) : ref03_Closes N s = some (decide (Cls s)) := by
  unfold ref03_Closes
  obtain ⟨at_, by_, hot, h1, h2⟩ := reach_eq h hf hN (nd_beg s)
  rw [num_beg] at h1
  rw [show (0 : Int) = ((0 : Nat) : Int) from rfl, h1]
  simp only [Option.bind_some]
  rcases h2 with ⟨rfl, h2⟩ | ⟨h0, h2⟩
  · have := h2.closes h (nd_beg s)
    simp [this]
  · simp only [h2, decide_false, Option.some.injEq, decide_eq_false_iff_not]
    omega
end
end Go.Proofs.Ythbcnabeabcmlaa
namespace Go.Proofs.Ythbcnabeabcmlaa
open Go.Proofs
def ref03_asked_L0 (N : Nat) (x0 : System) (x1 : (List Ref)) (r4 : Int) : Int → Option (Flow Int Int) := fun s18 =>
 (bif (decide (s18 < (x1.length : Int))) then (((idx x1 s18).bind fun x53 => ((ref03_Has N x0 x53).bind fun r67 => some (!r67))).bind fun j45 => (bif j45 then some (.ret 3) else some (.next (W64 (s18 + 1))))) else some (.done s18))
def ref03_asked (N : Nat) (x0 : System) (x1 : (List Ref)) : Option Int :=
 ((ref03_Check N x0).bind fun r4 => (bif (r4 != 0) then some r4 else ((iter (ref03_asked_L0 N x0 x1 r4) N 0).bind fun o => o.k (fun r => some r) (fun s26 => ((ref03_Closes N x0).bind fun r82 => (bif (!r82) then some 31 else some 0))))))
theorem co_ref03_asked : CallOk Try.prog 78 := fun _ _ => by kernel_rfl
set_option maxHeartbeats 4000000 in
set_option maxRecDepth 100000 in
theorem c_ref03_asked (N : Nat) (w0 : World) (F0 : Mem) (hF : ∀ b o, F0 b = some o → w0.heap[b]? = some o) (x0 : System) (a0_0 : Option Addr) (n0_0 : Nat) (hb0_0 : LC x0.Tracks.length n0_0) (hs0_0 : SlA tTrack F0 a0_0 x0.Tracks) (a0_1 : Option Addr) (n0_1 : Nat) (hb0_1 : LC x0.Ties.length n0_1) (hs0_1 : SlA tTie F0 a0_1 x0.Ties) (x1 : (List Ref)) (a1_0 : Option Addr) (n1_0 : Nat) (hb1_0 : LC x1.length n1_0) (hs1_0 : SlA tRef F0 a1_0 x1) (r : Int) (h : ref03_asked N x0 x1 = some r) :
  Calls Try.prog 78 ([(.agg (kSystem x0 a0_0 n0_0 a0_1 n0_1)), (.slice a1_0 x1.length n1_0)] : List Value).toArray w0 (FRet w0 F0 fun F' v => v = (vi r)) := by
 have hs0 := HS.start hF
 refine calls_of (n := 28) (c := bodyOf Try.f78) Try.func78 (by kernel_rfl) (by kernel_rfl) (by kernel_rfl) ?_
 refine Sq (Rg [0, 1] ?_)
 refine Bx 2 0 0 25 (kSystem x0 a0_0 n0_0 a0_1 n0_1) hs0 (fun b1 w2 (hs3 : HS w0 F0 w2 F0 [(sb b1 (kSystem x0 a0_0 n0_0 a0_1 n0_1) 25)]) => ?_)
 refine V 4 30 (mc (vi 0) (vi 0)) ?_
 refine Nss (Rg [0, 1, 2] ?_)
 refine V 7 25 (ld 25 2 b1 0 true 3 (.agg (kSystem x0 a0_0 n0_0 a0_1 n0_1)) (hs3.ownAt (k := 0) rfl)) ?_
 obtain ⟨r4, hr5, h6⟩ := bind_some h
 refine Cl 8 30 40 #[(.tmp 7)] #[25] co_ref03_Check hs3 (c_ref03_Check N w2 F0 hs3.pers (x0) a0_0 n0_0 hb0_0 hs0_0 a0_1 n0_1 hb0_1 hs0_1 _ hr5) ?_
 intro v7 F1 w8 hs9 le10 hp11
 obtain rfl := hp11
 refine V 5 30 (ma 8 (vi r4)) ?_
 refine Nss ?_
 refine Sq (Rg [0, 1] ?_)
 refine V 9 30 (mv 5 (vi r4)) ?_
 refine V 10 4 (run_neq (t := 30) (t' := 30) (x := (.tmp 9)) (y := (.const (vi 0))) (k := .i64) (a := r4) (b := 0) rfl rfl) ?_
 refine Nt ?_
 refine CWP.cond (t := (r4 != 0)) (by kernel_rfl) rfl (fun hb12 => ?_) (fun hb12 => ?_)
 ·have h13 := cond_t h6 hb12
  refine Sq (Rg [0, 1] ?_)
  refine V 11 30 (mv 5 (vi r4)) ?_
  refine V 4 30 (ma 11 (vi r4)) ?_
  refine Nt ?_
  refine CWP.ret (by kernel_rfl) ?_
  refine thenQ_ret ?_
  have hfin := some_inj h13
  subst hfin
  exact ⟨rfl, (vi r4), res_of (l := [.tmp 4]) (by kernel_rfl) (vs := [(vi r4)]) ⟨rfl, trivial⟩, (vi r4), F1, rfl, hs9.clear, rfl⟩
 ·have h14 := cond_f h6 hb12
  refine Sc ?_
  refine thenQ_nrm ?_
  refine Sq ?_
  refine Sq (Rg [0] ?_)
  refine V 6 3 (mc (vi 0) (vi 0)) ?_
  refine Nt ?_
  obtain ⟨o15, ho16, h17⟩ := bind_some h14
  refine CWP.cut (fun f w => ∃ (s26 : Int) (F3 : Mem), o15 = .done s26 ∧ HS w0 F0 w F3 [(sb b1 (kSystem x0 a0_0 n0_0 a0_1 n0_1) 25)] ∧ Mem.le F1 F3 ∧ f.d = [] ∧ f 2 = (.pointer (some ⟨b1, 0, none⟩))) ?_ ?_
  ·refine Bk ?_
   refine CWP.loop (by kernel_rfl) (fun m f w => ∃ (s18 : Int) (F2 : Mem), iter (ref03_asked_L0 N x0 x1 r4) m s18 = some o15 ∧ HS w0 F0 w F2 [(sb b1 (kSystem x0 a0_0 n0_0 a0_1 n0_1) 25)] ∧ Mem.le F1 F2 ∧ f.d = [] ∧ f 1 = (.slice a1_0 x1.length n1_0) ∧ f 2 = (.pointer (some ⟨b1, 0, none⟩)) ∧ f 6 = (vi s18)) N ⟨0, F1, ho16, hs9, (Mem.le.refl _), rfl, rfl, rfl, rfl⟩ ?_
   rintro m32 f w19 ⟨s18, F2, hit33, hs20, le21, e22, e23, e24, e25⟩
   obtain ⟨m34, fl35, rfl, hb36, hnx37⟩ := iter_step hit33
   refine Sq ?_
   refine Sq (Rg [0, 1, 2, 3] ?_)
   refine V 12 3 (mv 6 (vi s18) e25) ?_
   refine V 13 109 (mv 1 (.slice a1_0 x1.length n1_0) e23) ?_
   refine V 14 3 (ln 13 109 a1_0 x1.length n1_0 27 2 16) ?_
   refine V 15 4 (run_lss (t := 3) (t' := 3) (x := (.tmp 12)) (y := (.tmp 14)) (k := .i64) (a := s18) (b := (x1.length : Int)) rfl rfl) ?_
   refine Nt ?_
   refine CWP.cond (t := (decide (s18 < (x1.length : Int)))) (by kernel_rfl) rfl (fun hb38 => ?_) (fun hb38 => ?_)
   ·have h39 := cond_t hb36 hb38
    refine Sc ?_
    refine thenQ_nrm ?_
    refine Sq ?_
    refine Bk ?_
    refine Sq ?_
    obtain ⟨j45, hj51, h52⟩ := bind_some h39
    refine CWP.regionD (by kernel_rfl) (by kernel_rfl) (by kernel_rfl) (by kernel_rfl) (z := 7) (F := F2) (Lc := [(sb b1 (kSystem x0 a0_0 n0_0 a0_1 n0_1) 25)]) (Lz := []) (l := [false, false, false, false, false, false, false]) (fuel := 7) (by kernel_rfl) (by kernel_rfl) hs20 (by simp) (by simp) (fun f w => ∃ (F4 : Mem), HS w0 F0 w F4 [(sb b1 (kSystem x0 a0_0 n0_0 a0_1 n0_1) 25)] ∧ Mem.le F2 F4 ∧ f.d = [] ∧ f 1 = (.slice a1_0 x1.length n1_0) ∧ f 2 = (.pointer (some ⟨b1, 0, none⟩)) ∧ f 6 = (vi s18) ∧ f 24 = (.bool j45)) (fun wd40 hw41 => ?_) ?_
    ·refine Dt 0 18 25 _ (fun _ hq => ld 25 2 b1 0 true 3 (.agg (kSystem x0 a0_0 n0_0 a0_1 n0_1)) (hq.1.2 0 _ _ rfl) e24) ?_
     refine Dt 1 19 109 _ (fun _ hq => mv 1 (.slice a1_0 x1.length n1_0) e23) ?_
     refine Dt 2 20 3 _ (fun _ hq => mv 6 (vi s18) e25) ?_
     obtain ⟨x53, hx54, h56⟩ := bind_some hj51
     obtain ⟨hi55, hx54'⟩ := idx_spec hx54
     obtain ⟨b57, o58, C59, E60, fz61, rfl, hF63, hE64⟩ := SlA.open (SlA.mono hs1_0 (le10.trans le21)) hx54'
     have hc66 := hE64 _ _ hx54'
     refine Dt 3 21 0 (.pointer (some ⟨b57, (o58 + (s18 : Int).toNat * 2), none⟩)) (fun _ hq => ix 109 19 20 b57 o58 27 2 16 hi55) ?_
     refine Dt 4 22 27 _ (fun _ hq => lx 27 21 0 2 true 2 (.agg (kRef x53)) (hq.1.1 _ _ hF63) hc66) ?_
     refine DWP.one (i := 5) (by kernel_rfl) ?_
     obtain ⟨r67, hr68, h69⟩ := bind_some h56
     refine DStep.call (l' := [true, true, true, true, true, true, false]) (zd := true) (by kernel_rfl) (by kernel_rfl) (by kernel_rfl) (dst := (some 23)) (ty := 4) (g := none) (by kernel_rfl) rfl (f0 := (.func 85)) (aos := #[(.tmp 18), (.tmp 22)]) (ats := #[25, 27]) (fid := 85) (first := #[]) (cap := #[]) (args := [(.agg (kSystem x0 a0_0 n0_0 a0_1 n0_1)), (.agg (kRef x53))]) rfl co_ref03_Has (rfl) hw41 (c_ref03_Has N wd40 F2 hw41.pers (x0) a0_0 n0_0 hb0_0 (SlA.mono hs0_0 (le10.trans le21)) a0_1 n0_1 hb0_1 (SlA.mono hs0_1 (le10.trans le21)) (x53) _ hr68) ?_
     intro v70 F5 w71 hs72 le73 hp74
     obtain rfl := hp74
     refine Dt 6 24 4 (.bool (!r67)) (fun _ hq => run_not (t := 4) (x := (.tmp 23)) (a := r67) rfl) ?_
     obtain rfl := some_inj h69
     exact DWP.done (by kernel_rfl) ⟨F5, hs72, le73, e22, e23, e24, e25, rfl⟩
    ·rintro f w42 ⟨F4, hs43, le44, e46, e47, e48, e49, e50⟩
     refine thenQ_nrm ?_
     refine CWP.cond (t := j45) (by kernel_rfl) e50 (fun hb75 => ?_) (fun hb75 => ?_)
     ·have h76 := cond_t h52 hb75
      refine Sq (Rg [0] ?_)
      refine V 4 30 (mc (vi 3) (vi 3)) ?_
      refine Nt ?_
      refine CWP.ret (by kernel_rfl) ?_
      refine blockQ_ret ?_
      refine thenQ_ret ?_
      refine thenQ_ret ?_
      refine blockQ_ret ?_
      have hret := iter_ret h76 hnx37
      subst hret
      refine .inr ?_
      refine thenQ_ret ?_
      have hfin := some_inj h17
      subst hfin
      exact ⟨e46, (vi 3), res_of (l := [.tmp 4]) (by kernel_rfl) (vs := [(vi 3)]) ⟨rfl, trivial⟩, (vi 3), F4, rfl, hs43.clear, rfl⟩
     ·have h77 := cond_f h52 hb75
      refine Sc ?_
      refine blockQ_nrm ?_
      refine thenQ_nrm ?_
      refine Rg [0, 1, 2] ?_
      refine V 16 3 (mv 6 (vi s18) e49) ?_
      refine V 17 3 (run_add (t := 3) (t' := 3) (x := (.tmp 16)) (y := (.const (vi 1))) (k := .i64) (a := s18) (b := 1) rfl rfl) ?_
      refine V 6 3 (ma 17 (vi (W64 (s18 + 1)))) ?_
      refine RWP.nil ?_
      have hn78 := iter_next h77 hnx37
      exact ⟨m34, Nat.lt_succ_self _, (W64 (s18 + 1)), F4, hn78, hs43, (le21.trans le44), e46, e47, e48, rfl⟩
   ·have h79 := cond_f hb36 hb38
    refine CWP.exit (by kernel_rfl) ?_
    refine thenQ_ex ?_
    refine thenQ_ex ?_
    refine blockQ_hit rfl ?_
    have ho80 := iter_done h79 hnx37
    exact .inl ⟨rfl, s18, F2, ho80, hs20, le21, e22, e24⟩
  ·rintro f w27 ⟨s26, F3, rfl, hs28, le29, e30, e31⟩
   have h81 := k_done h17
   refine thenQ_nrm ?_
   refine Sq ?_
   refine Sq (Rg [0, 1, 2] ?_)
   refine V 25 25 (ld 25 2 b1 0 true 3 (.agg (kSystem x0 a0_0 n0_0 a0_1 n0_1)) (hs28.ownAt (k := 0) rfl) e31) ?_
   obtain ⟨r82, hr83, h84⟩ := bind_some h81
   refine Cl 26 4 90 #[(.tmp 25)] #[25] co_ref03_Closes hs28 (c_ref03_Closes N w27 F3 hs28.pers (x0) a0_0 n0_0 hb0_0 (SlA.mono hs0_0 (le10.trans le29)) a0_1 n0_1 hb0_1 (SlA.mono hs0_1 (le10.trans le29)) _ hr83) ?_
   intro v85 F6 w86 hs87 le88 hp89
   obtain rfl := hp89
   refine V 27 4 (run_not (t := 4) (x := (.tmp 26)) (a := r82) rfl) ?_
   refine Nt ?_
   refine CWP.cond (t := (!r82)) (by kernel_rfl) rfl (fun hb90 => ?_) (fun hb90 => ?_)
   ·have h91 := cond_t h84 hb90
    refine Sq (Rg [0] ?_)
    refine V 4 30 (mc (vi 31) (vi 31)) ?_
    refine Nt ?_
    refine CWP.ret (by kernel_rfl) ?_
    refine thenQ_ret ?_
    have hfin := some_inj h91
    subst hfin
    exact ⟨e30, (vi 31), res_of (l := [.tmp 4]) (by kernel_rfl) (vs := [(vi 31)]) ⟨rfl, trivial⟩, (vi 31), F6, rfl, hs87.clear, rfl⟩
   ·have h92 := cond_f h84 hb90
    refine Sc ?_
    refine thenQ_nrm ?_
    refine Sq (Rg [0] ?_)
    refine V 4 30 (mc (vi 0) (vi 0)) ?_
    refine Nt ?_
    refine CWP.ret (by kernel_rfl) ?_
    have hfin := some_inj h92
    subst hfin
    exact ⟨e30, (vi 0), res_of (l := [.tmp 4]) (by kernel_rfl) (vs := [(vi 0)]) ⟨rfl, trivial⟩, (vi 0), F6, rfl, hs87.clear, rfl⟩
end Go.Proofs.Ythbcnabeabcmlaa
namespace Go.Proofs.Ythbcnabeabcmlaa
open Go.Proofs
def ref03_Interval (N : Nat) (x0 : System) (x1 : Ref) : Option (Span × Int) :=
 ((ref03_asked N x0 ([x1])).bind fun r19 => (bif (r19 != 0) then some (({ Lo := 0, Hi := 0 } : Span), r19) else (((ref03_spots N x0).bind fun r43 => ((ref03_spot_of N r43 x1).bind fun r51 => ((ref03_relation N x0 0 r51).bind fun r59 => some (r59.Lo, r59.Hi)))).bind fun j37 => some (({ Lo := j37.1, Hi := j37.2 } : Span), 0))))
theorem co_ref03_Interval : CallOk Try.prog 23 := fun _ _ => by kernel_rfl
set_option maxHeartbeats 4000000 in
set_option maxRecDepth 100000 in
theorem c_ref03_Interval (N : Nat) (w0 : World) (F0 : Mem) (hF : ∀ b o, F0 b = some o → w0.heap[b]? = some o) (x0 : System) (a0_0 : Option Addr) (n0_0 : Nat) (hb0_0 : LC x0.Tracks.length n0_0) (hs0_0 : SlA tTrack F0 a0_0 x0.Tracks) (a0_1 : Option Addr) (n0_1 : Nat) (hb0_1 : LC x0.Ties.length n0_1) (hs0_1 : SlA tTie F0 a0_1 x0.Ties) (x1 : Ref) (r : (Span × Int)) (h : ref03_Interval N x0 x1 = some r) :
  Calls Try.prog 23 ([(.agg (kSystem x0 a0_0 n0_0 a0_1 n0_1)), (.agg (kRef x1))] : List Value).toArray w0 (FRet w0 F0 fun F' v => v = (.tuple #[(.agg (kSpan r.1)), (vi r.2)])) := by
 have hs0 := HS.start hF
 refine calls_of (n := 21) (c := bodyOf Try.f23) Try.func23 (by kernel_rfl) (by kernel_rfl) (by kernel_rfl) ?_
 refine Sq (Rg [0, 1, 2, 3] ?_)
 refine Bx 2 0 0 25 (kSystem x0 a0_0 n0_0 a0_1 n0_1) hs0 (fun b1 w2 (hs3 : HS w0 F0 w2 F0 [(sb b1 (kSystem x0 a0_0 n0_0 a0_1 n0_1) 25)]) => ?_)
 refine Bx 3 0 1 27 (kRef x1) hs3 (fun b4 w5 (hs6 : HS w0 F0 w5 F0 [(sb b4 (kRef x1) 27), (sb b1 (kSystem x0 a0_0 n0_0 a0_1 n0_1) 25)]) => ?_)
 refine Al 4 0 38 #[(vi 0), (vi 0)] hs6 (fun b7 w8 (hs9 : HS w0 F0 w8 F0 [(sb b7 #[(vi 0), (vi 0)] 38), (sb b4 (kRef x1) 27), (sb b1 (kSystem x0 a0_0 n0_0 a0_1 n0_1) 25)]) => ?_)
 refine V 5 30 (mc (vi 0) (vi 0)) ?_
 refine Nss (Rg [0, 1, 2, 3, 4] ?_)
 refine V 7 25 (ld 25 2 b1 0 true 3 (.agg (kSystem x0 a0_0 n0_0 a0_1 n0_1)) (hs9.ownAt (k := 2) rfl)) ?_
 refine V 8 27 (ld 27 3 b4 0 true 2 (.agg (kRef x1)) (hs9.ownAt (k := 1) rfl)) ?_
 refine RWP.buildSlice (dst := (some 9)) (ty := 109) (g := none) (by kernel_rfl) rfl (t := 109) (len := 1) (parts := #[(0, (.tmp 8))]) (vs := [(0, (.agg (kRef x1)))]) (rfl) (E := 27) (cs := [(vi x1.Log), (vi x1.Line)]) (by kernel_rfl) hs9 (fun b10 w11 (hs12 : HS w0 F0 w11 F0 [(some b10, .cells ([(vi x1.Log), (vi x1.Line)] : List Value).toArray 27 (0, 0)), (sb b7 #[(vi 0), (vi 0)] 38), (sb b4 (kRef x1) 27), (sb b1 (kSystem x0 a0_0 n0_0 a0_1 n0_1) 25)]) => ?_)
 have hr14 : RowR tRef 27 F0 (some ⟨b10, 0, none⟩) 1 [x1] (some b10, .cells ([(vi x1.Log), (vi x1.Line)] : List Value).toArray 27 (0, 0)) := RowR.lit ⟨rfl, rfl⟩ (by simp)
 have hb18 := RowR.bound hr14
 obtain ⟨F1, hs15, le16, hs17⟩ : ∃ Fq, HS w0 F0 w11 Fq [(sb b7 #[(vi 0), (vi 0)] 38), (sb b4 (kRef x1) 27), (sb b1 (kSystem x0 a0_0 n0_0 a0_1 n0_1) 25)] ∧ Mem.le F0 Fq ∧ SlA tRef Fq (some ⟨b10, 0, none⟩) [x1] := HS.freezeRow hs12 (k := 0) rfl hr14
 obtain ⟨r19, hr20, h21⟩ := bind_some h
 refine Cl 10 30 78 #[(.tmp 7), (.tmp 9)] #[25, 109] co_ref03_asked hs15 (c_ref03_asked N w11 F1 hs15.pers (x0) a0_0 n0_0 hb0_0 (SlA.mono hs0_0 le16) a0_1 n0_1 hb0_1 (SlA.mono hs0_1 le16) ([x1]) (some ⟨b10, 0, none⟩) 1 hb18 hs17 _ hr20) ?_
 intro v22 F2 w23 hs24 le25 hp26
 obtain rfl := hp26
 refine V 6 30 (ma 10 (vi r19)) ?_
 refine Nss ?_
 refine Sq (Rg [0, 1] ?_)
 refine V 11 30 (mv 6 (vi r19)) ?_
 refine V 12 4 (run_neq (t := 30) (t' := 30) (x := (.tmp 11)) (y := (.const (vi 0))) (k := .i64) (a := r19) (b := 0) rfl rfl) ?_
 refine Nt ?_
 refine CWP.cond (t := (r19 != 0)) (by kernel_rfl) rfl (fun hb27 => ?_) (fun hb27 => ?_)
 ·have h28 := cond_t h21 hb27
  refine Sq (Rg [0, 1, 2, 3] ?_)
  refine V 13 38 (run_build2 (t := 38) (parts := #[]) (vs := []) (rfl) (cs := [(vi 0), (vi 0)]) (by kernel_rfl)) ?_
  refine V 14 30 (mv 6 (vi r19)) ?_
  refine RWP.store (ty := 0) (g := none) (by kernel_rfl) rfl (x := (.tmp 4)) (y := (.tmp 13)) (t := 38) (gg := true) (s := 2) (v := (.agg #[(vi 0), (vi 0)])) (b := b7) (o := 0) (C := #[(vi 0), (vi 0)]) rfl rfl (by kernel_rfl) hs24 (k := 0) rfl rfl rfl rfl (C' := #[(vi 0), (vi 0)]) rfl (fun w29 (hs30 : HS w0 F0 w29 F2 [(sb b7 #[(vi 0), (vi 0)] 38), (sb b4 (kRef x1) 27), (sb b1 (kSystem x0 a0_0 n0_0 a0_1 n0_1) 25)]) => ?_)
  refine V 5 30 (ma 14 (vi r19)) ?_
  refine Nt ?_
  refine CWP.ret (by kernel_rfl) ?_
  refine thenQ_ret ?_
  have hfin := some_inj h28
  subst hfin
  exact ⟨rfl, (.tuple #[(.agg #[(vi 0), (vi 0)]), (vi r19)]), res_of (l := [.cell 4 38, .tmp 5]) (by kernel_rfl) (vs := [(.agg #[(vi 0), (vi 0)]), (vi r19)]) ⟨b7, 0, rfl, run_loadVar' (t := 38) (g := true) (s := 2) (by kernel_rfl) (hs30.ownAt (k := 0) rfl) rfl (by decide), ⟨rfl, trivial⟩⟩, (.tuple #[(.agg #[(vi 0), (vi 0)]), (vi r19)]), F2, rfl, hs30.clear, rfl⟩
 ·have h31 := cond_f h21 hb27
  refine Sc ?_
  refine thenQ_nrm ?_
  refine Sq ?_
  obtain ⟨j37, hj41, h42⟩ := bind_some h31
  refine CWP.regionD (by kernel_rfl) (by kernel_rfl) (by kernel_rfl) (by kernel_rfl) (z := 8) (F := F2) (Lc := [(sb b4 (kRef x1) 27), (sb b1 (kSystem x0 a0_0 n0_0 a0_1 n0_1) 25)]) (Lz := []) (l := [false, false, false, false, false, false, false, false]) (fuel := 8) (by kernel_rfl) (by kernel_rfl) hs24 (by simp) (by simp) (fun f w => ∃ (F3 : Mem), HS w0 F0 w F3 [(sb b7 #[(vi j37.1), (vi j37.2)] 38)] ∧ Mem.le F2 F3 ∧ f.d = [] ∧ f 4 = (.pointer (some ⟨b7, 0, none⟩)) ∧ f 5 = (vi 0)) (fun wd32 hw33 => ?_) ?_
  ·refine Dt 0 15 25 _ (fun _ hq => ld 25 2 b1 0 true 3 (.agg (kSystem x0 a0_0 n0_0 a0_1 n0_1)) (hq.1.2 1 _ _ rfl)) ?_
   refine Dt 1 16 25 _ (fun _ hq => ld 25 2 b1 0 true 3 (.agg (kSystem x0 a0_0 n0_0 a0_1 n0_1)) (hq.1.2 1 _ _ rfl)) ?_
   refine Dt 3 18 27 _ (fun _ hq => ld 27 3 b4 0 true 2 (.agg (kRef x1)) (hq.1.2 0 _ _ rfl)) ?_
   refine DWP.one (i := 2) (by kernel_rfl) ?_
   obtain ⟨r43, hr44, h45⟩ := bind_some hj41
   refine DStep.call (l' := [true, true, true, true, false, false, false, false]) (zd := true) (by kernel_rfl) (by kernel_rfl) (by kernel_rfl) (dst := (some 17)) (ty := 112) (g := none) (by kernel_rfl) rfl (f0 := (.func 80)) (aos := #[(.tmp 16)]) (ats := #[25]) (fid := 80) (first := #[]) (cap := #[]) (args := [(.agg (kSystem x0 a0_0 n0_0 a0_1 n0_1))]) rfl co_ref03_spots (rfl) hw33 (c_ref03_spots N wd32 F2 hw33.pers (x0) a0_0 n0_0 hb0_0 (SlA.mono hs0_0 (le16.trans le25)) a0_1 n0_1 hb0_1 (SlA.mono hs0_1 (le16.trans le25)) _ hr44) ?_
   intro v46 F4 w47 hs48 le49 hp50
   obtain ⟨ar43_0_0, nr43_0_0, rfl, hbr43_0_0, hsr43_0_0⟩ := hp50
   refine DWP.one (i := 4) (by kernel_rfl) ?_
   obtain ⟨r51, hr52, h53⟩ := bind_some h45
   refine DStep.call (l' := [true, true, true, true, true, false, false, false]) (zd := true) (by kernel_rfl) (by kernel_rfl) (by kernel_rfl) (dst := (some 19)) (ty := 3) (g := none) (by kernel_rfl) rfl (f0 := (.func 81)) (aos := #[(.tmp 17), (.tmp 18)]) (ats := #[112, 27]) (fid := 81) (first := #[]) (cap := #[]) (args := [(.agg (kSpot r43 ar43_0_0 nr43_0_0)), (.agg (kRef x1))]) rfl co_ref03_spot_of (rfl) hs48 (c_ref03_spot_of N w47 F4 hs48.pers (r43) ar43_0_0 nr43_0_0 hbr43_0_0 hsr43_0_0 (x1) _ hr52) ?_
   intro v54 F5 w55 hs56 le57 hp58
   obtain rfl := hp58
   refine DWP.one (i := 5) (by kernel_rfl) ?_
   obtain ⟨r59, hr60, h61⟩ := bind_some h53
   refine DStep.call (l' := [true, true, true, true, true, true, false, false]) (zd := true) (by kernel_rfl) (by kernel_rfl) (by kernel_rfl) (dst := (some 20)) (ty := 38) (g := none) (by kernel_rfl) rfl (f0 := (.func 79)) (aos := #[(.tmp 15), (.const (vi 0)), (.tmp 19)]) (ats := #[25, 3, 3]) (fid := 79) (first := #[]) (cap := #[]) (args := [(.agg (kSystem x0 a0_0 n0_0 a0_1 n0_1)), (vi 0), (vi r51)]) rfl co_ref03_relation (rfl) hs56 (c_ref03_relation N w55 F5 hs56.pers (x0) a0_0 n0_0 hb0_0 (SlA.mono hs0_0 (((le16.trans le25).trans le49).trans le57)) a0_1 n0_1 hb0_1 (SlA.mono hs0_1 (((le16.trans le25).trans le49).trans le57)) (0) (r51) _ hr60) ?_
   intro v62 F6 w63 hs64 le65 hp66
   obtain rfl := hp66
   refine DWP.one (i := 6) (by kernel_rfl) ?_
   refine DStep.store (l' := [true, true, true, true, true, true, true, false]) (zd := true) (by kernel_rfl) (by kernel_rfl) (ty := 0) (g := none) (by kernel_rfl) rfl (x := (.tmp 4)) (y := (.tmp 20)) (t := 38) (gg := true) (s := 2) (v := (.agg (kSpan r59))) (b := b7) (o := 0) (C := #[(vi 0), (vi 0)]) rfl rfl (by kernel_rfl) hs64 (k := 0) rfl rfl rfl rfl (C' := (kSpan r59)) rfl ((le49.trans le57).trans le65) (by simp) (fun e => by cases e) (fun w67 (hs68 : HS w0 F0 w67 F6 [(sb b7 (kSpan r59) 38), (sb b4 (kRef x1) 27), (sb b1 (kSystem x0 a0_0 n0_0 a0_1 n0_1) 25)]) => ?_)
   refine Dt 7 5 30 _ (fun _ hq => mc (vi 0) (vi 0)) ?_
   obtain rfl := some_inj h61
   have hs69 : HS w0 F0 w67 F6 [(sb b7 (kSpan r59) 38), (sb b1 (kSystem x0 a0_0 n0_0 a0_1 n0_1) 25)] := hs68.drop 1
   have hs70 : HS w0 F0 w67 F6 [(sb b7 (kSpan r59) 38)] := hs69.drop 1
   exact DWP.done (by kernel_rfl) ⟨F6, hs70, ((le49.trans le57).trans le65), rfl, rfl, rfl⟩
  ·rintro f w34 ⟨F3, hs35, le36, e38, e39, e40⟩
   refine thenQ_nrm ?_
   refine CWP.ret (by kernel_rfl) ?_
   have hfin := some_inj h42
   subst hfin
   exact ⟨e38, (.tuple #[(.agg #[(vi j37.1), (vi j37.2)]), (vi 0)]), res_of (l := [.cell 4 38, .tmp 5]) (by kernel_rfl) (vs := [(.agg #[(vi j37.1), (vi j37.2)]), (vi 0)]) ⟨b7, 0, e39, run_loadVar' (t := 38) (g := true) (s := 2) (by kernel_rfl) (hs35.ownAt (k := 0) rfl) rfl (by decide), ⟨e40, trivial⟩⟩, (.tuple #[(.agg #[(vi j37.1), (vi j37.2)]), (vi 0)]), F3, rfl, hs35.clear, rfl⟩
end Go.Proofs.Ythbcnabeabcmlaa
namespace Go.Proofs.Ythbcnabeabcmlaa
open Go.Proofs
def clocks_Offset (N : Nat) (x0 : System) (x1 : Ref) : Option (Span × Int) :=
 ((clocks_Interval N x0 x1).bind fun r10 => (bif (r10.2 != 0) then some (({ Lo := 0, Hi := 0 } : Span), r10.2) else (((idx x0.Tracks x1.Log).bind fun x40 => ((idx x40.Times x1.Line).bind fun x54 => some x54)).bind fun j33 => some (({ Lo := (W64 (j33 - r10.1.Hi)), Hi := (W64 (j33 - r10.1.Lo)) } : Span), 0))))
theorem co_clocks_Offset : CallOk Try.prog 24 := fun _ _ => by kernel_rfl
set_option maxHeartbeats 4000000 in
set_option maxRecDepth 100000 in
theorem c_clocks_Offset (N : Nat) (w0 : World) (F0 : Mem) (hF : ∀ b o, F0 b = some o → w0.heap[b]? = some o) (x0 : System) (a0_0 : Option Addr) (n0_0 : Nat) (hb0_0 : LC x0.Tracks.length n0_0) (hs0_0 : SlA tTrack F0 a0_0 x0.Tracks) (a0_1 : Option Addr) (n0_1 : Nat) (hb0_1 : LC x0.Ties.length n0_1) (hs0_1 : SlA tTie F0 a0_1 x0.Ties) (x1 : Ref) (r : (Span × Int)) (h : clocks_Offset N x0 x1 = some r) :
  Calls Try.prog 24 ([(.agg (kSystem x0 a0_0 n0_0 a0_1 n0_1)), (.agg (kRef x1))] : List Value).toArray w0 (FRet w0 F0 fun F' v => v = (.tuple #[(.agg (kSpan r.1)), (vi r.2)])) := by
 have hs0 := HS.start hF
 refine calls_of (n := 39) (c := bodyOf Try.f24) Try.func24 (by kernel_rfl) (by kernel_rfl) (by kernel_rfl) ?_
 refine Sq (Rg [0, 1, 2, 3] ?_)
 refine Bx 2 0 0 25 (kSystem x0 a0_0 n0_0 a0_1 n0_1) hs0 (fun b1 w2 (hs3 : HS w0 F0 w2 F0 [(sb b1 (kSystem x0 a0_0 n0_0 a0_1 n0_1) 25)]) => ?_)
 refine Bx 3 0 1 27 (kRef x1) hs3 (fun b4 w5 (hs6 : HS w0 F0 w5 F0 [(sb b4 (kRef x1) 27), (sb b1 (kSystem x0 a0_0 n0_0 a0_1 n0_1) 25)]) => ?_)
 refine Al 4 0 38 #[(vi 0), (vi 0)] hs6 (fun b7 w8 (hs9 : HS w0 F0 w8 F0 [(sb b7 #[(vi 0), (vi 0)] 38), (sb b4 (kRef x1) 27), (sb b1 (kSystem x0 a0_0 n0_0 a0_1 n0_1) 25)]) => ?_)
 refine V 5 30 (mc (vi 0) (vi 0)) ?_
 refine Nss (Rg [0, 1, 2, 3, 4, 5, 6, 7, 8] ?_)
 refine V 10 25 (ld 25 2 b1 0 true 3 (.agg (kSystem x0 a0_0 n0_0 a0_1 n0_1)) (hs9.ownAt (k := 2) rfl)) ?_
 refine V 11 27 (ld 27 3 b4 0 true 2 (.agg (kRef x1)) (hs9.ownAt (k := 1) rfl)) ?_
 obtain ⟨r10, hr11, h12⟩ := bind_some h
 refine Cl 12 39 21 #[(.tmp 10), (.tmp 11)] #[25, 27] co_clocks_Interval hs9 (c_clocks_Interval N w8 F0 hs9.pers (x0) a0_0 n0_0 hb0_0 hs0_0 a0_1 n0_1 hb0_1 hs0_1 (x1) _ hr11) ?_
 intro v13 F1 w14 hs15 le16 hp17
 obtain rfl := hp17
 refine V 9 39 (mv 12 (.tuple #[(.agg (kSpan r10.1)), (vi r10.2)])) ?_
 refine V 13 38 (ex 9 0 (.agg (kSpan r10.1)) (vs := #[(.agg (kSpan r10.1)), (vi r10.2)])) ?_
 refine V 14 30 (ex 9 1 (vi r10.2) (vs := #[(.agg (kSpan r10.1)), (vi r10.2)])) ?_
 refine Al 6 0 38 #[(vi 0), (vi 0)] hs15 (fun b18 w19 (hs20 : HS w0 F0 w19 F1 [(sb b18 #[(vi 0), (vi 0)] 38), (sb b7 #[(vi 0), (vi 0)] 38), (sb b4 (kRef x1) 27), (sb b1 (kSystem x0 a0_0 n0_0 a0_1 n0_1) 25)]) => ?_)
 refine RWP.store (ty := 0) (g := none) (by kernel_rfl) rfl (x := (.tmp 6)) (y := (.tmp 13)) (t := 38) (gg := true) (s := 2) (v := (.agg (kSpan r10.1))) (b := b18) (o := 0) (C := #[(vi 0), (vi 0)]) rfl rfl (by kernel_rfl) hs20 (k := 0) rfl rfl rfl rfl (C' := (kSpan r10.1)) rfl (fun w21 (hs22 : HS w0 F0 w21 F1 [(sb b18 (kSpan r10.1) 38), (sb b7 #[(vi 0), (vi 0)] 38), (sb b4 (kRef x1) 27), (sb b1 (kSystem x0 a0_0 n0_0 a0_1 n0_1) 25)]) => ?_)
 refine V 7 30 (ma 14 (vi r10.2)) ?_
 refine Nss ?_
 refine Sq (Rg [0, 1] ?_)
 refine V 15 30 (mv 7 (vi r10.2)) ?_
 refine V 16 4 (run_neq (t := 30) (t' := 30) (x := (.tmp 15)) (y := (.const (vi 0))) (k := .i64) (a := r10.2) (b := 0) rfl rfl) ?_
 refine Nt ?_
 refine CWP.cond (t := (r10.2 != 0)) (by kernel_rfl) rfl (fun hb23 => ?_) (fun hb23 => ?_)
 ·have h24 := cond_t h12 hb23
  refine Sq (Rg [0, 1, 2, 3] ?_)
  refine V 17 38 (run_build2 (t := 38) (parts := #[]) (vs := []) (rfl) (cs := [(vi 0), (vi 0)]) (by kernel_rfl)) ?_
  refine V 18 30 (mv 7 (vi r10.2)) ?_
  refine RWP.store (ty := 0) (g := none) (by kernel_rfl) rfl (x := (.tmp 4)) (y := (.tmp 17)) (t := 38) (gg := true) (s := 2) (v := (.agg #[(vi 0), (vi 0)])) (b := b7) (o := 0) (C := #[(vi 0), (vi 0)]) rfl rfl (by kernel_rfl) hs22 (k := 1) rfl rfl rfl rfl (C' := #[(vi 0), (vi 0)]) rfl (fun w25 (hs26 : HS w0 F0 w25 F1 [(sb b18 (kSpan r10.1) 38), (sb b7 #[(vi 0), (vi 0)] 38), (sb b4 (kRef x1) 27), (sb b1 (kSystem x0 a0_0 n0_0 a0_1 n0_1) 25)]) => ?_)
  refine V 5 30 (ma 18 (vi r10.2)) ?_
  refine Nt ?_
  refine CWP.ret (by kernel_rfl) ?_
  refine thenQ_ret ?_
  have hfin := some_inj h24
  subst hfin
  exact ⟨rfl, (.tuple #[(.agg #[(vi 0), (vi 0)]), (vi r10.2)]), res_of (l := [.cell 4 38, .tmp 5]) (by kernel_rfl) (vs := [(.agg #[(vi 0), (vi 0)]), (vi r10.2)]) ⟨b7, 0, rfl, run_loadVar' (t := 38) (g := true) (s := 2) (by kernel_rfl) (hs26.ownAt (k := 1) rfl) rfl (by decide), ⟨rfl, trivial⟩⟩, (.tuple #[(.agg #[(vi 0), (vi 0)]), (vi r10.2)]), F1, rfl, hs26.clear, rfl⟩
 ·have h27 := cond_f h12 hb23
  refine Sc ?_
  refine thenQ_nrm ?_
  refine Sq ?_
  obtain ⟨j33, hj38, h39⟩ := bind_some h27
  refine CWP.regionD (by kernel_rfl) (by kernel_rfl) (by kernel_rfl) (by kernel_rfl) (z := 12) (F := F1) (Lc := [(sb b18 (kSpan r10.1) 38), (sb b7 #[(vi 0), (vi 0)] 38), (sb b4 (kRef x1) 27), (sb b1 (kSystem x0 a0_0 n0_0 a0_1 n0_1) 25)]) (Lz := []) (l := [false, false, false, false, false, false, false, false, false, false, false, false]) (fuel := 12) (by kernel_rfl) (by kernel_rfl) hs22 (by simp) (by simp) (fun f w => ∃ (F2 : Mem), HS w0 F0 w F2 [(sb b18 (kSpan r10.1) 38), (sb b7 #[(vi 0), (vi 0)] 38)] ∧ Mem.le F1 F2 ∧ f.d = [] ∧ f 4 = (.pointer (some ⟨b7, 0, none⟩)) ∧ f 6 = (.pointer (some ⟨b18, 0, none⟩)) ∧ f 8 = (vi j33)) (fun wd28 hw29 => ?_) ?_
  ·refine Dt 0 19 0 (.pointer (some ⟨b1, 0, none⟩)) (fun _ hq => fa 25 2 0 0 1 b1 0 0) ?_
   refine Dt 1 20 22 _ (fun _ hq => ld 22 19 b1 0 false 1 (.slice a0_0 x0.Tracks.length n0_0) (hq.1.2 3 _ _ rfl)) ?_
   refine Dt 2 21 0 (.pointer (some ⟨b4, 0, none⟩)) (fun _ hq => fa 27 3 0 0 1 b4 0 0) ?_
   refine Dt 3 22 3 _ (fun _ hq => ld 3 21 b4 0 false 1 (vi x1.Log) (hq.1.2 2 _ _ rfl)) ?_
   obtain ⟨x40, hx41, h43⟩ := bind_some hj38
   obtain ⟨hi42, hx41'⟩ := idx_spec hx41
   obtain ⟨b44, o45, C46, E47, fz48, rfl, hF50, hE51⟩ := SlA.open (SlA.mono hs0_0 le16) hx41'
   obtain ⟨ae52_2, ne52_2, ae52_3, ne52_3, hc53, hbe52_2, hse52_2, hbe52_3, hse52_3⟩ := hE51 _ _ hx41'
   refine Dt 4 23 0 (.pointer (some ⟨b44, (o45 + (x1.Log : Int).toNat * 4), none⟩)) (fun _ hq => ix 22 20 22 b44 o45 54 4 64 hi42) ?_
   refine Dt 5 24 0 (.pointer (some ⟨b44, ((o45 + (x1.Log : Int).toNat * 4) + 3), none⟩)) (fun _ hq => fa 54 23 1 3 1 b44 (o45 + (x1.Log : Int).toNat * 4) ((o45 + (x1.Log : Int).toNat * 4) + 3)) ?_
   refine Dt 6 25 50 _ (fun _ hq => lx 50 24 3 4 false 1 (.slice ae52_3 x40.Times.length ne52_3) (hq.1.1 _ _ hF50) hc53) ?_
   refine Dt 7 26 0 (.pointer (some ⟨b4, 1, none⟩)) (fun _ hq => fa 27 3 1 1 1 b4 0 1) ?_
   refine Dt 8 27 3 _ (fun _ hq => ld 3 26 b4 1 false 1 (vi x1.Line) (hq.1.2 2 _ _ rfl)) ?_
   obtain ⟨x54, hx55, h57⟩ := bind_some h43
   obtain ⟨hi56, hx55'⟩ := idx_spec hx55
   obtain ⟨b58, o59, C60, E61, fz62, rfl, hF64, hE65⟩ := SlA.open hse52_3 hx55'
   have hc67 := hE65 _ _ hx55'
   refine Dt 9 28 0 (.pointer (some ⟨b58, (o59 + (x1.Line : Int).toNat * 1), none⟩)) (fun _ hq => ix 50 25 27 b58 o59 3 1 8 hi56) ?_
   refine Dt 10 29 3 _ (fun _ hq => lx 3 28 0 1 false 1 (vi x54) (hq.1.1 _ _ hF64) hc67) ?_
   refine Dt 11 8 3 _ (fun _ hq => ma 29 (vi x54)) ?_
   obtain rfl := some_inj h57
   have hs68 : HS w0 F0 wd28 F1 [(sb b18 (kSpan r10.1) 38), (sb b7 #[(vi 0), (vi 0)] 38), (sb b1 (kSystem x0 (some ⟨b44, o45, none⟩) n0_0 a0_1 n0_1) 25)] := hw29.drop 2
   have hs69 : HS w0 F0 wd28 F1 [(sb b18 (kSpan r10.1) 38), (sb b7 #[(vi 0), (vi 0)] 38)] := hs68.drop 2
   exact DWP.done (by kernel_rfl) ⟨F1, hs69, (Mem.le.refl _), rfl, rfl, rfl, rfl⟩
  ·rintro f w30 ⟨F2, hs31, le32, e34, e35, e36, e37⟩
   refine thenQ_nrm ?_
   refine Sq (Rg [0, 1, 2, 3, 4, 5, 6, 7, 8, 9, 10] ?_)
   refine V 30 3 (mv 8 (vi j33) e37) ?_
   refine V 31 0 (fa 38 6 1 1 1 b18 0 1 e36) ?_
   refine V 32 3 (ld 3 31 b18 1 false 1 (vi r10.1.Hi) (hs31.ownAt (k := 0) rfl)) ?_
   refine V 33 3 (run_sub (t := 3) (t' := 3) (x := (.tmp 30)) (y := (.tmp 32)) (k := .i64) (a := j33) (b := r10.1.Hi) rfl rfl) ?_
   refine V 34 3 (mv 8 (vi j33) e37) ?_
   refine V 35 0 (fa 38 6 0 0 1 b18 0 0 e36) ?_
   refine V 36 3 (ld 3 35 b18 0 false 1 (vi r10.1.Lo) (hs31.ownAt (k := 0) rfl)) ?_
   refine V 37 3 (run_sub (t := 3) (t' := 3) (x := (.tmp 34)) (y := (.tmp 36)) (k := .i64) (a := j33) (b := r10.1.Lo) rfl rfl) ?_
   refine V 38 38 (run_build2 (t := 38) (parts := #[(0, (.tmp 33)), (1, (.tmp 37))]) (vs := [(0, (vi (W64 (j33 - r10.1.Hi)))), (1, (vi (W64 (j33 - r10.1.Lo))))]) (rfl) (cs := [(vi (W64 (j33 - r10.1.Hi))), (vi (W64 (j33 - r10.1.Lo)))]) (by kernel_rfl)) ?_
   refine RWP.store (ty := 0) (g := none) (by kernel_rfl) rfl (x := (.tmp 4)) (y := (.tmp 38)) (t := 38) (gg := true) (s := 2) (v := (.agg #[(vi (W64 (j33 - r10.1.Hi))), (vi (W64 (j33 - r10.1.Lo)))])) (b := b7) (o := 0) (C := #[(vi 0), (vi 0)]) e35 rfl (by kernel_rfl) hs31 (k := 1) rfl rfl rfl rfl (C' := #[(vi (W64 (j33 - r10.1.Hi))), (vi (W64 (j33 - r10.1.Lo)))]) rfl (fun w70 (hs71 : HS w0 F0 w70 F2 [(sb b18 (kSpan r10.1) 38), (sb b7 #[(vi (W64 (j33 - r10.1.Hi))), (vi (W64 (j33 - r10.1.Lo)))] 38)]) => ?_)
   refine V 5 30 (mc (vi 0) (vi 0)) ?_
   refine Nt ?_
   refine CWP.ret (by kernel_rfl) ?_
   have hfin := some_inj h39
   subst hfin
   exact ⟨e34, (.tuple #[(.agg #[(vi (W64 (j33 - r10.1.Hi))), (vi (W64 (j33 - r10.1.Lo)))]), (vi 0)]), res_of (l := [.cell 4 38, .tmp 5]) (by kernel_rfl) (vs := [(.agg #[(vi (W64 (j33 - r10.1.Hi))), (vi (W64 (j33 - r10.1.Lo)))]), (vi 0)]) ⟨b7, 0, e35, run_loadVar' (t := 38) (g := true) (s := 2) (by kernel_rfl) (hs71.ownAt (k := 1) rfl) rfl (by decide), ⟨rfl, trivial⟩⟩, (.tuple #[(.agg #[(vi (W64 (j33 - r10.1.Hi))), (vi (W64 (j33 - r10.1.Lo)))]), (vi 0)]), F2, rfl, hs71.clear, rfl⟩
end Go.Proofs.Ythbcnabeabcmlaa
namespace Go.Proofs.Ythbcnabeabcmlaa
open Go.Proofs
def ref03_Offset (N : Nat) (x0 : System) (x1 : Ref) : Option (Span × Int) :=
 ((ref03_Interval N x0 x1).bind fun r10 => (bif (r10.2 != 0) then some (({ Lo := 0, Hi := 0 } : Span), r10.2) else (((idx x0.Tracks x1.Log).bind fun x40 => ((idx x40.Times x1.Line).bind fun x54 => some x54)).bind fun j33 => some (({ Lo := (W64 (j33 - r10.1.Hi)), Hi := (W64 (j33 - r10.1.Lo)) } : Span), 0))))
theorem co_ref03_Offset : CallOk Try.prog 25 := fun _ _ => by kernel_rfl
set_option maxHeartbeats 4000000 in
set_option maxRecDepth 100000 in
theorem c_ref03_Offset (N : Nat) (w0 : World) (F0 : Mem) (hF : ∀ b o, F0 b = some o → w0.heap[b]? = some o) (x0 : System) (a0_0 : Option Addr) (n0_0 : Nat) (hb0_0 : LC x0.Tracks.length n0_0) (hs0_0 : SlA tTrack F0 a0_0 x0.Tracks) (a0_1 : Option Addr) (n0_1 : Nat) (hb0_1 : LC x0.Ties.length n0_1) (hs0_1 : SlA tTie F0 a0_1 x0.Ties) (x1 : Ref) (r : (Span × Int)) (h : ref03_Offset N x0 x1 = some r) :
  Calls Try.prog 25 ([(.agg (kSystem x0 a0_0 n0_0 a0_1 n0_1)), (.agg (kRef x1))] : List Value).toArray w0 (FRet w0 F0 fun F' v => v = (.tuple #[(.agg (kSpan r.1)), (vi r.2)])) := by
 have hs0 := HS.start hF
 refine calls_of (n := 39) (c := bodyOf Try.f25) Try.func25 (by kernel_rfl) (by kernel_rfl) (by kernel_rfl) ?_
 refine Sq (Rg [0, 1, 2, 3] ?_)
 refine Bx 2 0 0 25 (kSystem x0 a0_0 n0_0 a0_1 n0_1) hs0 (fun b1 w2 (hs3 : HS w0 F0 w2 F0 [(sb b1 (kSystem x0 a0_0 n0_0 a0_1 n0_1) 25)]) => ?_)
 refine Bx 3 0 1 27 (kRef x1) hs3 (fun b4 w5 (hs6 : HS w0 F0 w5 F0 [(sb b4 (kRef x1) 27), (sb b1 (kSystem x0 a0_0 n0_0 a0_1 n0_1) 25)]) => ?_)
 refine Al 4 0 38 #[(vi 0), (vi 0)] hs6 (fun b7 w8 (hs9 : HS w0 F0 w8 F0 [(sb b7 #[(vi 0), (vi 0)] 38), (sb b4 (kRef x1) 27), (sb b1 (kSystem x0 a0_0 n0_0 a0_1 n0_1) 25)]) => ?_)
 refine V 5 30 (mc (vi 0) (vi 0)) ?_
 refine Nss (Rg [0, 1, 2, 3, 4, 5, 6, 7, 8] ?_)
 refine V 10 25 (ld 25 2 b1 0 true 3 (.agg (kSystem x0 a0_0 n0_0 a0_1 n0_1)) (hs9.ownAt (k := 2) rfl)) ?_
 refine V 11 27 (ld 27 3 b4 0 true 2 (.agg (kRef x1)) (hs9.ownAt (k := 1) rfl)) ?_
 obtain ⟨r10, hr11, h12⟩ := bind_some h
 refine Cl 12 39 23 #[(.tmp 10), (.tmp 11)] #[25, 27] co_ref03_Interval hs9 (c_ref03_Interval N w8 F0 hs9.pers (x0) a0_0 n0_0 hb0_0 hs0_0 a0_1 n0_1 hb0_1 hs0_1 (x1) _ hr11) ?_
 intro v13 F1 w14 hs15 le16 hp17
 obtain rfl := hp17
 refine V 9 39 (mv 12 (.tuple #[(.agg (kSpan r10.1)), (vi r10.2)])) ?_
 refine V 13 38 (ex 9 0 (.agg (kSpan r10.1)) (vs := #[(.agg (kSpan r10.1)), (vi r10.2)])) ?_
 refine V 14 30 (ex 9 1 (vi r10.2) (vs := #[(.agg (kSpan r10.1)), (vi r10.2)])) ?_
 refine Al 6 0 38 #[(vi 0), (vi 0)] hs15 (fun b18 w19 (hs20 : HS w0 F0 w19 F1 [(sb b18 #[(vi 0), (vi 0)] 38), (sb b7 #[(vi 0), (vi 0)] 38), (sb b4 (kRef x1) 27), (sb b1 (kSystem x0 a0_0 n0_0 a0_1 n0_1) 25)]) => ?_)
 refine RWP.store (ty := 0) (g := none) (by kernel_rfl) rfl (x := (.tmp 6)) (y := (.tmp 13)) (t := 38) (gg := true) (s := 2) (v := (.agg (kSpan r10.1))) (b := b18) (o := 0) (C := #[(vi 0), (vi 0)]) rfl rfl (by kernel_rfl) hs20 (k := 0) rfl rfl rfl rfl (C' := (kSpan r10.1)) rfl (fun w21 (hs22 : HS w0 F0 w21 F1 [(sb b18 (kSpan r10.1) 38), (sb b7 #[(vi 0), (vi 0)] 38), (sb b4 (kRef x1) 27), (sb b1 (kSystem x0 a0_0 n0_0 a0_1 n0_1) 25)]) => ?_)
 refine V 7 30 (ma 14 (vi r10.2)) ?_
 refine Nss ?_
 refine Sq (Rg [0, 1] ?_)
 refine V 15 30 (mv 7 (vi r10.2)) ?_
 refine V 16 4 (run_neq (t := 30) (t' := 30) (x := (.tmp 15)) (y := (.const (vi 0))) (k := .i64) (a := r10.2) (b := 0) rfl rfl) ?_
 refine Nt ?_
 refine CWP.cond (t := (r10.2 != 0)) (by kernel_rfl) rfl (fun hb23 => ?_) (fun hb23 => ?_)
 ·have h24 := cond_t h12 hb23
  refine Sq (Rg [0, 1, 2, 3] ?_)
  refine V 17 38 (run_build2 (t := 38) (parts := #[]) (vs := []) (rfl) (cs := [(vi 0), (vi 0)]) (by kernel_rfl)) ?_
  refine V 18 30 (mv 7 (vi r10.2)) ?_
  refine RWP.store (ty := 0) (g := none) (by kernel_rfl) rfl (x := (.tmp 4)) (y := (.tmp 17)) (t := 38) (gg := true) (s := 2) (v := (.agg #[(vi 0), (vi 0)])) (b := b7) (o := 0) (C := #[(vi 0), (vi 0)]) rfl rfl (by kernel_rfl) hs22 (k := 1) rfl rfl rfl rfl (C' := #[(vi 0), (vi 0)]) rfl (fun w25 (hs26 : HS w0 F0 w25 F1 [(sb b18 (kSpan r10.1) 38), (sb b7 #[(vi 0), (vi 0)] 38), (sb b4 (kRef x1) 27), (sb b1 (kSystem x0 a0_0 n0_0 a0_1 n0_1) 25)]) => ?_)
  refine V 5 30 (ma 18 (vi r10.2)) ?_
  refine Nt ?_
  refine CWP.ret (by kernel_rfl) ?_
  refine thenQ_ret ?_
  have hfin := some_inj h24
  subst hfin
  exact ⟨rfl, (.tuple #[(.agg #[(vi 0), (vi 0)]), (vi r10.2)]), res_of (l := [.cell 4 38, .tmp 5]) (by kernel_rfl) (vs := [(.agg #[(vi 0), (vi 0)]), (vi r10.2)]) ⟨b7, 0, rfl, run_loadVar' (t := 38) (g := true) (s := 2) (by kernel_rfl) (hs26.ownAt (k := 1) rfl) rfl (by decide), ⟨rfl, trivial⟩⟩, (.tuple #[(.agg #[(vi 0), (vi 0)]), (vi r10.2)]), F1, rfl, hs26.clear, rfl⟩
 ·have h27 := cond_f h12 hb23
  refine Sc ?_
  refine thenQ_nrm ?_
  refine Sq ?_
  obtain ⟨j33, hj38, h39⟩ := bind_some h27
  refine CWP.regionD (by kernel_rfl) (by kernel_rfl) (by kernel_rfl) (by kernel_rfl) (z := 12) (F := F1) (Lc := [(sb b18 (kSpan r10.1) 38), (sb b7 #[(vi 0), (vi 0)] 38), (sb b4 (kRef x1) 27), (sb b1 (kSystem x0 a0_0 n0_0 a0_1 n0_1) 25)]) (Lz := []) (l := [false, false, false, false, false, false, false, false, false, false, false, false]) (fuel := 12) (by kernel_rfl) (by kernel_rfl) hs22 (by simp) (by simp) (fun f w => ∃ (F2 : Mem), HS w0 F0 w F2 [(sb b18 (kSpan r10.1) 38), (sb b7 #[(vi 0), (vi 0)] 38)] ∧ Mem.le F1 F2 ∧ f.d = [] ∧ f 4 = (.pointer (some ⟨b7, 0, none⟩)) ∧ f 6 = (.pointer (some ⟨b18, 0, none⟩)) ∧ f 8 = (vi j33)) (fun wd28 hw29 => ?_) ?_
  ·refine Dt 0 19 0 (.pointer (some ⟨b1, 0, none⟩)) (fun _ hq => fa 25 2 0 0 1 b1 0 0) ?_
   refine Dt 1 20 22 _ (fun _ hq => ld 22 19 b1 0 false 1 (.slice a0_0 x0.Tracks.length n0_0) (hq.1.2 3 _ _ rfl)) ?_
   refine Dt 2 21 0 (.pointer (some ⟨b4, 0, none⟩)) (fun _ hq => fa 27 3 0 0 1 b4 0 0) ?_
   refine Dt 3 22 3 _ (fun _ hq => ld 3 21 b4 0 false 1 (vi x1.Log) (hq.1.2 2 _ _ rfl)) ?_
   obtain ⟨x40, hx41, h43⟩ := bind_some hj38
   obtain ⟨hi42, hx41'⟩ := idx_spec hx41
   obtain ⟨b44, o45, C46, E47, fz48, rfl, hF50, hE51⟩ := SlA.open (SlA.mono hs0_0 le16) hx41'
   obtain ⟨ae52_2, ne52_2, ae52_3, ne52_3, hc53, hbe52_2, hse52_2, hbe52_3, hse52_3⟩ := hE51 _ _ hx41'
   refine Dt 4 23 0 (.pointer (some ⟨b44, (o45 + (x1.Log : Int).toNat * 4), none⟩)) (fun _ hq => ix 22 20 22 b44 o45 54 4 64 hi42) ?_
   refine Dt 5 24 0 (.pointer (some ⟨b44, ((o45 + (x1.Log : Int).toNat * 4) + 3), none⟩)) (fun _ hq => fa 54 23 1 3 1 b44 (o45 + (x1.Log : Int).toNat * 4) ((o45 + (x1.Log : Int).toNat * 4) + 3)) ?_
   refine Dt 6 25 50 _ (fun _ hq => lx 50 24 3 4 false 1 (.slice ae52_3 x40.Times.length ne52_3) (hq.1.1 _ _ hF50) hc53) ?_
   refine Dt 7 26 0 (.pointer (some ⟨b4, 1, none⟩)) (fun _ hq => fa 27 3 1 1 1 b4 0 1) ?_
   refine Dt 8 27 3 _ (fun _ hq => ld 3 26 b4 1 false 1 (vi x1.Line) (hq.1.2 2 _ _ rfl)) ?_
   obtain ⟨x54, hx55, h57⟩ := bind_some h43
   obtain ⟨hi56, hx55'⟩ := idx_spec hx55
   obtain ⟨b58, o59, C60, E61, fz62, rfl, hF64, hE65⟩ := SlA.open hse52_3 hx55'
   have hc67 := hE65 _ _ hx55'
   refine Dt 9 28 0 (.pointer (some ⟨b58, (o59 + (x1.Line : Int).toNat * 1), none⟩)) (fun _ hq => ix 50 25 27 b58 o59 3 1 8 hi56) ?_
   refine Dt 10 29 3 _ (fun _ hq => lx 3 28 0 1 false 1 (vi x54) (hq.1.1 _ _ hF64) hc67) ?_
   refine Dt 11 8 3 _ (fun _ hq => ma 29 (vi x54)) ?_
   obtain rfl := some_inj h57
   have hs68 : HS w0 F0 wd28 F1 [(sb b18 (kSpan r10.1) 38), (sb b7 #[(vi 0), (vi 0)] 38), (sb b1 (kSystem x0 (some ⟨b44, o45, none⟩) n0_0 a0_1 n0_1) 25)] := hw29.drop 2
   have hs69 : HS w0 F0 wd28 F1 [(sb b18 (kSpan r10.1) 38), (sb b7 #[(vi 0), (vi 0)] 38)] := hs68.drop 2
   exact DWP.done (by kernel_rfl) ⟨F1, hs69, (Mem.le.refl _), rfl, rfl, rfl, rfl⟩
  ·rintro f w30 ⟨F2, hs31, le32, e34, e35, e36, e37⟩
   refine thenQ_nrm ?_
   refine Sq (Rg [0, 1, 2, 3, 4, 5, 6, 7, 8, 9, 10] ?_)
   refine V 30 3 (mv 8 (vi j33) e37) ?_
   refine V 31 0 (fa 38 6 1 1 1 b18 0 1 e36) ?_
   refine V 32 3 (ld 3 31 b18 1 false 1 (vi r10.1.Hi) (hs31.ownAt (k := 0) rfl)) ?_
   refine V 33 3 (run_sub (t := 3) (t' := 3) (x := (.tmp 30)) (y := (.tmp 32)) (k := .i64) (a := j33) (b := r10.1.Hi) rfl rfl) ?_
   refine V 34 3 (mv 8 (vi j33) e37) ?_
   refine V 35 0 (fa 38 6 0 0 1 b18 0 0 e36) ?_
   refine V 36 3 (ld 3 35 b18 0 false 1 (vi r10.1.Lo) (hs31.ownAt (k := 0) rfl)) ?_
   refine V 37 3 (run_sub (t := 3) (t' := 3) (x := (.tmp 34)) (y := (.tmp 36)) (k := .i64) (a := j33) (b := r10.1.Lo) rfl rfl) ?_
   refine V 38 38 (run_build2 (t := 38) (parts := #[(0, (.tmp 33)), (1, (.tmp 37))]) (vs := [(0, (vi (W64 (j33 - r10.1.Hi)))), (1, (vi (W64 (j33 - r10.1.Lo))))]) (rfl) (cs := [(vi (W64 (j33 - r10.1.Hi))), (vi (W64 (j33 - r10.1.Lo)))]) (by kernel_rfl)) ?_
   refine RWP.store (ty := 0) (g := none) (by kernel_rfl) rfl (x := (.tmp 4)) (y := (.tmp 38)) (t := 38) (gg := true) (s := 2) (v := (.agg #[(vi (W64 (j33 - r10.1.Hi))), (vi (W64 (j33 - r10.1.Lo)))])) (b := b7) (o := 0) (C := #[(vi 0), (vi 0)]) e35 rfl (by kernel_rfl) hs31 (k := 1) rfl rfl rfl rfl (C' := #[(vi (W64 (j33 - r10.1.Hi))), (vi (W64 (j33 - r10.1.Lo)))]) rfl (fun w70 (hs71 : HS w0 F0 w70 F2 [(sb b18 (kSpan r10.1) 38), (sb b7 #[(vi (W64 (j33 - r10.1.Hi))), (vi (W64 (j33 - r10.1.Lo)))] 38)]) => ?_)
   refine V 5 30 (mc (vi 0) (vi 0)) ?_
   refine Nt ?_
   refine CWP.ret (by kernel_rfl) ?_
   have hfin := some_inj h39
   subst hfin
   exact ⟨e34, (.tuple #[(.agg #[(vi (W64 (j33 - r10.1.Hi))), (vi (W64 (j33 - r10.1.Lo)))]), (vi 0)]), res_of (l := [.cell 4 38, .tmp 5]) (by kernel_rfl) (vs := [(.agg #[(vi (W64 (j33 - r10.1.Hi))), (vi (W64 (j33 - r10.1.Lo)))]), (vi 0)]) ⟨b7, 0, e35, run_loadVar' (t := 38) (g := true) (s := 2) (by kernel_rfl) (hs71.ownAt (k := 1) rfl) rfl (by decide), ⟨rfl, trivial⟩⟩, (.tuple #[(.agg #[(vi (W64 (j33 - r10.1.Hi))), (vi (W64 (j33 - r10.1.Lo)))]), (vi 0)]), F2, rfl, hs71.clear, rfl⟩
end Go.Proofs.Ythbcnabeabcmlaa
namespace Go.Proofs.Ythbcnabeabcmlaa
open Go.Proofs
def ref03_Relation (N : Nat) (x0 : System) (x1 : Ref) (x2 : Ref) : Option (Span × Int) :=
 ((ref03_asked N x0 ([x1, x2])).bind fun r22 => (bif (r22 != 0) then some (({ Lo := 0, Hi := 0 } : Span), r22) else ((ref03_spots N x0).bind fun r35 => (((ref03_spot_of N r35 x1).bind fun r59 => ((ref03_spot_of N r35 x2).bind fun r67 => ((ref03_relation N x0 r59 r67).bind fun r75 => some (r75.Lo, r75.Hi)))).bind fun j53 => some (({ Lo := j53.1, Hi := j53.2 } : Span), 0)))))
theorem co_ref03_Relation : CallOk Try.prog 26 := fun _ _ => by kernel_rfl
set_option maxHeartbeats 4000000 in
set_option maxRecDepth 100000 in
theorem c_ref03_Relation (N : Nat) (w0 : World) (F0 : Mem) (hF : ∀ b o, F0 b = some o → w0.heap[b]? = some o) (x0 : System) (a0_0 : Option Addr) (n0_0 : Nat) (hb0_0 : LC x0.Tracks.length n0_0) (hs0_0 : SlA tTrack F0 a0_0 x0.Tracks) (a0_1 : Option Addr) (n0_1 : Nat) (hb0_1 : LC x0.Ties.length n0_1) (hs0_1 : SlA tTie F0 a0_1 x0.Ties) (x1 : Ref) (x2 : Ref) (r : (Span × Int)) (h : ref03_Relation N x0 x1 x2 = some r) :
  Calls Try.prog 26 ([(.agg (kSystem x0 a0_0 n0_0 a0_1 n0_1)), (.agg (kRef x1)), (.agg (kRef x2))] : List Value).toArray w0 (FRet w0 F0 fun F' v => v = (.tuple #[(.agg (kSpan r.1)), (vi r.2)])) := by
 have hs0 := HS.start hF
 refine calls_of (n := 29) (c := bodyOf Try.f26) Try.func26 (by kernel_rfl) (by kernel_rfl) (by kernel_rfl) ?_
 refine Sq (Rg [0, 1, 2, 3, 4] ?_)
 refine Bx 3 0 0 25 (kSystem x0 a0_0 n0_0 a0_1 n0_1) hs0 (fun b1 w2 (hs3 : HS w0 F0 w2 F0 [(sb b1 (kSystem x0 a0_0 n0_0 a0_1 n0_1) 25)]) => ?_)
 refine Bx 4 0 1 27 (kRef x1) hs3 (fun b4 w5 (hs6 : HS w0 F0 w5 F0 [(sb b4 (kRef x1) 27), (sb b1 (kSystem x0 a0_0 n0_0 a0_1 n0_1) 25)]) => ?_)
 refine Bx 5 0 2 27 (kRef x2) hs6 (fun b7 w8 (hs9 : HS w0 F0 w8 F0 [(sb b7 (kRef x2) 27), (sb b4 (kRef x1) 27), (sb b1 (kSystem x0 a0_0 n0_0 a0_1 n0_1) 25)]) => ?_)
 refine Al 6 0 38 #[(vi 0), (vi 0)] hs9 (fun b10 w11 (hs12 : HS w0 F0 w11 F0 [(sb b10 #[(vi 0), (vi 0)] 38), (sb b7 (kRef x2) 27), (sb b4 (kRef x1) 27), (sb b1 (kSystem x0 a0_0 n0_0 a0_1 n0_1) 25)]) => ?_)
 refine V 7 30 (mc (vi 0) (vi 0)) ?_
 refine Nss (Rg [0, 1, 2, 3, 4, 5] ?_)
 refine V 10 25 (ld 25 3 b1 0 true 3 (.agg (kSystem x0 a0_0 n0_0 a0_1 n0_1)) (hs12.ownAt (k := 3) rfl)) ?_
 refine V 11 27 (ld 27 4 b4 0 true 2 (.agg (kRef x1)) (hs12.ownAt (k := 2) rfl)) ?_
 refine V 12 27 (ld 27 5 b7 0 true 2 (.agg (kRef x2)) (hs12.ownAt (k := 1) rfl)) ?_
 refine RWP.buildSlice (dst := (some 13)) (ty := 109) (g := none) (by kernel_rfl) rfl (t := 109) (len := 2) (parts := #[(0, (.tmp 11)), (1, (.tmp 12))]) (vs := [(0, (.agg (kRef x1))), (1, (.agg (kRef x2)))]) (rfl) (E := 27) (cs := [(vi x1.Log), (vi x1.Line), (vi x2.Log), (vi x2.Line)]) (by kernel_rfl) hs12 (fun b13 w14 (hs15 : HS w0 F0 w14 F0 [(some b13, .cells ([(vi x1.Log), (vi x1.Line), (vi x2.Log), (vi x2.Line)] : List Value).toArray 27 (0, 0)), (sb b10 #[(vi 0), (vi 0)] 38), (sb b7 (kRef x2) 27), (sb b4 (kRef x1) 27), (sb b1 (kSystem x0 a0_0 n0_0 a0_1 n0_1) 25)]) => ?_)
 have hr17 : RowR tRef 27 F0 (some ⟨b13, 0, none⟩) 2 [x1, x2] (some b13, .cells ([(vi x1.Log), (vi x1.Line), (vi x2.Log), (vi x2.Line)] : List Value).toArray 27 (0, 0)) := RowR.lit ⟨rfl, ⟨rfl, rfl⟩⟩ (by simp)
 have hb21 := RowR.bound hr17
 obtain ⟨F1, hs18, le19, hs20⟩ : ∃ Fq, HS w0 F0 w14 Fq [(sb b10 #[(vi 0), (vi 0)] 38), (sb b7 (kRef x2) 27), (sb b4 (kRef x1) 27), (sb b1 (kSystem x0 a0_0 n0_0 a0_1 n0_1) 25)] ∧ Mem.le F0 Fq ∧ SlA tRef Fq (some ⟨b13, 0, none⟩) [x1, x2] := HS.freezeRow hs15 (k := 0) rfl hr17
 obtain ⟨r22, hr23, h24⟩ := bind_some h
 refine Cl 14 30 78 #[(.tmp 10), (.tmp 13)] #[25, 109] co_ref03_asked hs18 (c_ref03_asked N w14 F1 hs18.pers (x0) a0_0 n0_0 hb0_0 (SlA.mono hs0_0 le19) a0_1 n0_1 hb0_1 (SlA.mono hs0_1 le19) ([x1, x2]) (some ⟨b13, 0, none⟩) 2 hb21 hs20 _ hr23) ?_
 intro v25 F2 w26 hs27 le28 hp29
 obtain rfl := hp29
 refine V 8 30 (ma 14 (vi r22)) ?_
 refine Nss ?_
 refine Sq (Rg [0, 1] ?_)
 refine V 15 30 (mv 8 (vi r22)) ?_
 refine V 16 4 (run_neq (t := 30) (t' := 30) (x := (.tmp 15)) (y := (.const (vi 0))) (k := .i64) (a := r22) (b := 0) rfl rfl) ?_
 refine Nt ?_
 refine CWP.cond (t := (r22 != 0)) (by kernel_rfl) rfl (fun hb30 => ?_) (fun hb30 => ?_)
 ·have h31 := cond_t h24 hb30
  refine Sq (Rg [0, 1, 2, 3] ?_)
  refine V 17 38 (run_build2 (t := 38) (parts := #[]) (vs := []) (rfl) (cs := [(vi 0), (vi 0)]) (by kernel_rfl)) ?_
  refine V 18 30 (mv 8 (vi r22)) ?_
  refine RWP.store (ty := 0) (g := none) (by kernel_rfl) rfl (x := (.tmp 6)) (y := (.tmp 17)) (t := 38) (gg := true) (s := 2) (v := (.agg #[(vi 0), (vi 0)])) (b := b10) (o := 0) (C := #[(vi 0), (vi 0)]) rfl rfl (by kernel_rfl) hs27 (k := 0) rfl rfl rfl rfl (C' := #[(vi 0), (vi 0)]) rfl (fun w32 (hs33 : HS w0 F0 w32 F2 [(sb b10 #[(vi 0), (vi 0)] 38), (sb b7 (kRef x2) 27), (sb b4 (kRef x1) 27), (sb b1 (kSystem x0 a0_0 n0_0 a0_1 n0_1) 25)]) => ?_)
  refine V 7 30 (ma 18 (vi r22)) ?_
  refine Nt ?_
  refine CWP.ret (by kernel_rfl) ?_
  refine thenQ_ret ?_
  have hfin := some_inj h31
  subst hfin
  exact ⟨rfl, (.tuple #[(.agg #[(vi 0), (vi 0)]), (vi r22)]), res_of (l := [.cell 6 38, .tmp 7]) (by kernel_rfl) (vs := [(.agg #[(vi 0), (vi 0)]), (vi r22)]) ⟨b10, 0, rfl, run_loadVar' (t := 38) (g := true) (s := 2) (by kernel_rfl) (hs33.ownAt (k := 0) rfl) rfl (by decide), ⟨rfl, trivial⟩⟩, (.tuple #[(.agg #[(vi 0), (vi 0)]), (vi r22)]), F2, rfl, hs33.clear, rfl⟩
 ·have h34 := cond_f h24 hb30
  refine Sc ?_
  refine thenQ_nrm ?_
  refine Sq (Rg [0, 1, 2, 3] ?_)
  refine V 19 25 (ld 25 3 b1 0 true 3 (.agg (kSystem x0 a0_0 n0_0 a0_1 n0_1)) (hs27.ownAt (k := 3) rfl)) ?_
  obtain ⟨r35, hr36, h37⟩ := bind_some h34
  refine Cl 20 112 80 #[(.tmp 19)] #[25] co_ref03_spots hs27 (c_ref03_spots N w26 F2 hs27.pers (x0) a0_0 n0_0 hb0_0 (SlA.mono hs0_0 (le19.trans le28)) a0_1 n0_1 hb0_1 (SlA.mono hs0_1 (le19.trans le28)) _ hr36) ?_
  intro v38 F3 w39 hs40 le41 hp42
  obtain ⟨ar35_0_0, nr35_0_0, rfl, hbr35_0_0, hsr35_0_0⟩ := hp42
  refine Al 9 0 112 #[(.slice none ([] : List Int).length 0), (vi 0)] hs40 (fun b43 w44 (hs45 : HS w0 F0 w44 F3 [(sb b43 #[(.slice none ([] : List Int).length 0), (vi 0)] 112), (sb b10 #[(vi 0), (vi 0)] 38), (sb b7 (kRef x2) 27), (sb b4 (kRef x1) 27), (sb b1 (kSystem x0 a0_0 n0_0 a0_1 n0_1) 25)]) => ?_)
  refine RWP.store (ty := 0) (g := none) (by kernel_rfl) rfl (x := (.tmp 9)) (y := (.tmp 20)) (t := 112) (gg := true) (s := 2) (v := (.agg (kSpot r35 ar35_0_0 nr35_0_0))) (b := b43) (o := 0) (C := #[(.slice none ([] : List Int).length 0), (vi 0)]) rfl rfl (by kernel_rfl) hs45 (k := 0) rfl rfl rfl rfl (C' := (kSpot r35 ar35_0_0 nr35_0_0)) rfl (fun w46 (hs47 : HS w0 F0 w46 F3 [(sb b43 (kSpot r35 ar35_0_0 nr35_0_0) 112), (sb b10 #[(vi 0), (vi 0)] 38), (sb b7 (kRef x2) 27), (sb b4 (kRef x1) 27), (sb b1 (kSystem x0 a0_0 n0_0 a0_1 n0_1) 25)]) => ?_)
  refine Nss ?_
  obtain ⟨j53, hj57, h58⟩ := bind_some h37
  refine CWP.regionD (by kernel_rfl) (by kernel_rfl) (by kernel_rfl) (by kernel_rfl) (z := 10) (F := F3) (Lc := [(sb b43 (kSpot r35 ar35_0_0 nr35_0_0) 112), (sb b7 (kRef x2) 27), (sb b4 (kRef x1) 27), (sb b1 (kSystem x0 a0_0 n0_0 a0_1 n0_1) 25)]) (Lz := []) (l := [false, false, false, false, false, false, false, false, false, false]) (fuel := 10) (by kernel_rfl) (by kernel_rfl) hs47 (by simp) (by simp) (fun f w => ∃ (F4 : Mem), HS w0 F0 w F4 [(sb b10 #[(vi j53.1), (vi j53.2)] 38)] ∧ Mem.le F3 F4 ∧ f.d = [] ∧ f 6 = (.pointer (some ⟨b10, 0, none⟩)) ∧ f 7 = (vi 0)) (fun wd48 hw49 => ?_) ?_
  ·refine Dt 0 21 25 _ (fun _ hq => ld 25 3 b1 0 true 3 (.agg (kSystem x0 a0_0 n0_0 a0_1 n0_1)) (hq.1.2 3 _ _ rfl)) ?_
   refine Dt 1 22 112 _ (fun _ hq => ld 112 9 b43 0 true 2 (.agg (kSpot r35 ar35_0_0 nr35_0_0)) (hq.1.2 0 _ _ rfl)) ?_
   refine Dt 2 23 27 _ (fun _ hq => ld 27 4 b4 0 true 2 (.agg (kRef x1)) (hq.1.2 2 _ _ rfl)) ?_
   refine Dt 4 25 112 _ (fun _ hq => ld 112 9 b43 0 true 2 (.agg (kSpot r35 ar35_0_0 nr35_0_0)) (hq.1.2 0 _ _ rfl)) ?_
   refine Dt 5 26 27 _ (fun _ hq => ld 27 5 b7 0 true 2 (.agg (kRef x2)) (hq.1.2 1 _ _ rfl)) ?_
   refine DWP.one (i := 3) (by kernel_rfl) ?_
   obtain ⟨r59, hr60, h61⟩ := bind_some hj57
   refine DStep.call (l' := [true, true, true, true, true, true, false, false, false, false]) (zd := true) (by kernel_rfl) (by kernel_rfl) (by kernel_rfl) (dst := (some 24)) (ty := 3) (g := none) (by kernel_rfl) rfl (f0 := (.func 81)) (aos := #[(.tmp 22), (.tmp 23)]) (ats := #[112, 27]) (fid := 81) (first := #[]) (cap := #[]) (args := [(.agg (kSpot r35 ar35_0_0 nr35_0_0)), (.agg (kRef x1))]) rfl co_ref03_spot_of (rfl) hw49 (c_ref03_spot_of N wd48 F3 hw49.pers (r35) ar35_0_0 nr35_0_0 hbr35_0_0 hsr35_0_0 (x1) _ hr60) ?_
   intro v62 F5 w63 hs64 le65 hp66
   obtain rfl := hp66
   refine DWP.one (i := 6) (by kernel_rfl) ?_
   obtain ⟨r67, hr68, h69⟩ := bind_some h61
   refine DStep.call (l' := [true, true, true, true, true, true, true, false, false, false]) (zd := true) (by kernel_rfl) (by kernel_rfl) (by kernel_rfl) (dst := (some 27)) (ty := 3) (g := none) (by kernel_rfl) rfl (f0 := (.func 81)) (aos := #[(.tmp 25), (.tmp 26)]) (ats := #[112, 27]) (fid := 81) (first := #[]) (cap := #[]) (args := [(.agg (kSpot r35 ar35_0_0 nr35_0_0)), (.agg (kRef x2))]) rfl co_ref03_spot_of (rfl) hs64 (c_ref03_spot_of N w63 F5 hs64.pers (r35) ar35_0_0 nr35_0_0 hbr35_0_0 (SlA.mono hsr35_0_0 le65) (x2) _ hr68) ?_
   intro v70 F6 w71 hs72 le73 hp74
   obtain rfl := hp74
   refine DWP.one (i := 7) (by kernel_rfl) ?_
   obtain ⟨r75, hr76, h77⟩ := bind_some h69
   refine DStep.call (l' := [true, true, true, true, true, true, true, true, false, false]) (zd := true) (by kernel_rfl) (by kernel_rfl) (by kernel_rfl) (dst := (some 28)) (ty := 38) (g := none) (by kernel_rfl) rfl (f0 := (.func 79)) (aos := #[(.tmp 21), (.tmp 24), (.tmp 27)]) (ats := #[25, 3, 3]) (fid := 79) (first := #[]) (cap := #[]) (args := [(.agg (kSystem x0 a0_0 n0_0 a0_1 n0_1)), (vi r59), (vi r67)]) rfl co_ref03_relation (rfl) hs72 (c_ref03_relation N w71 F6 hs72.pers (x0) a0_0 n0_0 hb0_0 (SlA.mono hs0_0 ((((le19.trans le28).trans le41).trans le65).trans le73)) a0_1 n0_1 hb0_1 (SlA.mono hs0_1 ((((le19.trans le28).trans le41).trans le65).trans le73)) (r59) (r67) _ hr76) ?_
   intro v78 F7 w79 hs80 le81 hp82
   obtain rfl := hp82
   refine DWP.one (i := 8) (by kernel_rfl) ?_
   refine DStep.store (l' := [true, true, true, true, true, true, true, true, true, false]) (zd := true) (by kernel_rfl) (by kernel_rfl) (ty := 0) (g := none) (by kernel_rfl) rfl (x := (.tmp 6)) (y := (.tmp 28)) (t := 38) (gg := true) (s := 2) (v := (.agg (kSpan r75))) (b := b10) (o := 0) (C := #[(vi 0), (vi 0)]) rfl rfl (by kernel_rfl) hs80 (k := 1) rfl rfl rfl rfl (C' := (kSpan r75)) rfl ((le65.trans le73).trans le81) (by simp) (fun e => by cases e) (fun w83 (hs84 : HS w0 F0 w83 F7 [(sb b43 (kSpot r35 ar35_0_0 nr35_0_0) 112), (sb b10 (kSpan r75) 38), (sb b7 (kRef x2) 27), (sb b4 (kRef x1) 27), (sb b1 (kSystem x0 a0_0 n0_0 a0_1 n0_1) 25)]) => ?_)
   refine Dt 9 7 30 _ (fun _ hq => mc (vi 0) (vi 0)) ?_
   obtain rfl := some_inj h77
   have hs85 : HS w0 F0 w83 F7 [(sb b10 (kSpan r75) 38), (sb b7 (kRef x2) 27), (sb b4 (kRef x1) 27), (sb b1 (kSystem x0 a0_0 n0_0 a0_1 n0_1) 25)] := hs84.drop 0
   have hs86 : HS w0 F0 w83 F7 [(sb b10 (kSpan r75) 38), (sb b4 (kRef x1) 27), (sb b1 (kSystem x0 a0_0 n0_0 a0_1 n0_1) 25)] := hs85.drop 1
   have hs87 : HS w0 F0 w83 F7 [(sb b10 (kSpan r75) 38), (sb b1 (kSystem x0 a0_0 n0_0 a0_1 n0_1) 25)] := hs86.drop 1
   have hs88 : HS w0 F0 w83 F7 [(sb b10 (kSpan r75) 38)] := hs87.drop 1
   exact DWP.done (by kernel_rfl) ⟨F7, hs88, ((le65.trans le73).trans le81), rfl, rfl, rfl⟩
  ·rintro f w50 ⟨F4, hs51, le52, e54, e55, e56⟩
   refine thenQ_nrm ?_
   refine CWP.ret (by kernel_rfl) ?_
   have hfin := some_inj h58
   subst hfin
   exact ⟨e54, (.tuple #[(.agg #[(vi j53.1), (vi j53.2)]), (vi 0)]), res_of (l := [.cell 6 38, .tmp 7]) (by kernel_rfl) (vs := [(.agg #[(vi j53.1), (vi j53.2)]), (vi 0)]) ⟨b10, 0, e55, run_loadVar' (t := 38) (g := true) (s := 2) (by kernel_rfl) (hs51.ownAt (k := 0) rfl) rfl (by decide), ⟨e56, trivial⟩⟩, (.tuple #[(.agg #[(vi j53.1), (vi j53.2)]), (vi 0)]), F4, rfl, hs51.clear, rfl⟩
end Go.Proofs.Ythbcnabeabcmlaa
namespace Go.Proofs.Ythbcnabeabcmlaa
open Go.Proofs
def ref03_May (N : Nat) (x0 : System) (x1 : Ref) (x2 : Ref) : Option (Bool × Int) :=
 ((ref03_Relation N x0 x1 x2).bind fun r10 => some (((r10.2 == 0) && ((decide (r10.1.Lo ≤ x0.Window)) && (decide (r10.1.Hi ≥ (W64 (0 - x0.Window)))))), r10.2))
theorem co_ref03_May : CallOk Try.prog 28 := fun _ _ => by kernel_rfl
set_option maxHeartbeats 4000000 in
set_option maxRecDepth 100000 in
theorem c_ref03_May (N : Nat) (w0 : World) (F0 : Mem) (hF : ∀ b o, F0 b = some o → w0.heap[b]? = some o) (x0 : System) (a0_0 : Option Addr) (n0_0 : Nat) (hb0_0 : LC x0.Tracks.length n0_0) (hs0_0 : SlA tTrack F0 a0_0 x0.Tracks) (a0_1 : Option Addr) (n0_1 : Nat) (hb0_1 : LC x0.Ties.length n0_1) (hs0_1 : SlA tTie F0 a0_1 x0.Ties) (x1 : Ref) (x2 : Ref) (r : (Bool × Int)) (h : ref03_May N x0 x1 x2 = some r) :
  Calls Try.prog 28 ([(.agg (kSystem x0 a0_0 n0_0 a0_1 n0_1)), (.agg (kRef x1)), (.agg (kRef x2))] : List Value).toArray w0 (FRet w0 F0 fun F' v => v = (.tuple #[(.bool r.1), (vi r.2)])) := by
 have hs0 := HS.start hF
 refine calls_of (n := 35) (c := bodyOf Try.f28) Try.func28 (by kernel_rfl) (by kernel_rfl) (by kernel_rfl) ?_
 refine Sq (Rg [0, 1, 2, 3, 4] ?_)
 refine Bx 3 0 0 25 (kSystem x0 a0_0 n0_0 a0_1 n0_1) hs0 (fun b1 w2 (hs3 : HS w0 F0 w2 F0 [(sb b1 (kSystem x0 a0_0 n0_0 a0_1 n0_1) 25)]) => ?_)
 refine Bx 4 0 1 27 (kRef x1) hs3 (fun b4 w5 (hs6 : HS w0 F0 w5 F0 [(sb b4 (kRef x1) 27), (sb b1 (kSystem x0 a0_0 n0_0 a0_1 n0_1) 25)]) => ?_)
 refine Bx 5 0 2 27 (kRef x2) hs6 (fun b7 w8 (hs9 : HS w0 F0 w8 F0 [(sb b7 (kRef x2) 27), (sb b4 (kRef x1) 27), (sb b1 (kSystem x0 a0_0 n0_0 a0_1 n0_1) 25)]) => ?_)
 refine V 6 4 (mc (.bool false) (.bool false)) ?_
 refine V 7 30 (mc (vi 0) (vi 0)) ?_
 refine Nss (Rg [0, 1, 2, 3, 4, 5, 6, 7, 8, 9] ?_)
 refine V 11 25 (ld 25 3 b1 0 true 3 (.agg (kSystem x0 a0_0 n0_0 a0_1 n0_1)) (hs9.ownAt (k := 2) rfl)) ?_
 refine V 12 27 (ld 27 4 b4 0 true 2 (.agg (kRef x1)) (hs9.ownAt (k := 1) rfl)) ?_
 refine V 13 27 (ld 27 5 b7 0 true 2 (.agg (kRef x2)) (hs9.ownAt (k := 0) rfl)) ?_
 obtain ⟨r10, hr11, h12⟩ := bind_some h
 refine Cl 14 39 26 #[(.tmp 11), (.tmp 12), (.tmp 13)] #[25, 27, 27] co_ref03_Relation hs9 (c_ref03_Relation N w8 F0 hs9.pers (x0) a0_0 n0_0 hb0_0 hs0_0 a0_1 n0_1 hb0_1 hs0_1 (x1) (x2) _ hr11) ?_
 intro v13 F1 w14 hs15 le16 hp17
 obtain rfl := hp17
 refine V 10 39 (mv 14 (.tuple #[(.agg (kSpan r10.1)), (vi r10.2)])) ?_
 refine V 15 38 (ex 10 0 (.agg (kSpan r10.1)) (vs := #[(.agg (kSpan r10.1)), (vi r10.2)])) ?_
 refine V 16 30 (ex 10 1 (vi r10.2) (vs := #[(.agg (kSpan r10.1)), (vi r10.2)])) ?_
 refine Al 8 0 38 #[(vi 0), (vi 0)] hs15 (fun b18 w19 (hs20 : HS w0 F0 w19 F1 [(sb b18 #[(vi 0), (vi 0)] 38), (sb b7 (kRef x2) 27), (sb b4 (kRef x1) 27), (sb b1 (kSystem x0 a0_0 n0_0 a0_1 n0_1) 25)]) => ?_)
 refine RWP.store (ty := 0) (g := none) (by kernel_rfl) rfl (x := (.tmp 8)) (y := (.tmp 15)) (t := 38) (gg := true) (s := 2) (v := (.agg (kSpan r10.1))) (b := b18) (o := 0) (C := #[(vi 0), (vi 0)]) rfl rfl (by kernel_rfl) hs20 (k := 0) rfl rfl rfl rfl (C' := (kSpan r10.1)) rfl (fun w21 (hs22 : HS w0 F0 w21 F1 [(sb b18 (kSpan r10.1) 38), (sb b7 (kRef x2) 27), (sb b4 (kRef x1) 27), (sb b1 (kSystem x0 a0_0 n0_0 a0_1 n0_1) 25)]) => ?_)
 refine V 9 30 (ma 16 (vi r10.2)) ?_
 refine Nss (Rg [0, 1, 2, 3, 4, 5, 6, 7, 8, 9, 10, 11, 12, 13, 14, 15, 16, 17, 18, 19] ?_)
 refine RWP.cut (fun f w => ∃ (F2 : Mem), HS w0 F0 w F2 [] ∧ Mem.le F1 F2 ∧ f.d = [] ∧ f 6 = (.bool ((r10.2 == 0) && ((decide (r10.1.Lo ≤ x0.Window)) && (decide (r10.1.Hi ≥ (W64 (0 - x0.Window))))))) ∧ f 7 = (vi r10.2)) ?_ ?_
 ·refine V 17 30 (mv 9 (vi r10.2)) ?_
  refine V 18 4 (run_eql (t := 30) (t' := 30) (x := (.tmp 17)) (y := (.const (vi 0))) (k := .i64) (a := r10.2) (b := 0) rfl rfl) ?_
  refine V 19 4 (mv 18 (.bool (r10.2 == 0))) ?_
  refine RWP.split (r10.2 == 0) (fun hb29 => ?_) (fun hb29 => ?_)
  ·refine Vg 20 0 2 true 19 hb29 (fa 38 8 0 0 1 b18 0 0) ?_
   refine Vg 21 3 2 true 19 hb29 (ld 3 20 b18 0 false 1 (vi r10.1.Lo) (hs22.ownAt (k := 0) rfl)) ?_
   refine Vg 22 0 2 true 19 hb29 (fa 25 3 2 2 1 b1 0 2) ?_
   refine Vg 23 3 2 true 19 hb29 (ld 3 22 b1 2 false 1 (vi x0.Window) (hs22.ownAt (k := 3) rfl)) ?_
   refine Vg 24 4 2 true 19 hb29 (run_leq (t := 3) (t' := 3) (x := (.tmp 21)) (y := (.tmp 23)) (k := .i64) (a := r10.1.Lo) (b := x0.Window) rfl rfl) ?_
   refine V 25 4 (p1 19 (.tmp 24) (.const (.bool false)) (.bool (decide (r10.1.Lo ≤ x0.Window))) hb29) ?_
   refine V 26 4 (mv 25 (.bool (decide (r10.1.Lo ≤ x0.Window)))) ?_
   refine RWP.split (decide (r10.1.Lo ≤ x0.Window)) (fun hb30 => ?_) (fun hb30 => ?_)
   ·refine Vg 27 0 9 true 26 hb30 (fa 38 8 1 1 1 b18 0 1) ?_
    refine Vg 28 3 9 true 26 hb30 (ld 3 27 b18 1 false 1 (vi r10.1.Hi) (hs22.ownAt (k := 0) rfl)) ?_
    refine Vg 29 0 9 true 26 hb30 (fa 25 3 2 2 1 b1 0 2) ?_
    refine Vg 30 3 9 true 26 hb30 (ld 3 29 b1 2 false 1 (vi x0.Window) (hs22.ownAt (k := 3) rfl)) ?_
    refine Vg 31 3 9 true 26 hb30 (run_sub (t := 3) (t' := 3) (x := (.const (vi 0))) (y := (.tmp 30)) (k := .i64) (a := 0) (b := x0.Window) rfl rfl) ?_
    refine Vg 32 4 9 true 26 hb30 (run_geq (t := 3) (t' := 3) (x := (.tmp 28)) (y := (.tmp 31)) (k := .i64) (a := r10.1.Hi) (b := (W64 (0 - x0.Window))) rfl rfl) ?_
    refine V 33 4 (p1 26 (.tmp 32) (.const (.bool false)) (.bool (decide (r10.1.Hi ≥ (W64 (0 - x0.Window))))) hb30) ?_
    refine V 34 30 (mv 9 (vi r10.2)) ?_
    refine V 6 4 (ma 33 (.bool (decide (r10.1.Hi ≥ (W64 (0 - x0.Window)))))) ?_
    refine V 7 30 (ma 34 (vi r10.2)) ?_
    have hs31 : HS w0 F0 w21 F1 [(sb b7 (kRef x2) 27), (sb b4 (kRef x1) 27), (sb b1 (kSystem x0 a0_0 n0_0 a0_1 n0_1) 25)] := hs22.drop 0
    have hs32 : HS w0 F0 w21 F1 [(sb b4 (kRef x1) 27), (sb b1 (kSystem x0 a0_0 n0_0 a0_1 n0_1) 25)] := hs31.drop 0
    have hs33 : HS w0 F0 w21 F1 [(sb b1 (kSystem x0 a0_0 n0_0 a0_1 n0_1) 25)] := hs32.drop 0
    have hs34 : HS w0 F0 w21 F1 [] := hs33.drop 0
    exact RWP.nil ⟨rfl, F1, hs34, (Mem.le.refl _), rfl, (congrArg Value.bool (and_t hb29 (and_t hb30 (rfl)))), rfl⟩
   ·refine Sk [27, 28, 29, 30, 31, 32] 9 true 26 hb30 ?_
    refine V 33 4 (p0 26 (.tmp 32) (.const (.bool false)) (.bool false) hb30) ?_
    refine V 34 30 (mv 9 (vi r10.2)) ?_
    refine V 6 4 (ma 33 (.bool false)) ?_
    refine V 7 30 (ma 34 (vi r10.2)) ?_
    have hs35 : HS w0 F0 w21 F1 [(sb b7 (kRef x2) 27), (sb b4 (kRef x1) 27), (sb b1 (kSystem x0 a0_0 n0_0 a0_1 n0_1) 25)] := hs22.drop 0
    have hs36 : HS w0 F0 w21 F1 [(sb b4 (kRef x1) 27), (sb b1 (kSystem x0 a0_0 n0_0 a0_1 n0_1) 25)] := hs35.drop 0
    have hs37 : HS w0 F0 w21 F1 [(sb b1 (kSystem x0 a0_0 n0_0 a0_1 n0_1) 25)] := hs36.drop 0
    have hs38 : HS w0 F0 w21 F1 [] := hs37.drop 0
    exact RWP.nil ⟨rfl, F1, hs38, (Mem.le.refl _), rfl, (congrArg Value.bool (and_t hb29 (and_f hb30 (rfl)))), rfl⟩
  ·refine Sk [20, 21, 22, 23, 24] 2 true 19 hb29 ?_
   refine V 25 4 (p0 19 (.tmp 24) (.const (.bool false)) (.bool false) hb29) ?_
   refine V 26 4 (mv 25 (.bool false)) ?_
   refine Sk [27, 28, 29, 30, 31, 32] 9 true 26 rfl ?_
   refine V 33 4 (p0 26 (.tmp 32) (.const (.bool false)) (.bool false) rfl) ?_
   refine V 34 30 (mv 9 (vi r10.2)) ?_
   refine V 6 4 (ma 33 (.bool false)) ?_
   refine V 7 30 (ma 34 (vi r10.2)) ?_
   have hs39 : HS w0 F0 w21 F1 [(sb b7 (kRef x2) 27), (sb b4 (kRef x1) 27), (sb b1 (kSystem x0 a0_0 n0_0 a0_1 n0_1) 25)] := hs22.drop 0
   have hs40 : HS w0 F0 w21 F1 [(sb b4 (kRef x1) 27), (sb b1 (kSystem x0 a0_0 n0_0 a0_1 n0_1) 25)] := hs39.drop 0
   have hs41 : HS w0 F0 w21 F1 [(sb b1 (kSystem x0 a0_0 n0_0 a0_1 n0_1) 25)] := hs40.drop 0
   have hs42 : HS w0 F0 w21 F1 [] := hs41.drop 0
   exact RWP.nil ⟨rfl, F1, hs42, (Mem.le.refl _), rfl, (congrArg Value.bool (and_f hb29 (rfl))), rfl⟩
 ·rintro f w23 ⟨F2, hs24, le25, e26, e27, e28⟩
  refine thenQ_nrm ?_
  refine CWP.ret (by kernel_rfl) ?_
  have hfin := some_inj h12
  subst hfin
  exact ⟨e26, (.tuple #[(.bool ((r10.2 == 0) && ((decide (r10.1.Lo ≤ x0.Window)) && (decide (r10.1.Hi ≥ (W64 (0 - x0.Window))))))), (vi r10.2)]), res_of (l := [.tmp 6, .tmp 7]) (by kernel_rfl) (vs := [(.bool ((r10.2 == 0) && ((decide (r10.1.Lo ≤ x0.Window)) && (decide (r10.1.Hi ≥ (W64 (0 - x0.Window))))))), (vi r10.2)]) ⟨e27, ⟨e28, trivial⟩⟩, (.tuple #[(.bool ((r10.2 == 0) && ((decide (r10.1.Lo ≤ x0.Window)) && (decide (r10.1.Hi ≥ (W64 (0 - x0.Window))))))), (vi r10.2)]), F2, rfl, hs24.clear, rfl⟩
end Go.Proofs.Ythbcnabeabcmlaa
namespace Go.Proofs.Ythbcnabeabcmlaa
open Go.Proofs
def ref03_Must (N : Nat) (x0 : System) (x1 : Ref) (x2 : Ref) : Option (Bool × Int) :=
 ((ref03_Relation N x0 x1 x2).bind fun r10 => some (((r10.2 == 0) && ((decide (r10.1.Lo ≥ (W64 (0 - x0.Window)))) && (decide (r10.1.Hi ≤ x0.Window)))), r10.2))
theorem co_ref03_Must : CallOk Try.prog 29 := fun _ _ => by kernel_rfl
set_option maxHeartbeats 4000000 in
set_option maxRecDepth 100000 in
theorem c_ref03_Must (N : Nat) (w0 : World) (F0 : Mem) (hF : ∀ b o, F0 b = some o → w0.heap[b]? = some o) (x0 : System) (a0_0 : Option Addr) (n0_0 : Nat) (hb0_0 : LC x0.Tracks.length n0_0) (hs0_0 : SlA tTrack F0 a0_0 x0.Tracks) (a0_1 : Option Addr) (n0_1 : Nat) (hb0_1 : LC x0.Ties.length n0_1) (hs0_1 : SlA tTie F0 a0_1 x0.Ties) (x1 : Ref) (x2 : Ref) (r : (Bool × Int)) (h : ref03_Must N x0 x1 x2 = some r) :
  Calls Try.prog 29 ([(.agg (kSystem x0 a0_0 n0_0 a0_1 n0_1)), (.agg (kRef x1)), (.agg (kRef x2))] : List Value).toArray w0 (FRet w0 F0 fun F' v => v = (.tuple #[(.bool r.1), (vi r.2)])) := by
 have hs0 := HS.start hF
 refine calls_of (n := 35) (c := bodyOf Try.f29) Try.func29 (by kernel_rfl) (by kernel_rfl) (by kernel_rfl) ?_
 refine Sq (Rg [0, 1, 2, 3, 4] ?_)
 refine Bx 3 0 0 25 (kSystem x0 a0_0 n0_0 a0_1 n0_1) hs0 (fun b1 w2 (hs3 : HS w0 F0 w2 F0 [(sb b1 (kSystem x0 a0_0 n0_0 a0_1 n0_1) 25)]) => ?_)
 refine Bx 4 0 1 27 (kRef x1) hs3 (fun b4 w5 (hs6 : HS w0 F0 w5 F0 [(sb b4 (kRef x1) 27), (sb b1 (kSystem x0 a0_0 n0_0 a0_1 n0_1) 25)]) => ?_)
 refine Bx 5 0 2 27 (kRef x2) hs6 (fun b7 w8 (hs9 : HS w0 F0 w8 F0 [(sb b7 (kRef x2) 27), (sb b4 (kRef x1) 27), (sb b1 (kSystem x0 a0_0 n0_0 a0_1 n0_1) 25)]) => ?_)
 refine V 6 4 (mc (.bool false) (.bool false)) ?_
 refine V 7 30 (mc (vi 0) (vi 0)) ?_
 refine Nss (Rg [0, 1, 2, 3, 4, 5, 6, 7, 8, 9] ?_)
 refine V 11 25 (ld 25 3 b1 0 true 3 (.agg (kSystem x0 a0_0 n0_0 a0_1 n0_1)) (hs9.ownAt (k := 2) rfl)) ?_
 refine V 12 27 (ld 27 4 b4 0 true 2 (.agg (kRef x1)) (hs9.ownAt (k := 1) rfl)) ?_
 refine V 13 27 (ld 27 5 b7 0 true 2 (.agg (kRef x2)) (hs9.ownAt (k := 0) rfl)) ?_
 obtain ⟨r10, hr11, h12⟩ := bind_some h
 refine Cl 14 39 26 #[(.tmp 11), (.tmp 12), (.tmp 13)] #[25, 27, 27] co_ref03_Relation hs9 (c_ref03_Relation N w8 F0 hs9.pers (x0) a0_0 n0_0 hb0_0 hs0_0 a0_1 n0_1 hb0_1 hs0_1 (x1) (x2) _ hr11) ?_
 intro v13 F1 w14 hs15 le16 hp17
 obtain rfl := hp17
 refine V 10 39 (mv 14 (.tuple #[(.agg (kSpan r10.1)), (vi r10.2)])) ?_
 refine V 15 38 (ex 10 0 (.agg (kSpan r10.1)) (vs := #[(.agg (kSpan r10.1)), (vi r10.2)])) ?_
 refine V 16 30 (ex 10 1 (vi r10.2) (vs := #[(.agg (kSpan r10.1)), (vi r10.2)])) ?_
 refine Al 8 0 38 #[(vi 0), (vi 0)] hs15 (fun b18 w19 (hs20 : HS w0 F0 w19 F1 [(sb b18 #[(vi 0), (vi 0)] 38), (sb b7 (kRef x2) 27), (sb b4 (kRef x1) 27), (sb b1 (kSystem x0 a0_0 n0_0 a0_1 n0_1) 25)]) => ?_)
 refine RWP.store (ty := 0) (g := none) (by kernel_rfl) rfl (x := (.tmp 8)) (y := (.tmp 15)) (t := 38) (gg := true) (s := 2) (v := (.agg (kSpan r10.1))) (b := b18) (o := 0) (C := #[(vi 0), (vi 0)]) rfl rfl (by kernel_rfl) hs20 (k := 0) rfl rfl rfl rfl (C' := (kSpan r10.1)) rfl (fun w21 (hs22 : HS w0 F0 w21 F1 [(sb b18 (kSpan r10.1) 38), (sb b7 (kRef x2) 27), (sb b4 (kRef x1) 27), (sb b1 (kSystem x0 a0_0 n0_0 a0_1 n0_1) 25)]) => ?_)
 refine V 9 30 (ma 16 (vi r10.2)) ?_
 refine Nss (Rg [0, 1, 2, 3, 4, 5, 6, 7, 8, 9, 10, 11, 12, 13, 14, 15, 16, 17, 18, 19] ?_)
 refine RWP.cut (fun f w => ∃ (F2 : Mem), HS w0 F0 w F2 [] ∧ Mem.le F1 F2 ∧ f.d = [] ∧ f 6 = (.bool ((r10.2 == 0) && ((decide (r10.1.Lo ≥ (W64 (0 - x0.Window)))) && (decide (r10.1.Hi ≤ x0.Window))))) ∧ f 7 = (vi r10.2)) ?_ ?_
 ·refine V 17 30 (mv 9 (vi r10.2)) ?_
  refine V 18 4 (run_eql (t := 30) (t' := 30) (x := (.tmp 17)) (y := (.const (vi 0))) (k := .i64) (a := r10.2) (b := 0) rfl rfl) ?_
  refine V 19 4 (mv 18 (.bool (r10.2 == 0))) ?_
  refine RWP.split (r10.2 == 0) (fun hb29 => ?_) (fun hb29 => ?_)
  ·refine Vg 20 0 2 true 19 hb29 (fa 38 8 0 0 1 b18 0 0) ?_
   refine Vg 21 3 2 true 19 hb29 (ld 3 20 b18 0 false 1 (vi r10.1.Lo) (hs22.ownAt (k := 0) rfl)) ?_
   refine Vg 22 0 2 true 19 hb29 (fa 25 3 2 2 1 b1 0 2) ?_
   refine Vg 23 3 2 true 19 hb29 (ld 3 22 b1 2 false 1 (vi x0.Window) (hs22.ownAt (k := 3) rfl)) ?_
   refine Vg 24 3 2 true 19 hb29 (run_sub (t := 3) (t' := 3) (x := (.const (vi 0))) (y := (.tmp 23)) (k := .i64) (a := 0) (b := x0.Window) rfl rfl) ?_
   refine Vg 25 4 2 true 19 hb29 (run_geq (t := 3) (t' := 3) (x := (.tmp 21)) (y := (.tmp 24)) (k := .i64) (a := r10.1.Lo) (b := (W64 (0 - x0.Window))) rfl rfl) ?_
   refine V 26 4 (p1 19 (.tmp 25) (.const (.bool false)) (.bool (decide (r10.1.Lo ≥ (W64 (0 - x0.Window))))) hb29) ?_
   refine V 27 4 (mv 26 (.bool (decide (r10.1.Lo ≥ (W64 (0 - x0.Window)))))) ?_
   refine RWP.split (decide (r10.1.Lo ≥ (W64 (0 - x0.Window)))) (fun hb30 => ?_) (fun hb30 => ?_)
   ·refine Vg 28 0 10 true 27 hb30 (fa 38 8 1 1 1 b18 0 1) ?_
    refine Vg 29 3 10 true 27 hb30 (ld 3 28 b18 1 false 1 (vi r10.1.Hi) (hs22.ownAt (k := 0) rfl)) ?_
    refine Vg 30 0 10 true 27 hb30 (fa 25 3 2 2 1 b1 0 2) ?_
    refine Vg 31 3 10 true 27 hb30 (ld 3 30 b1 2 false 1 (vi x0.Window) (hs22.ownAt (k := 3) rfl)) ?_
    refine Vg 32 4 10 true 27 hb30 (run_leq (t := 3) (t' := 3) (x := (.tmp 29)) (y := (.tmp 31)) (k := .i64) (a := r10.1.Hi) (b := x0.Window) rfl rfl) ?_
    refine V 33 4 (p1 27 (.tmp 32) (.const (.bool false)) (.bool (decide (r10.1.Hi ≤ x0.Window))) hb30) ?_
    refine V 34 30 (mv 9 (vi r10.2)) ?_
    refine V 6 4 (ma 33 (.bool (decide (r10.1.Hi ≤ x0.Window)))) ?_
    refine V 7 30 (ma 34 (vi r10.2)) ?_
    have hs31 : HS w0 F0 w21 F1 [(sb b7 (kRef x2) 27), (sb b4 (kRef x1) 27), (sb b1 (kSystem x0 a0_0 n0_0 a0_1 n0_1) 25)] := hs22.drop 0
    have hs32 : HS w0 F0 w21 F1 [(sb b4 (kRef x1) 27), (sb b1 (kSystem x0 a0_0 n0_0 a0_1 n0_1) 25)] := hs31.drop 0
    have hs33 : HS w0 F0 w21 F1 [(sb b1 (kSystem x0 a0_0 n0_0 a0_1 n0_1) 25)] := hs32.drop 0
    have hs34 : HS w0 F0 w21 F1 [] := hs33.drop 0
    exact RWP.nil ⟨rfl, F1, hs34, (Mem.le.refl _), rfl, (congrArg Value.bool (and_t hb29 (and_t hb30 (rfl)))), rfl⟩
   ·refine Sk [28, 29, 30, 31, 32] 10 true 27 hb30 ?_
    refine V 33 4 (p0 27 (.tmp 32) (.const (.bool false)) (.bool false) hb30) ?_
    refine V 34 30 (mv 9 (vi r10.2)) ?_
    refine V 6 4 (ma 33 (.bool false)) ?_
    refine V 7 30 (ma 34 (vi r10.2)) ?_
    have hs35 : HS w0 F0 w21 F1 [(sb b7 (kRef x2) 27), (sb b4 (kRef x1) 27), (sb b1 (kSystem x0 a0_0 n0_0 a0_1 n0_1) 25)] := hs22.drop 0
    have hs36 : HS w0 F0 w21 F1 [(sb b4 (kRef x1) 27), (sb b1 (kSystem x0 a0_0 n0_0 a0_1 n0_1) 25)] := hs35.drop 0
    have hs37 : HS w0 F0 w21 F1 [(sb b1 (kSystem x0 a0_0 n0_0 a0_1 n0_1) 25)] := hs36.drop 0
    have hs38 : HS w0 F0 w21 F1 [] := hs37.drop 0
    exact RWP.nil ⟨rfl, F1, hs38, (Mem.le.refl _), rfl, (congrArg Value.bool (and_t hb29 (and_f hb30 (rfl)))), rfl⟩
  ·refine Sk [20, 21, 22, 23, 24, 25] 2 true 19 hb29 ?_
   refine V 26 4 (p0 19 (.tmp 25) (.const (.bool false)) (.bool false) hb29) ?_
   refine V 27 4 (mv 26 (.bool false)) ?_
   refine Sk [28, 29, 30, 31, 32] 10 true 27 rfl ?_
   refine V 33 4 (p0 27 (.tmp 32) (.const (.bool false)) (.bool false) rfl) ?_
   refine V 34 30 (mv 9 (vi r10.2)) ?_
   refine V 6 4 (ma 33 (.bool false)) ?_
   refine V 7 30 (ma 34 (vi r10.2)) ?_
   have hs39 : HS w0 F0 w21 F1 [(sb b7 (kRef x2) 27), (sb b4 (kRef x1) 27), (sb b1 (kSystem x0 a0_0 n0_0 a0_1 n0_1) 25)] := hs22.drop 0
   have hs40 : HS w0 F0 w21 F1 [(sb b4 (kRef x1) 27), (sb b1 (kSystem x0 a0_0 n0_0 a0_1 n0_1) 25)] := hs39.drop 0
   have hs41 : HS w0 F0 w21 F1 [(sb b1 (kSystem x0 a0_0 n0_0 a0_1 n0_1) 25)] := hs40.drop 0
   have hs42 : HS w0 F0 w21 F1 [] := hs41.drop 0
   exact RWP.nil ⟨rfl, F1, hs42, (Mem.le.refl _), rfl, (congrArg Value.bool (and_f hb29 (rfl))), rfl⟩
 ·rintro f w23 ⟨F2, hs24, le25, e26, e27, e28⟩
  refine thenQ_nrm ?_
  refine CWP.ret (by kernel_rfl) ?_
  have hfin := some_inj h12
  subst hfin
  exact ⟨e26, (.tuple #[(.bool ((r10.2 == 0) && ((decide (r10.1.Lo ≥ (W64 (0 - x0.Window)))) && (decide (r10.1.Hi ≤ x0.Window))))), (vi r10.2)]), res_of (l := [.tmp 6, .tmp 7]) (by kernel_rfl) (vs := [(.bool ((r10.2 == 0) && ((decide (r10.1.Lo ≥ (W64 (0 - x0.Window)))) && (decide (r10.1.Hi ≤ x0.Window))))), (vi r10.2)]) ⟨e27, ⟨e28, trivial⟩⟩, (.tuple #[(.bool ((r10.2 == 0) && ((decide (r10.1.Lo ≥ (W64 (0 - x0.Window)))) && (decide (r10.1.Hi ≤ x0.Window))))), (vi r10.2)]), F2, rfl, hs24.clear, rfl⟩
end Go.Proofs.Ythbcnabeabcmlaa
namespace Go.Proofs.Ythbcnabeabcmlaa
open Go.Proofs
def clocks_Before (N : Nat) (x0 : System) (x1 : Ref) (x2 : Ref) : Option (Bool × Int) :=
 ((clocks_Relation N x0 x1 x2).bind fun r10 => some (((r10.2 == 0) && (decide (r10.1.Lo > 0))), r10.2))
theorem co_clocks_Before : CallOk Try.prog 30 := fun _ _ => by kernel_rfl
set_option maxHeartbeats 4000000 in
set_option maxRecDepth 100000 in
theorem c_clocks_Before (N : Nat) (w0 : World) (F0 : Mem) (hF : ∀ b o, F0 b = some o → w0.heap[b]? = some o) (x0 : System) (a0_0 : Option Addr) (n0_0 : Nat) (hb0_0 : LC x0.Tracks.length n0_0) (hs0_0 : SlA tTrack F0 a0_0 x0.Tracks) (a0_1 : Option Addr) (n0_1 : Nat) (hb0_1 : LC x0.Ties.length n0_1) (hs0_1 : SlA tTie F0 a0_1 x0.Ties) (x1 : Ref) (x2 : Ref) (r : (Bool × Int)) (h : clocks_Before N x0 x1 x2 = some r) :
  Calls Try.prog 30 ([(.agg (kSystem x0 a0_0 n0_0 a0_1 n0_1)), (.agg (kRef x1)), (.agg (kRef x2))] : List Value).toArray w0 (FRet w0 F0 fun F' v => v = (.tuple #[(.bool r.1), (vi r.2)])) := by
 have hs0 := HS.start hF
 refine calls_of (n := 25) (c := bodyOf Try.f30) Try.func30 (by kernel_rfl) (by kernel_rfl) (by kernel_rfl) ?_
 refine Sq (Rg [0, 1, 2, 3, 4] ?_)
 refine Bx 3 0 0 25 (kSystem x0 a0_0 n0_0 a0_1 n0_1) hs0 (fun b1 w2 (hs3 : HS w0 F0 w2 F0 [(sb b1 (kSystem x0 a0_0 n0_0 a0_1 n0_1) 25)]) => ?_)
 refine Bx 4 0 1 27 (kRef x1) hs3 (fun b4 w5 (hs6 : HS w0 F0 w5 F0 [(sb b4 (kRef x1) 27), (sb b1 (kSystem x0 a0_0 n0_0 a0_1 n0_1) 25)]) => ?_)
 refine Bx 5 0 2 27 (kRef x2) hs6 (fun b7 w8 (hs9 : HS w0 F0 w8 F0 [(sb b7 (kRef x2) 27), (sb b4 (kRef x1) 27), (sb b1 (kSystem x0 a0_0 n0_0 a0_1 n0_1) 25)]) => ?_)
 refine V 6 4 (mc (.bool false) (.bool false)) ?_
 refine V 7 30 (mc (vi 0) (vi 0)) ?_
 refine Nss (Rg [0, 1, 2, 3, 4, 5, 6, 7, 8, 9] ?_)
 refine V 11 25 (ld 25 3 b1 0 true 3 (.agg (kSystem x0 a0_0 n0_0 a0_1 n0_1)) (hs9.ownAt (k := 2) rfl)) ?_
 refine V 12 27 (ld 27 4 b4 0 true 2 (.agg (kRef x1)) (hs9.ownAt (k := 1) rfl)) ?_
 refine V 13 27 (ld 27 5 b7 0 true 2 (.agg (kRef x2)) (hs9.ownAt (k := 0) rfl)) ?_
 obtain ⟨r10, hr11, h12⟩ := bind_some h
 refine Cl 14 39 20 #[(.tmp 11), (.tmp 12), (.tmp 13)] #[25, 27, 27] co_clocks_Relation hs9 (c_clocks_Relation N w8 F0 hs9.pers (x0) a0_0 n0_0 hb0_0 hs0_0 a0_1 n0_1 hb0_1 hs0_1 (x1) (x2) _ hr11) ?_
 intro v13 F1 w14 hs15 le16 hp17
 obtain rfl := hp17
 refine V 10 39 (mv 14 (.tuple #[(.agg (kSpan r10.1)), (vi r10.2)])) ?_
 refine V 15 38 (ex 10 0 (.agg (kSpan r10.1)) (vs := #[(.agg (kSpan r10.1)), (vi r10.2)])) ?_
 refine V 16 30 (ex 10 1 (vi r10.2) (vs := #[(.agg (kSpan r10.1)), (vi r10.2)])) ?_
 refine Al 8 0 38 #[(vi 0), (vi 0)] hs15 (fun b18 w19 (hs20 : HS w0 F0 w19 F1 [(sb b18 #[(vi 0), (vi 0)] 38), (sb b7 (kRef x2) 27), (sb b4 (kRef x1) 27), (sb b1 (kSystem x0 a0_0 n0_0 a0_1 n0_1) 25)]) => ?_)
 refine RWP.store (ty := 0) (g := none) (by kernel_rfl) rfl (x := (.tmp 8)) (y := (.tmp 15)) (t := 38) (gg := true) (s := 2) (v := (.agg (kSpan r10.1))) (b := b18) (o := 0) (C := #[(vi 0), (vi 0)]) rfl rfl (by kernel_rfl) hs20 (k := 0) rfl rfl rfl rfl (C' := (kSpan r10.1)) rfl (fun w21 (hs22 : HS w0 F0 w21 F1 [(sb b18 (kSpan r10.1) 38), (sb b7 (kRef x2) 27), (sb b4 (kRef x1) 27), (sb b1 (kSystem x0 a0_0 n0_0 a0_1 n0_1) 25)]) => ?_)
 refine V 9 30 (ma 16 (vi r10.2)) ?_
 refine Nss (Rg [0, 1, 2, 3, 4, 5, 6, 7, 8, 9] ?_)
 refine RWP.cut (fun f w => ∃ (F2 : Mem), HS w0 F0 w F2 [] ∧ Mem.le F1 F2 ∧ f.d = [] ∧ f 6 = (.bool ((r10.2 == 0) && (decide (r10.1.Lo > 0)))) ∧ f 7 = (vi r10.2)) ?_ ?_
 ·refine V 17 30 (mv 9 (vi r10.2)) ?_
  refine V 18 4 (run_eql (t := 30) (t' := 30) (x := (.tmp 17)) (y := (.const (vi 0))) (k := .i64) (a := r10.2) (b := 0) rfl rfl) ?_
  refine V 19 4 (mv 18 (.bool (r10.2 == 0))) ?_
  refine RWP.split (r10.2 == 0) (fun hb29 => ?_) (fun hb29 => ?_)
  ·refine Vg 20 0 2 true 19 hb29 (fa 38 8 0 0 1 b18 0 0) ?_
   refine Vg 21 3 2 true 19 hb29 (ld 3 20 b18 0 false 1 (vi r10.1.Lo) (hs22.ownAt (k := 0) rfl)) ?_
   refine Vg 22 4 2 true 19 hb29 (run_gtr (t := 3) (t' := 3) (x := (.tmp 21)) (y := (.const (vi 0))) (k := .i64) (a := r10.1.Lo) (b := 0) rfl rfl) ?_
   refine V 23 4 (p1 19 (.tmp 22) (.const (.bool false)) (.bool (decide (r10.1.Lo > 0))) hb29) ?_
   refine V 24 30 (mv 9 (vi r10.2)) ?_
   refine V 6 4 (ma 23 (.bool (decide (r10.1.Lo > 0)))) ?_
   refine V 7 30 (ma 24 (vi r10.2)) ?_
   have hs30 : HS w0 F0 w21 F1 [(sb b7 (kRef x2) 27), (sb b4 (kRef x1) 27), (sb b1 (kSystem x0 a0_0 n0_0 a0_1 n0_1) 25)] := hs22.drop 0
   have hs31 : HS w0 F0 w21 F1 [(sb b4 (kRef x1) 27), (sb b1 (kSystem x0 a0_0 n0_0 a0_1 n0_1) 25)] := hs30.drop 0
   have hs32 : HS w0 F0 w21 F1 [(sb b1 (kSystem x0 a0_0 n0_0 a0_1 n0_1) 25)] := hs31.drop 0
   have hs33 : HS w0 F0 w21 F1 [] := hs32.drop 0
   exact RWP.nil ⟨rfl, F1, hs33, (Mem.le.refl _), rfl, (congrArg Value.bool (and_t hb29 (rfl))), rfl⟩
  ·refine Sk [20, 21, 22] 2 true 19 hb29 ?_
   refine V 23 4 (p0 19 (.tmp 22) (.const (.bool false)) (.bool false) hb29) ?_
   refine V 24 30 (mv 9 (vi r10.2)) ?_
   refine V 6 4 (ma 23 (.bool false)) ?_
   refine V 7 30 (ma 24 (vi r10.2)) ?_
   have hs34 : HS w0 F0 w21 F1 [(sb b7 (kRef x2) 27), (sb b4 (kRef x1) 27), (sb b1 (kSystem x0 a0_0 n0_0 a0_1 n0_1) 25)] := hs22.drop 0
   have hs35 : HS w0 F0 w21 F1 [(sb b4 (kRef x1) 27), (sb b1 (kSystem x0 a0_0 n0_0 a0_1 n0_1) 25)] := hs34.drop 0
   have hs36 : HS w0 F0 w21 F1 [(sb b1 (kSystem x0 a0_0 n0_0 a0_1 n0_1) 25)] := hs35.drop 0
   have hs37 : HS w0 F0 w21 F1 [] := hs36.drop 0
   exact RWP.nil ⟨rfl, F1, hs37, (Mem.le.refl _), rfl, (congrArg Value.bool (and_f hb29 (rfl))), rfl⟩
 ·rintro f w23 ⟨F2, hs24, le25, e26, e27, e28⟩
  refine thenQ_nrm ?_
  refine CWP.ret (by kernel_rfl) ?_
  have hfin := some_inj h12
  subst hfin
  exact ⟨e26, (.tuple #[(.bool ((r10.2 == 0) && (decide (r10.1.Lo > 0)))), (vi r10.2)]), res_of (l := [.tmp 6, .tmp 7]) (by kernel_rfl) (vs := [(.bool ((r10.2 == 0) && (decide (r10.1.Lo > 0)))), (vi r10.2)]) ⟨e27, ⟨e28, trivial⟩⟩, (.tuple #[(.bool ((r10.2 == 0) && (decide (r10.1.Lo > 0)))), (vi r10.2)]), F2, rfl, hs24.clear, rfl⟩
end Go.Proofs.Ythbcnabeabcmlaa
namespace Go.Proofs.Ythbcnabeabcmlaa
open Go.Proofs
def ref03_Before (N : Nat) (x0 : System) (x1 : Ref) (x2 : Ref) : Option (Bool × Int) :=
 ((ref03_Relation N x0 x1 x2).bind fun r10 => some (((r10.2 == 0) && (decide (r10.1.Lo > 0))), r10.2))
theorem co_ref03_Before : CallOk Try.prog 31 := fun _ _ => by kernel_rfl
set_option maxHeartbeats 4000000 in
set_option maxRecDepth 100000 in
theorem c_ref03_Before (N : Nat) (w0 : World) (F0 : Mem) (hF : ∀ b o, F0 b = some o → w0.heap[b]? = some o) (x0 : System) (a0_0 : Option Addr) (n0_0 : Nat) (hb0_0 : LC x0.Tracks.length n0_0) (hs0_0 : SlA tTrack F0 a0_0 x0.Tracks) (a0_1 : Option Addr) (n0_1 : Nat) (hb0_1 : LC x0.Ties.length n0_1) (hs0_1 : SlA tTie F0 a0_1 x0.Ties) (x1 : Ref) (x2 : Ref) (r : (Bool × Int)) (h : ref03_Before N x0 x1 x2 = some r) :
  Calls Try.prog 31 ([(.agg (kSystem x0 a0_0 n0_0 a0_1 n0_1)), (.agg (kRef x1)), (.agg (kRef x2))] : List Value).toArray w0 (FRet w0 F0 fun F' v => v = (.tuple #[(.bool r.1), (vi r.2)])) := by
 have hs0 := HS.start hF
 refine calls_of (n := 25) (c := bodyOf Try.f31) Try.func31 (by kernel_rfl) (by kernel_rfl) (by kernel_rfl) ?_
 refine Sq (Rg [0, 1, 2, 3, 4] ?_)
 refine Bx 3 0 0 25 (kSystem x0 a0_0 n0_0 a0_1 n0_1) hs0 (fun b1 w2 (hs3 : HS w0 F0 w2 F0 [(sb b1 (kSystem x0 a0_0 n0_0 a0_1 n0_1) 25)]) => ?_)
 refine Bx 4 0 1 27 (kRef x1) hs3 (fun b4 w5 (hs6 : HS w0 F0 w5 F0 [(sb b4 (kRef x1) 27), (sb b1 (kSystem x0 a0_0 n0_0 a0_1 n0_1) 25)]) => ?_)
 refine Bx 5 0 2 27 (kRef x2) hs6 (fun b7 w8 (hs9 : HS w0 F0 w8 F0 [(sb b7 (kRef x2) 27), (sb b4 (kRef x1) 27), (sb b1 (kSystem x0 a0_0 n0_0 a0_1 n0_1) 25)]) => ?_)
 refine V 6 4 (mc (.bool false) (.bool false)) ?_
 refine V 7 30 (mc (vi 0) (vi 0)) ?_
 refine Nss (Rg [0, 1, 2, 3, 4, 5, 6, 7, 8, 9] ?_)
 refine V 11 25 (ld 25 3 b1 0 true 3 (.agg (kSystem x0 a0_0 n0_0 a0_1 n0_1)) (hs9.ownAt (k := 2) rfl)) ?_
 refine V 12 27 (ld 27 4 b4 0 true 2 (.agg (kRef x1)) (hs9.ownAt (k := 1) rfl)) ?_
 refine V 13 27 (ld 27 5 b7 0 true 2 (.agg (kRef x2)) (hs9.ownAt (k := 0) rfl)) ?_
 obtain ⟨r10, hr11, h12⟩ := bind_some h
 refine Cl 14 39 26 #[(.tmp 11), (.tmp 12), (.tmp 13)] #[25, 27, 27] co_ref03_Relation hs9 (c_ref03_Relation N w8 F0 hs9.pers (x0) a0_0 n0_0 hb0_0 hs0_0 a0_1 n0_1 hb0_1 hs0_1 (x1) (x2) _ hr11) ?_
 intro v13 F1 w14 hs15 le16 hp17
 obtain rfl := hp17
 refine V 10 39 (mv 14 (.tuple #[(.agg (kSpan r10.1)), (vi r10.2)])) ?_
 refine V 15 38 (ex 10 0 (.agg (kSpan r10.1)) (vs := #[(.agg (kSpan r10.1)), (vi r10.2)])) ?_
 refine V 16 30 (ex 10 1 (vi r10.2) (vs := #[(.agg (kSpan r10.1)), (vi r10.2)])) ?_
 refine Al 8 0 38 #[(vi 0), (vi 0)] hs15 (fun b18 w19 (hs20 : HS w0 F0 w19 F1 [(sb b18 #[(vi 0), (vi 0)] 38), (sb b7 (kRef x2) 27), (sb b4 (kRef x1) 27), (sb b1 (kSystem x0 a0_0 n0_0 a0_1 n0_1) 25)]) => ?_)
 refine RWP.store (ty := 0) (g := none) (by kernel_rfl) rfl (x := (.tmp 8)) (y := (.tmp 15)) (t := 38) (gg := true) (s := 2) (v := (.agg (kSpan r10.1))) (b := b18) (o := 0) (C := #[(vi 0), (vi 0)]) rfl rfl (by kernel_rfl) hs20 (k := 0) rfl rfl rfl rfl (C' := (kSpan r10.1)) rfl (fun w21 (hs22 : HS w0 F0 w21 F1 [(sb b18 (kSpan r10.1) 38), (sb b7 (kRef x2) 27), (sb b4 (kRef x1) 27), (sb b1 (kSystem x0 a0_0 n0_0 a0_1 n0_1) 25)]) => ?_)
 refine V 9 30 (ma 16 (vi r10.2)) ?_
 refine Nss (Rg [0, 1, 2, 3, 4, 5, 6, 7, 8, 9] ?_)
 refine RWP.cut (fun f w => ∃ (F2 : Mem), HS w0 F0 w F2 [] ∧ Mem.le F1 F2 ∧ f.d = [] ∧ f 6 = (.bool ((r10.2 == 0) && (decide (r10.1.Lo > 0)))) ∧ f 7 = (vi r10.2)) ?_ ?_
 ·refine V 17 30 (mv 9 (vi r10.2)) ?_
  refine V 18 4 (run_eql (t := 30) (t' := 30) (x := (.tmp 17)) (y := (.const (vi 0))) (k := .i64) (a := r10.2) (b := 0) rfl rfl) ?_
  refine V 19 4 (mv 18 (.bool (r10.2 == 0))) ?_
  refine RWP.split (r10.2 == 0) (fun hb29 => ?_) (fun hb29 => ?_)
  ·refine Vg 20 0 2 true 19 hb29 (fa 38 8 0 0 1 b18 0 0) ?_
   refine Vg 21 3 2 true 19 hb29 (ld 3 20 b18 0 false 1 (vi r10.1.Lo) (hs22.ownAt (k := 0) rfl)) ?_
   refine Vg 22 4 2 true 19 hb29 (run_gtr (t := 3) (t' := 3) (x := (.tmp 21)) (y := (.const (vi 0))) (k := .i64) (a := r10.1.Lo) (b := 0) rfl rfl) ?_
   refine V 23 4 (p1 19 (.tmp 22) (.const (.bool false)) (.bool (decide (r10.1.Lo > 0))) hb29) ?_
   refine V 24 30 (mv 9 (vi r10.2)) ?_
   refine V 6 4 (ma 23 (.bool (decide (r10.1.Lo > 0)))) ?_
   refine V 7 30 (ma 24 (vi r10.2)) ?_
   have hs30 : HS w0 F0 w21 F1 [(sb b7 (kRef x2) 27), (sb b4 (kRef x1) 27), (sb b1 (kSystem x0 a0_0 n0_0 a0_1 n0_1) 25)] := hs22.drop 0
   have hs31 : HS w0 F0 w21 F1 [(sb b4 (kRef x1) 27), (sb b1 (kSystem x0 a0_0 n0_0 a0_1 n0_1) 25)] := hs30.drop 0
   have hs32 : HS w0 F0 w21 F1 [(sb b1 (kSystem x0 a0_0 n0_0 a0_1 n0_1) 25)] := hs31.drop 0
   have hs33 : HS w0 F0 w21 F1 [] := hs32.drop 0
   exact RWP.nil ⟨rfl, F1, hs33, (Mem.le.refl _), rfl, (congrArg Value.bool (and_t hb29 (rfl))), rfl⟩
  ·refine Sk [20, 21, 22] 2 true 19 hb29 ?_
   refine V 23 4 (p0 19 (.tmp 22) (.const (.bool false)) (.bool false) hb29) ?_
   refine V 24 30 (mv 9 (vi r10.2)) ?_
   refine V 6 4 (ma 23 (.bool false)) ?_
   refine V 7 30 (ma 24 (vi r10.2)) ?_
   have hs34 : HS w0 F0 w21 F1 [(sb b7 (kRef x2) 27), (sb b4 (kRef x1) 27), (sb b1 (kSystem x0 a0_0 n0_0 a0_1 n0_1) 25)] := hs22.drop 0
   have hs35 : HS w0 F0 w21 F1 [(sb b4 (kRef x1) 27), (sb b1 (kSystem x0 a0_0 n0_0 a0_1 n0_1) 25)] := hs34.drop 0
   have hs36 : HS w0 F0 w21 F1 [(sb b1 (kSystem x0 a0_0 n0_0 a0_1 n0_1) 25)] := hs35.drop 0
   have hs37 : HS w0 F0 w21 F1 [] := hs36.drop 0
   exact RWP.nil ⟨rfl, F1, hs37, (Mem.le.refl _), rfl, (congrArg Value.bool (and_f hb29 (rfl))), rfl⟩
 ·rintro f w23 ⟨F2, hs24, le25, e26, e27, e28⟩
  refine thenQ_nrm ?_
  refine CWP.ret (by kernel_rfl) ?_
  have hfin := some_inj h12
  subst hfin
  exact ⟨e26, (.tuple #[(.bool ((r10.2 == 0) && (decide (r10.1.Lo > 0)))), (vi r10.2)]), res_of (l := [.tmp 6, .tmp 7]) (by kernel_rfl) (vs := [(.bool ((r10.2 == 0) && (decide (r10.1.Lo > 0)))), (vi r10.2)]) ⟨e27, ⟨e28, trivial⟩⟩, (.tuple #[(.bool ((r10.2 == 0) && (decide (r10.1.Lo > 0)))), (vi r10.2)]), F2, rfl, hs24.clear, rfl⟩
end Go.Proofs.Ythbcnabeabcmlaa
namespace Go.Proofs.Ythbcnabeabcmlaa
open BF
section
variable {N : Nat} {s : System}
theorem asked_r (hN : 1000000 ≤ N) (hf : FitS N s) {l : List Ref} (hl : Fit N l.length) : ref03_asked N s l = some (ask s l) := by
  unfold ref03_asked ask
  rw [check_r hf]
  simp only [Option.bind_some]
  by_cases h : vCheck s = 0
  · rw [if_neg (by omega)]
    have e : (vCheck s != 0) = false := by simp [h]
    rw [e, cond_false]
    have h1 := hl.1
    rw [iter_check' (n := l.length) (atB l (vHas s)) 3 (fun i hi => by
      unfold ref03_asked_L0
      rw [lt_t hi, cond_true, idx_nat hi]
      simp only [Option.bind_some, has_r hf, atB_at hi]
      rw [W64_succ (by omega)]
      cases vHas s l[i] <;> rfl) (by unfold ref03_asked_L0; rw [lt_f]; rfl) hl.2]
    rw [← all_allB]
    cases l.all (vHas s) with
    | false => rfl
    | true =>
      simp only [cond_true, Closes_eq h hf hN, Option.bind_some]
      by_cases hc : Cls s
      · simp [hc]
      · simp [hc]
  · rw [if_pos h]
    have e : (vCheck s != 0) = true := by simpa using h
    rw [e]; rfl
theorem relation_r (hN : 1000000 ≤ N) (hf : FitS N s) (h : vCheck s = 0) (hc : Cls s) {a b : Ref} (ha : Nd s a) (hb : Nd s b) : ref03_relation N s (num s a : Int) (num s b : Int) = some (relAt s a b) := by
  unfold ref03_relation
  obtain ⟨at1, by1, h1, h2⟩ := reach_ok h hf hN hc ha
  obtain ⟨at2, by2, h3, h4⟩ := reach_ok h hf hN hc hb
  rw [h1, h3]
  simp only [Option.bind_some, idx_nat', h2 b hb, h4 a ha]
  rw [W64_neg h hc hb ha]
  rfl
theorem Interval_r (hN : 1000000 ≤ N) (hf : FitS N s) (r : Ref) : ref03_Interval N s r = some (vInterval s r) := by
  unfold ref03_Interval vInterval
  rw [asked_r hN hf (l := [r]) ⟨by simp, by simp; omega⟩]
  simp only [Option.bind_some]
  by_cases h : ask s [r] = 0
  · obtain ⟨h0, hr, hc⟩ := ask_zero h
    have nr : Nd s r := .inr (hr r (by simp))
    rw [h, if_neg (by omega)]
    simp only [bne_self_eq_false, cond_false, spots_eq hN h0, Option.bind_some, of_eq h0 nr]
    have := relation_r hN hf h0 hc (nd_beg s) nr
    rw [num_beg] at this
    rw [show (0 : Int) = ((0 : Nat) : Int) from rfl, this]
    rfl
  · have e : (ask s [r] != 0) = true := by simpa using h
    rw [e, if_pos h]; rfl
theorem Relation_r (hN : 1000000 ≤ N) (hf : FitS N s) (a b : Ref) : ref03_Relation N s a b = some (vRelation s a b) := by
  unfold ref03_Relation vRelation
  rw [asked_r hN hf (l := [a, b]) ⟨by simp, by simp; omega⟩]
  simp only [Option.bind_some]
  by_cases h : ask s [a, b] = 0
  · obtain ⟨h0, hr, hc⟩ := ask_zero h
    have na : Nd s a := .inr (hr a (by simp))
    have nb : Nd s b := .inr (hr b (by simp))
    rw [h, if_neg (by omega)]
    simp only [bne_self_eq_false, cond_false, spots_eq hN h0, Option.bind_some, of_eq h0 na, of_eq h0 nb, relation_r hN hf h0 hc na nb]
  · have e : (ask s [a, b] != 0) = true := by simpa using h
    rw [e, if_pos h]; rfl
theorem May_r (hN : 1000000 ≤ N) (hf : FitS N s) (a b : Ref) : ref03_May N s a b = some (vMay s a b) := by
  unfold ref03_May; rw [Relation_r hN hf]; rfl
theorem Must_r (hN : 1000000 ≤ N) (hf : FitS N s) (a b : Ref) : ref03_Must N s a b = some (vMust s a b) := by
  unfold ref03_Must; rw [Relation_r hN hf]; rfl
theorem Before_cr (hN : 1000000 ≤ N) (hf : FitS N s) (a b : Ref) : ref03_Before N s a b = clocks_Before N s a b := by
  unfold ref03_Before clocks_Before; rw [Relation_r hN hf, Relation_c hN hf]
theorem Offset_cr (hN : 1000000 ≤ N) (hf : FitS N s) (a : Ref) : ref03_Offset N s a = clocks_Offset N s a := by
  unfold ref03_Offset clocks_Offset; rw [Interval_r hN hf, Interval_c hN hf]
theorem Before_some (hN : 1000000 ≤ N) (hf : FitS N s) (a b : Ref) : ∃ x, clocks_Before N s a b = some x := by
  unfold clocks_Before; rw [Relation_c hN hf]; exact ⟨_, rfl⟩
theorem Offset_some (hN : 1000000 ≤ N) (hf : FitS N s) (a : Ref) : ∃ x, clocks_Offset N s a = some x := by
  unfold clocks_Offset; rw [Interval_c hN hf]
  simp only [Option.bind_some, int_code]
  by_cases h : ask s [a] = 0
  · obtain ⟨_, hr, _⟩ := ask_zero h
    obtain ⟨i, t, j, rfl, ht, hj⟩ := li_has (hr a (by simp))
    rw [h]
    simp only [bne_self_eq_false, cond_false, li, idx_nat', ht, Option.bind_some, List.getElem?_eq_getElem hj]
    exact ⟨_, rfl⟩
  · have e : (ask s [a] != 0) = true := by simpa using h
    rw [e]; exact ⟨_, rfl⟩
end
end Go.Proofs.Ythbcnabeabcmlaa
namespace Go.Proofs.Ythbcnabeabcmlaa
open Go.Proofs
def slices_Clone_api_Tie_api_Tie (N : Nat) (x0 : List Tie) : Option (List Tie) := apnd [] x0
theorem co_slices_Clone_api_Tie_api_Tie : CallOk Try.prog 128 := fun _ _ => by kernel_rfl
set_option maxRecDepth 100000 in
theorem c_slices_Clone_api_Tie_api_Tie (N : Nat) (w0 : World) (F0 : Mem) (hF : ∀ b o, F0 b = some o → w0.heap[b]? = some o) (x0 : List Tie) (a0_0 : Option Addr) (n0_0 : Nat) (hb0_0 : LC x0.length n0_0) (hs0_0 : SlA tTie F0 a0_0 x0) (r : List Tie) (h : slices_Clone_api_Tie_api_Tie N x0 = some r) :
    Calls Try.prog 128 ([.slice a0_0 x0.length n0_0] : List Value).toArray w0 (FRetO w0 F0 fun F' v L' => ∃ (a : Option Addr) (n : Nat) (e : Option Nat × Obj), v = .slice a r.length n ∧ L' = [e] ∧ RowR tTie 46 F' a n r e) := by
  have hs0 := HS.start hF
  obtain ⟨hlen, hr⟩ := apnd_spec h
  refine calls_of (n := 8) (c := bodyOf Try.f128) Try.func128 (by kernel_rfl) (by kernel_rfl) (by kernel_rfl) ?_
  refine CWP.seq (by kernel_rfl) ?_
  refine CWP.region (l := [0]) (by kernel_rfl) (by kernel_rfl) (by kernel_rfl) ?_
  refine RWP.val (dst := (some 2)) (ty := 23) (g := none) (by kernel_rfl) rfl (run_assign (x := (.const (.slice none 0 0))) (v := (.slice none 0 0)) rfl) ?_
  refine RWP.nil ?_
  refine thenQ_nrm ?_
  refine CWP.seq (by kernel_rfl) ?_
  refine CWP.seq (by kernel_rfl) ?_
  refine CWP.region (l := [0, 1]) (by kernel_rfl) (by kernel_rfl) (by kernel_rfl) ?_
  refine RWP.val (dst := (some 3)) (ty := 23) (g := none) (by kernel_rfl) rfl (run_move (x := (.tmp 0)) (v := (.slice a0_0 x0.length n0_0)) rfl) ?_
  refine RWP.val (dst := (some 4)) (ty := 4) (g := none) (by kernel_rfl) rfl (run_eqnil (e := 46) (t := 23) (t' := 23) (x := (.tmp 3)) (y := (.const (.slice none 0 0))) rfl rfl (by kernel_rfl)) ?_
  refine RWP.nil ?_
  refine thenQ_nrm ?_
  refine CWP.cond (t := a0_0.isNone) (by kernel_rfl) rfl (fun hc => ?_) (fun hc => ?_)
  · have hn : a0_0 = none := by simpa using hc
    subst hn
    have hx : x0 = [] := by
      rcases hs0_0 with h | ⟨b, o, C, E, fz, ha, _⟩
      · exact h
      · cases ha
    subst hx
    simp at hr
    subst hr
    refine CWP.seq (by kernel_rfl) ?_
    refine CWP.region (l := [0]) (by kernel_rfl) (by kernel_rfl) (by kernel_rfl) ?_
    refine RWP.val (dst := (some 2)) (ty := 23) (g := none) (by kernel_rfl) rfl (run_assign (x := (.const (.slice none 0 0))) (v := (.slice none 0 0)) rfl) ?_
    refine RWP.nil ?_
    refine thenQ_nrm ?_
    refine CWP.ret (by kernel_rfl) ?_
    refine thenQ_ret ?_
    exact ⟨rfl, (.slice none 0 0), res_of (l := [.tmp 2]) (by kernel_rfl) (vs := [(.slice none 0 0)]) ⟨rfl, trivial⟩, (.slice none 0 0), F0, _, rfl, hs0.dummy (oc #[] 0), none, 0, _, rfl, rfl, RowR.nil _ _ _ _⟩
  · refine CWP.skip (by kernel_rfl) ?_
    refine thenQ_nrm ?_
    refine CWP.seq (by kernel_rfl) ?_
    refine CWP.region (l := [0, 1, 2, 3]) (by kernel_rfl) (by kernel_rfl) (by kernel_rfl) ?_
    refine RWP.buildSlice (dst := (some 5)) (ty := 23) (g := none) (by kernel_rfl) rfl (t := 23) (len := 0) (parts := #[]) (vs := []) rfl (E := 46) (cs := []) (by kernel_rfl) hs0 (fun b w1 (hs1 : HS w0 F0 w1 F0 [(some b, .cells ([] : List Value).toArray 46 (0, 0))]) => ?_)
    have hr1 : RowR tTie 46 F0 (some ⟨b, 0, none⟩) 0 [] (some b, .cells ([] : List Value).toArray 46 (0, 0)) := RowR.lit rfl (by simp)
    refine RWP.val (dst := (some 6)) (ty := 23) (g := none) (by kernel_rfl) rfl (run_move (x := (.tmp 0)) (v := (.slice a0_0 x0.length n0_0)) rfl) ?_
    refine RWP.append (dst := (some 7)) (ty := 23) (g := none) (by kernel_rfl) rfl (x := (.tmp 5)) (y := (.tmp 6)) (t := 23) (t2 := 23) (by_ := 32) (z := (.agg #[(vi 0), (vi 0), (vi 0), (vi 0)])) (a2 := a0_0) (c2 := n0_0) (m := x0) (T := tTie) (E := 46) (a := (some ⟨b, 0, none⟩)) (cap := 0) (l := []) rfl rfl (by kernel_rfl) (by decide) (by kernel_rfl) (by kernel_rfl) rfl oTie hs1 (k := 0) rfl hr1 (SlA.rd hs1 hs0_0) (r := r) h (fun a2 n2 e2 w2 (hs2 : HS w0 F0 w2 F0 [e2]) hr2 => ?_)
    refine RWP.val (dst := (some 2)) (ty := 23) (g := none) (by kernel_rfl) rfl (run_assign (x := (.tmp 7)) (v := (.slice a2 r.length n2)) rfl) ?_
    refine RWP.nil ?_
    refine thenQ_nrm ?_
    refine CWP.ret (by kernel_rfl) ?_
    exact ⟨rfl, (.slice a2 r.length n2), res_of (l := [.tmp 2]) (by kernel_rfl) (vs := [(.slice a2 r.length n2)]) ⟨rfl, trivial⟩, (.slice a2 r.length n2), F0, _, rfl, hs2, a2, n2, e2, rfl, rfl, hr2⟩
end Go.Proofs.Ythbcnabeabcmlaa
namespace Go.Proofs.Ythbcnabeabcmlaa
open Go.Proofs
def clocks_added_1_L0 {σ : Type} (N : Nat) (y : (σ → (Bool × (List Bound)) → Option (Bool × σ))) (z0 : System) (z1 : (List Tie)) (s : σ) (r1 : (List Tie)) : (Int × List Tie × σ) → Option (Flow σ (Int × List Tie × σ)) := fun s20 =>
 (bif (decide (s20.1 < (z1.length : Int))) then ((idx z1 s20.1).bind fun x47 => ((apnd s20.2.1 [x47]).bind fun r71 => ((clocks_loopOf N ({ Tracks := z0.Tracks, Ties := r71, Window := z0.Window } : System)).bind fun r82 => ((y s20.2.2 ((r82.isEmpty), r82)).bind fun q93 => (bif (!q93.1) then some (.ret q93.2) else ((bif (!r82.isEmpty) then ((sub r71 0 (W64 ((r71.length : Int) - 1))).bind fun r123 => some r123) else some r71).bind fun j112 => some (.next ((W64 (s20.1 + 1)), j112, q93.2)))))))) else some (.done (s20.1, s20.2.1, s20.2.2)))
def clocks_added_1 {σ : Type} (N : Nat) (y : σ → (Bool × (List Bound)) → Option (Bool × σ)) (z0 : System) (z1 : (List Tie)) (s : σ) : Option σ :=
 ((slices_Clone_api_Tie_api_Tie N z0.Ties).bind fun r1 => ((iter (clocks_added_1_L0 N y z0 z1 s r1) N (0, r1, s)).bind fun o => o.k (fun r => some r) (fun s32 => some s32.2.2)))
theorem co_clocks_added_1 : CallOk Try.prog 127 := fun _ _ => by kernel_rfl
set_option maxHeartbeats 4000000 in
set_option maxRecDepth 100000 in
theorem c_clocks_added_1 (N : Nat) (F0 : Mem) (z0 : System) (az0_0 : Option Addr) (nz0_0 : Nat) (hbz0_0 : LC z0.Tracks.length nz0_0) (hsz0_0 : SlA tTrack F0 az0_0 z0.Tracks) (az0_1 : Option Addr) (nz0_1 : Nat) (hbz0_1 : LC z0.Ties.length nz0_1) (hsz0_1 : SlA tTie F0 az0_1 z0.Ties) (bz0 : Nat) (z1 : (List Tie)) (az1_0 : Option Addr) (nz1_0 : Nat) (hbz1_0 : LC z1.length nz1_0) (hsz1_0 : SlA tTie F0 az1_0 z1) (bz1 : Nat) (hz1 : F0 bz1 = some (oc #[(.slice az1_0 z1.length nz1_0)] 23)) :
  SeqOk Try.prog 127 [(.pointer (some ⟨bz0, 0, none⟩)), (.pointer (some ⟨bz1, 0, none⟩))] F0 [(sb bz0 (kSystem z0 az0_0 nz0_0 az0_1 nz0_1) 25)] enc155 ok155 px155 (fun {_} y s => clocks_added_1 N y z0 z1 s) := by
 intro σ wb w0 Fb F1 l y J s r Lf le01 hJm hs0 hJ hY h
 have hs0 : HS wb Fb w0 F1 ((sb bz0 (kSystem z0 az0_0 nz0_0 az0_1 nz0_1) 25) :: Lf) := hs0
 refine calls_of (n := 42) (c := bodyOf Try.f127) Try.func127 (by kernel_rfl) (by kernel_rfl) (by kernel_rfl) ?_
 refine Sq (Rg [0, 1, 2, 3, 4] ?_)
 refine V 7 0 (fa 25 1 1 1 1 bz0 0 1) ?_
 refine V 8 23 (ld 23 7 bz0 1 false 1 (.slice az0_1 z0.Ties.length nz0_1) (hs0.ownAt (k := 0) rfl)) ?_
 obtain ⟨r1, hr2, h3⟩ := bind_some h
 refine RWP.callO (dst := (some 9)) (ty := 23) (g := none) (by kernel_rfl) rfl (f0 := (.func 128)) (aos := #[(.tmp 8)]) (ats := #[23]) (fid := 128) (first := #[]) (cap := #[]) (args := [(.slice az0_1 z0.Ties.length nz0_1)]) rfl co_slices_Clone_api_Tie_api_Tie (rfl) hs0 (c_slices_Clone_api_Tie_api_Tie N w0 F1 hs0.pers (z0.Ties) az0_1 nz0_1 hbz0_1 (SlA.mono hsz0_1 le01) _ hr2) ?_
 rintro _ F2 w5 _ hs6 le7 ⟨a9, n10, e11, rfl, rfl, hr12⟩
 have hs14 : HS wb Fb w5 F2 (e11 :: (sb bz0 (kSystem z0 az0_0 nz0_0 az0_1 nz0_1) 25) :: Lf) := hs6
 refine V 10 0 (fa 25 1 1 1 1 bz0 0 1) ?_
 refine RWP.store (ty := 0) (g := none) (by kernel_rfl) rfl (x := (.tmp 10)) (y := (.tmp 9)) (t := 23) (gg := false) (s := 1) (v := (.slice a9 r1.length n10)) (b := bz0) (o := 1) (C := (kSystem z0 az0_0 nz0_0 az0_1 nz0_1)) rfl rfl (by kernel_rfl) hs14 (k := 1) rfl rfl rfl rfl (C' := #[(.slice az0_0 z0.Tracks.length nz0_0), (.slice a9 r1.length n10), (vi z0.Window)]) rfl (fun w15 (hs16 : HS wb Fb w15 F2 (e11 :: (sb bz0 #[(.slice az0_0 z0.Tracks.length nz0_0), (.slice a9 r1.length n10), (vi z0.Window)] 25) :: Lf)) => ?_)
 refine Nss (Rg [0, 1, 2] ?_)
 refine V 11 23 (ld 23 2 bz1 0 false 1 (.slice az1_0 z1.length nz1_0) (hs16.pers _ _ ((le01.trans le7) _ _ hz1))) ?_
 refine V 12 3 (ln 11 23 az1_0 z1.length nz1_0 46 4 32) ?_
 refine V 13 3 (run_move (x := (.const (vi 0))) (v := (vi 0)) rfl) ?_
 refine Nt ?_
 obtain ⟨o17, ho18, h19⟩ := bind_some h3
 refine CWP.cut (fun f w => ∃ (s32 : (Int × List Tie × σ)) (F4 : Mem) (Lf36 : Own), o17 = .done s32 ∧ HS wb Fb w F4 Lf36 ∧ Mem.le F2 F4 ∧ f.d = [] ∧ J s32.2.2 F4 Lf36) ?_ ?_
 ·refine Bk ?_
  refine CWP.loop (by kernel_rfl) (fun m f w => ∃ (s20 : (Int × List Tie × σ)) (F3 : Mem) (as20_1 : Option Addr) (ns20_1 : Nat) (es20_1 : Option Nat × Obj) (Lf24 : Own), iter (clocks_added_1_L0 N y z0 z1 s r1) m s20 = some o17 ∧ HS wb Fb w F3 (es20_1 :: (sb bz0 #[(.slice az0_0 z0.Tracks.length nz0_0), (.slice as20_1 s20.2.1.length ns20_1), (vi z0.Window)] 25) :: Lf24) ∧ Mem.le F2 F3 ∧ f.d = [] ∧ f 0 = (.func (.yield l) #[] #[]) ∧ f 1 = (.pointer (some ⟨bz0, 0, none⟩)) ∧ f 11 = (.slice az1_0 z1.length nz1_0) ∧ f 12 = (vi (z1.length : Int)) ∧ f 13 = (vi s20.1) ∧ RowR tTie 46 F3 as20_1 ns20_1 s20.2.1 es20_1 ∧ J s20.2.2 F3 Lf24) N ⟨(0, r1, s), F2, a9, n10, e11, Lf, ho18, hs16, (Mem.le.refl _), rfl, rfl, rfl, rfl, rfl, rfl, hr12, (hJm _ _ _ _ hJ le7)⟩ ?_
  rintro m39 f w21 ⟨s20, F3, as20_1, ns20_1, es20_1, Lf24, hit40, hs22, le23, e26, e27, e28, e29, e30, e31, hrs20_1, hJ25⟩
  obtain ⟨m41, fl42, rfl, hb43, hnx44⟩ := iter_step hit40
  refine Sq (Rg [0] ?_)
  refine V 14 0 (run_lss (t := 3) (t' := 3) (x := (.tmp 13)) (y := (.tmp 12)) (k := .i64) (a := s20.1) (b := (z1.length : Int)) e31 e30) ?_
  refine Nss ?_
  refine CWP.cond (t := (decide (s20.1 < (z1.length : Int)))) (by kernel_rfl) rfl (fun hb45 => ?_) (fun hb45 => ?_)
  ·have h46 := cond_t hb43 hb45
   refine Sc ?_
   refine thenQ_nrm ?_
   refine Sq ?_
   refine Bk ?_
   refine Sq (Rg [0, 1, 2, 3] ?_)
   obtain ⟨x47, hx48, h50⟩ := bind_some h46
   obtain ⟨hi49, hx48'⟩ := idx_spec hx48
   obtain ⟨b51, o52, C53, E54, fz55, rfl, hF57, hE58⟩ := SlA.open (SlA.mono hsz1_0 ((le01.trans le7).trans le23)) hx48'
   have hc60 := hE58 _ _ hx48'
   refine V 15 0 (run_index (t := 23) (x := (.tmp 11)) (y := (.tmp 13)) (b := b51) (o := o52) (E := 46) (s := 4) (by_ := 32) e29 e31 (by kernel_rfl) hi49) ?_
   refine V 16 46 (lx 46 15 0 4 true 4 (.agg (kTie x47)) (hs22.pers _ _ hF57) hc60) ?_
   refine Al 5 0 46 #[(vi 0), (vi 0), (vi 0), (vi 0)] hs22 (fun b61 w62 (hs63 : HS wb Fb w62 F3 ((sb b61 #[(vi 0), (vi 0), (vi 0), (vi 0)] 46) :: es20_1 :: (sb bz0 #[(.slice az0_0 z0.Tracks.length nz0_0), (.slice as20_1 s20.2.1.length ns20_1), (vi z0.Window)] 25) :: Lf24)) => ?_)
   refine RWP.store (ty := 0) (g := none) (by kernel_rfl) rfl (x := (.tmp 5)) (y := (.tmp 16)) (t := 46) (gg := true) (s := 4) (v := (.agg (kTie x47))) (b := b61) (o := 0) (C := #[(vi 0), (vi 0), (vi 0), (vi 0)]) rfl rfl (by kernel_rfl) hs63 (k := 0) rfl rfl rfl rfl (C' := (kTie x47)) rfl (fun w64 (hs65 : HS wb Fb w64 F3 ((sb b61 (kTie x47) 46) :: es20_1 :: (sb bz0 #[(.slice az0_0 z0.Tracks.length nz0_0), (.slice as20_1 s20.2.1.length ns20_1), (vi z0.Window)] 25) :: Lf24)) => ?_)
   refine Nss (Rg [0, 1, 2, 3, 4, 5, 6] ?_)
   refine V 17 0 (fa 25 1 1 1 1 bz0 0 1 e28) ?_
   refine V 18 23 (ld 23 17 bz0 1 false 1 (.slice as20_1 s20.2.1.length ns20_1) (hs65.ownAt (k := 2) rfl)) ?_
   refine V 19 46 (ld 46 5 b61 0 true 4 (.agg (kTie x47)) (hs65.ownAt (k := 0) rfl)) ?_
   refine RWP.buildSlice (dst := (some 20)) (ty := 23) (g := none) (by kernel_rfl) rfl (t := 23) (len := 1) (parts := #[(0, (.tmp 19))]) (vs := [(0, (.agg (kTie x47)))]) (rfl) (E := 46) (cs := [(vi x47.A.Log), (vi x47.A.Line), (vi x47.B.Log), (vi x47.B.Line)]) (by kernel_rfl) hs65 (fun b66 w67 (hs68 : HS wb Fb w67 F3 ((some b66, .cells ([(vi x47.A.Log), (vi x47.A.Line), (vi x47.B.Log), (vi x47.B.Line)] : List Value).toArray 46 (0, 0)) :: (sb b61 (kTie x47) 46) :: es20_1 :: (sb bz0 #[(.slice az0_0 z0.Tracks.length nz0_0), (.slice as20_1 s20.2.1.length ns20_1), (vi z0.Window)] 25) :: Lf24)) => ?_)
   have hr70 : RowR tTie 46 F3 (some ⟨b66, 0, none⟩) 1 [x47] (some b66, .cells ([(vi x47.A.Log), (vi x47.A.Line), (vi x47.B.Log), (vi x47.B.Line)] : List Value).toArray 46 (0, 0)) := RowR.lit ⟨rfl, rfl⟩ (by simp)
   obtain ⟨r71, hap72, h73⟩ := bind_some h50
   refine RWP.append (dst := (some 21)) (ty := 23) (g := none) (by kernel_rfl) rfl (x := (.tmp 18)) (y := (.tmp 20)) (t := 23) (t2 := 23) (by_ := 32) (z := (.agg #[(vi 0), (vi 0), (vi 0), (vi 0)])) (a2 := (some ⟨b66, 0, none⟩)) (c2 := 1) (m := [x47]) (T := tTie) (E := 46) (a := as20_1) (cap := ns20_1) (l := s20.2.1) rfl rfl (by kernel_rfl) (by decide) (by kernel_rfl) (by kernel_rfl) rfl oTie hs68 (k := 2) rfl hrs20_1 (RowR.rd hs68 (k := 0) rfl hr70) (r := r71) hap72 (fun a74 n75 e76 w77 (hs78 : HS wb Fb w77 F3 ((some b66, .cells ([(vi x47.A.Log), (vi x47.A.Line), (vi x47.B.Log), (vi x47.B.Line)] : List Value).toArray 46 (0, 0)) :: (sb b61 (kTie x47) 46) :: e76 :: (sb bz0 #[(.slice az0_0 z0.Tracks.length nz0_0), (.slice as20_1 s20.2.1.length ns20_1), (vi z0.Window)] 25) :: Lf24)) hr79 => ?_)
   refine V 22 0 (fa 25 1 1 1 1 bz0 0 1 e28) ?_
   refine RWP.store (ty := 0) (g := none) (by kernel_rfl) rfl (x := (.tmp 22)) (y := (.tmp 21)) (t := 23) (gg := false) (s := 1) (v := (.slice a74 r71.length n75)) (b := bz0) (o := 1) (C := #[(.slice az0_0 z0.Tracks.length nz0_0), (.slice as20_1 s20.2.1.length ns20_1), (vi z0.Window)]) rfl rfl (by kernel_rfl) hs78 (k := 3) rfl rfl rfl rfl (C' := #[(.slice az0_0 z0.Tracks.length nz0_0), (.slice a74 r71.length n75), (vi z0.Window)]) rfl (fun w80 (hs81 : HS wb Fb w80 F3 ((some b66, .cells ([(vi x47.A.Log), (vi x47.A.Line), (vi x47.B.Log), (vi x47.B.Line)] : List Value).toArray 46 (0, 0)) :: (sb b61 (kTie x47) 46) :: e76 :: (sb bz0 #[(.slice az0_0 z0.Tracks.length nz0_0), (.slice a74 r71.length n75), (vi z0.Window)] 25) :: Lf24)) => ?_)
   refine Nss (Rg [0, 1, 2] ?_)
   refine V 23 25 (ld 25 1 bz0 0 true 3 (.agg #[(.slice az0_0 z0.Tracks.length nz0_0), (.slice a74 r71.length n75), (vi z0.Window)]) (hs81.ownAt (k := 3) rfl) e28) ?_
   obtain ⟨r82, hr83, h84⟩ := bind_some h73
   refine RWP.callLent (q := 2) (T := tBound) (r := r82) (dst := (some 24)) (ty := 57) (g := none) (by kernel_rfl) rfl (f0 := (.func 103)) (aos := #[(.tmp 23)]) (ats := #[25]) (fid := 103) (first := #[]) (cap := #[]) (args := [(.agg #[(.slice az0_0 z0.Tracks.length nz0_0), (.slice a74 r71.length n75), (vi z0.Window)])]) rfl co_clocks_loopOf (rfl) hs81 rfl (fun _ _ _ _ h => h) (c_clocks_loopOf N w80 (addF F3 e76) (HS.lend hs81 (q := 2) rfl).2 ({ Tracks := z0.Tracks, Ties := r71, Window := z0.Window } : System) az0_0 nz0_0 hbz0_0 (SlA.mono (SlA.mono hsz0_0 ((le01.trans le7).trans le23)) (HS.lend hs81 (q := 2) rfl).1) a74 n75 (RowR.bound hr79) (RowR.freeze hr79 (HS.lend hs81 (q := 2) rfl).1) _ hr83) (fun a85 n86 F5 w87 (hs88 : HS wb Fb w87 F5 ((some b66, .cells ([(vi x47.A.Log), (vi x47.A.Line), (vi x47.B.Log), (vi x47.B.Line)] : List Value).toArray 46 (0, 0)) :: (sb b61 (kTie x47) 46) :: e76 :: (sb bz0 #[(.slice az0_0 z0.Tracks.length nz0_0), (.slice a74 r71.length n75), (vi z0.Window)] 25) :: Lf24)) le89 hb90 hl91 nf92 => ?_)
   refine V 6 57 (ma 24 (.slice a85 r82.length n86)) ?_
   refine Nss ?_
   refine Sq (Rg [0, 1, 2, 3, 4, 5] ?_)
   refine V 25 155 (mv 0 (.func (.yield l) #[] #[]) e27) ?_
   refine V 26 57 (mv 6 (.slice a85 r82.length n86)) ?_
   refine V 27 4 (run_eqnil' (e := 103) (t := 57) (t' := 57) (x := (.tmp 26)) (y := (.const (.slice none 0 0))) hl91 nf92 rfl rfl (by kernel_rfl)) ?_
   refine V 28 57 (mv 6 (.slice a85 r82.length n86)) ?_
   obtain ⟨q93, hq94, h95⟩ := bind_some h84
   refine RWP.yield (dst := (some 29)) (ty := 4) (g := none) (by kernel_rfl) rfl (f0 := (.tmp 25)) (aos := #[(.tmp 27), (.tmp 28)]) (ats := #[4, 57]) (l := l) (args := [(.bool (r82.isEmpty)), (.slice a85 r82.length n86)]) rfl (rfl) (hY s20.2.2 ((r82.isEmpty), r82, a85, n86) w87 F5 [(some b66, .cells ([(vi x47.A.Log), (vi x47.A.Line), (vi x47.B.Log), (vi x47.B.Line)] : List Value).toArray 46 (0, 0)), (sb b61 (kTie x47) 46), e76, (sb bz0 #[(.slice az0_0 z0.Tracks.length nz0_0), (.slice a74 r71.length n75), (vi z0.Window)] 25)] Lf24 q93 ((le7.trans le23).trans le89) ⟨hb90, hl91⟩ (hJm _ _ _ _ hJ25 le89) hs88 hq94) ?_
   rintro _ w96 ⟨F6, Lf100, rfl, hs97, le98, hJ99⟩
   have hs101 : HS wb Fb w96 F6 ((some b66, .cells ([(vi x47.A.Log), (vi x47.A.Line), (vi x47.B.Log), (vi x47.B.Line)] : List Value).toArray 46 (0, 0)) :: (sb b61 (kTie x47) 46) :: e76 :: (sb bz0 #[(.slice az0_0 z0.Tracks.length nz0_0), (.slice a74 r71.length n75), (vi z0.Window)] 25) :: Lf100) := hs97
   refine ⟨_, rfl, ?_⟩
   refine V 30 4 (run_not (t := 4) (x := (.tmp 29)) (a := q93.1) rfl) ?_
   refine Nt ?_
   refine CWP.cond (t := (!q93.1)) (by kernel_rfl) rfl (fun hb102 => ?_) (fun hb102 => ?_)
   ·have h103 := cond_t h95 hb102
    refine CWP.ret (by kernel_rfl) ?_
    refine thenQ_ret ?_
    refine blockQ_ret ?_
    refine thenQ_ret ?_
    refine thenQ_ret ?_
    refine blockQ_ret ?_
    have hret := iter_ret h103 hnx44
    subst hret
    refine .inr ?_
    have hs104 : HS wb Fb w96 F6 ((sb b61 (kTie x47) 46) :: e76 :: (sb bz0 #[(.slice az0_0 z0.Tracks.length nz0_0), (.slice a74 r71.length n75), (vi z0.Window)] 25) :: Lf100) := hs101.drop 0
    have hs105 : HS wb Fb w96 F6 (e76 :: (sb bz0 #[(.slice az0_0 z0.Tracks.length nz0_0), (.slice a74 r71.length n75), (vi z0.Window)] 25) :: Lf100) := hs104.drop 0
    have hs106 : HS wb Fb w96 F6 ((sb bz0 #[(.slice az0_0 z0.Tracks.length nz0_0), (.slice a74 r71.length n75), (vi z0.Window)] 25) :: Lf100) := hs105.drop 0
    have hs107 : HS wb Fb w96 F6 Lf100 := hs106.drop 0
    have hfin := some_inj h19
    subst hfin
    exact ⟨e26, .tuple #[], res_of (l := []) (by kernel_rfl) (vs := []) trivial, F6, Lf100, rfl, hs107, (((le7.trans le23).trans le89).trans le98), hJ99⟩
   ·have h108 := cond_f h95 hb102
    refine Sc ?_
    refine thenQ_nrm ?_
    refine Sq (Rg [0, 1] ?_)
    refine V 31 57 (mv 6 (.slice a85 r82.length n86)) ?_
    refine V 32 4 (run_nenil' (e := 103) (t := 57) (t' := 57) (x := (.tmp 31)) (y := (.const (.slice none 0 0))) (SlA.mono hl91 le98) nf92 rfl rfl (by kernel_rfl)) ?_
    refine Nt ?_
    obtain ⟨j112, hj119, h120⟩ := bind_some h108
    refine CWP.cut (fun f w => ∃ (F7 : Mem) (aj112_0 : Option Addr) (nj112_0 : Nat) (ej112_0 : Option Nat × Obj), HS wb Fb w F7 (ej112_0 :: (sb bz0 #[(.slice az0_0 z0.Tracks.length nz0_0), (.slice aj112_0 j112.length nj112_0), (vi z0.Window)] 25) :: Lf100) ∧ Mem.le F6 F7 ∧ f.d = [] ∧ f 0 = (.func (.yield l) #[] #[]) ∧ f 1 = (.pointer (some ⟨bz0, 0, none⟩)) ∧ f 11 = (.slice (some ⟨b51, o52, none⟩) z1.length nz1_0) ∧ f 12 = (vi (z1.length : Int)) ∧ f 13 = (vi s20.1) ∧ RowR tTie 46 F7 aj112_0 nj112_0 j112 ej112_0) ?_ ?_
    ·refine CWP.cond (t := (!r82.isEmpty)) (by kernel_rfl) rfl (fun hb121 => ?_) (fun hb121 => ?_)
     ·have h122 := cond_t hj119 hb121
      refine Rg [0, 1, 2, 3, 4, 5, 6, 7, 8] ?_
      refine V 33 0 (fa 25 1 1 1 1 bz0 0 1 e28) ?_
      refine V 34 23 (ld 23 33 bz0 1 false 1 (.slice a74 r71.length n75) (hs101.ownAt (k := 3) rfl)) ?_
      refine V 35 0 (fa 25 1 1 1 1 bz0 0 1 e28) ?_
      refine V 36 23 (ld 23 35 bz0 1 false 1 (.slice a74 r71.length n75) (hs101.ownAt (k := 3) rfl)) ?_
      refine V 37 3 (ln 36 23 a74 r71.length n75 46 4 32) ?_
      refine V 38 3 (run_sub (t := 3) (t' := 3) (x := (.tmp 37)) (y := (.const (vi 1))) (k := .i64) (a := (r71.length : Int)) (b := 1) rfl rfl) ?_
      obtain ⟨r123, hr124, h125⟩ := bind_some h122
      refine RWP.sliceRow (T := tTie) (x := (.tmp 34)) (y := (.tmp 38)) (t := 23) (E := 46) (by_ := 32) (c := n75) (a := a74) (l := r71) (r := r123) (ih := (W64 ((r71.length : Int) - 1))) (dst := (some 39)) (ty := 23) (g := none) (by kernel_rfl) rfl rfl (by kernel_rfl) (by kernel_rfl) (hr79.mono (le89.trans le98)) rfl hr124 (fun hr126 => ?_)
      refine V 40 0 (fa 25 1 1 1 1 bz0 0 1 e28) ?_
      refine RWP.store (ty := 0) (g := none) (by kernel_rfl) rfl (x := (.tmp 40)) (y := (.tmp 39)) (t := 23) (gg := false) (s := 1) (v := (.slice a74 r123.length n75)) (b := bz0) (o := 1) (C := #[(.slice az0_0 z0.Tracks.length nz0_0), (.slice a74 r71.length n75), (vi z0.Window)]) rfl rfl (by kernel_rfl) hs101 (k := 3) rfl rfl rfl rfl (C' := #[(.slice az0_0 z0.Tracks.length nz0_0), (.slice a74 r123.length n75), (vi z0.Window)]) rfl (fun w127 (hs128 : HS wb Fb w127 F6 ((some b66, .cells ([(vi x47.A.Log), (vi x47.A.Line), (vi x47.B.Log), (vi x47.B.Line)] : List Value).toArray 46 (0, 0)) :: (sb b61 (kTie x47) 46) :: e76 :: (sb bz0 #[(.slice az0_0 z0.Tracks.length nz0_0), (.slice a74 r123.length n75), (vi z0.Window)] 25) :: Lf100)) => ?_)
      refine RWP.nil ?_
      obtain rfl := some_inj h125
      have hs129 : HS wb Fb w127 F6 ((sb b61 (kTie x47) 46) :: e76 :: (sb bz0 #[(.slice az0_0 z0.Tracks.length nz0_0), (.slice a74 r123.length n75), (vi z0.Window)] 25) :: Lf100) := hs128.drop 0
      have hs130 : HS wb Fb w127 F6 (e76 :: (sb bz0 #[(.slice az0_0 z0.Tracks.length nz0_0), (.slice a74 r123.length n75), (vi z0.Window)] 25) :: Lf100) := hs129.drop 0
      exact .inl ⟨rfl, F6, a74, n75, e76, hs130, (Mem.le.refl _), e26, e27, e28, e29, e30, e31, hr126⟩
     ·have h131 := cond_f hj119 hb121
      refine Sc ?_
      obtain rfl := some_inj h131
      have hs132 : HS wb Fb w96 F6 ((sb b61 (kTie x47) 46) :: e76 :: (sb bz0 #[(.slice az0_0 z0.Tracks.length nz0_0), (.slice a74 r71.length n75), (vi z0.Window)] 25) :: Lf100) := hs101.drop 0
      have hs133 : HS wb Fb w96 F6 (e76 :: (sb bz0 #[(.slice az0_0 z0.Tracks.length nz0_0), (.slice a74 r71.length n75), (vi z0.Window)] 25) :: Lf100) := hs132.drop 0
      exact .inl ⟨rfl, F6, a74, n75, e76, hs133, (Mem.le.refl _), e26, e27, e28, e29, e30, e31, (hr79.mono (le89.trans le98))⟩
    ·rintro f w109 ⟨F7, aj112_0, nj112_0, ej112_0, hs110, le111, e113, e114, e115, e116, e117, e118, hrj112_0⟩
     refine blockQ_nrm ?_
     refine thenQ_nrm ?_
     refine Rg [0, 1] ?_
     refine V 41 3 (run_add (t := 3) (t' := 3) (x := (.tmp 13)) (y := (.const (vi 1))) (k := .i64) (a := s20.1) (b := 1) e118 rfl) ?_
     refine V 13 3 (mv 41 (vi (W64 (s20.1 + 1)))) ?_
     refine RWP.nil ?_
     have hn134 := iter_next h120 hnx44
     exact ⟨m41, Nat.lt_succ_self _, ((W64 (s20.1 + 1)), j112, q93.2), F7, aj112_0, nj112_0, ej112_0, Lf100, hn134, hs110, (((le23.trans le89).trans le98).trans le111), e113, e114, e115, e116, e117, rfl, hrj112_0, (hJm _ _ _ _ hJ99 le111)⟩
  ·have h135 := cond_f hb43 hb45
   refine CWP.exit (by kernel_rfl) ?_
   refine thenQ_ex ?_
   refine thenQ_ex ?_
   refine blockQ_hit rfl ?_
   have hs136 : HS wb Fb w21 F3 ((sb bz0 #[(.slice az0_0 z0.Tracks.length nz0_0), (.slice as20_1 s20.2.1.length ns20_1), (vi z0.Window)] 25) :: Lf24) := hs22.drop 0
   have hs137 : HS wb Fb w21 F3 Lf24 := hs136.drop 0
   have ho138 := iter_done h135 hnx44
   exact .inl ⟨rfl, (s20.1, s20.2.1, s20.2.2), F3, Lf24, ho138, hs137, le23, e26, hJ25⟩
 ·rintro f w33 ⟨s32, F4, Lf36, rfl, hs34, le35, e38, hJ37⟩
  have h139 := k_done h19
  have hfin := some_inj h139
  subst hfin
  exact ⟨e38, .tuple #[], res_of (l := []) (by kernel_rfl) (vs := []) trivial, F4, Lf36, rfl, hs34, (le7.trans le35), hJ37⟩
end Go.Proofs.Ythbcnabeabcmlaa
namespace Go.Proofs.Ythbcnabeabcmlaa
open Go.Proofs
def clocks_offered_1 (N : Nat) (x0 : Tie) (z0 : System) : Option Bool :=
 (((clocks_has N z0 x0.A).bind fun r12 => (bif (!r12) then some true else ((clocks_has N z0 x0.B).bind fun r24 => some (!r24)))).bind fun j7 => some j7)
theorem co_clocks_offered_1 : CallOk Try.prog 125 := fun _ _ => by kernel_rfl
set_option maxHeartbeats 4000000 in
set_option maxRecDepth 100000 in
theorem c_clocks_offered_1 (N : Nat) (w0 : World) (F0 : Mem) (hF : ∀ b o, F0 b = some o → w0.heap[b]? = some o) (x0 : Tie) (bz0 : Nat) (z0 : System) (az0_0 : Option Addr) (nz0_0 : Nat) (hbz0_0 : LC z0.Tracks.length nz0_0) (hsz0_0 : SlA tTrack F0 az0_0 z0.Tracks) (az0_1 : Option Addr) (nz0_1 : Nat) (hbz0_1 : LC z0.Ties.length nz0_1) (hsz0_1 : SlA tTie F0 az0_1 z0.Ties) (hz0 : F0 bz0 = some (oc (kSystem z0 az0_0 nz0_0 az0_1 nz0_1) 25)) (r : Bool) (h : clocks_offered_1 N x0 z0 = some r) :
  Calls Try.prog 125 ([(.agg (kTie x0)), (.pointer (some ⟨bz0, 0, none⟩))] : List Value).toArray w0 (FRet w0 F0 fun F' v => v = (.bool r)) := by
 have hs0 := HS.start hF
 refine calls_of (n := 16) (c := bodyOf Try.f125) Try.func125 (by kernel_rfl) (by kernel_rfl) (by kernel_rfl) ?_
 refine Sq (Rg [0, 1] ?_)
 refine Bx 2 0 0 46 (kTie x0) hs0 (fun b1 w2 (hs3 : HS w0 F0 w2 F0 [(sb b1 (kTie x0) 46)]) => ?_)
 refine V 3 4 (mc (.bool false) (.bool false)) ?_
 refine Nss (Rg [0, 1, 2, 3, 4, 5, 6, 7, 8, 9, 10, 11, 12] ?_)
 obtain ⟨j7, hj10, h11⟩ := bind_some h
 refine RWP.cut (fun f w => ∃ (F1 : Mem), HS w0 F0 w F1 [] ∧ Mem.le F0 F1 ∧ f.d = [] ∧ f 3 = (.bool j7)) ?_ ?_
 ·refine V 4 25 (ld 25 1 bz0 0 true 3 (.agg (kSystem z0 az0_0 nz0_0 az0_1 nz0_1)) (hs3.pers _ _ hz0)) ?_
  refine V 5 0 (fa 46 2 0 0 2 b1 0 0) ?_
  refine V 6 27 (ld 27 5 b1 0 true 2 (.agg (kRef x0.A)) (hs3.ownAt (k := 0) rfl)) ?_
  obtain ⟨r12, hr13, h14⟩ := bind_some hj10
  refine Cl 7 4 107 #[(.tmp 4), (.tmp 6)] #[25, 27] co_clocks_has hs3 (c_clocks_has N w2 F0 hs3.pers (z0) az0_0 nz0_0 hbz0_0 hsz0_0 az0_1 nz0_1 hbz0_1 hsz0_1 (x0.A) _ hr13) ?_
  intro v15 F2 w16 hs17 le18 hp19
  obtain rfl := hp19
  refine V 8 4 (run_not (t := 4) (x := (.tmp 7)) (a := r12) rfl) ?_
  refine V 9 4 (mv 8 (.bool (!r12))) ?_
  refine RWP.split (!r12) (fun hb20 => ?_) (fun hb20 => ?_)
  ·have h21 := cond_t h14 hb20
   refine Sk [10, 11, 12, 13, 14] 5 false 9 hb20 ?_
   refine V 15 4 (p1 9 (.const (.bool true)) (.tmp 14) (.bool true) hb20) ?_
   refine V 3 4 (ma 15 (.bool true)) ?_
   obtain rfl := some_inj h21
   have hs22 : HS w0 F0 w16 F2 [] := hs17.drop 0
   exact RWP.nil ⟨rfl, F2, hs22, le18, rfl, rfl⟩
  ·have h23 := cond_f h14 hb20
   refine Vg 10 25 5 false 9 hb20 (ld 25 1 bz0 0 true 3 (.agg (kSystem z0 az0_0 nz0_0 az0_1 nz0_1)) (hs17.pers _ _ (le18 _ _ hz0))) ?_
   refine Vg 11 0 5 false 9 hb20 (fa 46 2 1 2 2 b1 0 2) ?_
   refine Vg 12 27 5 false 9 hb20 (ld 27 11 b1 2 true 2 (.agg (kRef x0.B)) (hs17.ownAt (k := 0) rfl)) ?_
   obtain ⟨r24, hr25, h26⟩ := bind_some h23
   refine RWP.call (dst := (some 13)) (ty := 4) (g := (some (5, false))) (by kernel_rfl) (gd_y (d := 9) (by kernel_rfl) rfl hb20) (f0 := (.func 107)) (aos := #[(.tmp 10), (.tmp 12)]) (ats := #[25, 27]) (fid := 107) (first := #[]) (cap := #[]) (args := [(.agg (kSystem z0 az0_0 nz0_0 az0_1 nz0_1)), (.agg (kRef x0.B))]) rfl co_clocks_has (rfl) hs17 (c_clocks_has N w16 F2 hs17.pers (z0) az0_0 nz0_0 hbz0_0 (SlA.mono hsz0_0 le18) az0_1 nz0_1 hbz0_1 (SlA.mono hsz0_1 le18) (x0.B) _ hr25) ?_
   intro v27 F3 w28 hs29 le30 hp31
   obtain rfl := hp31
   refine Vg 14 4 5 false 9 hb20 (run_not (t := 4) (x := (.tmp 13)) (a := r24) rfl) ?_
   refine V 15 4 (p0 9 (.const (.bool true)) (.tmp 14) (.bool (!r24)) hb20) ?_
   refine V 3 4 (ma 15 (.bool (!r24))) ?_
   obtain rfl := some_inj h26
   have hs32 : HS w0 F0 w28 F3 [] := hs29.drop 0
   exact RWP.nil ⟨rfl, F3, hs32, (le18.trans le30), rfl, rfl⟩
 ·rintro f w4 ⟨F1, hs5, le6, e8, e9⟩
  refine thenQ_nrm ?_
  refine CWP.ret (by kernel_rfl) ?_
  have hfin := some_inj h11
  subst hfin
  exact ⟨e8, (.bool j7), res_of (l := [.tmp 3]) (by kernel_rfl) (vs := [(.bool j7)]) ⟨e9, trivial⟩, (.bool j7), F1, rfl, hs5.clear, rfl⟩
end Go.Proofs.Ythbcnabeabcmlaa
namespace Go.Proofs.Ythbcnabeabcmlaa
open Go.Proofs
def clocks_offered_2 (N : Nat) (x0 : Tie) (z0 : System) : Option Bool :=
 ((clocks_tied N z0 x0).bind fun r4 => some (!r4))
theorem co_clocks_offered_2 : CallOk Try.prog 126 := fun _ _ => by kernel_rfl
set_option maxHeartbeats 4000000 in
set_option maxRecDepth 100000 in
theorem c_clocks_offered_2 (N : Nat) (w0 : World) (F0 : Mem) (hF : ∀ b o, F0 b = some o → w0.heap[b]? = some o) (x0 : Tie) (bz0 : Nat) (z0 : System) (az0_0 : Option Addr) (nz0_0 : Nat) (hbz0_0 : LC z0.Tracks.length nz0_0) (hsz0_0 : SlA tTrack F0 az0_0 z0.Tracks) (az0_1 : Option Addr) (nz0_1 : Nat) (hbz0_1 : LC z0.Ties.length nz0_1) (hsz0_1 : SlA tTie F0 az0_1 z0.Ties) (hz0 : F0 bz0 = some (oc (kSystem z0 az0_0 nz0_0 az0_1 nz0_1) 25)) (r : Bool) (h : clocks_offered_2 N x0 z0 = some r) :
  Calls Try.prog 126 ([(.agg (kTie x0)), (.pointer (some ⟨bz0, 0, none⟩))] : List Value).toArray w0 (FRet w0 F0 fun F' v => v = (.bool r)) := by
 have hs0 := HS.start hF
 refine calls_of (n := 8) (c := bodyOf Try.f126) Try.func126 (by kernel_rfl) (by kernel_rfl) (by kernel_rfl) ?_
 refine Sq (Rg [0, 1] ?_)
 refine Bx 2 0 0 46 (kTie x0) hs0 (fun b1 w2 (hs3 : HS w0 F0 w2 F0 [(sb b1 (kTie x0) 46)]) => ?_)
 refine V 3 4 (mc (.bool false) (.bool false)) ?_
 refine Nss (Rg [0, 1, 2, 3, 4] ?_)
 refine V 4 25 (ld 25 1 bz0 0 true 3 (.agg (kSystem z0 az0_0 nz0_0 az0_1 nz0_1)) (hs3.pers _ _ hz0)) ?_
 refine V 5 46 (ld 46 2 b1 0 true 4 (.agg (kTie x0)) (hs3.ownAt (k := 0) rfl)) ?_
 obtain ⟨r4, hr5, h6⟩ := bind_some h
 refine Cl 6 4 70 #[(.tmp 4), (.tmp 5)] #[25, 46] co_clocks_tied hs3 (c_clocks_tied N w2 F0 hs3.pers (z0) az0_0 nz0_0 hbz0_0 hsz0_0 az0_1 nz0_1 hbz0_1 hsz0_1 (x0) _ hr5) ?_
 intro v7 F1 w8 hs9 le10 hp11
 obtain rfl := hp11
 refine V 7 4 (run_not (t := 4) (x := (.tmp 6)) (a := r4) rfl) ?_
 refine V 3 4 (ma 7 (.bool (!r4))) ?_
 refine Nt ?_
 refine CWP.ret (by kernel_rfl) ?_
 have hfin := some_inj h6
 subst hfin
 exact ⟨rfl, (.bool (!r4)), res_of (l := [.tmp 3]) (by kernel_rfl) (vs := [(.bool (!r4))]) ⟨rfl, trivial⟩, (.bool (!r4)), F1, rfl, hs9.clear, rfl⟩
end Go.Proofs.Ythbcnabeabcmlaa
namespace Go.Proofs.Ythbcnabeabcmlaa
open Go.Proofs
def clocks_offered (N : Nat) (x0 : System) (x1 : (List Tie)) (x2 : Bool) : Option Int :=
 ((clocks_Check N x0).bind fun r4 => (bif (r4 != 0) then some r4 else ((slices_ContainsFunc_api_Tie_api_Tie N x1 (fun y0 => clocks_offered_1 N y0 x0)).bind fun r18 => (bif r18 then some 3 else ((bif (!x2) then some true else ((slices_ContainsFunc_api_Tie_api_Tie N x1 (fun y0 => clocks_offered_2 N y0 x0)).bind fun r42 => some r42)).bind fun j32 => (bif j32 then some 1 else ((clocks_loopOf N x0).bind fun r53 => (bif (!r53.isEmpty) then some 31 else (bif (decide ((W64 ((x0.Ties.length : Int) + (x1.length : Int))) > 400)) then some 2 else some 0)))))))))
theorem co_clocks_offered : CallOk Try.prog 86 := fun _ _ => by kernel_rfl
set_option maxHeartbeats 4000000 in
set_option maxRecDepth 100000 in
theorem c_clocks_offered (N : Nat) (w0 : World) (F0 : Mem) (hF : ∀ b o, F0 b = some o → w0.heap[b]? = some o) (x0 : System) (a0_0 : Option Addr) (n0_0 : Nat) (hb0_0 : LC x0.Tracks.length n0_0) (hs0_0 : SlA tTrack F0 a0_0 x0.Tracks) (a0_1 : Option Addr) (n0_1 : Nat) (hb0_1 : LC x0.Ties.length n0_1) (hs0_1 : SlA tTie F0 a0_1 x0.Ties) (x1 : (List Tie)) (a1_0 : Option Addr) (n1_0 : Nat) (hb1_0 : LC x1.length n1_0) (hs1_0 : SlA tTie F0 a1_0 x1) (x2 : Bool) (r : Int) (h : clocks_offered N x0 x1 x2 = some r) :
  Calls Try.prog 86 ([(.agg (kSystem x0 a0_0 n0_0 a0_1 n0_1)), (.slice a1_0 x1.length n1_0), (.bool x2)] : List Value).toArray w0 (FRet w0 F0 fun F' v => v = (vi r)) := by
 have hs0 := HS.start hF
 refine calls_of (n := 36) (c := bodyOf Try.f86) Try.func86 (by kernel_rfl) (by kernel_rfl) (by kernel_rfl) ?_
 refine Sq (Rg [0, 1] ?_)
 refine Bx 3 0 0 25 (kSystem x0 a0_0 n0_0 a0_1 n0_1) hs0 (fun b1 w2 (hs3 : HS w0 F0 w2 F0 [(sb b1 (kSystem x0 a0_0 n0_0 a0_1 n0_1) 25)]) => ?_)
 refine V 6 30 (mc (vi 0) (vi 0)) ?_
 refine Nss ?_
 refine Sq (Rg [0, 1, 2] ?_)
 refine V 8 25 (ld 25 3 b1 0 true 3 (.agg (kSystem x0 a0_0 n0_0 a0_1 n0_1)) (hs3.ownAt (k := 0) rfl)) ?_
 obtain ⟨r4, hr5, h6⟩ := bind_some h
 refine Cl 9 30 17 #[(.tmp 8)] #[25] co_clocks_Check hs3 (c_clocks_Check N w2 F0 hs3.pers (x0) a0_0 n0_0 hb0_0 hs0_0 a0_1 n0_1 hb0_1 hs0_1 _ hr5) ?_
 intro v7 F1 w8 hs9 le10 hp11
 obtain rfl := hp11
 refine V 7 30 (ma 9 (vi r4)) ?_
 refine Nss (Rg [0, 1] ?_)
 refine V 10 30 (mv 7 (vi r4)) ?_
 refine V 11 4 (run_neq (t := 30) (t' := 30) (x := (.tmp 10)) (y := (.const (vi 0))) (k := .i64) (a := r4) (b := 0) rfl rfl) ?_
 refine Nt ?_
 refine CWP.cond (t := (r4 != 0)) (by kernel_rfl) rfl (fun hb12 => ?_) (fun hb12 => ?_)
 ·have h13 := cond_t h6 hb12
  refine Sq (Rg [0, 1] ?_)
  refine V 12 30 (mv 7 (vi r4)) ?_
  refine V 6 30 (ma 12 (vi r4)) ?_
  refine Nt ?_
  refine CWP.ret (by kernel_rfl) ?_
  refine thenQ_ret ?_
  have hfin := some_inj h13
  subst hfin
  exact ⟨rfl, (vi r4), res_of (l := [.tmp 6]) (by kernel_rfl) (vs := [(vi r4)]) ⟨rfl, trivial⟩, (vi r4), F1, rfl, hs9.clear, rfl⟩
 ·have h14 := cond_f h6 hb12
  refine Sc ?_
  refine thenQ_nrm ?_
  refine Sq ?_
  refine Sq (Rg [0, 1, 2] ?_)
  refine V 13 23 (mv 1 (.slice a1_0 x1.length n1_0)) ?_
  refine V 14 91 (run_makeFunc (fn := .func 125) (first := #[]) (cap := #[(.tmp 3)]) (fl := []) (cl := [(.pointer (some ⟨b1, 0, none⟩))]) rfl (rfl)) ?_
  obtain ⟨F2, hs15, le16, hF17⟩ : ∃ Fq, HS w0 F0 w8 Fq [] ∧ Mem.le F1 Fq ∧ Fq b1 = some (oc (kSystem x0 a0_0 n0_0 a0_1 n0_1) 25) := HS.freezeC hs9 (k := 0) rfl
  obtain ⟨r18, hr19, h20⟩ := bind_some h14
  refine Cl 15 4 68 #[(.tmp 13), (.tmp 14)] #[23, 91] co_slices_ContainsFunc_api_Tie_api_Tie hs15 (c_slices_ContainsFunc_api_Tie_api_Tie N w8 F2 hs15.pers (x1) a1_0 n1_0 hb1_0 (SlA.mono hs1_0 (le10.trans le16)) 125 [] [(.pointer (some ⟨b1, 0, none⟩))] (fun y0 => clocks_offered_1 N y0 x0) co_clocks_offered_1 (fun w1 F1 y0 r le1 pe1 hr1 => c_clocks_offered_1 N w1 F1 pe1  y0 b1 x0 a0_0 n0_0 hb0_0 (SlA.mono (SlA.mono hs0_0 (le10.trans le16)) le1) a0_1 n0_1 hb0_1 (SlA.mono (SlA.mono hs0_1 (le10.trans le16)) le1) (le1 _ _ hF17) r hr1) _ hr19) ?_
  intro v21 F3 w22 hs23 le24 hp25
  obtain rfl := hp25
  refine Nt ?_
  refine CWP.cond (t := r18) (by kernel_rfl) rfl (fun hb26 => ?_) (fun hb26 => ?_)
  ·have h27 := cond_t h20 hb26
   refine Sq (Rg [0] ?_)
   refine V 6 30 (mc (vi 3) (vi 3)) ?_
   refine Nt ?_
   refine CWP.ret (by kernel_rfl) ?_
   refine thenQ_ret ?_
   have hfin := some_inj h27
   subst hfin
   exact ⟨rfl, (vi 3), res_of (l := [.tmp 6]) (by kernel_rfl) (vs := [(vi 3)]) ⟨rfl, trivial⟩, (vi 3), F3, rfl, hs23.clear, rfl⟩
  ·have h28 := cond_f h20 hb26
   refine Sc ?_
   refine thenQ_nrm ?_
   refine Sq ?_
   refine Bk ?_
   refine Sq (Rg [0, 1, 2, 3, 4, 5, 6, 7] ?_)
   obtain ⟨j32, hj37, h38⟩ := bind_some h28
   refine RWP.cut (fun f w => ∃ (F4 : Mem), HS w0 F0 w F4 [] ∧ Mem.le F3 F4 ∧ f.d = [] ∧ f 1 = (.slice a1_0 x1.length n1_0) ∧ f 3 = (.pointer (some ⟨b1, 0, none⟩)) ∧ f 16 = (.bool j32)) ?_ ?_
   ·refine V 17 4 (mv 2 (.bool x2)) ?_
    refine V 18 4 (run_not (t := 4) (x := (.tmp 17)) (a := x2) rfl) ?_
    refine V 19 4 (mv 18 (.bool (!x2))) ?_
    refine RWP.split (!x2) (fun hb39 => ?_) (fun hb39 => ?_)
    ·have h40 := cond_t hj37 hb39
     refine Sk [20, 21, 22] 2 false 19 hb39 ?_
     refine V 23 4 (p1 19 (.const (.bool true)) (.tmp 22) (.bool true) hb39) ?_
     refine V 16 4 (ma 23 (.bool true)) ?_
     obtain rfl := some_inj h40
     exact RWP.nil ⟨rfl, F3, hs23, (Mem.le.refl _), rfl, rfl, rfl, rfl⟩
    ·have h41 := cond_f hj37 hb39
     refine Vg 20 23 2 false 19 hb39 (mv 1 (.slice a1_0 x1.length n1_0)) ?_
     refine Vg 21 91 2 false 19 hb39 (run_makeFunc (fn := .func 126) (first := #[]) (cap := #[(.tmp 3)]) (fl := []) (cl := [(.pointer (some ⟨b1, 0, none⟩))]) rfl (rfl)) ?_
     obtain ⟨r42, hr43, h44⟩ := bind_some h41
     refine RWP.call (dst := (some 22)) (ty := 4) (g := (some (2, false))) (by kernel_rfl) (gd_y (d := 19) (by kernel_rfl) rfl hb39) (f0 := (.func 68)) (aos := #[(.tmp 20), (.tmp 21)]) (ats := #[23, 91]) (fid := 68) (first := #[]) (cap := #[]) (args := [(.slice a1_0 x1.length n1_0), (.func (.func 126) #[] #[(.pointer (some ⟨b1, 0, none⟩))])]) rfl co_slices_ContainsFunc_api_Tie_api_Tie (rfl) hs23 (c_slices_ContainsFunc_api_Tie_api_Tie N w22 F3 hs23.pers (x1) a1_0 n1_0 hb1_0 (SlA.mono hs1_0 ((le10.trans le16).trans le24)) 126 [] [(.pointer (some ⟨b1, 0, none⟩))] (fun y0 => clocks_offered_2 N y0 x0) co_clocks_offered_2 (fun w1 F1 y0 r le1 pe1 hr1 => c_clocks_offered_2 N w1 F1 pe1  y0 b1 x0 a0_0 n0_0 hb0_0 (SlA.mono (SlA.mono hs0_0 ((le10.trans le16).trans le24)) le1) a0_1 n0_1 hb0_1 (SlA.mono (SlA.mono hs0_1 ((le10.trans le16).trans le24)) le1) (le1 _ _ (le24 _ _ hF17)) r hr1) _ hr43) ?_
     intro v45 F5 w46 hs47 le48 hp49
     obtain rfl := hp49
     refine V 23 4 (p0 19 (.const (.bool true)) (.tmp 22) (.bool r42) hb39) ?_
     refine V 16 4 (ma 23 (.bool r42)) ?_
     obtain rfl := some_inj h44
     exact RWP.nil ⟨rfl, F5, hs47, le48, rfl, rfl, rfl, rfl⟩
   ·rintro f w29 ⟨F4, hs30, le31, e33, e34, e35, e36⟩
    refine thenQ_nrm ?_
    refine CWP.cond (t := j32) (by kernel_rfl) e36 (fun hb50 => ?_) (fun hb50 => ?_)
    ·have h51 := cond_t h38 hb50
     refine Sq (Rg [0] ?_)
     refine V 6 30 (mc (vi 1) (vi 1)) ?_
     refine Nt ?_
     refine CWP.ret (by kernel_rfl) ?_
     refine blockQ_ret ?_
     refine thenQ_ret ?_
     have hfin := some_inj h51
     subst hfin
     exact ⟨e33, (vi 1), res_of (l := [.tmp 6]) (by kernel_rfl) (vs := [(vi 1)]) ⟨rfl, trivial⟩, (vi 1), F4, rfl, hs30.clear, rfl⟩
    ·have h52 := cond_f h38 hb50
     refine Sq (Rg [0, 1, 2, 3] ?_)
     refine V 25 25 (ld 25 3 b1 0 true 3 (.agg (kSystem x0 a0_0 n0_0 a0_1 n0_1)) (hs30.pers _ _ ((le24.trans le31) _ _ hF17)) e35) ?_
     obtain ⟨r53, hr54, h55⟩ := bind_some h52
     refine Cl 26 57 103 #[(.tmp 25)] #[25] co_clocks_loopOf hs30 (c_clocks_loopOf N w29 F4 hs30.pers (x0) a0_0 n0_0 hb0_0 (SlA.mono hs0_0 (((le10.trans le16).trans le24).trans le31)) a0_1 n0_1 hb0_1 (SlA.mono hs0_1 (((le10.trans le16).trans le24).trans le31)) _ hr54) ?_
     intro v56 F6 w57 hs58 le59 hp60
     obtain ⟨ar53_0_0, nr53_0_0, rfl, hbr53_0_0, hsr53_0_0, nf61, fr62⟩ := hp60
     refine V 27 4 (run_nenil' (e := 103) (t := 57) (t' := 57) (x := (.tmp 26)) (y := (.const (.slice none 0 0))) hsr53_0_0 nf61 rfl rfl (by kernel_rfl)) ?_
     refine V 24 4 (ma 27 (.bool (!r53.isEmpty))) ?_
     refine Nt ?_
     refine CWP.cond (t := (!r53.isEmpty)) (by kernel_rfl) rfl (fun hb63 => ?_) (fun hb63 => ?_)
     ·have h64 := cond_t h55 hb63
      refine Sq (Rg [0] ?_)
      refine V 6 30 (mc (vi 31) (vi 31)) ?_
      refine Nt ?_
      refine CWP.ret (by kernel_rfl) ?_
      refine blockQ_ret ?_
      refine thenQ_ret ?_
      have hfin := some_inj h64
      subst hfin
      exact ⟨e33, (vi 31), res_of (l := [.tmp 6]) (by kernel_rfl) (vs := [(vi 31)]) ⟨rfl, trivial⟩, (vi 31), F6, rfl, hs58.clear, rfl⟩
     ·have h65 := cond_f h55 hb63
      refine Sq (Rg [0, 1, 2, 3, 4, 5, 6, 7] ?_)
      refine V 29 0 (fa 25 3 1 1 1 b1 0 1 e35) ?_
      refine V 30 23 (ld 23 29 b1 1 false 1 (.slice a0_1 x0.Ties.length n0_1) (hs58.pers _ _ (((le24.trans le31).trans le59) _ _ hF17))) ?_
      refine V 31 3 (ln 30 23 a0_1 x0.Ties.length n0_1 46 4 32) ?_
      refine V 32 23 (mv 1 (.slice a1_0 x1.length n1_0) e34) ?_
      refine V 33 3 (ln 32 23 a1_0 x1.length n1_0 46 4 32) ?_
      refine V 34 3 (run_add (t := 3) (t' := 3) (x := (.tmp 31)) (y := (.tmp 33)) (k := .i64) (a := (x0.Ties.length : Int)) (b := (x1.length : Int)) rfl rfl) ?_
      refine V 35 4 (run_gtr (t := 3) (t' := 3) (x := (.tmp 34)) (y := (.const (vi 400))) (k := .i64) (a := (W64 ((x0.Ties.length : Int) + (x1.length : Int)))) (b := 400) rfl rfl) ?_
      refine V 28 4 (ma 35 (.bool (decide ((W64 ((x0.Ties.length : Int) + (x1.length : Int))) > 400)))) ?_
      refine Nt ?_
      refine CWP.cond (t := (decide ((W64 ((x0.Ties.length : Int) + (x1.length : Int))) > 400))) (by kernel_rfl) rfl (fun hb66 => ?_) (fun hb66 => ?_)
      ·have h67 := cond_t h65 hb66
       refine Sq (Rg [0] ?_)
       refine V 6 30 (mc (vi 2) (vi 2)) ?_
       refine Nt ?_
       refine CWP.ret (by kernel_rfl) ?_
       refine blockQ_ret ?_
       refine thenQ_ret ?_
       have hfin := some_inj h67
       subst hfin
       exact ⟨e33, (vi 2), res_of (l := [.tmp 6]) (by kernel_rfl) (vs := [(vi 2)]) ⟨rfl, trivial⟩, (vi 2), F6, rfl, hs58.clear, rfl⟩
      ·have h68 := cond_f h65 hb66
       refine Sc ?_
       refine blockQ_nrm ?_
       refine thenQ_nrm ?_
       refine Sq (Rg [0] ?_)
       refine V 6 30 (mc (vi 0) (vi 0)) ?_
       refine Nt ?_
       refine CWP.ret (by kernel_rfl) ?_
       have hfin := some_inj h68
       subst hfin
       exact ⟨e33, (vi 0), res_of (l := [.tmp 6]) (by kernel_rfl) (vs := [(vi 0)]) ⟨rfl, trivial⟩, (vi 0), F6, rfl, hs58.clear, rfl⟩
end Go.Proofs.Ythbcnabeabcmlaa
namespace Go.Proofs.Ythbcnabeabcmlaa
open Go.Proofs
theorem co_clocks_added : CallOk Try.prog 87 := fun _ _ => by kernel_rfl
set_option maxRecDepth 100000 in
theorem c_clocks_added (w0 : World) (F0 : Mem) (hF : ∀ b o, F0 b = some o → w0.heap[b]? = some o) (x0 : System) (a0_0 : Option Addr) (n0_0 : Nat) (_ : LC x0.Tracks.length n0_0) (_ : SlA tTrack F0 a0_0 x0.Tracks) (a0_1 : Option Addr) (n0_1 : Nat) (_ : LC x0.Ties.length n0_1) (_ : SlA tTie F0 a0_1 x0.Ties) (x1 : List Tie) (a1_0 : Option Addr) (n1_0 : Nat) (_ : LC x1.length n1_0) (_ : SlA tTie F0 a1_0 x1) :
    Calls Try.prog 87 ([(.agg (kSystem x0 a0_0 n0_0 a0_1 n0_1)), (.slice a1_0 x1.length n1_0)] : List Value).toArray w0 (FRetO w0 F0 fun _ v L' => ∃ (b0 b1 : Nat), v = .func (.func 127) #[] #[.pointer (some ⟨b0, 0, none⟩), .pointer (some ⟨b1, 0, none⟩)] ∧ L' = [(some b1, .cells #[(.slice a1_0 x1.length n1_0)] 23 (0, 0)), (some b0, .cells (kSystem x0 a0_0 n0_0 a0_1 n0_1) 25 (0, 0))]) := by
  have hs0 := HS.start hF
  refine calls_of (n := 6) (c := bodyOf Try.f87) Try.func87 (by kernel_rfl) (by kernel_rfl) (by kernel_rfl) ?_
  refine CWP.seq (by kernel_rfl) ?_
  refine CWP.region (l := [0, 1, 2]) (by kernel_rfl) (by kernel_rfl) (by kernel_rfl) ?_
  refine RWP.box (dst := (some 2)) (ty := 0) (g := none) (by kernel_rfl) rfl (x := (.tmp 0)) (t := 25) (v := (.agg (kSystem x0 a0_0 n0_0 a0_1 n0_1))) rfl (C := (kSystem x0 a0_0 n0_0 a0_1 n0_1)) rfl hs0 (fun b0 w1 hs1 => ?_)
  refine RWP.box (dst := (some 3)) (ty := 0) (g := none) (by kernel_rfl) rfl (x := (.tmp 1)) (t := 23) (v := (.slice a1_0 x1.length n1_0)) rfl (C := #[(.slice a1_0 x1.length n1_0)]) rfl hs1 (fun b1 w2 hs2 => ?_)
  refine RWP.val (dst := (some 4)) (ty := 120) (g := none) (by kernel_rfl) rfl (run_assign (x := (.const .nilFunc)) (v := .nilFunc) rfl) ?_
  refine RWP.nil ?_
  refine thenQ_nrm ?_
  refine CWP.seq (by kernel_rfl) ?_
  refine CWP.region (l := [0, 1]) (by kernel_rfl) (by kernel_rfl) (by kernel_rfl) ?_
  refine RWP.val (dst := some 5) (ty := 119) (g := none) (by kernel_rfl) rfl (run_makeFunc (fn := .func 127) (first := #[]) (cap := #[.tmp 2, .tmp 3]) (fl := []) (cl := [.pointer (some ⟨b0, 0, none⟩), .pointer (some ⟨b1, 0, none⟩)]) rfl rfl) ?_
  refine RWP.val (dst := (some 4)) (ty := 120) (g := none) (by kernel_rfl) rfl (run_assign (x := (.tmp 5)) (v := .func (.func 127) #[] #[.pointer (some ⟨b0, 0, none⟩), .pointer (some ⟨b1, 0, none⟩)]) rfl) ?_
  refine RWP.nil ?_
  refine thenQ_nrm ?_
  refine CWP.ret (by kernel_rfl) ?_
  exact ⟨rfl, _, res_of (l := [.tmp 4]) (by kernel_rfl) (vs := [.func (.func 127) #[] #[.pointer (some ⟨b0, 0, none⟩), .pointer (some ⟨b1, 0, none⟩)]]) ⟨rfl, trivial⟩, _, F0, _, rfl, hs2, b0, b1, rfl, rfl⟩
end Go.Proofs.Ythbcnabeabcmlaa
namespace Go.Proofs.Ythbcnabeabcmlaa
open Go.Proofs
def clocks_Accept_L0 (N : Nat) (x0 : System) (x1 : (List Tie)) (r4 : Int) : (List Bool) → (Bool × (List Bound)) → Option (List Bool) := fun s33 ⟨y55, y56⟩ =>
 ((apnd s33 [y55]).bind fun r68 => some r68)
def clocks_Accept (N : Nat) (x0 : System) (x1 : (List Tie)) : Option ((List Bool) × Int) :=
 ((clocks_offered N x0 x1 true).bind fun r4 => (bif (r4 != 0) then some (([] : List Bool), r4) else ((clocks_added_1 N (fun st x => ((clocks_Accept_L0 N x0 x1 r4) st x).map fun t => (true, t)) x0 x1 ([] : List Bool)).bind fun r41 => some (r41, 0))))
theorem co_clocks_Accept : CallOk Try.prog 42 := fun _ _ => by kernel_rfl
set_option maxHeartbeats 4000000 in
set_option maxRecDepth 100000 in
theorem c_clocks_Accept (N : Nat) (w0 : World) (F0 : Mem) (hF : ∀ b o, F0 b = some o → w0.heap[b]? = some o) (x0 : System) (a0_0 : Option Addr) (n0_0 : Nat) (hb0_0 : LC x0.Tracks.length n0_0) (hs0_0 : SlA tTrack F0 a0_0 x0.Tracks) (a0_1 : Option Addr) (n0_1 : Nat) (hb0_1 : LC x0.Ties.length n0_1) (hs0_1 : SlA tTie F0 a0_1 x0.Ties) (x1 : (List Tie)) (a1_0 : Option Addr) (n1_0 : Nat) (hb1_0 : LC x1.length n1_0) (hs1_0 : SlA tTie F0 a1_0 x1) (r : ((List Bool) × Int)) (h : clocks_Accept N x0 x1 = some r) :
  Calls Try.prog 42 ([(.agg (kSystem x0 a0_0 n0_0 a0_1 n0_1)), (.slice a1_0 x1.length n1_0)] : List Value).toArray w0 (FRet w0 F0 fun F' v => ∃ (aq0_0 : Option Addr) (nq0_0 : Nat), v = (.tuple #[(.slice aq0_0 r.1.length nq0_0), (vi r.2)]) ∧ LC r.1.length nq0_0 ∧ SlA tBool F' aq0_0 r.1) := by
 have hs0 := HS.start hF
 refine calls_ofM (n := 25) (c := bodyOf Try.f42) Try.func42 (by kernel_rfl) (by kernel_rfl) (by kernel_rfl) ?_
 refine Sq (Rg [0, 1, 2] ?_)
 refine Bx 2 0 0 25 (kSystem x0 a0_0 n0_0 a0_1 n0_1) hs0 (fun b1 w2 (hs3 : HS w0 F0 w2 F0 [(sb b1 (kSystem x0 a0_0 n0_0 a0_1 n0_1) 25)]) => ?_)
 refine V 4 64 (mc (.slice none 0 0) (.slice none ([] : List Bool).length 0)) ?_
 refine V 5 30 (mc (vi 0) (vi 0)) ?_
 refine Nss ?_
 refine Sq (Rg [0, 1, 2, 3] ?_)
 refine V 9 25 (ld 25 2 b1 0 true 3 (.agg (kSystem x0 a0_0 n0_0 a0_1 n0_1)) (hs3.ownAt (k := 0) rfl)) ?_
 refine V 10 23 (mv 1 (.slice a1_0 x1.length n1_0)) ?_
 obtain ⟨r4, hr5, h6⟩ := bind_some h
 refine Cl 11 30 86 #[(.tmp 9), (.tmp 10), (.const (.bool true))] #[25, 23, 4] co_clocks_offered hs3 (c_clocks_offered N w2 F0 hs3.pers (x0) a0_0 n0_0 hb0_0 hs0_0 a0_1 n0_1 hb0_1 hs0_1 (x1) a1_0 n1_0 hb1_0 hs1_0 (true) _ hr5) ?_
 intro v7 F1 w8 hs9 le10 hp11
 obtain rfl := hp11
 refine V 6 30 (ma 11 (vi r4)) ?_
 refine Nss (Rg [0, 1] ?_)
 refine V 12 30 (mv 6 (vi r4)) ?_
 refine V 13 4 (run_neq (t := 30) (t' := 30) (x := (.tmp 12)) (y := (.const (vi 0))) (k := .i64) (a := r4) (b := 0) rfl rfl) ?_
 refine Nt ?_
 refine CWP.cond (t := (r4 != 0)) (by kernel_rfl) rfl (fun hb12 => ?_) (fun hb12 => ?_)
 ·have h13 := cond_t h6 hb12
  refine Sq (Rg [0, 1, 2] ?_)
  refine V 14 30 (mv 6 (vi r4)) ?_
  refine V 4 64 (mc (.slice none 0 0) (.slice none ([] : List Bool).length 0)) ?_
  refine V 5 30 (ma 14 (vi r4)) ?_
  refine Nt ?_
  refine CWP.ret (by kernel_rfl) ?_
  refine thenQ_ret ?_
  have hfin := some_inj h13
  subst hfin
  exact .inl ⟨rfl, (.tuple #[(.slice none ([] : List Bool).length 0), (vi r4)]), res_of (l := [.tmp 4, .tmp 5]) (by kernel_rfl) (vs := [(.slice none ([] : List Bool).length 0), (vi r4)]) ⟨rfl, ⟨rfl, trivial⟩⟩, (.tuple #[(.slice none ([] : List Bool).length 0), (vi r4)]), F1, rfl, hs9.clear, ⟨none, 0, rfl, LC.nil, (.inl rfl)⟩⟩
 ·have h14 := cond_f h6 hb12
  refine Sc ?_
  refine thenQ_nrm ?_
  refine Sq (Rg [0] ?_)
  refine RWP.alloc (dst := (some 7)) (ty := 0) (g := none) (by kernel_rfl) rfl (t := 64) (z := (.slice none ([] : List Bool).length 0)) (by kernel_rfl) (C := #[(.slice none ([] : List Bool).length 0)]) rfl hs9 (fun b15 w16 (hs17 : HS w0 F0 w16 F1 [(sb b15 #[(.slice none ([] : List Bool).length 0)] 64), (sb b1 (kSystem x0 a0_0 n0_0 a0_1 n0_1) 25)]) => ?_)
  refine Nss ?_
  refine Sq (Rg [0, 1, 2] ?_)
  refine V 15 25 (ld 25 2 b1 0 true 3 (.agg (kSystem x0 a0_0 n0_0 a0_1 n0_1)) (hs17.ownAt (k := 1) rfl)) ?_
  refine V 16 23 (mv 1 (.slice a1_0 x1.length n1_0)) ?_
  refine RWP.callO (dst := (some 17)) (ty := 120) (g := none) (by kernel_rfl) rfl (f0 := (.func 87)) (aos := #[(.tmp 15), (.tmp 16)]) (ats := #[25, 23]) (fid := 87) (first := #[]) (cap := #[]) (args := [(.agg (kSystem x0 a0_0 n0_0 a0_1 n0_1)), (.slice a1_0 x1.length n1_0)]) rfl co_clocks_added (rfl) hs17 (c_clocks_added w16 F1 hs17.pers (x0) a0_0 n0_0 hb0_0 (SlA.mono hs0_0 le10) a0_1 n0_1 hb0_1 (SlA.mono hs0_1 le10) (x1) a1_0 n1_0 hb1_0 (SlA.mono hs1_0 le10)) ?_
  rintro _ F2 w20 _ hs21 le22 ⟨b18, b19, rfl, rfl⟩
  have hs23 : HS w0 F0 w20 F2 [(sb b19 #[(.slice a1_0 x1.length n1_0)] 23), (sb b18 (kSystem x0 a0_0 n0_0 a0_1 n0_1) 25), (sb b15 #[(.slice none ([] : List Bool).length 0)] 64), (sb b1 (kSystem x0 a0_0 n0_0 a0_1 n0_1) 25)] := hs21
  refine Nt ?_
  refine Bk ?_
  obtain ⟨F3, hs24, le25, hF26⟩ : ∃ Fq, HS w0 F0 w20 Fq [(sb b18 (kSystem x0 a0_0 n0_0 a0_1 n0_1) 25), (sb b15 #[(.slice none ([] : List Bool).length 0)] 64), (sb b1 (kSystem x0 a0_0 n0_0 a0_1 n0_1) 25)] ∧ Mem.le F2 Fq ∧ Fq b19 = some (oc #[(.slice a1_0 x1.length n1_0)] 23) := HS.freezeC hs23 (k := 0) rfl
  have hs27 : HS w0 F0 w20 F3 [(sb b18 (kSystem x0 a0_0 n0_0 a0_1 n0_1) 25), (sb b15 #[(.slice none ([] : List Bool).length 0)] 64)] := hs24.drop 2
  have hs28 : HS w0 F0 w20 F3 [(none, .cells #[] 0 (0, 0)), (sb b18 (kSystem x0 a0_0 n0_0 a0_1 n0_1) 25), (sb b15 #[(.slice none ([] : List Bool).length 0)] 64)] := hs27.dummy _
  have hs30 : HS w0 F0 w20 F3 [(sb b15 #[(.slice none ([] : List Bool).length 0)] 64), (none, .cells #[] 0 (0, 0)), (sb b18 (kSystem x0 a0_0 n0_0 a0_1 n0_1) 25)] := hs28.pick (k := 2) rfl
  have hs31 : HS w0 F0 w20 F3 [(none, .cells #[] 0 (0, 0)), (sb b15 #[(.slice none ([] : List Bool).length 0)] 64), (sb b18 (kSystem x0 a0_0 n0_0 a0_1 n0_1) 25)] := hs30.pick (k := 1) rfl
  have hs32 : HS w0 F0 w20 F3 [(sb b18 (kSystem x0 a0_0 n0_0 a0_1 n0_1) 25), (none, .cells #[] 0 (0, 0)), (sb b15 #[(.slice none ([] : List Bool).length 0)] 64)] := hs31.pick (k := 2) rfl
  obtain ⟨r41, hr42, h43⟩ := bind_some h14
  refine CWP.rangeFunc (enc := enc155) (ok := ok155) (px := px155) (m := fun {_} y s => clocks_added_1 N y x0 x1 s) (L := [(none, .cells #[] 0 (0, 0)), (sb b15 #[(.slice none ([] : List Bool).length 0)] 64)]) (B := [(sb b18 (kSystem x0 a0_0 n0_0 a0_1 n0_1) 25)]) (ps := [18, 19]) (by kernel_rfl) (gf := 127) (cap := [(.pointer (some ⟨b18, 0, none⟩)), (.pointer (some ⟨b19, 0, none⟩))]) rfl co_clocks_added_1 rfl (by kernel_rfl) (by kernel_rfl) (by rintro ⟨_, _, _, _⟩; rfl) hs32 (c_clocks_added_1 N F3 x0 a0_0 n0_0 hb0_0 (SlA.mono hs0_0 ((le10.trans le22).trans le25)) a0_1 n0_1 hb0_1 (SlA.mono hs0_1 ((le10.trans le22).trans le25)) b18 x1 a1_0 n1_0 hb1_0 (SlA.mono hs1_0 ((le10.trans le22).trans le25)) b19 hF26) (fun st x => ((clocks_Accept_L0 N x0 x1 r4) st x).map fun t => (true, t)) (fun (s33 : (List Bool)) (F4 : Mem) (Lq : Own) => ∃ (as33_0 : Option Addr) (ns33_0 : Nat) (es33_0 : Option Nat × Obj), Lq = [es33_0, (sb b15 #[(.slice as33_0 s33.length ns33_0)] 64)] ∧ RowR tBool 4 F4 as33_0 ns33_0 s33 es33_0) ?_ (s := ([] : List Bool)) (r := r41) ?_ hr42 (fun _ _ _ h => (map_true h).1) ?_ ?_
  ·rintro s F F' L ⟨as33_0, ns33_0, es33_0, rfl, hrs33_0⟩ hl
   exact ⟨as33_0, ns33_0, es33_0, rfl, (hrs33_0.mono hl)⟩
  ·exact ⟨none, 0, (none, .cells #[] 0 (0, 0)), rfl, (RowR.nil tBool 4 F3 _)⟩
  ·rintro l44 s33 ⟨y55, y56, ay56_0, ny56_0⟩ w47 F4 _ Rf49 ⟨_, q50⟩ le51 ⟨hby56_0, hsy56_0⟩ ⟨as33_0, ns33_0, es33_0, rfl, hrs33_0⟩ hs53 hy54
   have h57 := (map_true hy54).2
   have hs58 : HS w0 F0 w47 F4 (es33_0 :: (sb b15 #[(.slice as33_0 s33.length ns33_0)] 64) :: Rf49) := hs53
   refine Rg [0] ?_
   refine V 8 4 (ma 18 (.bool y55)) ?_
   refine RWP.nil ?_
   refine ⟨rfl, F4, [es33_0, (sb b15 #[(.slice as33_0 s33.length ns33_0)] 64)], hs58, fun w59 Rf60 hs61 => ?_⟩
   have hs62 : HS w0 F0 w59 F4 (es33_0 :: (sb b15 #[(.slice as33_0 s33.length ns33_0)] 64) :: Rf60) := hs61
   refine Bk ?_
   refine Rg [0, 1, 2, 3, 4] ?_
   refine V 20 64 (ld 64 7 b15 0 false 1 (.slice as33_0 s33.length ns33_0) (hs62.ownAt (k := 1) rfl)) ?_
   refine V 21 4 (mv 8 (.bool y55)) ?_
   refine RWP.buildSlice (dst := (some 22)) (ty := 64) (g := none) (by kernel_rfl) rfl (t := 64) (len := 1) (parts := #[(0, (.tmp 21))]) (vs := [(0, (.bool y55))]) (rfl) (E := 4) (cs := [(.bool y55)]) (by kernel_rfl) hs62 (fun b63 w64 (hs65 : HS w0 F0 w64 F4 ((some b63, .cells ([(.bool y55)] : List Value).toArray 4 (0, 0)) :: es33_0 :: (sb b15 #[(.slice as33_0 s33.length ns33_0)] 64) :: Rf60)) => ?_)
   have hr67 : RowR tBool 4 F4 (some ⟨b63, 0, none⟩) 1 [y55] (some b63, .cells ([(.bool y55)] : List Value).toArray 4 (0, 0)) := RowR.lit ⟨rfl, rfl⟩ (by simp)
   obtain ⟨r68, hap69, h70⟩ := bind_some h57
   refine RWP.append (dst := (some 23)) (ty := 64) (g := none) (by kernel_rfl) rfl (x := (.tmp 20)) (y := (.tmp 22)) (t := 64) (t2 := 64) (by_ := 1) (z := (.bool false)) (a2 := (some ⟨b63, 0, none⟩)) (c2 := 1) (m := [y55]) (T := tBool) (E := 4) (a := as33_0) (cap := ns33_0) (l := s33) rfl rfl (by kernel_rfl) (by decide) (by kernel_rfl) (by kernel_rfl) rfl oBool hs65 (k := 1) rfl hrs33_0 (RowR.rd hs65 (k := 0) rfl hr67) (r := r68) hap69 (fun a71 n72 e73 w74 (hs75 : HS w0 F0 w74 F4 ((some b63, .cells ([(.bool y55)] : List Value).toArray 4 (0, 0)) :: e73 :: (sb b15 #[(.slice as33_0 s33.length ns33_0)] 64) :: Rf60)) hr76 => ?_)
   refine RWP.store (ty := 0) (g := none) (by kernel_rfl) rfl (x := (.tmp 7)) (y := (.tmp 23)) (t := 64) (gg := false) (s := 1) (v := (.slice a71 r68.length n72)) (b := b15) (o := 0) (C := #[(.slice as33_0 s33.length ns33_0)]) rfl rfl (by kernel_rfl) hs75 (k := 2) rfl rfl rfl rfl (C' := #[(.slice a71 r68.length n72)]) rfl (fun w77 (hs78 : HS w0 F0 w77 F4 ((some b63, .cells ([(.bool y55)] : List Value).toArray 4 (0, 0)) :: e73 :: (sb b15 #[(.slice a71 r68.length n72)] 64) :: Rf60)) => ?_)
   refine RWP.nil ?_
   refine blockQ_nrm ?_
   have hs79 : HS w0 F0 w77 F4 (e73 :: (sb b15 #[(.slice a71 r68.length n72)] 64) :: Rf60) := hs78.drop 0
   obtain rfl := some_inj h70
   exact ⟨rfl, F4, [e73, (sb b15 #[(.slice a71 r68.length n72)] 64)], hs79, (Mem.le.refl _), ⟨a71, n72, e73, rfl, hr76⟩⟩
  ·rintro D81 w82 F5 _ hs83 le84 ⟨as37_0, ns37_0, es37_0, rfl, hrs37_0⟩
   have hs85 : HS w0 F0 w82 F5 [(some D81, (.deferred (some []))), es37_0, (sb b15 #[(.slice as37_0 r41.length ns37_0)] 64)] := hs83
   refine blockQ_nrm ?_
   refine thenQ_nrm ?_
   refine Sq (Rg [0, 1, 2] ?_)
   refine V 24 64 (ld 64 7 b15 0 false 1 (.slice as37_0 r41.length ns37_0) (hs85.ownAt (k := 2) rfl)) ?_
   refine V 4 64 (ma 24 (.slice as37_0 r41.length ns37_0)) ?_
   refine V 5 30 (mc (vi 0) (vi 0)) ?_
   refine Nt ?_
   refine CWP.ret (by kernel_rfl) ?_
   have hb89 := RowR.bound hrs37_0
   obtain ⟨F6, hs86, le87, hs88⟩ : ∃ Fq, HS w0 F0 w82 Fq [(some D81, (.deferred (some []))), (sb b15 #[(.slice as37_0 r41.length ns37_0)] 64)] ∧ Mem.le F5 Fq ∧ SlA tBool Fq as37_0 r41 := HS.freezeRow hs85 (k := 1) rfl hrs37_0
   have hs90 := hs86.put (k := 0) rfl (.deferred none)
   have hs91 : HS w0 F0 (putB w82 D81 (.deferred none)) F6 [(sb b15 #[(.slice as37_0 r41.length ns37_0)] 64)] := hs90.drop 0
   have hfin := some_inj h43
   subst hfin
   exact .inr ⟨D81, rfl, hs86.ownAt (k := 0) rfl, (.tuple #[(.slice as37_0 r41.length ns37_0), (vi 0)]), res_of (l := [.tmp 4, .tmp 5]) (by kernel_rfl) (vs := [(.slice as37_0 r41.length ns37_0), (vi 0)]) ⟨rfl, ⟨rfl, trivial⟩⟩, (.tuple #[(.slice as37_0 r41.length ns37_0), (vi 0)]), F6, rfl, hs91.clear, ⟨as37_0, ns37_0, rfl, hb89, hs88⟩⟩
end Go.Proofs.Ythbcnabeabcmlaa
namespace Go.Proofs.Ythbcnabeabcmlaa
open Go.Proofs
def law03_pair (N : Nat) (x0 : Bool) : Option System :=
 ((bif x0 then some [({ A := ({ Log := 0, Line := 0 } : Ref), B := ({ Log := 1, Line := 0 } : Ref) } : Tie)] else some ([] : List Tie)).bind fun j35 => some ({ Tracks := [({ Clock := ({ Slip := 10, Drift := 0, Jumps := ([] : List Int) } : Clock), Times := [100, 160] } : Track), ({ Clock := ({ Slip := 3, Drift := 0, Jumps := ([] : List Int) } : Clock), Times := [95, 158] } : Track)], Ties := j35, Window := 2 } : System))
theorem co_law03_pair : CallOk Try.prog 64 := fun _ _ => by kernel_rfl
set_option maxHeartbeats 4000000 in
set_option maxRecDepth 100000 in
theorem c_law03_pair (N : Nat) (w0 : World) (F0 : Mem) (hF : ∀ b o, F0 b = some o → w0.heap[b]? = some o) (x0 : Bool) (r : System) (h : law03_pair N x0 = some r) :
  Calls Try.prog 64 ([(.bool x0)] : List Value).toArray w0 (FRet w0 F0 fun F' v => ∃ (aq0_0 : Option Addr) (nq0_0 : Nat) (aq0_1 : Option Addr) (nq0_1 : Nat), v = (.agg (kSystem r aq0_0 nq0_0 aq0_1 nq0_1)) ∧ LC r.Tracks.length nq0_0 ∧ SlA tTrack F' aq0_0 r.Tracks ∧ LC r.Ties.length nq0_1 ∧ SlA tTie F' aq0_1 r.Ties) := by
 have hs0 := HS.start hF
 refine calls_of (n := 19) (c := bodyOf Try.f64) Try.func64 (by kernel_rfl) (by kernel_rfl) (by kernel_rfl) ?_
 refine Sq (Rg [0] ?_)
 refine Al 2 0 25 #[(.slice none ([] : List Track).length 0), (.slice none ([] : List Tie).length 0), (vi 0)] hs0 (fun b1 w2 (hs3 : HS w0 F0 w2 F0 [(sb b1 #[(.slice none ([] : List Track).length 0), (.slice none ([] : List Tie).length 0), (vi 0)] 25)]) => ?_)
 refine Nss (Rg [0, 1, 2, 3, 4, 5, 6, 7, 8, 9] ?_)
 refine V 4 52 (run_build2 (t := 52) (parts := #[(0, (.const (vi 10)))]) (vs := [(0, (vi 10))]) (rfl) (cs := [(vi 10), (vi 0), (.slice none ([] : List Int).length 0)]) (by kernel_rfl)) ?_
 refine RWP.buildSlice (dst := (some 5)) (ty := 50) (g := none) (by kernel_rfl) rfl (t := 50) (len := 2) (parts := #[(0, (.const (vi 100))), (1, (.const (vi 160)))]) (vs := [(0, (vi 100)), (1, (vi 160))]) (rfl) (E := 3) (cs := [(vi 100), (vi 160)]) (by kernel_rfl) hs3 (fun b4 w5 (hs6 : HS w0 F0 w5 F0 [(some b4, .cells ([(vi 100), (vi 160)] : List Value).toArray 3 (0, 0)), (sb b1 #[(.slice none ([] : List Track).length 0), (.slice none ([] : List Tie).length 0), (vi 0)] 25)]) => ?_)
 have hr8 : RowR tInt 3 F0 (some ⟨b4, 0, none⟩) 2 [100, 160] (some b4, .cells ([(vi 100), (vi 160)] : List Value).toArray 3 (0, 0)) := RowR.lit ⟨rfl, ⟨rfl, rfl⟩⟩ (by simp)
 refine V 6 54 (run_build2 (t := 54) (parts := #[(0, (.tmp 4)), (1, (.tmp 5))]) (vs := [(0, (.agg #[(vi 10), (vi 0), (.slice none ([] : List Int).length 0)])), (1, (.slice (some ⟨b4, 0, none⟩) [100, 160].length 2))]) (rfl) (cs := [(vi 10), (vi 0), (.slice none ([] : List Int).length 0), (.slice (some ⟨b4, 0, none⟩) [100, 160].length 2)]) (by kernel_rfl)) ?_
 refine V 7 52 (run_build2 (t := 52) (parts := #[(0, (.const (vi 3)))]) (vs := [(0, (vi 3))]) (rfl) (cs := [(vi 3), (vi 0), (.slice none ([] : List Int).length 0)]) (by kernel_rfl)) ?_
 refine RWP.buildSlice (dst := (some 8)) (ty := 50) (g := none) (by kernel_rfl) rfl (t := 50) (len := 2) (parts := #[(0, (.const (vi 95))), (1, (.const (vi 158)))]) (vs := [(0, (vi 95)), (1, (vi 158))]) (rfl) (E := 3) (cs := [(vi 95), (vi 158)]) (by kernel_rfl) hs6 (fun b9 w10 (hs11 : HS w0 F0 w10 F0 [(some b9, .cells ([(vi 95), (vi 158)] : List Value).toArray 3 (0, 0)), (some b4, .cells ([(vi 100), (vi 160)] : List Value).toArray 3 (0, 0)), (sb b1 #[(.slice none ([] : List Track).length 0), (.slice none ([] : List Tie).length 0), (vi 0)] 25)]) => ?_)
 have hr13 : RowR tInt 3 F0 (some ⟨b9, 0, none⟩) 2 [95, 158] (some b9, .cells ([(vi 95), (vi 158)] : List Value).toArray 3 (0, 0)) := RowR.lit ⟨rfl, ⟨rfl, rfl⟩⟩ (by simp)
 refine V 9 54 (run_build2 (t := 54) (parts := #[(0, (.tmp 7)), (1, (.tmp 8))]) (vs := [(0, (.agg #[(vi 3), (vi 0), (.slice none ([] : List Int).length 0)])), (1, (.slice (some ⟨b9, 0, none⟩) [95, 158].length 2))]) (rfl) (cs := [(vi 3), (vi 0), (.slice none ([] : List Int).length 0), (.slice (some ⟨b9, 0, none⟩) [95, 158].length 2)]) (by kernel_rfl)) ?_
 have hb17 := RowR.bound hr8
 obtain ⟨F1, hs14, le15, hs16⟩ : ∃ Fq, HS w0 F0 w10 Fq [(some b9, .cells ([(vi 95), (vi 158)] : List Value).toArray 3 (0, 0)), (sb b1 #[(.slice none ([] : List Track).length 0), (.slice none ([] : List Tie).length 0), (vi 0)] 25)] ∧ Mem.le F0 Fq ∧ SlA tInt Fq (some ⟨b4, 0, none⟩) [100, 160] := HS.freezeRow hs11 (k := 1) rfl hr8
 have hb21 := RowR.bound (hr13.mono le15)
 obtain ⟨F2, hs18, le19, hs20⟩ : ∃ Fq, HS w0 F0 w10 Fq [(sb b1 #[(.slice none ([] : List Track).length 0), (.slice none ([] : List Tie).length 0), (vi 0)] 25)] ∧ Mem.le F1 Fq ∧ SlA tInt Fq (some ⟨b9, 0, none⟩) [95, 158] := HS.freezeRow hs14 (k := 0) rfl (hr13.mono le15)
 refine RWP.buildSlice (dst := (some 10)) (ty := 22) (g := none) (by kernel_rfl) rfl (t := 22) (len := 2) (parts := #[(0, (.tmp 6)), (1, (.tmp 9))]) (vs := [(0, (.agg #[(vi 10), (vi 0), (.slice none ([] : List Int).length 0), (.slice (some ⟨b4, 0, none⟩) [100, 160].length 2)])), (1, (.agg #[(vi 3), (vi 0), (.slice none ([] : List Int).length 0), (.slice (some ⟨b9, 0, none⟩) [95, 158].length 2)]))]) (rfl) (E := 54) (cs := [(vi 10), (vi 0), (.slice none ([] : List Int).length 0), (.slice (some ⟨b4, 0, none⟩) [100, 160].length 2), (vi 3), (vi 0), (.slice none ([] : List Int).length 0), (.slice (some ⟨b9, 0, none⟩) [95, 158].length 2)]) (by kernel_rfl) hs18 (fun b22 w23 (hs24 : HS w0 F0 w23 F2 [(some b22, .cells ([(vi 10), (vi 0), (.slice none ([] : List Int).length 0), (.slice (some ⟨b4, 0, none⟩) [100, 160].length 2), (vi 3), (vi 0), (.slice none ([] : List Int).length 0), (.slice (some ⟨b9, 0, none⟩) [95, 158].length 2)] : List Value).toArray 54 (0, 0)), (sb b1 #[(.slice none ([] : List Track).length 0), (.slice none ([] : List Tie).length 0), (vi 0)] 25)]) => ?_)
 have hr26 : RowR tTrack 54 F2 (some ⟨b22, 0, none⟩) 2 [({ Clock := ({ Slip := 10, Drift := 0, Jumps := ([] : List Int) } : Clock), Times := [100, 160] } : Track), ({ Clock := ({ Slip := 3, Drift := 0, Jumps := ([] : List Int) } : Clock), Times := [95, 158] } : Track)] (some b22, .cells ([(vi 10), (vi 0), (.slice none ([] : List Int).length 0), (.slice (some ⟨b4, 0, none⟩) [100, 160].length 2), (vi 3), (vi 0), (.slice none ([] : List Int).length 0), (.slice (some ⟨b9, 0, none⟩) [95, 158].length 2)] : List Value).toArray 54 (0, 0)) := RowR.lit ⟨⟨none, 0, (some ⟨b4, 0, none⟩), 2, rfl, LC.nil, (.inl rfl), hb17, (SlA.mono hs16 le19)⟩, ⟨⟨none, 0, (some ⟨b9, 0, none⟩), 2, rfl, LC.nil, (.inl rfl), hb21, hs20⟩, rfl⟩⟩ (by simp)
 refine V 11 25 (run_build2 (t := 25) (parts := #[(0, (.tmp 10)), (2, (.const (vi 2)))]) (vs := [(0, (.slice (some ⟨b22, 0, none⟩) [({ Clock := ({ Slip := 10, Drift := 0, Jumps := ([] : List Int) } : Clock), Times := [100, 160] } : Track), ({ Clock := ({ Slip := 3, Drift := 0, Jumps := ([] : List Int) } : Clock), Times := [95, 158] } : Track)].length 2)), (2, (vi 2))]) (rfl) (cs := [(.slice (some ⟨b22, 0, none⟩) [({ Clock := ({ Slip := 10, Drift := 0, Jumps := ([] : List Int) } : Clock), Times := [100, 160] } : Track), ({ Clock := ({ Slip := 3, Drift := 0, Jumps := ([] : List Int) } : Clock), Times := [95, 158] } : Track)].length 2), (.slice none ([] : List Tie).length 0), (vi 2)]) (by kernel_rfl)) ?_
 refine Al 3 0 25 #[(.slice none ([] : List Track).length 0), (.slice none ([] : List Tie).length 0), (vi 0)] hs24 (fun b27 w28 (hs29 : HS w0 F0 w28 F2 [(sb b27 #[(.slice none ([] : List Track).length 0), (.slice none ([] : List Tie).length 0), (vi 0)] 25), (some b22, .cells ([(vi 10), (vi 0), (.slice none ([] : List Int).length 0), (.slice (some ⟨b4, 0, none⟩) [100, 160].length 2), (vi 3), (vi 0), (.slice none ([] : List Int).length 0), (.slice (some ⟨b9, 0, none⟩) [95, 158].length 2)] : List Value).toArray 54 (0, 0)), (sb b1 #[(.slice none ([] : List Track).length 0), (.slice none ([] : List Tie).length 0), (vi 0)] 25)]) => ?_)
 refine RWP.store (ty := 0) (g := none) (by kernel_rfl) rfl (x := (.tmp 3)) (y := (.tmp 11)) (t := 25) (gg := true) (s := 3) (v := (.agg #[(.slice (some ⟨b22, 0, none⟩) [({ Clock := ({ Slip := 10, Drift := 0, Jumps := ([] : List Int) } : Clock), Times := [100, 160] } : Track), ({ Clock := ({ Slip := 3, Drift := 0, Jumps := ([] : List Int) } : Clock), Times := [95, 158] } : Track)].length 2), (.slice none ([] : List Tie).length 0), (vi 2)])) (b := b27) (o := 0) (C := #[(.slice none ([] : List Track).length 0), (.slice none ([] : List Tie).length 0), (vi 0)]) rfl rfl (by kernel_rfl) hs29 (k := 0) rfl rfl rfl rfl (C' := #[(.slice (some ⟨b22, 0, none⟩) [({ Clock := ({ Slip := 10, Drift := 0, Jumps := ([] : List Int) } : Clock), Times := [100, 160] } : Track), ({ Clock := ({ Slip := 3, Drift := 0, Jumps := ([] : List Int) } : Clock), Times := [95, 158] } : Track)].length 2), (.slice none ([] : List Tie).length 0), (vi 2)]) rfl (fun w30 (hs31 : HS w0 F0 w30 F2 [(sb b27 #[(.slice (some ⟨b22, 0, none⟩) [({ Clock := ({ Slip := 10, Drift := 0, Jumps := ([] : List Int) } : Clock), Times := [100, 160] } : Track), ({ Clock := ({ Slip := 3, Drift := 0, Jumps := ([] : List Int) } : Clock), Times := [95, 158] } : Track)].length 2), (.slice none ([] : List Tie).length 0), (vi 2)] 25), (some b22, .cells ([(vi 10), (vi 0), (.slice none ([] : List Int).length 0), (.slice (some ⟨b4, 0, none⟩) [100, 160].length 2), (vi 3), (vi 0), (.slice none ([] : List Int).length 0), (.slice (some ⟨b9, 0, none⟩) [95, 158].length 2)] : List Value).toArray 54 (0, 0)), (sb b1 #[(.slice none ([] : List Track).length 0), (.slice none ([] : List Tie).length 0), (vi 0)] 25)]) => ?_)
 refine Nss ?_
 refine Sq (Rg [0] ?_)
 refine V 12 4 (mv 0 (.bool x0)) ?_
 refine Nt ?_
 obtain ⟨j35, hj39, h40⟩ := bind_some h
 refine CWP.cut (fun f w => ∃ (F3 : Mem) (aj35_0 : Option Addr) (nj35_0 : Nat), HS w0 F0 w F3 [(sb b27 #[(.slice (some ⟨b22, 0, none⟩) [({ Clock := ({ Slip := 10, Drift := 0, Jumps := ([] : List Int) } : Clock), Times := [100, 160] } : Track), ({ Clock := ({ Slip := 3, Drift := 0, Jumps := ([] : List Int) } : Clock), Times := [95, 158] } : Track)].length 2), (.slice aj35_0 j35.length nj35_0), (vi 2)] 25), (some b22, .cells ([(vi 10), (vi 0), (.slice none ([] : List Int).length 0), (.slice (some ⟨b4, 0, none⟩) [100, 160].length 2), (vi 3), (vi 0), (.slice none ([] : List Int).length 0), (.slice (some ⟨b9, 0, none⟩) [95, 158].length 2)] : List Value).toArray 54 (0, 0)), (sb b1 #[(.slice none ([] : List Track).length 0), (.slice none ([] : List Tie).length 0), (vi 0)] 25)] ∧ Mem.le F2 F3 ∧ f.d = [] ∧ f 2 = (.pointer (some ⟨b1, 0, none⟩)) ∧ f 3 = (.pointer (some ⟨b27, 0, none⟩)) ∧ LC j35.length nj35_0 ∧ SlA tTie F3 aj35_0 j35) ?_ ?_
 ·refine CWP.cond (t := x0) (by kernel_rfl) rfl (fun hb41 => ?_) (fun hb41 => ?_)
  ·have h42 := cond_t hj39 hb41
   refine Rg [0, 1, 2, 3, 4, 5] ?_
   refine V 13 27 (run_build2 (t := 27) (parts := #[(0, (.const (vi 0))), (1, (.const (vi 0)))]) (vs := [(0, (vi 0)), (1, (vi 0))]) (rfl) (cs := [(vi 0), (vi 0)]) (by kernel_rfl)) ?_
   refine V 14 27 (run_build2 (t := 27) (parts := #[(0, (.const (vi 1))), (1, (.const (vi 0)))]) (vs := [(0, (vi 1)), (1, (vi 0))]) (rfl) (cs := [(vi 1), (vi 0)]) (by kernel_rfl)) ?_
   refine V 15 46 (run_build2 (t := 46) (parts := #[(0, (.tmp 13)), (1, (.tmp 14))]) (vs := [(0, (.agg #[(vi 0), (vi 0)])), (1, (.agg #[(vi 1), (vi 0)]))]) (rfl) (cs := [(vi 0), (vi 0), (vi 1), (vi 0)]) (by kernel_rfl)) ?_
   refine RWP.buildSlice (dst := (some 16)) (ty := 23) (g := none) (by kernel_rfl) rfl (t := 23) (len := 1) (parts := #[(0, (.tmp 15))]) (vs := [(0, (.agg #[(vi 0), (vi 0), (vi 1), (vi 0)]))]) (rfl) (E := 46) (cs := [(vi 0), (vi 0), (vi 1), (vi 0)]) (by kernel_rfl) hs31 (fun b43 w44 (hs45 : HS w0 F0 w44 F2 [(some b43, .cells ([(vi 0), (vi 0), (vi 1), (vi 0)] : List Value).toArray 46 (0, 0)), (sb b27 #[(.slice (some ⟨b22, 0, none⟩) [({ Clock := ({ Slip := 10, Drift := 0, Jumps := ([] : List Int) } : Clock), Times := [100, 160] } : Track), ({ Clock := ({ Slip := 3, Drift := 0, Jumps := ([] : List Int) } : Clock), Times := [95, 158] } : Track)].length 2), (.slice none ([] : List Tie).length 0), (vi 2)] 25), (some b22, .cells ([(vi 10), (vi 0), (.slice none ([] : List Int).length 0), (.slice (some ⟨b4, 0, none⟩) [100, 160].length 2), (vi 3), (vi 0), (.slice none ([] : List Int).length 0), (.slice (some ⟨b9, 0, none⟩) [95, 158].length 2)] : List Value).toArray 54 (0, 0)), (sb b1 #[(.slice none ([] : List Track).length 0), (.slice none ([] : List Tie).length 0), (vi 0)] 25)]) => ?_)
   have hr47 : RowR tTie 46 F2 (some ⟨b43, 0, none⟩) 1 [({ A := ({ Log := 0, Line := 0 } : Ref), B := ({ Log := 1, Line := 0 } : Ref) } : Tie)] (some b43, .cells ([(vi 0), (vi 0), (vi 1), (vi 0)] : List Value).toArray 46 (0, 0)) := RowR.lit ⟨rfl, rfl⟩ (by simp)
   refine V 17 0 (fa 25 3 1 1 1 b27 0 1) ?_
   refine RWP.store (ty := 0) (g := none) (by kernel_rfl) rfl (x := (.tmp 17)) (y := (.tmp 16)) (t := 23) (gg := false) (s := 1) (v := (.slice (some ⟨b43, 0, none⟩) [({ A := ({ Log := 0, Line := 0 } : Ref), B := ({ Log := 1, Line := 0 } : Ref) } : Tie)].length 1)) (b := b27) (o := 1) (C := #[(.slice (some ⟨b22, 0, none⟩) [({ Clock := ({ Slip := 10, Drift := 0, Jumps := ([] : List Int) } : Clock), Times := [100, 160] } : Track), ({ Clock := ({ Slip := 3, Drift := 0, Jumps := ([] : List Int) } : Clock), Times := [95, 158] } : Track)].length 2), (.slice none ([] : List Tie).length 0), (vi 2)]) rfl rfl (by kernel_rfl) hs45 (k := 1) rfl rfl rfl rfl (C' := #[(.slice (some ⟨b22, 0, none⟩) [({ Clock := ({ Slip := 10, Drift := 0, Jumps := ([] : List Int) } : Clock), Times := [100, 160] } : Track), ({ Clock := ({ Slip := 3, Drift := 0, Jumps := ([] : List Int) } : Clock), Times := [95, 158] } : Track)].length 2), (.slice (some ⟨b43, 0, none⟩) [({ A := ({ Log := 0, Line := 0 } : Ref), B := ({ Log := 1, Line := 0 } : Ref) } : Tie)].length 1), (vi 2)]) rfl (fun w48 (hs49 : HS w0 F0 w48 F2 [(some b43, .cells ([(vi 0), (vi 0), (vi 1), (vi 0)] : List Value).toArray 46 (0, 0)), (sb b27 #[(.slice (some ⟨b22, 0, none⟩) [({ Clock := ({ Slip := 10, Drift := 0, Jumps := ([] : List Int) } : Clock), Times := [100, 160] } : Track), ({ Clock := ({ Slip := 3, Drift := 0, Jumps := ([] : List Int) } : Clock), Times := [95, 158] } : Track)].length 2), (.slice (some ⟨b43, 0, none⟩) [({ A := ({ Log := 0, Line := 0 } : Ref), B := ({ Log := 1, Line := 0 } : Ref) } : Tie)].length 1), (vi 2)] 25), (some b22, .cells ([(vi 10), (vi 0), (.slice none ([] : List Int).length 0), (.slice (some ⟨b4, 0, none⟩) [100, 160].length 2), (vi 3), (vi 0), (.slice none ([] : List Int).length 0), (.slice (some ⟨b9, 0, none⟩) [95, 158].length 2)] : List Value).toArray 54 (0, 0)), (sb b1 #[(.slice none ([] : List Track).length 0), (.slice none ([] : List Tie).length 0), (vi 0)] 25)]) => ?_)
   refine RWP.nil ?_
   obtain rfl := some_inj h42
   have hb53 := RowR.bound hr47
   obtain ⟨F4, hs50, le51, hs52⟩ : ∃ Fq, HS w0 F0 w48 Fq [(sb b27 #[(.slice (some ⟨b22, 0, none⟩) [({ Clock := ({ Slip := 10, Drift := 0, Jumps := ([] : List Int) } : Clock), Times := [100, 160] } : Track), ({ Clock := ({ Slip := 3, Drift := 0, Jumps := ([] : List Int) } : Clock), Times := [95, 158] } : Track)].length 2), (.slice (some ⟨b43, 0, none⟩) [({ A := ({ Log := 0, Line := 0 } : Ref), B := ({ Log := 1, Line := 0 } : Ref) } : Tie)].length 1), (vi 2)] 25), (some b22, .cells ([(vi 10), (vi 0), (.slice none ([] : List Int).length 0), (.slice (some ⟨b4, 0, none⟩) [100, 160].length 2), (vi 3), (vi 0), (.slice none ([] : List Int).length 0), (.slice (some ⟨b9, 0, none⟩) [95, 158].length 2)] : List Value).toArray 54 (0, 0)), (sb b1 #[(.slice none ([] : List Track).length 0), (.slice none ([] : List Tie).length 0), (vi 0)] 25)] ∧ Mem.le F2 Fq ∧ SlA tTie Fq (some ⟨b43, 0, none⟩) [({ A := ({ Log := 0, Line := 0 } : Ref), B := ({ Log := 1, Line := 0 } : Ref) } : Tie)] := HS.freezeRow hs49 (k := 0) rfl hr47
   exact .inl ⟨rfl, F4, (some ⟨b43, 0, none⟩), 1, hs50, le51, rfl, rfl, rfl, hb53, hs52⟩
  ·have h54 := cond_f hj39 hb41
   refine Sc ?_
   obtain rfl := some_inj h54
   exact .inl ⟨rfl, F2, none, 0, hs31, (Mem.le.refl _), rfl, rfl, rfl, LC.nil, (.inl rfl)⟩
 ·rintro f w32 ⟨F3, aj35_0, nj35_0, hs33, le34, e36, e37, e38, hbj35_0, hsj35_0⟩
  refine thenQ_nrm ?_
  refine Sq (Rg [0, 1] ?_)
  refine V 18 25 (ld 25 3 b27 0 true 3 (.agg #[(.slice (some ⟨b22, 0, none⟩) [({ Clock := ({ Slip := 10, Drift := 0, Jumps := ([] : List Int) } : Clock), Times := [100, 160] } : Track), ({ Clock := ({ Slip := 3, Drift := 0, Jumps := ([] : List Int) } : Clock), Times := [95, 158] } : Track)].length 2), (.slice aj35_0 j35.length nj35_0), (vi 2)]) (hs33.ownAt (k := 0) rfl) e38) ?_
  refine RWP.store (ty := 0) (g := none) (by kernel_rfl) rfl (x := (.tmp 2)) (y := (.tmp 18)) (t := 25) (gg := true) (s := 3) (v := (.agg #[(.slice (some ⟨b22, 0, none⟩) [({ Clock := ({ Slip := 10, Drift := 0, Jumps := ([] : List Int) } : Clock), Times := [100, 160] } : Track), ({ Clock := ({ Slip := 3, Drift := 0, Jumps := ([] : List Int) } : Clock), Times := [95, 158] } : Track)].length 2), (.slice aj35_0 j35.length nj35_0), (vi 2)])) (b := b1) (o := 0) (C := #[(.slice none ([] : List Track).length 0), (.slice none ([] : List Tie).length 0), (vi 0)]) e37 rfl (by kernel_rfl) hs33 (k := 2) rfl rfl rfl rfl (C' := #[(.slice (some ⟨b22, 0, none⟩) [({ Clock := ({ Slip := 10, Drift := 0, Jumps := ([] : List Int) } : Clock), Times := [100, 160] } : Track), ({ Clock := ({ Slip := 3, Drift := 0, Jumps := ([] : List Int) } : Clock), Times := [95, 158] } : Track)].length 2), (.slice aj35_0 j35.length nj35_0), (vi 2)]) rfl (fun w55 (hs56 : HS w0 F0 w55 F3 [(sb b27 #[(.slice (some ⟨b22, 0, none⟩) [({ Clock := ({ Slip := 10, Drift := 0, Jumps := ([] : List Int) } : Clock), Times := [100, 160] } : Track), ({ Clock := ({ Slip := 3, Drift := 0, Jumps := ([] : List Int) } : Clock), Times := [95, 158] } : Track)].length 2), (.slice aj35_0 j35.length nj35_0), (vi 2)] 25), (some b22, .cells ([(vi 10), (vi 0), (.slice none ([] : List Int).length 0), (.slice (some ⟨b4, 0, none⟩) [100, 160].length 2), (vi 3), (vi 0), (.slice none ([] : List Int).length 0), (.slice (some ⟨b9, 0, none⟩) [95, 158].length 2)] : List Value).toArray 54 (0, 0)), (sb b1 #[(.slice (some ⟨b22, 0, none⟩) [({ Clock := ({ Slip := 10, Drift := 0, Jumps := ([] : List Int) } : Clock), Times := [100, 160] } : Track), ({ Clock := ({ Slip := 3, Drift := 0, Jumps := ([] : List Int) } : Clock), Times := [95, 158] } : Track)].length 2), (.slice aj35_0 j35.length nj35_0), (vi 2)] 25)]) => ?_)
  refine Nt ?_
  refine CWP.ret (by kernel_rfl) ?_
  have hb60 := RowR.bound (hr26.mono le34)
  obtain ⟨F5, hs57, le58, hs59⟩ : ∃ Fq, HS w0 F0 w55 Fq [(sb b27 #[(.slice (some ⟨b22, 0, none⟩) [({ Clock := ({ Slip := 10, Drift := 0, Jumps := ([] : List Int) } : Clock), Times := [100, 160] } : Track), ({ Clock := ({ Slip := 3, Drift := 0, Jumps := ([] : List Int) } : Clock), Times := [95, 158] } : Track)].length 2), (.slice aj35_0 j35.length nj35_0), (vi 2)] 25), (sb b1 #[(.slice (some ⟨b22, 0, none⟩) [({ Clock := ({ Slip := 10, Drift := 0, Jumps := ([] : List Int) } : Clock), Times := [100, 160] } : Track), ({ Clock := ({ Slip := 3, Drift := 0, Jumps := ([] : List Int) } : Clock), Times := [95, 158] } : Track)].length 2), (.slice aj35_0 j35.length nj35_0), (vi 2)] 25)] ∧ Mem.le F3 Fq ∧ SlA tTrack Fq (some ⟨b22, 0, none⟩) [({ Clock := ({ Slip := 10, Drift := 0, Jumps := ([] : List Int) } : Clock), Times := [100, 160] } : Track), ({ Clock := ({ Slip := 3, Drift := 0, Jumps := ([] : List Int) } : Clock), Times := [95, 158] } : Track)] := HS.freezeRow hs56 (k := 1) rfl (hr26.mono le34)
  have hfin := some_inj h40
  subst hfin
  exact ⟨e36, (.agg #[(.slice (some ⟨b22, 0, none⟩) [({ Clock := ({ Slip := 10, Drift := 0, Jumps := ([] : List Int) } : Clock), Times := [100, 160] } : Track), ({ Clock := ({ Slip := 3, Drift := 0, Jumps := ([] : List Int) } : Clock), Times := [95, 158] } : Track)].length 2), (.slice aj35_0 j35.length nj35_0), (vi 2)]), res_of (l := [.cell 2 25]) (by kernel_rfl) (vs := [(.agg #[(.slice (some ⟨b22, 0, none⟩) [({ Clock := ({ Slip := 10, Drift := 0, Jumps := ([] : List Int) } : Clock), Times := [100, 160] } : Track), ({ Clock := ({ Slip := 3, Drift := 0, Jumps := ([] : List Int) } : Clock), Times := [95, 158] } : Track)].length 2), (.slice aj35_0 j35.length nj35_0), (vi 2)])]) ⟨b1, 0, e37, run_loadVar' (t := 25) (g := true) (s := 3) (by kernel_rfl) (hs57.ownAt (k := 1) rfl) rfl (by decide), trivial⟩, (.agg #[(.slice (some ⟨b22, 0, none⟩) [({ Clock := ({ Slip := 10, Drift := 0, Jumps := ([] : List Int) } : Clock), Times := [100, 160] } : Track), ({ Clock := ({ Slip := 3, Drift := 0, Jumps := ([] : List Int) } : Clock), Times := [95, 158] } : Track)].length 2), (.slice aj35_0 j35.length nj35_0), (vi 2)]), F5, rfl, hs57.clear, ⟨(some ⟨b22, 0, none⟩), 2, aj35_0, nj35_0, rfl, hb60, hs59, hbj35_0, (SlA.mono hsj35_0 le58)⟩⟩
end Go.Proofs.Ythbcnabeabcmlaa
namespace Go.Proofs.Ythbcnabeabcmlaa
open Go.Proofs
def law03_awake (N : Nat)  : Option Bool :=
 ((law03_pair N true).bind fun r1 => ((clocks_Times N r1).bind fun r9 => ((law03_pair N true).bind fun r17 => ((clocks_Offset N r17 ({ Log := 0, Line := 0 } : Ref)).bind fun r25 => ((law03_pair N false).bind fun r38 => ((clocks_Accept N r38 ([({ A := ({ Log := 0, Line := 0 } : Ref), B := ({ Log := 1, Line := 1 } : Ref) } : Tie), ({ A := ({ Log := 0, Line := 0 } : Ref), B := ({ Log := 1, Line := 0 } : Ref) } : Tie)])).bind fun r55 => ((law03_pair N false).bind fun r63 => ((clocks_Before N r63 ({ Log := 1, Line := 0 } : Ref) ({ Log := 0, Line := 1 } : Ref)).bind fun r71 => ((bif (r9.2 != 0) then some true else (bif ((r9.1.length : Int) != 2) then some true else ((idx r9.1 0).bind fun x99 => (bif ((x99.length : Int) != 2) then some true else ((idx r9.1 0).bind fun x116 => ((idx x116 0).bind fun x122 => (bif (!((x122.Lo == 90) && ((x122.Hi == 100) && true))) then some true else ((idx r9.1 0).bind fun x139 => ((idx x139 1).bind fun x145 => some (!((x145.Lo == 150) && ((x145.Hi == 161) && true)))))))))))).bind fun j82 => (bif j82 then some false else ((bif (r25.2 == 0) then (bif ((r25.1.Lo == 0) && ((r25.1.Hi == 10) && true)) then (bif (r55.2 == 0) then (bif ((r55.1.length : Int) == 2) then ((idx r55.1 0).bind fun x178 => (bif (!x178) then ((idx r55.1 1).bind fun x194 => (bif x194 then (bif r71.1 then some (r71.2 == 0) else some false) else some false)) else some false)) else some false) else some false) else some false) else some false).bind fun j165 => some j165)))))))))))
theorem co_law03_awake : CallOk Try.prog 15 := fun _ _ => by kernel_rfl
set_option maxHeartbeats 4000000 in
set_option maxRecDepth 100000 in
theorem c_law03_awake (N : Nat) (w0 : World) (F0 : Mem) (hF : ∀ b o, F0 b = some o → w0.heap[b]? = some o)  (r : Bool) (h : law03_awake N  = some r) :
  Calls Try.prog 15 ([] : List Value).toArray w0 (FRet w0 F0 fun F' v => v = (.bool r)) := by
 have hs0 := HS.start hF
 refine calls_of (n := 105) (c := bodyOf Try.f15) Try.func15 (by kernel_rfl) (by kernel_rfl) (by kernel_rfl) ?_
 refine Sq (Rg [0] ?_)
 refine V 0 4 (mc (.bool false) (.bool false)) ?_
 refine Nss (Rg [0, 1, 2, 3, 4, 5, 6] ?_)
 obtain ⟨r1, hr2, h3⟩ := bind_some h
 refine Cl 10 25 64 #[(.const (.bool true))] #[4] co_law03_pair hs0 (c_law03_pair N w0 F0 hs0.pers (true) _ hr2) ?_
 intro v4 F1 w5 hs6 le7 hp8
 obtain ⟨ar1_0_0, nr1_0_0, ar1_0_1, nr1_0_1, rfl, hbr1_0_0, hsr1_0_0, hbr1_0_1, hsr1_0_1⟩ := hp8
 obtain ⟨r9, hr10, h11⟩ := bind_some h3
 refine Cl 11 34 19 #[(.tmp 10)] #[25] co_clocks_Times hs6 (c_clocks_Times N w5 F1 hs6.pers (r1) ar1_0_0 nr1_0_0 hbr1_0_0 hsr1_0_0 ar1_0_1 nr1_0_1 hbr1_0_1 hsr1_0_1 _ hr10) ?_
 intro v12 F2 w13 hs14 le15 hp16
 obtain ⟨ar9_0_0, nr9_0_0, rfl, hbr9_0_0, hsr9_0_0⟩ := hp16
 refine V 9 34 (mv 11 (.tuple #[(.slice ar9_0_0 r9.1.length nr9_0_0), (vi r9.2)])) ?_
 refine V 12 33 (ex 9 0 (.slice ar9_0_0 r9.1.length nr9_0_0) (vs := #[(.slice ar9_0_0 r9.1.length nr9_0_0), (vi r9.2)])) ?_
 refine V 13 30 (ex 9 1 (vi r9.2) (vs := #[(.slice ar9_0_0 r9.1.length nr9_0_0), (vi r9.2)])) ?_
 refine V 1 33 (ma 12 (.slice ar9_0_0 r9.1.length nr9_0_0)) ?_
 refine V 2 30 (ma 13 (vi r9.2)) ?_
 refine Nss (Rg [0, 1, 2, 3, 4, 5, 6, 7, 8] ?_)
 obtain ⟨r17, hr18, h19⟩ := bind_some h11
 refine Cl 15 25 64 #[(.const (.bool true))] #[4] co_law03_pair hs14 (c_law03_pair N w13 F2 hs14.pers (true) _ hr18) ?_
 intro v20 F3 w21 hs22 le23 hp24
 obtain ⟨ar17_0_0, nr17_0_0, ar17_0_1, nr17_0_1, rfl, hbr17_0_0, hsr17_0_0, hbr17_0_1, hsr17_0_1⟩ := hp24
 refine V 16 27 (run_build2 (t := 27) (parts := #[]) (vs := []) (rfl) (cs := [(vi 0), (vi 0)]) (by kernel_rfl)) ?_
 obtain ⟨r25, hr26, h27⟩ := bind_some h19
 refine Cl 17 39 24 #[(.tmp 15), (.tmp 16)] #[25, 27] co_clocks_Offset hs22 (c_clocks_Offset N w21 F3 hs22.pers (r17) ar17_0_0 nr17_0_0 hbr17_0_0 hsr17_0_0 ar17_0_1 nr17_0_1 hbr17_0_1 hsr17_0_1 (({ Log := 0, Line := 0 } : Ref)) _ hr26) ?_
 intro v28 F4 w29 hs30 le31 hp32
 obtain rfl := hp32
 refine V 14 39 (mv 17 (.tuple #[(.agg (kSpan r25.1)), (vi r25.2)])) ?_
 refine V 18 38 (ex 14 0 (.agg (kSpan r25.1)) (vs := #[(.agg (kSpan r25.1)), (vi r25.2)])) ?_
 refine V 19 30 (ex 14 1 (vi r25.2) (vs := #[(.agg (kSpan r25.1)), (vi r25.2)])) ?_
 refine Al 3 0 38 #[(vi 0), (vi 0)] hs30 (fun b33 w34 (hs35 : HS w0 F0 w34 F4 [(sb b33 #[(vi 0), (vi 0)] 38)]) => ?_)
 refine RWP.store (ty := 0) (g := none) (by kernel_rfl) rfl (x := (.tmp 3)) (y := (.tmp 18)) (t := 38) (gg := true) (s := 2) (v := (.agg (kSpan r25.1))) (b := b33) (o := 0) (C := #[(vi 0), (vi 0)]) rfl rfl (by kernel_rfl) hs35 (k := 0) rfl rfl rfl rfl (C' := (kSpan r25.1)) rfl (fun w36 (hs37 : HS w0 F0 w36 F4 [(sb b33 (kSpan r25.1) 38)]) => ?_)
 refine V 4 30 (ma 19 (vi r25.2)) ?_
 refine Nss (Rg [0, 1, 2, 3, 4, 5, 6, 7, 8, 9, 10, 11, 12, 13] ?_)
 obtain ⟨r38, hr39, h40⟩ := bind_some h27
 refine Cl 21 25 64 #[(.const (.bool false))] #[4] co_law03_pair hs37 (c_law03_pair N w36 F4 hs37.pers (false) _ hr39) ?_
 intro v41 F5 w42 hs43 le44 hp45
 obtain ⟨ar38_0_0, nr38_0_0, ar38_0_1, nr38_0_1, rfl, hbr38_0_0, hsr38_0_0, hbr38_0_1, hsr38_0_1⟩ := hp45
 refine V 22 27 (run_build2 (t := 27) (parts := #[]) (vs := []) (rfl) (cs := [(vi 0), (vi 0)]) (by kernel_rfl)) ?_
 refine V 23 27 (run_build2 (t := 27) (parts := #[(0, (.const (vi 1))), (1, (.const (vi 1)))]) (vs := [(0, (vi 1)), (1, (vi 1))]) (rfl) (cs := [(vi 1), (vi 1)]) (by kernel_rfl)) ?_
 refine V 24 46 (run_build2 (t := 46) (parts := #[(0, (.tmp 22)), (1, (.tmp 23))]) (vs := [(0, (.agg #[(vi 0), (vi 0)])), (1, (.agg #[(vi 1), (vi 1)]))]) (rfl) (cs := [(vi 0), (vi 0), (vi 1), (vi 1)]) (by kernel_rfl)) ?_
 refine V 25 27 (run_build2 (t := 27) (parts := #[]) (vs := []) (rfl) (cs := [(vi 0), (vi 0)]) (by kernel_rfl)) ?_
 refine V 26 27 (run_build2 (t := 27) (parts := #[(0, (.const (vi 1)))]) (vs := [(0, (vi 1))]) (rfl) (cs := [(vi 1), (vi 0)]) (by kernel_rfl)) ?_
 refine V 27 46 (run_build2 (t := 46) (parts := #[(0, (.tmp 25)), (1, (.tmp 26))]) (vs := [(0, (.agg #[(vi 0), (vi 0)])), (1, (.agg #[(vi 1), (vi 0)]))]) (rfl) (cs := [(vi 0), (vi 0), (vi 1), (vi 0)]) (by kernel_rfl)) ?_
 refine RWP.buildSlice (dst := (some 28)) (ty := 23) (g := none) (by kernel_rfl) rfl (t := 23) (len := 2) (parts := #[(0, (.tmp 24)), (1, (.tmp 27))]) (vs := [(0, (.agg #[(vi 0), (vi 0), (vi 1), (vi 1)])), (1, (.agg #[(vi 0), (vi 0), (vi 1), (vi 0)]))]) (rfl) (E := 46) (cs := [(vi 0), (vi 0), (vi 1), (vi 1), (vi 0), (vi 0), (vi 1), (vi 0)]) (by kernel_rfl) hs43 (fun b46 w47 (hs48 : HS w0 F0 w47 F5 [(some b46, .cells ([(vi 0), (vi 0), (vi 1), (vi 1), (vi 0), (vi 0), (vi 1), (vi 0)] : List Value).toArray 46 (0, 0)), (sb b33 (kSpan r25.1) 38)]) => ?_)
 have hr50 : RowR tTie 46 F5 (some ⟨b46, 0, none⟩) 2 [({ A := ({ Log := 0, Line := 0 } : Ref), B := ({ Log := 1, Line := 1 } : Ref) } : Tie), ({ A := ({ Log := 0, Line := 0 } : Ref), B := ({ Log := 1, Line := 0 } : Ref) } : Tie)] (some b46, .cells ([(vi 0), (vi 0), (vi 1), (vi 1), (vi 0), (vi 0), (vi 1), (vi 0)] : List Value).toArray 46 (0, 0)) := RowR.lit ⟨rfl, ⟨rfl, rfl⟩⟩ (by simp)
 have hb54 := RowR.bound hr50
 obtain ⟨F6, hs51, le52, hs53⟩ : ∃ Fq, HS w0 F0 w47 Fq [(sb b33 (kSpan r25.1) 38)] ∧ Mem.le F5 Fq ∧ SlA tTie Fq (some ⟨b46, 0, none⟩) [({ A := ({ Log := 0, Line := 0 } : Ref), B := ({ Log := 1, Line := 1 } : Ref) } : Tie), ({ A := ({ Log := 0, Line := 0 } : Ref), B := ({ Log := 1, Line := 0 } : Ref) } : Tie)] := HS.freezeRow hs48 (k := 0) rfl hr50
 obtain ⟨r55, hr56, h57⟩ := bind_some h40
 refine Cl 29 65 42 #[(.tmp 21), (.tmp 28)] #[25, 23] co_clocks_Accept hs51 (c_clocks_Accept N w47 F6 hs51.pers (r38) ar38_0_0 nr38_0_0 hbr38_0_0 (SlA.mono hsr38_0_0 le52) ar38_0_1 nr38_0_1 hbr38_0_1 (SlA.mono hsr38_0_1 le52) ([({ A := ({ Log := 0, Line := 0 } : Ref), B := ({ Log := 1, Line := 1 } : Ref) } : Tie), ({ A := ({ Log := 0, Line := 0 } : Ref), B := ({ Log := 1, Line := 0 } : Ref) } : Tie)]) (some ⟨b46, 0, none⟩) 2 hb54 hs53 _ hr56) ?_
 intro v58 F7 w59 hs60 le61 hp62
 obtain ⟨ar55_0_0, nr55_0_0, rfl, hbr55_0_0, hsr55_0_0⟩ := hp62
 refine V 20 65 (mv 29 (.tuple #[(.slice ar55_0_0 r55.1.length nr55_0_0), (vi r55.2)])) ?_
 refine V 30 64 (ex 20 0 (.slice ar55_0_0 r55.1.length nr55_0_0) (vs := #[(.slice ar55_0_0 r55.1.length nr55_0_0), (vi r55.2)])) ?_
 refine V 31 30 (ex 20 1 (vi r55.2) (vs := #[(.slice ar55_0_0 r55.1.length nr55_0_0), (vi r55.2)])) ?_
 refine V 5 64 (ma 30 (.slice ar55_0_0 r55.1.length nr55_0_0)) ?_
 refine V 6 30 (ma 31 (vi r55.2)) ?_
 refine Nss (Rg [0, 1, 2, 3, 4, 5, 6, 7, 8] ?_)
 obtain ⟨r63, hr64, h65⟩ := bind_some h57
 refine Cl 33 25 64 #[(.const (.bool false))] #[4] co_law03_pair hs60 (c_law03_pair N w59 F7 hs60.pers (false) _ hr64) ?_
 intro v66 F8 w67 hs68 le69 hp70
 obtain ⟨ar63_0_0, nr63_0_0, ar63_0_1, nr63_0_1, rfl, hbr63_0_0, hsr63_0_0, hbr63_0_1, hsr63_0_1⟩ := hp70
 refine V 34 27 (run_build2 (t := 27) (parts := #[(0, (.const (vi 1)))]) (vs := [(0, (vi 1))]) (rfl) (cs := [(vi 1), (vi 0)]) (by kernel_rfl)) ?_
 refine V 35 27 (run_build2 (t := 27) (parts := #[(1, (.const (vi 1)))]) (vs := [(1, (vi 1))]) (rfl) (cs := [(vi 0), (vi 1)]) (by kernel_rfl)) ?_
 obtain ⟨r71, hr72, h73⟩ := bind_some h65
 refine Cl 36 43 30 #[(.tmp 33), (.tmp 34), (.tmp 35)] #[25, 27, 27] co_clocks_Before hs68 (c_clocks_Before N w67 F8 hs68.pers (r63) ar63_0_0 nr63_0_0 hbr63_0_0 hsr63_0_0 ar63_0_1 nr63_0_1 hbr63_0_1 hsr63_0_1 (({ Log := 1, Line := 0 } : Ref)) (({ Log := 0, Line := 1 } : Ref)) _ hr72) ?_
 intro v74 F9 w75 hs76 le77 hp78
 obtain rfl := hp78
 refine V 32 43 (mv 36 (.tuple #[(.bool r71.1), (vi r71.2)])) ?_
 refine V 37 4 (ex 32 0 (.bool r71.1) (vs := #[(.bool r71.1), (vi r71.2)])) ?_
 refine V 38 30 (ex 32 1 (vi r71.2) (vs := #[(.bool r71.1), (vi r71.2)])) ?_
 refine V 7 4 (ma 37 (.bool r71.1)) ?_
 refine V 8 30 (ma 38 (vi r71.2)) ?_
 refine Nss ?_
 refine Sq (Rg [0, 1, 2, 3, 4, 5, 6, 7, 8, 9, 10, 11, 12, 13, 14, 15, 16, 17, 18, 19, 20, 21, 22, 23, 24, 25, 26, 27, 28, 29, 30, 31] ?_)
 obtain ⟨j82, hj91, h92⟩ := bind_some h73
 refine RWP.cut (fun f w => ∃ (F10 : Mem), HS w0 F0 w F10 [(sb b33 (kSpan r25.1) 38)] ∧ Mem.le F9 F10 ∧ f.d = [] ∧ f 3 = (.pointer (some ⟨b33, 0, none⟩)) ∧ f 4 = (vi r25.2) ∧ f 5 = (.slice ar55_0_0 r55.1.length nr55_0_0) ∧ f 6 = (vi r55.2) ∧ f 7 = (.bool r71.1) ∧ f 8 = (vi r71.2) ∧ f 70 = (.bool j82)) ?_ ?_
 ·refine V 39 30 (mv 2 (vi r9.2)) ?_
  refine V 40 4 (run_neq (t := 30) (t' := 30) (x := (.tmp 39)) (y := (.const (vi 0))) (k := .i64) (a := r9.2) (b := 0) rfl rfl) ?_
  refine V 41 4 (mv 40 (.bool (r9.2 != 0))) ?_
  refine RWP.split (r9.2 != 0) (fun hb93 => ?_) (fun hb93 => ?_)
  ·have h94 := cond_t hj91 hb93
   refine Sk [42, 43, 44] 2 false 41 hb93 ?_
   refine V 45 4 (p1 41 (.const (.bool true)) (.tmp 44) (.bool true) hb93) ?_
   refine V 46 4 (mv 45 (.bool true)) ?_
   refine Sk [47, 48, 49, 50, 51] 7 false 46 rfl ?_
   refine V 52 4 (p1 46 (.const (.bool true)) (.tmp 51) (.bool true) rfl) ?_
   refine V 53 4 (mv 52 (.bool true)) ?_
   refine Sk [54, 55, 56, 57, 58, 59, 60] 14 false 53 rfl ?_
   refine V 61 4 (p1 53 (.const (.bool true)) (.tmp 60) (.bool true) rfl) ?_
   refine V 62 4 (mv 61 (.bool true)) ?_
   refine Sk [63, 64, 65, 66, 67, 68, 69] 23 false 62 rfl ?_
   refine V 70 4 (p1 62 (.const (.bool true)) (.tmp 69) (.bool true) rfl) ?_
   obtain rfl := some_inj h94
   exact RWP.nil ⟨rfl, F9, hs76, (Mem.le.refl _), rfl, rfl, rfl, rfl, rfl, rfl, rfl, rfl⟩
  ·have h95 := cond_f hj91 hb93
   refine Vg 42 33 2 false 41 hb93 (mv 1 (.slice ar9_0_0 r9.1.length nr9_0_0)) ?_
   refine Vg 43 3 2 false 41 hb93 (ln 42 33 ar9_0_0 r9.1.length nr9_0_0 36 1 24) ?_
   refine Vg 44 4 2 false 41 hb93 (run_neq (t := 3) (t' := 3) (x := (.tmp 43)) (y := (.const (vi 2))) (k := .i64) (a := (r9.1.length : Int)) (b := 2) rfl rfl) ?_
   refine V 45 4 (p0 41 (.const (.bool true)) (.tmp 44) (.bool ((r9.1.length : Int) != 2)) hb93) ?_
   refine V 46 4 (mv 45 (.bool ((r9.1.length : Int) != 2))) ?_
   refine RWP.split ((r9.1.length : Int) != 2) (fun hb96 => ?_) (fun hb96 => ?_)
   ·have h97 := cond_t h95 hb96
    refine Sk [47, 48, 49, 50, 51] 7 false 46 hb96 ?_
    refine V 52 4 (p1 46 (.const (.bool true)) (.tmp 51) (.bool true) hb96) ?_
    refine V 53 4 (mv 52 (.bool true)) ?_
    refine Sk [54, 55, 56, 57, 58, 59, 60] 14 false 53 rfl ?_
    refine V 61 4 (p1 53 (.const (.bool true)) (.tmp 60) (.bool true) rfl) ?_
    refine V 62 4 (mv 61 (.bool true)) ?_
    refine Sk [63, 64, 65, 66, 67, 68, 69] 23 false 62 rfl ?_
    refine V 70 4 (p1 62 (.const (.bool true)) (.tmp 69) (.bool true) rfl) ?_
    obtain rfl := some_inj h97
    exact RWP.nil ⟨rfl, F9, hs76, (Mem.le.refl _), rfl, rfl, rfl, rfl, rfl, rfl, rfl, rfl⟩
   ·have h98 := cond_f h95 hb96
    refine Vg 47 33 7 false 46 hb96 (mv 1 (.slice ar9_0_0 r9.1.length nr9_0_0)) ?_
    obtain ⟨x99, hx100, h102⟩ := bind_some h98
    obtain ⟨hi101, hx100'⟩ := idx_spec hx100
    obtain ⟨b103, o104, C105, E106, fz107, rfl, hF109, hE110⟩ := SlA.open (SlA.mono hsr9_0_0 ((((((le23.trans le31).trans le44).trans le52).trans le61).trans le69).trans le77)) hx100'
    obtain ⟨ae111_0, ne111_0, hc112, hbe111_0, hse111_0⟩ := hE110 _ _ hx100'
    refine Vg 48 0 7 false 46 hb96 (run_index (t := 33) (x := (.tmp 47)) (y := (.const (vi 0))) (b := b103) (o := o104) (E := 36) (s := 1) (by_ := 24) rfl rfl (by kernel_rfl) hi101) ?_
    refine Vg 49 36 7 false 46 hb96 (lx 36 48 0 1 false 1 (.slice ae111_0 x99.length ne111_0) (hs76.pers _ _ hF109) hc112) ?_
    refine Vg 50 3 7 false 46 hb96 (ln 49 36 ae111_0 x99.length ne111_0 38 2 16) ?_
    refine Vg 51 4 7 false 46 hb96 (run_neq (t := 3) (t' := 3) (x := (.tmp 50)) (y := (.const (vi 2))) (k := .i64) (a := (x99.length : Int)) (b := 2) rfl rfl) ?_
    refine V 52 4 (p0 46 (.const (.bool true)) (.tmp 51) (.bool ((x99.length : Int) != 2)) hb96) ?_
    refine V 53 4 (mv 52 (.bool ((x99.length : Int) != 2))) ?_
    refine RWP.split ((x99.length : Int) != 2) (fun hb113 => ?_) (fun hb113 => ?_)
    ·have h114 := cond_t h102 hb113
     refine Sk [54, 55, 56, 57, 58, 59, 60] 14 false 53 hb113 ?_
     refine V 61 4 (p1 53 (.const (.bool true)) (.tmp 60) (.bool true) hb113) ?_
     refine V 62 4 (mv 61 (.bool true)) ?_
     refine Sk [63, 64, 65, 66, 67, 68, 69] 23 false 62 rfl ?_
     refine V 70 4 (p1 62 (.const (.bool true)) (.tmp 69) (.bool true) rfl) ?_
     obtain rfl := some_inj h114
     exact RWP.nil ⟨rfl, F9, hs76, (Mem.le.refl _), rfl, rfl, rfl, rfl, rfl, rfl, rfl, rfl⟩
    ·have h115 := cond_f h102 hb113
     refine Vg 54 33 14 false 53 hb113 (mv 1 (.slice (some ⟨b103, o104, none⟩) r9.1.length nr9_0_0)) ?_
     obtain ⟨x116, hx117, h119⟩ := bind_some h115
     obtain ⟨hi118, hx117'⟩ := idx_spec hx117
     obtain ⟨ae120_0, ne120_0, hc121, hbe120_0, hse120_0⟩ := hE110 _ _ hx117'
     refine Vg 55 0 14 false 53 hb113 (run_index (t := 33) (x := (.tmp 54)) (y := (.const (vi 0))) (b := b103) (o := o104) (E := 36) (s := 1) (by_ := 24) rfl rfl (by kernel_rfl) hi118) ?_
     refine Vg 56 36 14 false 53 hb113 (lx 36 55 0 1 false 1 (.slice ae120_0 x116.length ne120_0) (hs76.pers _ _ hF109) hc121) ?_
     obtain ⟨x122, hx123, h125⟩ := bind_some h119
     obtain ⟨hi124, hx123'⟩ := idx_spec hx123
     obtain ⟨b126, o127, C128, E129, fz130, rfl, hF132, hE133⟩ := SlA.open hse120_0 hx123'
     have hc135 := hE133 _ _ hx123'
     refine Vg 57 0 14 false 53 hb113 (run_index (t := 36) (x := (.tmp 56)) (y := (.const (vi 0))) (b := b126) (o := o127) (E := 38) (s := 2) (by_ := 16) rfl rfl (by kernel_rfl) hi124) ?_
     refine Vg 58 38 14 false 53 hb113 (lx 38 57 0 2 true 2 (.agg (kSpan x122)) (hs76.pers _ _ hF132) hc135) ?_
     refine Vg 59 38 14 false 53 hb113 (run_build2 (t := 38) (parts := #[(0, (.const (vi 90))), (1, (.const (vi 100)))]) (vs := [(0, (vi 90)), (1, (vi 100))]) (rfl) (cs := [(vi 90), (vi 100)]) (by kernel_rfl)) ?_
     refine Vg 60 4 14 false 53 hb113 (run_nes (t := 38) (t' := 38) (x := (.tmp 58)) (y := (.tmp 59)) (xs := (kSpan x122)) (ys := #[(vi 90), (vi 100)]) (b := ((x122.Lo == 90) && ((x122.Hi == 100) && true))) rfl rfl (by kernel_rfl) (by kernel_rfl)) ?_
     refine V 61 4 (p0 53 (.const (.bool true)) (.tmp 60) (.bool (!((x122.Lo == 90) && ((x122.Hi == 100) && true)))) hb113) ?_
     refine V 62 4 (mv 61 (.bool (!((x122.Lo == 90) && ((x122.Hi == 100) && true))))) ?_
     refine RWP.split (!((x122.Lo == 90) && ((x122.Hi == 100) && true))) (fun hb136 => ?_) (fun hb136 => ?_)
     ·have h137 := cond_t h125 hb136
      refine Sk [63, 64, 65, 66, 67, 68, 69] 23 false 62 hb136 ?_
      refine V 70 4 (p1 62 (.const (.bool true)) (.tmp 69) (.bool true) hb136) ?_
      obtain rfl := some_inj h137
      exact RWP.nil ⟨rfl, F9, hs76, (Mem.le.refl _), rfl, rfl, rfl, rfl, rfl, rfl, rfl, rfl⟩
     ·have h138 := cond_f h125 hb136
      refine Vg 63 33 23 false 62 hb136 (mv 1 (.slice (some ⟨b103, o104, none⟩) r9.1.length nr9_0_0)) ?_
      obtain ⟨x139, hx140, h142⟩ := bind_some h138
      obtain ⟨hi141, hx140'⟩ := idx_spec hx140
      obtain ⟨ae143_0, ne143_0, hc144, hbe143_0, hse143_0⟩ := hE110 _ _ hx140'
      refine Vg 64 0 23 false 62 hb136 (run_index (t := 33) (x := (.tmp 63)) (y := (.const (vi 0))) (b := b103) (o := o104) (E := 36) (s := 1) (by_ := 24) rfl rfl (by kernel_rfl) hi141) ?_
      refine Vg 65 36 23 false 62 hb136 (lx 36 64 0 1 false 1 (.slice ae143_0 x139.length ne143_0) (hs76.pers _ _ hF109) hc144) ?_
      obtain ⟨x145, hx146, h148⟩ := bind_some h142
      obtain ⟨hi147, hx146'⟩ := idx_spec hx146
      obtain ⟨b149, o150, C151, E152, fz153, rfl, hF155, hE156⟩ := SlA.open hse143_0 hx146'
      have hc158 := hE156 _ _ hx146'
      refine Vg 66 0 23 false 62 hb136 (run_index (t := 36) (x := (.tmp 65)) (y := (.const (vi 1))) (b := b149) (o := o150) (E := 38) (s := 2) (by_ := 16) rfl rfl (by kernel_rfl) hi147) ?_
      refine Vg 67 38 23 false 62 hb136 (lx 38 66 0 2 true 2 (.agg (kSpan x145)) (hs76.pers _ _ hF155) hc158) ?_
      refine Vg 68 38 23 false 62 hb136 (run_build2 (t := 38) (parts := #[(0, (.const (vi 150))), (1, (.const (vi 161)))]) (vs := [(0, (vi 150)), (1, (vi 161))]) (rfl) (cs := [(vi 150), (vi 161)]) (by kernel_rfl)) ?_
      refine Vg 69 4 23 false 62 hb136 (run_nes (t := 38) (t' := 38) (x := (.tmp 67)) (y := (.tmp 68)) (xs := (kSpan x145)) (ys := #[(vi 150), (vi 161)]) (b := ((x145.Lo == 150) && ((x145.Hi == 161) && true))) rfl rfl (by kernel_rfl) (by kernel_rfl)) ?_
      refine V 70 4 (p0 62 (.const (.bool true)) (.tmp 69) (.bool (!((x145.Lo == 150) && ((x145.Hi == 161) && true)))) hb136) ?_
      obtain rfl := some_inj h148
      exact RWP.nil ⟨rfl, F9, hs76, (Mem.le.refl _), rfl, rfl, rfl, rfl, rfl, rfl, rfl, rfl⟩
 ·rintro f w79 ⟨F10, hs80, le81, e83, e84, e85, e86, e87, e88, e89, e90⟩
  refine thenQ_nrm ?_
  refine CWP.cond (t := j82) (by kernel_rfl) e90 (fun hb159 => ?_) (fun hb159 => ?_)
  ·have h160 := cond_t h92 hb159
   refine Sq (Rg [0] ?_)
   refine V 0 4 (mc (.bool false) (.bool false)) ?_
   refine Nt ?_
   refine CWP.ret (by kernel_rfl) ?_
   refine thenQ_ret ?_
   have hfin := some_inj h160
   subst hfin
   exact ⟨e83, (.bool false), res_of (l := [.tmp 0]) (by kernel_rfl) (vs := [(.bool false)]) ⟨rfl, trivial⟩, (.bool false), F10, rfl, hs80.clear, rfl⟩
  ·have h161 := cond_f h92 hb159
   refine Sc ?_
   refine thenQ_nrm ?_
   refine Sq (Rg [0, 1, 2, 3, 4, 5, 6, 7, 8, 9, 10, 11, 12, 13, 14, 15, 16, 17, 18, 19, 20, 21, 22, 23, 24, 25, 26, 27, 28, 29, 30, 31, 32, 33, 34] ?_)
   obtain ⟨j165, hj168, h169⟩ := bind_some h161
   refine RWP.cut (fun f w => ∃ (F11 : Mem), HS w0 F0 w F11 [] ∧ Mem.le F10 F11 ∧ f.d = [] ∧ f 0 = (.bool j165)) ?_ ?_
   ·refine V 71 30 (mv 4 (vi r25.2) e85) ?_
    refine V 72 4 (run_eql (t := 30) (t' := 30) (x := (.tmp 71)) (y := (.const (vi 0))) (k := .i64) (a := r25.2) (b := 0) rfl rfl) ?_
    refine V 73 4 (mv 72 (.bool (r25.2 == 0))) ?_
    refine RWP.split (r25.2 == 0) (fun hb170 => ?_) (fun hb170 => ?_)
    ·have h171 := cond_t hj168 hb170
     refine Vg 74 38 2 true 73 hb170 (ld 38 3 b33 0 true 2 (.agg (kSpan r25.1)) (hs80.ownAt (k := 0) rfl) e84) ?_
     refine Vg 75 38 2 true 73 hb170 (run_build2 (t := 38) (parts := #[(0, (.const (vi 0))), (1, (.const (vi 10)))]) (vs := [(0, (vi 0)), (1, (vi 10))]) (rfl) (cs := [(vi 0), (vi 10)]) (by kernel_rfl)) ?_
     refine Vg 76 4 2 true 73 hb170 (run_eqs (t := 38) (t' := 38) (x := (.tmp 74)) (y := (.tmp 75)) (xs := (kSpan r25.1)) (ys := #[(vi 0), (vi 10)]) (b := ((r25.1.Lo == 0) && ((r25.1.Hi == 10) && true))) rfl rfl (by kernel_rfl) (by kernel_rfl)) ?_
     refine V 77 4 (p1 73 (.tmp 76) (.const (.bool false)) (.bool ((r25.1.Lo == 0) && ((r25.1.Hi == 10) && true))) hb170) ?_
     refine V 78 4 (mv 77 (.bool ((r25.1.Lo == 0) && ((r25.1.Hi == 10) && true)))) ?_
     refine RWP.split ((r25.1.Lo == 0) && ((r25.1.Hi == 10) && true)) (fun hb172 => ?_) (fun hb172 => ?_)
     ·have h173 := cond_t h171 hb172
      refine Vg 79 30 7 true 78 hb172 (mv 6 (vi r55.2) e87) ?_
      refine Vg 80 4 7 true 78 hb172 (run_eql (t := 30) (t' := 30) (x := (.tmp 79)) (y := (.const (vi 0))) (k := .i64) (a := r55.2) (b := 0) rfl rfl) ?_
      refine V 81 4 (p1 78 (.tmp 80) (.const (.bool false)) (.bool (r55.2 == 0)) hb172) ?_
      refine V 82 4 (mv 81 (.bool (r55.2 == 0))) ?_
      refine RWP.split (r55.2 == 0) (fun hb174 => ?_) (fun hb174 => ?_)
      ·have h175 := cond_t h173 hb174
       refine Vg 83 64 11 true 82 hb174 (mv 5 (.slice ar55_0_0 r55.1.length nr55_0_0) e86) ?_
       refine Vg 84 3 11 true 82 hb174 (ln 83 64 ar55_0_0 r55.1.length nr55_0_0 4 1 1) ?_
       refine Vg 85 4 11 true 82 hb174 (run_eql (t := 3) (t' := 3) (x := (.tmp 84)) (y := (.const (vi 2))) (k := .i64) (a := (r55.1.length : Int)) (b := 2) rfl rfl) ?_
       refine V 86 4 (p1 82 (.tmp 85) (.const (.bool false)) (.bool ((r55.1.length : Int) == 2)) hb174) ?_
       refine V 87 4 (mv 86 (.bool ((r55.1.length : Int) == 2))) ?_
       refine RWP.split ((r55.1.length : Int) == 2) (fun hb176 => ?_) (fun hb176 => ?_)
       ·have h177 := cond_t h175 hb176
        refine Vg 88 64 16 true 87 hb176 (mv 5 (.slice ar55_0_0 r55.1.length nr55_0_0) e86) ?_
        obtain ⟨x178, hx179, h181⟩ := bind_some h177
        obtain ⟨hi180, hx179'⟩ := idx_spec hx179
        obtain ⟨b182, o183, C184, E185, fz186, rfl, hF188, hE189⟩ := SlA.open (SlA.mono hsr55_0_0 ((le69.trans le77).trans le81)) hx179'
        have hc191 := hE189 _ _ hx179'
        refine Vg 89 0 16 true 87 hb176 (run_index (t := 64) (x := (.tmp 88)) (y := (.const (vi 0))) (b := b182) (o := o183) (E := 4) (s := 1) (by_ := 1) rfl rfl (by kernel_rfl) hi180) ?_
        refine Vg 90 4 16 true 87 hb176 (lx 4 89 0 1 false 1 (.bool x178) (hs80.pers _ _ hF188) hc191) ?_
        refine Vg 91 4 16 true 87 hb176 (run_not (t := 4) (x := (.tmp 90)) (a := x178) rfl) ?_
        refine V 92 4 (p1 87 (.tmp 91) (.const (.bool false)) (.bool (!x178)) hb176) ?_
        refine V 93 4 (mv 92 (.bool (!x178))) ?_
        refine RWP.split (!x178) (fun hb192 => ?_) (fun hb192 => ?_)
        ·have h193 := cond_t h181 hb192
         refine Vg 94 64 22 true 93 hb192 (mv 5 (.slice (some ⟨b182, o183, none⟩) r55.1.length nr55_0_0) e86) ?_
         obtain ⟨x194, hx195, h197⟩ := bind_some h193
         obtain ⟨hi196, hx195'⟩ := idx_spec hx195
         have hc199 := hE189 _ _ hx195'
         refine Vg 95 0 22 true 93 hb192 (run_index (t := 64) (x := (.tmp 94)) (y := (.const (vi 1))) (b := b182) (o := o183) (E := 4) (s := 1) (by_ := 1) rfl rfl (by kernel_rfl) hi196) ?_
         refine Vg 96 4 22 true 93 hb192 (lx 4 95 0 1 false 1 (.bool x194) (hs80.pers _ _ hF188) hc199) ?_
         refine V 97 4 (p1 93 (.tmp 96) (.const (.bool false)) (.bool x194) hb192) ?_
         refine V 98 4 (mv 97 (.bool x194)) ?_
         refine RWP.split x194 (fun hb200 => ?_) (fun hb200 => ?_)
         ·have h201 := cond_t h197 hb200
          refine Vg 99 4 27 true 98 hb200 (mv 7 (.bool r71.1) e88) ?_
          refine V 100 4 (p1 98 (.tmp 99) (.const (.bool false)) (.bool r71.1) hb200) ?_
          refine V 101 4 (mv 100 (.bool r71.1)) ?_
          refine RWP.split r71.1 (fun hb202 => ?_) (fun hb202 => ?_)
          ·have h203 := cond_t h201 hb202
           refine Vg 102 30 30 true 101 hb202 (mv 8 (vi r71.2) e89) ?_
           refine Vg 103 4 30 true 101 hb202 (run_eql (t := 30) (t' := 30) (x := (.tmp 102)) (y := (.const (vi 0))) (k := .i64) (a := r71.2) (b := 0) rfl rfl) ?_
           refine V 104 4 (p1 101 (.tmp 103) (.const (.bool false)) (.bool (r71.2 == 0)) hb202) ?_
           refine V 0 4 (ma 104 (.bool (r71.2 == 0))) ?_
           obtain rfl := some_inj h203
           have hs204 : HS w0 F0 w79 F10 [] := hs80.drop 0
           exact RWP.nil ⟨rfl, F10, hs204, (Mem.le.refl _), e83, rfl⟩
          ·have h205 := cond_f h201 hb202
           refine Sk [102, 103] 30 true 101 hb202 ?_
           refine V 104 4 (p0 101 (.tmp 103) (.const (.bool false)) (.bool false) hb202) ?_
           refine V 0 4 (ma 104 (.bool false)) ?_
           obtain rfl := some_inj h205
           have hs206 : HS w0 F0 w79 F10 [] := hs80.drop 0
           exact RWP.nil ⟨rfl, F10, hs206, (Mem.le.refl _), e83, rfl⟩
         ·have h207 := cond_f h197 hb200
          refine Sk [99] 27 true 98 hb200 ?_
          refine V 100 4 (p0 98 (.tmp 99) (.const (.bool false)) (.bool false) hb200) ?_
          refine V 101 4 (mv 100 (.bool false)) ?_
          refine Sk [102, 103] 30 true 101 rfl ?_
          refine V 104 4 (p0 101 (.tmp 103) (.const (.bool false)) (.bool false) rfl) ?_
          refine V 0 4 (ma 104 (.bool false)) ?_
          obtain rfl := some_inj h207
          have hs208 : HS w0 F0 w79 F10 [] := hs80.drop 0
          exact RWP.nil ⟨rfl, F10, hs208, (Mem.le.refl _), e83, rfl⟩
        ·have h209 := cond_f h181 hb192
         refine Sk [94, 95, 96] 22 true 93 hb192 ?_
         refine V 97 4 (p0 93 (.tmp 96) (.const (.bool false)) (.bool false) hb192) ?_
         refine V 98 4 (mv 97 (.bool false)) ?_
         refine Sk [99] 27 true 98 rfl ?_
         refine V 100 4 (p0 98 (.tmp 99) (.const (.bool false)) (.bool false) rfl) ?_
         refine V 101 4 (mv 100 (.bool false)) ?_
         refine Sk [102, 103] 30 true 101 rfl ?_
         refine V 104 4 (p0 101 (.tmp 103) (.const (.bool false)) (.bool false) rfl) ?_
         refine V 0 4 (ma 104 (.bool false)) ?_
         obtain rfl := some_inj h209
         have hs210 : HS w0 F0 w79 F10 [] := hs80.drop 0
         exact RWP.nil ⟨rfl, F10, hs210, (Mem.le.refl _), e83, rfl⟩
       ·have h211 := cond_f h175 hb176
        refine Sk [88, 89, 90, 91] 16 true 87 hb176 ?_
        refine V 92 4 (p0 87 (.tmp 91) (.const (.bool false)) (.bool false) hb176) ?_
        refine V 93 4 (mv 92 (.bool false)) ?_
        refine Sk [94, 95, 96] 22 true 93 rfl ?_
        refine V 97 4 (p0 93 (.tmp 96) (.const (.bool false)) (.bool false) rfl) ?_
        refine V 98 4 (mv 97 (.bool false)) ?_
        refine Sk [99] 27 true 98 rfl ?_
        refine V 100 4 (p0 98 (.tmp 99) (.const (.bool false)) (.bool false) rfl) ?_
        refine V 101 4 (mv 100 (.bool false)) ?_
        refine Sk [102, 103] 30 true 101 rfl ?_
        refine V 104 4 (p0 101 (.tmp 103) (.const (.bool false)) (.bool false) rfl) ?_
        refine V 0 4 (ma 104 (.bool false)) ?_
        obtain rfl := some_inj h211
        have hs212 : HS w0 F0 w79 F10 [] := hs80.drop 0
        exact RWP.nil ⟨rfl, F10, hs212, (Mem.le.refl _), e83, rfl⟩
      ·have h213 := cond_f h173 hb174
       refine Sk [83, 84, 85] 11 true 82 hb174 ?_
       refine V 86 4 (p0 82 (.tmp 85) (.const (.bool false)) (.bool false) hb174) ?_
       refine V 87 4 (mv 86 (.bool false)) ?_
       refine Sk [88, 89, 90, 91] 16 true 87 rfl ?_
       refine V 92 4 (p0 87 (.tmp 91) (.const (.bool false)) (.bool false) rfl) ?_
       refine V 93 4 (mv 92 (.bool false)) ?_
       refine Sk [94, 95, 96] 22 true 93 rfl ?_
       refine V 97 4 (p0 93 (.tmp 96) (.const (.bool false)) (.bool false) rfl) ?_
       refine V 98 4 (mv 97 (.bool false)) ?_
       refine Sk [99] 27 true 98 rfl ?_
       refine V 100 4 (p0 98 (.tmp 99) (.const (.bool false)) (.bool false) rfl) ?_
       refine V 101 4 (mv 100 (.bool false)) ?_
       refine Sk [102, 103] 30 true 101 rfl ?_
       refine V 104 4 (p0 101 (.tmp 103) (.const (.bool false)) (.bool false) rfl) ?_
       refine V 0 4 (ma 104 (.bool false)) ?_
       obtain rfl := some_inj h213
       have hs214 : HS w0 F0 w79 F10 [] := hs80.drop 0
       exact RWP.nil ⟨rfl, F10, hs214, (Mem.le.refl _), e83, rfl⟩
     ·have h215 := cond_f h171 hb172
      refine Sk [79, 80] 7 true 78 hb172 ?_
      refine V 81 4 (p0 78 (.tmp 80) (.const (.bool false)) (.bool false) hb172) ?_
      refine V 82 4 (mv 81 (.bool false)) ?_
      refine Sk [83, 84, 85] 11 true 82 rfl ?_
      refine V 86 4 (p0 82 (.tmp 85) (.const (.bool false)) (.bool false) rfl) ?_
      refine V 87 4 (mv 86 (.bool false)) ?_
      refine Sk [88, 89, 90, 91] 16 true 87 rfl ?_
      refine V 92 4 (p0 87 (.tmp 91) (.const (.bool false)) (.bool false) rfl) ?_
      refine V 93 4 (mv 92 (.bool false)) ?_
      refine Sk [94, 95, 96] 22 true 93 rfl ?_
      refine V 97 4 (p0 93 (.tmp 96) (.const (.bool false)) (.bool false) rfl) ?_
      refine V 98 4 (mv 97 (.bool false)) ?_
      refine Sk [99] 27 true 98 rfl ?_
      refine V 100 4 (p0 98 (.tmp 99) (.const (.bool false)) (.bool false) rfl) ?_
      refine V 101 4 (mv 100 (.bool false)) ?_
      refine Sk [102, 103] 30 true 101 rfl ?_
      refine V 104 4 (p0 101 (.tmp 103) (.const (.bool false)) (.bool false) rfl) ?_
      refine V 0 4 (ma 104 (.bool false)) ?_
      obtain rfl := some_inj h215
      have hs216 : HS w0 F0 w79 F10 [] := hs80.drop 0
      exact RWP.nil ⟨rfl, F10, hs216, (Mem.le.refl _), e83, rfl⟩
    ·have h217 := cond_f hj168 hb170
     refine Sk [74, 75, 76] 2 true 73 hb170 ?_
     refine V 77 4 (p0 73 (.tmp 76) (.const (.bool false)) (.bool false) hb170) ?_
     refine V 78 4 (mv 77 (.bool false)) ?_
     refine Sk [79, 80] 7 true 78 rfl ?_
     refine V 81 4 (p0 78 (.tmp 80) (.const (.bool false)) (.bool false) rfl) ?_
     refine V 82 4 (mv 81 (.bool false)) ?_
     refine Sk [83, 84, 85] 11 true 82 rfl ?_
     refine V 86 4 (p0 82 (.tmp 85) (.const (.bool false)) (.bool false) rfl) ?_
     refine V 87 4 (mv 86 (.bool false)) ?_
     refine Sk [88, 89, 90, 91] 16 true 87 rfl ?_
     refine V 92 4 (p0 87 (.tmp 91) (.const (.bool false)) (.bool false) rfl) ?_
     refine V 93 4 (mv 92 (.bool false)) ?_
     refine Sk [94, 95, 96] 22 true 93 rfl ?_
     refine V 97 4 (p0 93 (.tmp 96) (.const (.bool false)) (.bool false) rfl) ?_
     refine V 98 4 (mv 97 (.bool false)) ?_
     refine Sk [99] 27 true 98 rfl ?_
     refine V 100 4 (p0 98 (.tmp 99) (.const (.bool false)) (.bool false) rfl) ?_
     refine V 101 4 (mv 100 (.bool false)) ?_
     refine Sk [102, 103] 30 true 101 rfl ?_
     refine V 104 4 (p0 101 (.tmp 103) (.const (.bool false)) (.bool false) rfl) ?_
     refine V 0 4 (ma 104 (.bool false)) ?_
     obtain rfl := some_inj h217
     have hs218 : HS w0 F0 w79 F10 [] := hs80.drop 0
     exact RWP.nil ⟨rfl, F10, hs218, (Mem.le.refl _), e83, rfl⟩
   ·rintro f w162 ⟨F11, hs163, le164, e166, e167⟩
    refine thenQ_nrm ?_
    refine CWP.ret (by kernel_rfl) ?_
    have hfin := some_inj h169
    subst hfin
    exact ⟨e166, (.bool j165), res_of (l := [.tmp 0]) (by kernel_rfl) (vs := [(.bool j165)]) ⟨e167, trivial⟩, (.bool j165), F11, rfl, hs163.clear, rfl⟩
end Go.Proofs.Ythbcnabeabcmlaa
