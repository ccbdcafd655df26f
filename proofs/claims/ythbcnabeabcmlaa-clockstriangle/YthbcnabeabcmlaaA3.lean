/- Lemmas of the claim ClocksTriangle, printed by a program of the claimant and by hand. No statement of the seat is proved here. -/
import Derived.Test.YthbcnabeabcmlaaA2
set_option linter.unusedVariables false
set_option linter.unusedSimpArgs false
set_option linter.unusedSectionVars false
namespace Go.Proofs.Ythbcnabeabcmlaa
open Go.Proofs
def clocks_bounds_1_L1 {σ : Type} (N : Nat) (y : (σ → Bound → Option (Bool × σ))) (z0 : System) (s : σ) (s4 : (Int × σ)) (x33 : Track) : (Int × σ) → Option (Flow σ (Int × σ)) := fun s55 =>
 (bif (decide (s55.1 < (x33.Times.length : Int))) then ((idx x33.Times s55.1).bind fun x92 => (((clocks_beginning N ).bind fun r133 => ((y s55.2 ({ From := r133, To := ({ Log := s4.1, Line := s55.1 } : Ref), Most := (W64 (x92 + x33.Clock.Slip)), Kind := 1, ID := s55.1 } : Bound)).bind fun q141 => (bif (!q141.1) then some (true, q141.2) else ((clocks_beginning N ).bind fun r154 => ((y q141.2 ({ From := ({ Log := s4.1, Line := s55.1 } : Ref), To := r154, Most := (W64 (x33.Clock.Slip - x92)), Kind := 1, ID := s55.1 } : Bound)).bind fun q162 => some ((!q162.1), q162.2)))))).bind fun j116 => (bif j116.1 then some (.ret j116.2) else some (.next ((W64 (s55.1 + 1)), j116.2))))) else some (.done (s55.1, s55.2)))
def clocks_bounds_1_L0 {σ : Type} (N : Nat) (y : (σ → Bound → Option (Bool × σ))) (z0 : System) (s : σ) : (Int × σ) → Option (Flow σ (Int × σ)) := fun s4 =>
 (bif (decide (s4.1 < (z0.Tracks.length : Int))) then ((idx z0.Tracks s4.1).bind fun x33 => ((iter (clocks_bounds_1_L1 N y z0 s s4 x33) N (0, s4.2)).bind fun o => o.k (fun r => some (.ret r)) (fun s72 => some (.next ((W64 (s4.1 + 1)), s72.2))))) else some (.done (s4.1, s4.2)))
def clocks_bounds_1_L3 {σ : Type} (N : Nat) (y : (σ → Bound → Option (Bool × σ))) (z0 : System) (s : σ) (s16 : (Int × σ)) (s188 : (Int × σ)) (x217 : Track) : (Int × σ) → Option (Flow σ (Int × σ)) := fun s239 =>
 (bif (decide ((W64 (s239.1 + 1)) < (x217.Times.length : Int))) then ((y s239.2 ({ From := ({ Log := s188.1, Line := (W64 (s239.1 + 1)) } : Ref), To := ({ Log := s188.1, Line := s239.1 } : Ref), Most := 0, Kind := 2, ID := s239.1 } : Bound)).bind fun q284 => (bif (!q284.1) then some (.ret q284.2) else (((idx x217.Times s239.1).bind fun x319 => ((idx x217.Times (W64 (s239.1 + 1))).bind fun x333 => ((clocks_segment N x217.Clock x319).bind fun r339 => ((clocks_segment N x217.Clock x333).bind fun r347 => some (r339 != r347))))).bind fun j304 => (bif j304 then some (.next ((W64 (s239.1 + 1)), q284.2)) else (((idx x217.Times (W64 (s239.1 + 1))).bind fun x381 => ((idx x217.Times s239.1).bind fun x395 => some (W64 (x381 - x395)))).bind fun j366 => (((y q284.2 ({ From := ({ Log := s188.1, Line := s239.1 } : Ref), To := ({ Log := s188.1, Line := (W64 (s239.1 + 1)) } : Ref), Most := (W64 (j366 + (W64 (1 + (W64 (Int.tdiv (W64 ((W64 (x217.Clock.Drift * j366)) + 999)) 1000)))))), Kind := 3, ID := s239.1 } : Bound)).bind fun q419 => (bif (!q419.1) then some (true, q419.2) else ((y q419.2 ({ From := ({ Log := s188.1, Line := (W64 (s239.1 + 1)) } : Ref), To := ({ Log := s188.1, Line := s239.1 } : Ref), Most := (W64 ((W64 (1 + (W64 (Int.tdiv (W64 ((W64 (x217.Clock.Drift * j366)) + 999)) 1000)))) - j366)), Kind := 3, ID := s239.1 } : Bound)).bind fun q433 => some ((!q433.1), q433.2)))).bind fun j404 => (bif j404.1 then some (.ret j404.2) else some (.next ((W64 (s239.1 + 1)), j404.2))))))))) else some (.done (s239.1, s239.2)))
def clocks_bounds_1_L2 {σ : Type} (N : Nat) (y : (σ → Bound → Option (Bool × σ))) (z0 : System) (s : σ) (s16 : (Int × σ)) : (Int × σ) → Option (Flow σ (Int × σ)) := fun s188 =>
 (bif (decide (s188.1 < (z0.Tracks.length : Int))) then ((idx z0.Tracks s188.1).bind fun x217 => ((iter (clocks_bounds_1_L3 N y z0 s s16 s188 x217) N (0, s188.2)).bind fun o => o.k (fun r => some (.ret r)) (fun s254 => some (.next ((W64 (s188.1 + 1)), s254.2))))) else some (.done (s188.1, s188.2)))
def clocks_bounds_1_L4 {σ : Type} (N : Nat) (y : (σ → Bound → Option (Bool × σ))) (z0 : System) (s : σ) (s16 : (Int × σ)) (s200 : (Int × σ)) : (Int × σ) → Option (Flow σ (Int × σ)) := fun s460 =>
 (bif (decide (s460.1 < (z0.Ties.length : Int))) then ((idx z0.Ties s460.1).bind fun x487 => (((y s460.2 ({ From := x487.A, To := x487.B, Most := z0.Window, Kind := 4, ID := s460.1 } : Bound)).bind fun q521 => (bif (!q521.1) then some (true, q521.2) else ((y q521.2 ({ From := x487.B, To := x487.A, Most := z0.Window, Kind := 4, ID := s460.1 } : Bound)).bind fun q534 => some ((!q534.1), q534.2)))).bind fun j509 => (bif j509.1 then some (.ret j509.2) else some (.next ((W64 (s460.1 + 1)), j509.2))))) else some (.done (s460.1, s460.2)))
def clocks_bounds_1 {σ : Type} (N : Nat) (y : σ → Bound → Option (Bool × σ)) (z0 : System) (s : σ) : Option σ :=
 ((iter (clocks_bounds_1_L0 N y z0 s) N (0, s)).bind fun o => o.k (fun r => some r) (fun s16 => ((iter (clocks_bounds_1_L2 N y z0 s s16) N (0, s16.2)).bind fun o => o.k (fun r => some r) (fun s200 => ((iter (clocks_bounds_1_L4 N y z0 s s16 s200) N (0, s200.2)).bind fun o => o.k (fun r => some r) (fun s472 => some s472.2))))))
theorem co_clocks_bounds_1 : CallOk Try.prog 120 := fun _ _ => by kernel_rfl
set_option maxHeartbeats 4000000 in
set_option maxRecDepth 100000 in
theorem c_clocks_bounds_1 (N : Nat) (F0 : Mem) (z0 : System) (az0_0 : Option Addr) (nz0_0 : Nat) (hbz0_0 : LC z0.Tracks.length nz0_0) (hsz0_0 : SlA tTrack F0 az0_0 z0.Tracks) (az0_1 : Option Addr) (nz0_1 : Nat) (hbz0_1 : LC z0.Ties.length nz0_1) (hsz0_1 : SlA tTie F0 az0_1 z0.Ties) (bz0 : Nat) (hz0 : F0 bz0 = some (.cells #[(.slice az0_0 z0.Tracks.length nz0_0), (.slice az0_1 z0.Ties.length nz0_1), (.int .i64 z0.Window)] 25 (0, 0))) :
  SeqOk Try.prog 120 [(.pointer (some ⟨bz0, 0, none⟩))] F0 [] enc134 ok134 px134 (fun {_} y s => clocks_bounds_1 N y z0 s) := by
 intro σ wb w0 Fb F1 l y J s r Lf le01 hJm hs0 hJ hY h
 have hs0 : HS wb Fb w0 F1 Lf := hs0
 refine calls_of (n := 188) (c := bodyOf Try.f120) Try.func120 (by kernel_rfl) (by kernel_rfl) (by kernel_rfl) ?_
 refine Sq ?_
 refine Sq (Rg [0, 1, 2, 3] ?_)
 refine V 17 0 (fa 25 1 0 0 1 bz0 0 0) ?_
 refine V 18 22 (ld 22 17 bz0 0 false 1 (.slice az0_0 z0.Tracks.length nz0_0) (hs0.pers _ _ (le01 _ _ hz0))) ?_
 refine V 19 3 (ln 18 22 az0_0 z0.Tracks.length nz0_0 54 4 64) ?_
 refine V 20 3 (run_move (x := (.const (.int .i64 0))) (v := (.int .i64 0)) rfl) ?_
 refine Nt ?_
 obtain ⟨o1, ho2, h3⟩ := bind_some h
 refine CWP.cut (fun f w => ∃ (s16 : (Int × σ)) (F3 : Mem) (Lf20 : Own), o1 = .done s16 ∧ HS wb Fb w F3 Lf20 ∧ Mem.le F1 F3 ∧ f.d = [] ∧ f 0 = (.func (.yield l) #[] #[]) ∧ f 1 = (.pointer (some ⟨bz0, 0, none⟩)) ∧ J s16.2 F3 Lf20) ?_ ?_
 ·refine Bk ?_
  refine CWP.loop (by kernel_rfl) (fun m f w => ∃ (s4 : (Int × σ)) (F2 : Mem) (Lf8 : Own), iter (clocks_bounds_1_L0 N y z0 s) m s4 = some o1 ∧ HS wb Fb w F2 Lf8 ∧ Mem.le F1 F2 ∧ f.d = [] ∧ f 0 = (.func (.yield l) #[] #[]) ∧ f 1 = (.pointer (some ⟨bz0, 0, none⟩)) ∧ f 18 = (.slice az0_0 z0.Tracks.length nz0_0) ∧ f 19 = (.int .i64 (z0.Tracks.length : Int)) ∧ f 20 = (.int .i64 s4.1) ∧ J s4.2 F2 Lf8) N ⟨(0, s), F1, Lf, ho2, hs0, (Mem.le.refl _), rfl, rfl, rfl, rfl, rfl, rfl, hJ⟩ ?_
  rintro m25 f w5 ⟨s4, F2, Lf8, hit26, hs6, le7, e10, e11, e12, e13, e14, e15, hJ9⟩
  obtain ⟨m27, fl28, rfl, hb29, hnx30⟩ := iter_step hit26
  refine Sq (Rg [0] ?_)
  refine V 21 0 (run_lss (t := 3) (t' := 3) (x := (.tmp 20)) (y := (.tmp 19)) (k := .i64) (a := s4.1) (b := (z0.Tracks.length : Int)) e15 e14) ?_
  refine Nss ?_
  refine CWP.cond (t := (decide (s4.1 < (z0.Tracks.length : Int)))) (by kernel_rfl) rfl (fun hb31 => ?_) (fun hb31 => ?_)
  ·have h32 := cond_t hb29 hb31
   refine Sc ?_
   refine thenQ_nrm ?_
   refine Sq ?_
   refine Bk ?_
   refine Sq (Rg [0, 1, 2, 3, 4, 5] ?_)
   refine V 22 3 (mv 20 (.int .i64 s4.1) e15) ?_
   obtain ⟨x33, hx34, h36⟩ := bind_some h32
   obtain ⟨hi35, hx34'⟩ := idx_spec hx34
   obtain ⟨b37, o38, C39, E40, fz41, rfl, hF43, hE44⟩ := SlA.open (SlA.mono hsz0_0 (le01.trans le7)) hx34'
   obtain ⟨ae45_2, ne45_2, ae45_3, ne45_3, hc46, hbe45_2, hse45_2, hbe45_3, hse45_3⟩ := hE44 _ _ hx34'
   refine V 23 0 (run_index (t := 22) (x := (.tmp 18)) (y := (.tmp 20)) (b := b37) (o := o38) (E := 54) (s := 4) (by_ := 64) e13 e15 (by kernel_rfl) hi35) ?_
   refine V 24 54 (lx 54 23 0 4 true 4 (.agg #[(.int .i64 x33.Clock.Slip), (.int .i64 x33.Clock.Drift), (.slice ae45_2 x33.Clock.Jumps.length ne45_2), (.slice ae45_3 x33.Times.length ne45_3)]) (hs6.pers _ _ hF43) hc46) ?_
   refine Al 4 0 54 #[(.int .i64 0), (.int .i64 0), (.slice none ([] : List Int).length 0), (.slice none ([] : List Int).length 0)] hs6 (fun b47 w48 (hs49 : HS wb Fb w48 F2 ((some b47, (.cells #[(.int .i64 0), (.int .i64 0), (.slice none ([] : List Int).length 0), (.slice none ([] : List Int).length 0)] 54 (0, 0))) :: Lf8)) => ?_)
   refine V 3 3 (ma 22 (.int .i64 s4.1)) ?_
   refine RWP.store (ty := 0) (g := none) (by kernel_rfl) rfl (x := (.tmp 4)) (y := (.tmp 24)) (t := 54) (gg := true) (s := 4) (v := (.agg #[(.int .i64 x33.Clock.Slip), (.int .i64 x33.Clock.Drift), (.slice ae45_2 x33.Clock.Jumps.length ne45_2), (.slice ae45_3 x33.Times.length ne45_3)])) (b := b47) (o := 0) (C := #[(.int .i64 0), (.int .i64 0), (.slice none ([] : List Int).length 0), (.slice none ([] : List Int).length 0)]) rfl rfl (by kernel_rfl) hs49 (k := 0) rfl rfl rfl rfl (C' := #[(.int .i64 x33.Clock.Slip), (.int .i64 x33.Clock.Drift), (.slice ae45_2 x33.Clock.Jumps.length ne45_2), (.slice ae45_3 x33.Times.length ne45_3)]) rfl (fun w50 (hs51 : HS wb Fb w50 F2 ((some b47, (.cells #[(.int .i64 x33.Clock.Slip), (.int .i64 x33.Clock.Drift), (.slice ae45_2 x33.Clock.Jumps.length ne45_2), (.slice ae45_3 x33.Times.length ne45_3)] 54 (0, 0))) :: Lf8)) => ?_)
   refine Nss (Rg [0, 1, 2, 3] ?_)
   refine V 25 0 (fa 54 4 1 3 1 b47 0 3) ?_
   refine V 26 50 (ld 50 25 b47 3 false 1 (.slice ae45_3 x33.Times.length ne45_3) (hs51.ownAt (k := 0) rfl)) ?_
   refine V 27 3 (ln 26 50 ae45_3 x33.Times.length ne45_3 3 1 8) ?_
   refine V 28 3 (run_move (x := (.const (.int .i64 0))) (v := (.int .i64 0)) rfl) ?_
   refine Nt ?_
   obtain ⟨o52, ho53, h54⟩ := bind_some h36
   refine CWP.cut (fun f w => ∃ (s72 : (Int × σ)) (F5 : Mem) (Lf76 : Own), o52 = .done s72 ∧ HS wb Fb w F5 Lf76 ∧ Mem.le F2 F5 ∧ f.d = [] ∧ f 0 = (.func (.yield l) #[] #[]) ∧ f 1 = (.pointer (some ⟨bz0, 0, none⟩)) ∧ f 18 = (.slice (some ⟨b37, o38, none⟩) z0.Tracks.length nz0_0) ∧ f 19 = (.int .i64 (z0.Tracks.length : Int)) ∧ f 20 = (.int .i64 s4.1) ∧ J s72.2 F5 Lf76) ?_ ?_
   ·refine Bk ?_
    refine CWP.loop (by kernel_rfl) (fun m f w => ∃ (s55 : (Int × σ)) (F4 : Mem) (Lf59 : Own), iter (clocks_bounds_1_L1 N y z0 s s4 x33) m s55 = some o52 ∧ HS wb Fb w F4 ((some b47, (.cells #[(.int .i64 x33.Clock.Slip), (.int .i64 x33.Clock.Drift), (.slice ae45_2 x33.Clock.Jumps.length ne45_2), (.slice ae45_3 x33.Times.length ne45_3)] 54 (0, 0))) :: Lf59) ∧ Mem.le F2 F4 ∧ f.d = [] ∧ f 0 = (.func (.yield l) #[] #[]) ∧ f 1 = (.pointer (some ⟨bz0, 0, none⟩)) ∧ f 3 = (.int .i64 s4.1) ∧ f 4 = (.pointer (some ⟨b47, 0, none⟩)) ∧ f 18 = (.slice (some ⟨b37, o38, none⟩) z0.Tracks.length nz0_0) ∧ f 19 = (.int .i64 (z0.Tracks.length : Int)) ∧ f 20 = (.int .i64 s4.1) ∧ f 26 = (.slice ae45_3 x33.Times.length ne45_3) ∧ f 27 = (.int .i64 (x33.Times.length : Int)) ∧ f 28 = (.int .i64 s55.1) ∧ J s55.2 F4 Lf59) N ⟨(0, s4.2), F2, Lf8, ho53, hs51, (Mem.le.refl _), e10, e11, e12, rfl, rfl, e13, e14, e15, rfl, rfl, rfl, hJ9⟩ ?_
    rintro m84 f w56 ⟨s55, F4, Lf59, hit85, hs57, le58, e61, e62, e63, e64, e65, e66, e67, e68, e69, e70, e71, hJ60⟩
    obtain ⟨m86, fl87, rfl, hb88, hnx89⟩ := iter_step hit85
    refine Sq (Rg [0] ?_)
    refine V 29 0 (run_lss (t := 3) (t' := 3) (x := (.tmp 28)) (y := (.tmp 27)) (k := .i64) (a := s55.1) (b := (x33.Times.length : Int)) e71 e70) ?_
    refine Nss ?_
    refine CWP.cond (t := (decide (s55.1 < (x33.Times.length : Int)))) (by kernel_rfl) rfl (fun hb90 => ?_) (fun hb90 => ?_)
    ·have h91 := cond_t hb88 hb90
     refine Sc ?_
     refine thenQ_nrm ?_
     refine Sq ?_
     refine Bk ?_
     refine Sq (Rg [0, 1, 2, 3, 4] ?_)
     refine V 30 3 (mv 28 (.int .i64 s55.1) e71) ?_
     obtain ⟨x92, hx93, h95⟩ := bind_some h91
     obtain ⟨hi94, hx93'⟩ := idx_spec hx93
     obtain ⟨b96, o97, C98, E99, fz100, rfl, hF102, hE103⟩ := SlA.open (SlA.mono hse45_3 le58) hx93'
     have hc105 := hE103 _ _ hx93'
     refine V 31 0 (run_index (t := 50) (x := (.tmp 26)) (y := (.tmp 28)) (b := b96) (o := o97) (E := 3) (s := 1) (by_ := 8) e69 e71 (by kernel_rfl) hi94) ?_
     refine V 32 3 (lx 3 31 0 1 false 1 (.int .i64 x92) (hs57.pers _ _ hF102) hc105) ?_
     refine V 5 3 (ma 30 (.int .i64 s55.1)) ?_
     refine V 6 3 (ma 32 (.int .i64 x92)) ?_
     refine Nss (Rg [0, 1, 2, 3, 4] ?_)
     refine V 33 3 (mv 3 (.int .i64 s4.1) e64) ?_
     refine V 34 3 (mv 5 (.int .i64 s55.1)) ?_
     refine V 35 27 (run_build2 (t := 27) (parts := #[(0, (.tmp 33)), (1, (.tmp 34))]) (vs := [(0, (.int .i64 s4.1)), (1, (.int .i64 s55.1))]) (rfl) (cs := [(.int .i64 s4.1), (.int .i64 s55.1)]) (by kernel_rfl)) ?_
     refine Al 7 0 27 #[(.int .i64 0), (.int .i64 0)] hs57 (fun b106 w107 (hs108 : HS wb Fb w107 F4 ((some b106, (.cells #[(.int .i64 0), (.int .i64 0)] 27 (0, 0))) :: (some b47, (.cells #[(.int .i64 x33.Clock.Slip), (.int .i64 x33.Clock.Drift), (.slice ae45_2 x33.Clock.Jumps.length ne45_2), (.slice (some ⟨b96, o97, none⟩) x33.Times.length ne45_3)] 54 (0, 0))) :: Lf59)) => ?_)
     refine RWP.store (ty := 0) (g := none) (by kernel_rfl) rfl (x := (.tmp 7)) (y := (.tmp 35)) (t := 27) (gg := true) (s := 2) (v := (.agg #[(.int .i64 s4.1), (.int .i64 s55.1)])) (b := b106) (o := 0) (C := #[(.int .i64 0), (.int .i64 0)]) rfl rfl (by kernel_rfl) hs108 (k := 0) rfl rfl rfl rfl (C' := #[(.int .i64 s4.1), (.int .i64 s55.1)]) rfl (fun w109 (hs110 : HS wb Fb w109 F4 ((some b106, (.cells #[(.int .i64 s4.1), (.int .i64 s55.1)] 27 (0, 0))) :: (some b47, (.cells #[(.int .i64 x33.Clock.Slip), (.int .i64 x33.Clock.Drift), (.slice ae45_2 x33.Clock.Jumps.length ne45_2), (.slice (some ⟨b96, o97, none⟩) x33.Times.length ne45_3)] 54 (0, 0))) :: Lf59)) => ?_)
     refine Nss ?_
     obtain ⟨j116, hj131, h132⟩ := bind_some h95
     refine CWP.regionD (by kernel_rfl) (by kernel_rfl) (by kernel_rfl) (by kernel_rfl) (z := 26) (F := F4) (Lc := [(some b106, (.cells #[(.int .i64 s4.1), (.int .i64 s55.1)] 27 (0, 0))), (some b47, (.cells #[(.int .i64 x33.Clock.Slip), (.int .i64 x33.Clock.Drift), (.slice ae45_2 x33.Clock.Jumps.length ne45_2), (.slice (some ⟨b96, o97, none⟩) x33.Times.length ne45_3)] 54 (0, 0)))]) (Lz := []) (l := [false, false, false, false, false, false, false, false, false, false, false, false, false, false, false, false, false, false, false, false, false, false, false, false, false, false]) (fuel := 26) (by kernel_rfl) (by kernel_rfl) hs110 (by simp) (by simp) (fun f w => ∃ (F6 : Mem) (Lf117 : Own), HS wb Fb w F6 ((some b47, (.cells #[(.int .i64 x33.Clock.Slip), (.int .i64 x33.Clock.Drift), (.slice ae45_2 x33.Clock.Jumps.length ne45_2), (.slice (some ⟨b96, o97, none⟩) x33.Times.length ne45_3)] 54 (0, 0))) :: Lf117) ∧ Mem.le F4 F6 ∧ f.d = [] ∧ f 0 = (.func (.yield l) #[] #[]) ∧ f 1 = (.pointer (some ⟨bz0, 0, none⟩)) ∧ f 3 = (.int .i64 s4.1) ∧ f 4 = (.pointer (some ⟨b47, 0, none⟩)) ∧ f 18 = (.slice (some ⟨b37, o38, none⟩) z0.Tracks.length nz0_0) ∧ f 19 = (.int .i64 (z0.Tracks.length : Int)) ∧ f 20 = (.int .i64 s4.1) ∧ f 26 = (.slice (some ⟨b96, o97, none⟩) x33.Times.length ne45_3) ∧ f 27 = (.int .i64 (x33.Times.length : Int)) ∧ f 28 = (.int .i64 s55.1) ∧ f 61 = (.bool j116.1) ∧ J j116.2 F6 Lf117) (fun wd111 hw112 => ?_) ?_
     ·refine Dtl 0 36 134 _ [tt, ff, ff, ff, ff, ff, ff, ff, ff, ff, ff, ff, ff, ff, ff, ff, ff, ff, ff, ff, ff, ff, ff, ff, ff, ff] (fun _ hq => mv 0 (.func (.yield l) #[] #[]) e62) ?_
      refine Dtl 2 38 27 _ [tt, ff, tt, ff, ff, ff, ff, ff, ff, ff, ff, ff, ff, ff, ff, ff, ff, ff, ff, ff, ff, ff, ff, ff, ff, ff] (fun _ hq => ld 27 7 b106 0 true 2 (.agg #[(.int .i64 s4.1), (.int .i64 s55.1)]) (hq.1.2 0 _ _ rfl)) ?_
      refine Dtl 3 39 3 _ [tt, ff, tt, tt, ff, ff, ff, ff, ff, ff, ff, ff, ff, ff, ff, ff, ff, ff, ff, ff, ff, ff, ff, ff, ff, ff] (fun _ hq => mv 6 (.int .i64 x92)) ?_
      refine Dtl 4 40 0 (.pointer (some ⟨b47, 0, none⟩)) [tt, ff, tt, tt, tt, ff, ff, ff, ff, ff, ff, ff, ff, ff, ff, ff, ff, ff, ff, ff, ff, ff, ff, ff, ff, ff] (fun _ hq => fa 54 4 0 0 3 b47 0 0 e65) ?_
      refine Dtl 5 41 0 (.pointer (some ⟨b47, 0, none⟩)) [tt, ff, tt, tt, tt, tt, ff, ff, ff, ff, ff, ff, ff, ff, ff, ff, ff, ff, ff, ff, ff, ff, ff, ff, ff, ff] (fun _ hq => fa 52 40 0 0 1 b47 0 0) ?_
      refine Dtl 6 42 3 _ [tt, ff, tt, tt, tt, tt, tt, ff, ff, ff, ff, ff, ff, ff, ff, ff, ff, ff, ff, ff, ff, ff, ff, ff, ff, ff] (fun _ hq => ld 3 41 b47 0 false 1 (.int .i64 x33.Clock.Slip) (hq.1.2 1 _ _ rfl)) ?_
      refine Dtl 7 43 3 (.int .i64 (W64 (x92 + x33.Clock.Slip))) [tt, ff, tt, tt, tt, tt, tt, tt, ff, ff, ff, ff, ff, ff, ff, ff, ff, ff, ff, ff, ff, ff, ff, ff, ff, ff] (fun _ hq => run_add (t := 3) (t' := 3) (x := (.tmp 39)) (y := (.tmp 42)) (k := .i64) (a := x92) (b := x33.Clock.Slip) rfl rfl) ?_
      refine Dtl 8 44 3 _ [tt, ff, tt, tt, tt, tt, tt, tt, tt, ff, ff, ff, ff, ff, ff, ff, ff, ff, ff, ff, ff, ff, ff, ff, ff, ff] (fun _ hq => mv 5 (.int .i64 s55.1)) ?_
      refine DWP.one (i := 1) (by kernel_rfl) ?_
      obtain ⟨r133, hr134, h135⟩ := bind_some hj131
      refine DStep.call (l' := [true, true, true, true, true, true, true, true, true, false, false, false, false, false, false, false, false, false, false, false, false, false, false, false, false, false]) (zd := true) (by kernel_rfl) (by kernel_rfl) (by kernel_rfl) (dst := (some 37)) (ty := 27) (g := none) (by kernel_rfl) rfl (f0 := (.func 108)) (aos := #[]) (ats := #[]) (fid := 108) (first := #[]) (cap := #[]) (args := []) rfl co_clocks_beginning (rfl) hw112 (c_clocks_beginning N wd111 F4 hw112.pers  _ hr134) ?_
      intro v136 F7 w137 hs138 le139 hp140
      obtain rfl := hp140
      refine Dtl 9 45 103 (.agg #[(.int .i64 r133.Log), (.int .i64 r133.Line), (.int .i64 s4.1), (.int .i64 s55.1), (.int .i64 (W64 (x92 + x33.Clock.Slip))), (.int .i64 1), (.int .i64 s55.1)]) [tt, tt, tt, tt, tt, tt, tt, tt, tt, tt, ff, ff, ff, ff, ff, ff, ff, ff, ff, ff, ff, ff, ff, ff, ff, ff] (fun _ hq => run_build2 (t := 103) (parts := #[(0, (.tmp 37)), (1, (.tmp 38)), (2, (.tmp 43)), (3, (.const (.int .i64 1))), (4, (.tmp 44))]) (vs := [(0, (.agg #[(.int .i64 r133.Log), (.int .i64 r133.Line)])), (1, (.agg #[(.int .i64 s4.1), (.int .i64 s55.1)])), (2, (.int .i64 (W64 (x92 + x33.Clock.Slip)))), (3, (.int .i64 1)), (4, (.int .i64 s55.1))]) (rfl) (cs := [(.int .i64 r133.Log), (.int .i64 r133.Line), (.int .i64 s4.1), (.int .i64 s55.1), (.int .i64 (W64 (x92 + x33.Clock.Slip))), (.int .i64 1), (.int .i64 s55.1)]) (by kernel_rfl)) ?_
      refine DWP.one (i := 10) (by kernel_rfl) ?_
      obtain ⟨q141, hq142, h143⟩ := bind_some h135
      refine DStep.yield (l' := [true, true, true, true, true, true, true, true, true, true, true, false, false, false, false, false, false, false, false, false, false, false, false, false, false, false]) (zd := true) (by kernel_rfl) (by kernel_rfl) (dst := (some 46)) (ty := 4) (g := none) (by kernel_rfl) rfl (f0 := (.tmp 36)) (aos := #[(.tmp 45)]) (ats := #[103]) (l := l) (args := [(.agg #[(.int .i64 r133.Log), (.int .i64 r133.Line), (.int .i64 s4.1), (.int .i64 s55.1), (.int .i64 (W64 (x92 + x33.Clock.Slip))), (.int .i64 1), (.int .i64 s55.1)])]) rfl (rfl) (hY s55.2 ({ From := r133, To := ({ Log := s4.1, Line := s55.1 } : Ref), Most := (W64 (x92 + x33.Clock.Slip)), Kind := 1, ID := s55.1 } : Bound) w137 F7 [(some b106, (.cells #[(.int .i64 s4.1), (.int .i64 s55.1)] 27 (0, 0))), (some b47, (.cells #[(.int .i64 x33.Clock.Slip), (.int .i64 x33.Clock.Drift), (.slice ae45_2 x33.Clock.Jumps.length ne45_2), (.slice (some ⟨b96, o97, none⟩) x33.Times.length ne45_3)] 54 (0, 0)))] Lf59 q141 ((le7.trans le58).trans le139) trivial (hJm _ _ _ _ hJ60 le139) hs138 hq142) ?_
      rintro _ w144 ⟨F8, Lf148, rfl, hs145, le146, hJ147⟩
      have hs149 : HS wb Fb w144 F8 ((some b106, (.cells #[(.int .i64 s4.1), (.int .i64 s55.1)] 27 (0, 0))) :: (some b47, (.cells #[(.int .i64 x33.Clock.Slip), (.int .i64 x33.Clock.Drift), (.slice ae45_2 x33.Clock.Jumps.length ne45_2), (.slice (some ⟨b96, o97, none⟩) x33.Times.length ne45_3)] 54 (0, 0))) :: Lf148) := hs145
      refine ⟨_, rfl, dz_of hs149 (le139.trans le146) (by simp) (fun e => by cases e), ?_⟩
      refine Dtl 11 47 4 (.bool (!q141.1)) [tt, tt, tt, tt, tt, tt, tt, tt, tt, tt, tt, tt, ff, ff, ff, ff, ff, ff, ff, ff, ff, ff, ff, ff, ff, ff] (fun _ hq => run_not (t := 4) (x := (.tmp 46)) (a := q141.1) rfl) ?_
      refine Dtl 12 48 4 _ [tt, tt, tt, tt, tt, tt, tt, tt, tt, tt, tt, tt, tt, ff, ff, ff, ff, ff, ff, ff, ff, ff, ff, ff, ff, ff] (fun _ hq => mv 47 (.bool (!q141.1))) ?_
      refine DWP.split (!q141.1) (fun hb150 => ?_) (fun hb150 => ?_)
      ·have h151 := cond_t h143 hb150
       refine Dkl [(13, 49), (14, 50), (15, 51), (16, 52), (17, 53), (18, 54)] 12 false 48 hb150 [tt, tt, tt, tt, tt, tt, tt, tt, tt, tt, tt, tt, tt, tt, tt, tt, tt, tt, tt, ff, ff, ff, ff, ff, ff, ff] ?_
       refine Dkl [(19, 55), (20, 56), (21, 57), (22, 58), (23, 59), (24, 60)] 12 false 48 hb150 [tt, tt, tt, tt, tt, tt, tt, tt, tt, tt, tt, tt, tt, tt, tt, tt, tt, tt, tt, tt, tt, tt, tt, tt, tt, ff] ?_
       refine Dtl 25 61 4 _ [tt, tt, tt, tt, tt, tt, tt, tt, tt, tt, tt, tt, tt, tt, tt, tt, tt, tt, tt, tt, tt, tt, tt, tt, tt, tt] (fun _ hq => p1 48 (.const (.bool true)) (.tmp 60) (.bool true) hb150) ?_
       obtain rfl := some_inj h151
       have hs152 : HS wb Fb w144 F8 ((some b47, (.cells #[(.int .i64 x33.Clock.Slip), (.int .i64 x33.Clock.Drift), (.slice ae45_2 x33.Clock.Jumps.length ne45_2), (.slice (some ⟨b96, o97, none⟩) x33.Times.length ne45_3)] 54 (0, 0))) :: Lf148) := hs149.drop 0
       exact DWP.done (by kernel_rfl) ⟨F8, Lf148, hs152, (le139.trans le146), e61, e62, e63, e64, e65, e66, e67, e68, e69, e70, e71, rfl, hJ147⟩
      ·have h153 := cond_f h143 hb150
       refine Dgl 13 49 134 _ [tt, tt, tt, tt, tt, tt, tt, tt, tt, tt, tt, tt, tt, tt, ff, ff, ff, ff, ff, ff, ff, ff, ff, ff, ff, ff] 12 false 48 hb150 (fun _ hq => mv 0 (.func (.yield l) #[] #[]) e62) ?_
       refine Dgl 14 50 27 _ [tt, tt, tt, tt, tt, tt, tt, tt, tt, tt, tt, tt, tt, tt, tt, ff, ff, ff, ff, ff, ff, ff, ff, ff, ff, ff] 12 false 48 hb150 (fun _ hq => ld 27 7 b106 0 true 2 (.agg #[(.int .i64 s4.1), (.int .i64 s55.1)]) (hq.1.2 0 _ _ rfl)) ?_
       refine Dgl 16 52 0 (.pointer (some ⟨b47, 0, none⟩)) [tt, tt, tt, tt, tt, tt, tt, tt, tt, tt, tt, tt, tt, tt, tt, ff, tt, ff, ff, ff, ff, ff, ff, ff, ff, ff] 12 false 48 hb150 (fun _ hq => fa 54 4 0 0 3 b47 0 0 e65) ?_
       refine Dgl 17 53 0 (.pointer (some ⟨b47, 0, none⟩)) [tt, tt, tt, tt, tt, tt, tt, tt, tt, tt, tt, tt, tt, tt, tt, ff, tt, tt, ff, ff, ff, ff, ff, ff, ff, ff] 12 false 48 hb150 (fun _ hq => fa 52 52 0 0 1 b47 0 0) ?_
       refine Dgl 18 54 3 _ [tt, tt, tt, tt, tt, tt, tt, tt, tt, tt, tt, tt, tt, tt, tt, ff, tt, tt, tt, ff, ff, ff, ff, ff, ff, ff] 12 false 48 hb150 (fun _ hq => ld 3 53 b47 0 false 1 (.int .i64 x33.Clock.Slip) (hq.1.2 1 _ _ rfl)) ?_
       refine Dgl 19 55 3 _ [tt, tt, tt, tt, tt, tt, tt, tt, tt, tt, tt, tt, tt, tt, tt, ff, tt, tt, tt, tt, ff, ff, ff, ff, ff, ff] 12 false 48 hb150 (fun _ hq => mv 6 (.int .i64 x92)) ?_
       refine Dgl 20 56 3 (.int .i64 (W64 (x33.Clock.Slip - x92))) [tt, tt, tt, tt, tt, tt, tt, tt, tt, tt, tt, tt, tt, tt, tt, ff, tt, tt, tt, tt, tt, ff, ff, ff, ff, ff] 12 false 48 hb150 (fun _ hq => run_sub (t := 3) (t' := 3) (x := (.tmp 54)) (y := (.tmp 55)) (k := .i64) (a := x33.Clock.Slip) (b := x92) rfl rfl) ?_
       refine Dgl 21 57 3 _ [tt, tt, tt, tt, tt, tt, tt, tt, tt, tt, tt, tt, tt, tt, tt, ff, tt, tt, tt, tt, tt, tt, ff, ff, ff, ff] 12 false 48 hb150 (fun _ hq => mv 5 (.int .i64 s55.1)) ?_
       refine DWP.one (i := 15) (by kernel_rfl) ?_
       obtain ⟨r154, hr155, h156⟩ := bind_some h153
       refine DStep.call (l' := [true, true, true, true, true, true, true, true, true, true, true, true, true, true, true, true, true, true, true, true, true, true, false, false, false, false]) (zd := true) (by kernel_rfl) (by kernel_rfl) (by kernel_rfl) (dst := (some 51)) (ty := 27) (g := (some (12, false))) (by kernel_rfl) (gd_y (d := 48) (by kernel_rfl) rfl hb150) (f0 := (.func 108)) (aos := #[]) (ats := #[]) (fid := 108) (first := #[]) (cap := #[]) (args := []) rfl co_clocks_beginning (rfl) hs149 (c_clocks_beginning N w144 F8 hs149.pers  _ hr155) ?_
       intro v157 F9 w158 hs159 le160 hp161
       obtain rfl := hp161
       refine Dgl 22 58 103 (.agg #[(.int .i64 s4.1), (.int .i64 s55.1), (.int .i64 r154.Log), (.int .i64 r154.Line), (.int .i64 (W64 (x33.Clock.Slip - x92))), (.int .i64 1), (.int .i64 s55.1)]) [tt, tt, tt, tt, tt, tt, tt, tt, tt, tt, tt, tt, tt, tt, tt, tt, tt, tt, tt, tt, tt, tt, tt, ff, ff, ff] 12 false 48 hb150 (fun _ hq => run_build2 (t := 103) (parts := #[(0, (.tmp 50)), (1, (.tmp 51)), (2, (.tmp 56)), (3, (.const (.int .i64 1))), (4, (.tmp 57))]) (vs := [(0, (.agg #[(.int .i64 s4.1), (.int .i64 s55.1)])), (1, (.agg #[(.int .i64 r154.Log), (.int .i64 r154.Line)])), (2, (.int .i64 (W64 (x33.Clock.Slip - x92)))), (3, (.int .i64 1)), (4, (.int .i64 s55.1))]) (rfl) (cs := [(.int .i64 s4.1), (.int .i64 s55.1), (.int .i64 r154.Log), (.int .i64 r154.Line), (.int .i64 (W64 (x33.Clock.Slip - x92))), (.int .i64 1), (.int .i64 s55.1)]) (by kernel_rfl)) ?_
       refine DWP.one (i := 23) (by kernel_rfl) ?_
       obtain ⟨q162, hq163, h164⟩ := bind_some h156
       refine DStep.yield (l' := [true, true, true, true, true, true, true, true, true, true, true, true, true, true, true, true, true, true, true, true, true, true, true, true, false, false]) (zd := true) (by kernel_rfl) (by kernel_rfl) (dst := (some 59)) (ty := 4) (g := (some (12, false))) (by kernel_rfl) (gd_y (d := 48) (by kernel_rfl) rfl hb150) (f0 := (.tmp 49)) (aos := #[(.tmp 58)]) (ats := #[103]) (l := l) (args := [(.agg #[(.int .i64 s4.1), (.int .i64 s55.1), (.int .i64 r154.Log), (.int .i64 r154.Line), (.int .i64 (W64 (x33.Clock.Slip - x92))), (.int .i64 1), (.int .i64 s55.1)])]) rfl (rfl) (hY q141.2 ({ From := ({ Log := s4.1, Line := s55.1 } : Ref), To := r154, Most := (W64 (x33.Clock.Slip - x92)), Kind := 1, ID := s55.1 } : Bound) w158 F9 [(some b106, (.cells #[(.int .i64 s4.1), (.int .i64 s55.1)] 27 (0, 0))), (some b47, (.cells #[(.int .i64 x33.Clock.Slip), (.int .i64 x33.Clock.Drift), (.slice ae45_2 x33.Clock.Jumps.length ne45_2), (.slice (some ⟨b96, o97, none⟩) x33.Times.length ne45_3)] 54 (0, 0)))] Lf148 q162 ((((le7.trans le58).trans le139).trans le146).trans le160) trivial (hJm _ _ _ _ hJ147 le160) hs159 hq163) ?_
       rintro _ w165 ⟨F10, Lf169, rfl, hs166, le167, hJ168⟩
       have hs170 : HS wb Fb w165 F10 ((some b106, (.cells #[(.int .i64 s4.1), (.int .i64 s55.1)] 27 (0, 0))) :: (some b47, (.cells #[(.int .i64 x33.Clock.Slip), (.int .i64 x33.Clock.Drift), (.slice ae45_2 x33.Clock.Jumps.length ne45_2), (.slice (some ⟨b96, o97, none⟩) x33.Times.length ne45_3)] 54 (0, 0))) :: Lf169) := hs166
       refine ⟨_, rfl, dz_of hs170 (((le139.trans le146).trans le160).trans le167) (by simp) (fun e => by cases e), ?_⟩
       refine Dgl 24 60 4 (.bool (!q162.1)) [tt, tt, tt, tt, tt, tt, tt, tt, tt, tt, tt, tt, tt, tt, tt, tt, tt, tt, tt, tt, tt, tt, tt, tt, tt, ff] 12 false 48 hb150 (fun _ hq => run_not (t := 4) (x := (.tmp 59)) (a := q162.1) rfl) ?_
       refine Dtl 25 61 4 _ [tt, tt, tt, tt, tt, tt, tt, tt, tt, tt, tt, tt, tt, tt, tt, tt, tt, tt, tt, tt, tt, tt, tt, tt, tt, tt] (fun _ hq => p0 48 (.const (.bool true)) (.tmp 60) (.bool (!q162.1)) hb150) ?_
       obtain rfl := some_inj h164
       have hs171 : HS wb Fb w165 F10 ((some b47, (.cells #[(.int .i64 x33.Clock.Slip), (.int .i64 x33.Clock.Drift), (.slice ae45_2 x33.Clock.Jumps.length ne45_2), (.slice (some ⟨b96, o97, none⟩) x33.Times.length ne45_3)] 54 (0, 0))) :: Lf169) := hs170.drop 0
       exact DWP.done (by kernel_rfl) ⟨F10, Lf169, hs171, (((le139.trans le146).trans le160).trans le167), e61, e62, e63, e64, e65, e66, e67, e68, e69, e70, e71, rfl, hJ168⟩
     ·rintro f w113 ⟨F6, Lf117, hs114, le115, e119, e120, e121, e122, e123, e124, e125, e126, e127, e128, e129, e130, hJ118⟩
      refine thenQ_nrm ?_
      refine CWP.cond (t := j116.1) (by kernel_rfl) e130 (fun hb172 => ?_) (fun hb172 => ?_)
      ·have h173 := cond_t h132 hb172
       refine CWP.ret (by kernel_rfl) ?_
       refine blockQ_ret ?_
       refine thenQ_ret ?_
       refine thenQ_ret ?_
       refine blockQ_ret ?_
       have hret := iter_ret h173 hnx89
       subst hret
       refine .inr ?_
       refine blockQ_ret ?_
       refine thenQ_ret ?_
       refine thenQ_ret ?_
       refine blockQ_ret ?_
       have hret := iter_ret h54 hnx30
       subst hret
       refine .inr ?_
       refine thenQ_ret ?_
       have hs174 : HS wb Fb w113 F6 Lf117 := hs114.drop 0
       have hfin := some_inj h3
       subst hfin
       exact ⟨e119, .tuple #[], res_of (l := []) (by kernel_rfl) (vs := []) trivial, F6, Lf117, rfl, hs174, ((le7.trans le58).trans le115), hJ118⟩
      ·have h175 := cond_f h132 hb172
       refine Sc ?_
       refine blockQ_nrm ?_
       refine thenQ_nrm ?_
       refine Rg [0, 1] ?_
       refine V 62 3 (run_add (t := 3) (t' := 3) (x := (.tmp 28)) (y := (.const (.int .i64 1))) (k := .i64) (a := s55.1) (b := 1) e129 rfl) ?_
       refine V 28 3 (mv 62 (.int .i64 (W64 (s55.1 + 1)))) ?_
       refine RWP.nil ?_
       have hn176 := iter_next h175 hnx89
       exact ⟨m86, Nat.lt_succ_self _, ((W64 (s55.1 + 1)), j116.2), F6, Lf117, hn176, hs114, (le58.trans le115), e119, e120, e121, e122, e123, e124, e125, e126, e127, e128, rfl, hJ118⟩
    ·have h177 := cond_f hb88 hb90
     refine CWP.exit (by kernel_rfl) ?_
     refine thenQ_ex ?_
     refine thenQ_ex ?_
     refine blockQ_hit rfl ?_
     have hs178 : HS wb Fb w56 F4 Lf59 := hs57.drop 0
     have ho179 := iter_done h177 hnx89
     exact .inl ⟨rfl, (s55.1, s55.2), F4, Lf59, ho179, hs178, le58, e61, e62, e63, e66, e67, e68, hJ60⟩
   ·rintro f w73 ⟨s72, F5, Lf76, rfl, hs74, le75, e78, e79, e80, e81, e82, e83, hJ77⟩
    have h180 := k_done h54
    refine blockQ_nrm ?_
    refine thenQ_nrm ?_
    refine Rg [0, 1] ?_
    refine V 63 3 (run_add (t := 3) (t' := 3) (x := (.tmp 20)) (y := (.const (.int .i64 1))) (k := .i64) (a := s4.1) (b := 1) e83 rfl) ?_
    refine V 20 3 (mv 63 (.int .i64 (W64 (s4.1 + 1)))) ?_
    refine RWP.nil ?_
    have hn181 := iter_next h180 hnx30
    exact ⟨m27, Nat.lt_succ_self _, ((W64 (s4.1 + 1)), s72.2), F5, Lf76, hn181, hs74, (le7.trans le75), e78, e79, e80, e81, e82, rfl, hJ77⟩
  ·have h182 := cond_f hb29 hb31
   refine CWP.exit (by kernel_rfl) ?_
   refine thenQ_ex ?_
   refine thenQ_ex ?_
   refine blockQ_hit rfl ?_
   have ho183 := iter_done h182 hnx30
   exact .inl ⟨rfl, (s4.1, s4.2), F2, Lf8, ho183, hs6, le7, e10, e11, e12, hJ9⟩
 ·rintro f w17 ⟨s16, F3, Lf20, rfl, hs18, le19, e22, e23, e24, hJ21⟩
  have h184 := k_done h3
  refine thenQ_nrm ?_
  refine Sq ?_
  refine Sq (Rg [0, 1, 2, 3] ?_)
  refine V 64 0 (fa 25 1 0 0 1 bz0 0 0 e24) ?_
  refine V 65 22 (ld 22 64 bz0 0 false 1 (.slice az0_0 z0.Tracks.length nz0_0) (hs18.pers _ _ ((le01.trans le19) _ _ hz0))) ?_
  refine V 66 3 (ln 65 22 az0_0 z0.Tracks.length nz0_0 54 4 64) ?_
  refine V 67 3 (run_move (x := (.const (.int .i64 0))) (v := (.int .i64 0)) rfl) ?_
  refine Nt ?_
  obtain ⟨o185, ho186, h187⟩ := bind_some h184
  refine CWP.cut (fun f w => ∃ (s200 : (Int × σ)) (F12 : Mem) (Lf204 : Own), o185 = .done s200 ∧ HS wb Fb w F12 Lf204 ∧ Mem.le F3 F12 ∧ f.d = [] ∧ f 0 = (.func (.yield l) #[] #[]) ∧ f 1 = (.pointer (some ⟨bz0, 0, none⟩)) ∧ J s200.2 F12 Lf204) ?_ ?_
  ·refine Bk ?_
   refine CWP.loop (by kernel_rfl) (fun m f w => ∃ (s188 : (Int × σ)) (F11 : Mem) (Lf192 : Own), iter (clocks_bounds_1_L2 N y z0 s s16) m s188 = some o185 ∧ HS wb Fb w F11 Lf192 ∧ Mem.le F3 F11 ∧ f.d = [] ∧ f 0 = (.func (.yield l) #[] #[]) ∧ f 1 = (.pointer (some ⟨bz0, 0, none⟩)) ∧ f 65 = (.slice az0_0 z0.Tracks.length nz0_0) ∧ f 66 = (.int .i64 (z0.Tracks.length : Int)) ∧ f 67 = (.int .i64 s188.1) ∧ J s188.2 F11 Lf192) N ⟨(0, s16.2), F3, Lf20, ho186, hs18, (Mem.le.refl _), e22, e23, e24, rfl, rfl, rfl, hJ21⟩ ?_
   rintro m209 f w189 ⟨s188, F11, Lf192, hit210, hs190, le191, e194, e195, e196, e197, e198, e199, hJ193⟩
   obtain ⟨m211, fl212, rfl, hb213, hnx214⟩ := iter_step hit210
   refine Sq (Rg [0] ?_)
   refine V 68 0 (run_lss (t := 3) (t' := 3) (x := (.tmp 67)) (y := (.tmp 66)) (k := .i64) (a := s188.1) (b := (z0.Tracks.length : Int)) e199 e198) ?_
   refine Nss ?_
   refine CWP.cond (t := (decide (s188.1 < (z0.Tracks.length : Int)))) (by kernel_rfl) rfl (fun hb215 => ?_) (fun hb215 => ?_)
   ·have h216 := cond_t hb213 hb215
    refine Sc ?_
    refine thenQ_nrm ?_
    refine Sq ?_
    refine Bk ?_
    refine Sq (Rg [0, 1, 2, 3, 4, 5] ?_)
    refine V 69 3 (mv 67 (.int .i64 s188.1) e199) ?_
    obtain ⟨x217, hx218, h220⟩ := bind_some h216
    obtain ⟨hi219, hx218'⟩ := idx_spec hx218
    obtain ⟨b221, o222, C223, E224, fz225, rfl, hF227, hE228⟩ := SlA.open (SlA.mono hsz0_0 ((le01.trans le19).trans le191)) hx218'
    obtain ⟨ae229_2, ne229_2, ae229_3, ne229_3, hc230, hbe229_2, hse229_2, hbe229_3, hse229_3⟩ := hE228 _ _ hx218'
    refine V 70 0 (run_index (t := 22) (x := (.tmp 65)) (y := (.tmp 67)) (b := b221) (o := o222) (E := 54) (s := 4) (by_ := 64) e197 e199 (by kernel_rfl) hi219) ?_
    refine V 71 54 (lx 54 70 0 4 true 4 (.agg #[(.int .i64 x217.Clock.Slip), (.int .i64 x217.Clock.Drift), (.slice ae229_2 x217.Clock.Jumps.length ne229_2), (.slice ae229_3 x217.Times.length ne229_3)]) (hs190.pers _ _ hF227) hc230) ?_
    refine Al 9 0 54 #[(.int .i64 0), (.int .i64 0), (.slice none ([] : List Int).length 0), (.slice none ([] : List Int).length 0)] hs190 (fun b231 w232 (hs233 : HS wb Fb w232 F11 ((some b231, (.cells #[(.int .i64 0), (.int .i64 0), (.slice none ([] : List Int).length 0), (.slice none ([] : List Int).length 0)] 54 (0, 0))) :: Lf192)) => ?_)
    refine V 8 3 (ma 69 (.int .i64 s188.1)) ?_
    refine RWP.store (ty := 0) (g := none) (by kernel_rfl) rfl (x := (.tmp 9)) (y := (.tmp 71)) (t := 54) (gg := true) (s := 4) (v := (.agg #[(.int .i64 x217.Clock.Slip), (.int .i64 x217.Clock.Drift), (.slice ae229_2 x217.Clock.Jumps.length ne229_2), (.slice ae229_3 x217.Times.length ne229_3)])) (b := b231) (o := 0) (C := #[(.int .i64 0), (.int .i64 0), (.slice none ([] : List Int).length 0), (.slice none ([] : List Int).length 0)]) rfl rfl (by kernel_rfl) hs233 (k := 0) rfl rfl rfl rfl (C' := #[(.int .i64 x217.Clock.Slip), (.int .i64 x217.Clock.Drift), (.slice ae229_2 x217.Clock.Jumps.length ne229_2), (.slice ae229_3 x217.Times.length ne229_3)]) rfl (fun w234 (hs235 : HS wb Fb w234 F11 ((some b231, (.cells #[(.int .i64 x217.Clock.Slip), (.int .i64 x217.Clock.Drift), (.slice ae229_2 x217.Clock.Jumps.length ne229_2), (.slice ae229_3 x217.Times.length ne229_3)] 54 (0, 0))) :: Lf192)) => ?_)
    refine Nss (Rg [0] ?_)
    refine V 10 3 (mc (.int .i64 0) (.int .i64 0)) ?_
    refine Nt ?_
    obtain ⟨o236, ho237, h238⟩ := bind_some h220
    refine CWP.cut (fun f w => ∃ (s254 : (Int × σ)) (F14 : Mem) (Lf258 : Own), o236 = .done s254 ∧ HS wb Fb w F14 Lf258 ∧ Mem.le F11 F14 ∧ f.d = [] ∧ f 0 = (.func (.yield l) #[] #[]) ∧ f 1 = (.pointer (some ⟨bz0, 0, none⟩)) ∧ f 65 = (.slice (some ⟨b221, o222, none⟩) z0.Tracks.length nz0_0) ∧ f 66 = (.int .i64 (z0.Tracks.length : Int)) ∧ f 67 = (.int .i64 s188.1) ∧ J s254.2 F14 Lf258) ?_ ?_
    ·refine Bk ?_
     refine CWP.loop (by kernel_rfl) (fun m f w => ∃ (s239 : (Int × σ)) (F13 : Mem) (Lf243 : Own), iter (clocks_bounds_1_L3 N y z0 s s16 s188 x217) m s239 = some o236 ∧ HS wb Fb w F13 ((some b231, (.cells #[(.int .i64 x217.Clock.Slip), (.int .i64 x217.Clock.Drift), (.slice ae229_2 x217.Clock.Jumps.length ne229_2), (.slice ae229_3 x217.Times.length ne229_3)] 54 (0, 0))) :: Lf243) ∧ Mem.le F11 F13 ∧ f.d = [] ∧ f 0 = (.func (.yield l) #[] #[]) ∧ f 1 = (.pointer (some ⟨bz0, 0, none⟩)) ∧ f 8 = (.int .i64 s188.1) ∧ f 9 = (.pointer (some ⟨b231, 0, none⟩)) ∧ f 10 = (.int .i64 s239.1) ∧ f 65 = (.slice (some ⟨b221, o222, none⟩) z0.Tracks.length nz0_0) ∧ f 66 = (.int .i64 (z0.Tracks.length : Int)) ∧ f 67 = (.int .i64 s188.1) ∧ J s239.2 F13 Lf243) N ⟨(0, s188.2), F11, Lf192, ho237, hs235, (Mem.le.refl _), e194, e195, e196, rfl, rfl, rfl, e197, e198, e199, hJ193⟩ ?_
     rintro m266 f w240 ⟨s239, F13, Lf243, hit267, hs241, le242, e245, e246, e247, e248, e249, e250, e251, e252, e253, hJ244⟩
     obtain ⟨m268, fl269, rfl, hb270, hnx271⟩ := iter_step hit267
     refine Sq ?_
     refine Sq (Rg [0, 1, 2, 3, 4, 5] ?_)
     refine V 72 3 (mv 10 (.int .i64 s239.1) e250) ?_
     refine V 73 3 (run_add (t := 3) (t' := 3) (x := (.tmp 72)) (y := (.const (.int .i64 1))) (k := .i64) (a := s239.1) (b := 1) rfl rfl) ?_
     refine V 74 0 (fa 54 9 1 3 1 b231 0 3 e249) ?_
     refine V 75 50 (ld 50 74 b231 3 false 1 (.slice ae229_3 x217.Times.length ne229_3) (hs241.ownAt (k := 0) rfl)) ?_
     refine V 76 3 (ln 75 50 ae229_3 x217.Times.length ne229_3 3 1 8) ?_
     refine V 77 4 (run_lss (t := 3) (t' := 3) (x := (.tmp 73)) (y := (.tmp 76)) (k := .i64) (a := (W64 (s239.1 + 1))) (b := (x217.Times.length : Int)) rfl rfl) ?_
     refine Nt ?_
     refine CWP.cond (t := (decide ((W64 (s239.1 + 1)) < (x217.Times.length : Int)))) (by kernel_rfl) rfl (fun hb272 => ?_) (fun hb272 => ?_)
     ·have h273 := cond_t hb270 hb272
      refine Sc ?_
      refine thenQ_nrm ?_
      refine Sq ?_
      refine Bk ?_
      refine Sq (Rg [0, 1, 2, 3, 4, 5, 6, 7, 8, 9, 10] ?_)
      refine V 80 3 (mv 8 (.int .i64 s188.1) e248) ?_
      refine V 81 3 (mv 10 (.int .i64 s239.1) e250) ?_
      refine V 82 27 (run_build2 (t := 27) (parts := #[(0, (.tmp 80)), (1, (.tmp 81))]) (vs := [(0, (.int .i64 s188.1)), (1, (.int .i64 s239.1))]) (rfl) (cs := [(.int .i64 s188.1), (.int .i64 s239.1)]) (by kernel_rfl)) ?_
      refine V 83 3 (mv 8 (.int .i64 s188.1) e248) ?_
      refine V 84 3 (mv 10 (.int .i64 s239.1) e250) ?_
      refine V 85 3 (run_add (t := 3) (t' := 3) (x := (.tmp 84)) (y := (.const (.int .i64 1))) (k := .i64) (a := s239.1) (b := 1) rfl rfl) ?_
      refine V 86 27 (run_build2 (t := 27) (parts := #[(0, (.tmp 83)), (1, (.tmp 85))]) (vs := [(0, (.int .i64 s188.1)), (1, (.int .i64 (W64 (s239.1 + 1))))]) (rfl) (cs := [(.int .i64 s188.1), (.int .i64 (W64 (s239.1 + 1)))]) (by kernel_rfl)) ?_
      refine Al 11 0 27 #[(.int .i64 0), (.int .i64 0)] hs241 (fun b274 w275 (hs276 : HS wb Fb w275 F13 ((some b274, (.cells #[(.int .i64 0), (.int .i64 0)] 27 (0, 0))) :: (some b231, (.cells #[(.int .i64 x217.Clock.Slip), (.int .i64 x217.Clock.Drift), (.slice ae229_2 x217.Clock.Jumps.length ne229_2), (.slice ae229_3 x217.Times.length ne229_3)] 54 (0, 0))) :: Lf243)) => ?_)
      refine Al 12 0 27 #[(.int .i64 0), (.int .i64 0)] hs276 (fun b277 w278 (hs279 : HS wb Fb w278 F13 ((some b277, (.cells #[(.int .i64 0), (.int .i64 0)] 27 (0, 0))) :: (some b274, (.cells #[(.int .i64 0), (.int .i64 0)] 27 (0, 0))) :: (some b231, (.cells #[(.int .i64 x217.Clock.Slip), (.int .i64 x217.Clock.Drift), (.slice ae229_2 x217.Clock.Jumps.length ne229_2), (.slice ae229_3 x217.Times.length ne229_3)] 54 (0, 0))) :: Lf243)) => ?_)
      refine RWP.store (ty := 0) (g := none) (by kernel_rfl) rfl (x := (.tmp 11)) (y := (.tmp 82)) (t := 27) (gg := true) (s := 2) (v := (.agg #[(.int .i64 s188.1), (.int .i64 s239.1)])) (b := b274) (o := 0) (C := #[(.int .i64 0), (.int .i64 0)]) rfl rfl (by kernel_rfl) hs279 (k := 1) rfl rfl rfl rfl (C' := #[(.int .i64 s188.1), (.int .i64 s239.1)]) rfl (fun w280 (hs281 : HS wb Fb w280 F13 ((some b277, (.cells #[(.int .i64 0), (.int .i64 0)] 27 (0, 0))) :: (some b274, (.cells #[(.int .i64 s188.1), (.int .i64 s239.1)] 27 (0, 0))) :: (some b231, (.cells #[(.int .i64 x217.Clock.Slip), (.int .i64 x217.Clock.Drift), (.slice ae229_2 x217.Clock.Jumps.length ne229_2), (.slice ae229_3 x217.Times.length ne229_3)] 54 (0, 0))) :: Lf243)) => ?_)
      refine RWP.store (ty := 0) (g := none) (by kernel_rfl) rfl (x := (.tmp 12)) (y := (.tmp 86)) (t := 27) (gg := true) (s := 2) (v := (.agg #[(.int .i64 s188.1), (.int .i64 (W64 (s239.1 + 1)))])) (b := b277) (o := 0) (C := #[(.int .i64 0), (.int .i64 0)]) rfl rfl (by kernel_rfl) hs281 (k := 0) rfl rfl rfl rfl (C' := #[(.int .i64 s188.1), (.int .i64 (W64 (s239.1 + 1)))]) rfl (fun w282 (hs283 : HS wb Fb w282 F13 ((some b277, (.cells #[(.int .i64 s188.1), (.int .i64 (W64 (s239.1 + 1)))] 27 (0, 0))) :: (some b274, (.cells #[(.int .i64 s188.1), (.int .i64 s239.1)] 27 (0, 0))) :: (some b231, (.cells #[(.int .i64 x217.Clock.Slip), (.int .i64 x217.Clock.Drift), (.slice ae229_2 x217.Clock.Jumps.length ne229_2), (.slice ae229_3 x217.Times.length ne229_3)] 54 (0, 0))) :: Lf243)) => ?_)
      refine Nss ?_
      refine Sq (Rg [0, 1, 2, 3, 4, 5, 6] ?_)
      refine V 87 134 (mv 0 (.func (.yield l) #[] #[]) e246) ?_
      refine V 88 27 (ld 27 12 b277 0 true 2 (.agg #[(.int .i64 s188.1), (.int .i64 (W64 (s239.1 + 1)))]) (hs283.ownAt (k := 0) rfl)) ?_
      refine V 89 27 (ld 27 11 b274 0 true 2 (.agg #[(.int .i64 s188.1), (.int .i64 s239.1)]) (hs283.ownAt (k := 1) rfl)) ?_
      refine V 90 3 (mv 10 (.int .i64 s239.1) e250) ?_
      refine V 91 103 (run_build2 (t := 103) (parts := #[(0, (.tmp 88)), (1, (.tmp 89)), (3, (.const (.int .i64 2))), (4, (.tmp 90))]) (vs := [(0, (.agg #[(.int .i64 s188.1), (.int .i64 (W64 (s239.1 + 1)))])), (1, (.agg #[(.int .i64 s188.1), (.int .i64 s239.1)])), (3, (.int .i64 2)), (4, (.int .i64 s239.1))]) (rfl) (cs := [(.int .i64 s188.1), (.int .i64 (W64 (s239.1 + 1))), (.int .i64 s188.1), (.int .i64 s239.1), (.int .i64 0), (.int .i64 2), (.int .i64 s239.1)]) (by kernel_rfl)) ?_
      obtain ⟨q284, hq285, h286⟩ := bind_some h273
      refine RWP.yield (dst := (some 92)) (ty := 4) (g := none) (by kernel_rfl) rfl (f0 := (.tmp 87)) (aos := #[(.tmp 91)]) (ats := #[103]) (l := l) (args := [(.agg #[(.int .i64 s188.1), (.int .i64 (W64 (s239.1 + 1))), (.int .i64 s188.1), (.int .i64 s239.1), (.int .i64 0), (.int .i64 2), (.int .i64 s239.1)])]) rfl (rfl) (hY s239.2 ({ From := ({ Log := s188.1, Line := (W64 (s239.1 + 1)) } : Ref), To := ({ Log := s188.1, Line := s239.1 } : Ref), Most := 0, Kind := 2, ID := s239.1 } : Bound) w282 F13 [(some b277, (.cells #[(.int .i64 s188.1), (.int .i64 (W64 (s239.1 + 1)))] 27 (0, 0))), (some b274, (.cells #[(.int .i64 s188.1), (.int .i64 s239.1)] 27 (0, 0))), (some b231, (.cells #[(.int .i64 x217.Clock.Slip), (.int .i64 x217.Clock.Drift), (.slice ae229_2 x217.Clock.Jumps.length ne229_2), (.slice ae229_3 x217.Times.length ne229_3)] 54 (0, 0)))] Lf243 q284 ((le19.trans le191).trans le242) trivial hJ244 hs283 hq285) ?_
      rintro _ w287 ⟨F15, Lf291, rfl, hs288, le289, hJ290⟩
      have hs292 : HS wb Fb w287 F15 ((some b277, (.cells #[(.int .i64 s188.1), (.int .i64 (W64 (s239.1 + 1)))] 27 (0, 0))) :: (some b274, (.cells #[(.int .i64 s188.1), (.int .i64 s239.1)] 27 (0, 0))) :: (some b231, (.cells #[(.int .i64 x217.Clock.Slip), (.int .i64 x217.Clock.Drift), (.slice ae229_2 x217.Clock.Jumps.length ne229_2), (.slice ae229_3 x217.Times.length ne229_3)] 54 (0, 0))) :: Lf291) := hs288
      refine ⟨_, rfl, ?_⟩
      refine V 93 4 (run_not (t := 4) (x := (.tmp 92)) (a := q284.1) rfl) ?_
      refine Nt ?_
      refine CWP.cond (t := (!q284.1)) (by kernel_rfl) rfl (fun hb293 => ?_) (fun hb293 => ?_)
      ·have h294 := cond_t h286 hb293
       refine CWP.ret (by kernel_rfl) ?_
       refine thenQ_ret ?_
       refine blockQ_ret ?_
       refine thenQ_ret ?_
       refine thenQ_ret ?_
       refine blockQ_ret ?_
       have hret := iter_ret h294 hnx271
       subst hret
       refine .inr ?_
       refine blockQ_ret ?_
       refine thenQ_ret ?_
       refine thenQ_ret ?_
       refine blockQ_ret ?_
       have hret := iter_ret h238 hnx214
       subst hret
       refine .inr ?_
       refine thenQ_ret ?_
       have hs295 : HS wb Fb w287 F15 ((some b274, (.cells #[(.int .i64 s188.1), (.int .i64 s239.1)] 27 (0, 0))) :: (some b231, (.cells #[(.int .i64 x217.Clock.Slip), (.int .i64 x217.Clock.Drift), (.slice ae229_2 x217.Clock.Jumps.length ne229_2), (.slice ae229_3 x217.Times.length ne229_3)] 54 (0, 0))) :: Lf291) := hs292.drop 0
       have hs296 : HS wb Fb w287 F15 ((some b231, (.cells #[(.int .i64 x217.Clock.Slip), (.int .i64 x217.Clock.Drift), (.slice ae229_2 x217.Clock.Jumps.length ne229_2), (.slice ae229_3 x217.Times.length ne229_3)] 54 (0, 0))) :: Lf291) := hs295.drop 0
       have hs297 : HS wb Fb w287 F15 Lf291 := hs296.drop 0
       have hfin := some_inj h187
       subst hfin
       exact ⟨e245, .tuple #[], res_of (l := []) (by kernel_rfl) (vs := []) trivial, F15, Lf291, rfl, hs297, (((le19.trans le191).trans le242).trans le289), hJ290⟩
      ·have h298 := cond_f h286 hb293
       refine Sc ?_
       refine thenQ_nrm ?_
       refine Sq ?_
       refine Sq ?_
       obtain ⟨j304, hj317, h318⟩ := bind_some h298
       refine CWP.regionD (by kernel_rfl) (by kernel_rfl) (by kernel_rfl) (by kernel_rfl) (z := 18) (F := F15) (Lc := [(some b277, (.cells #[(.int .i64 s188.1), (.int .i64 (W64 (s239.1 + 1)))] 27 (0, 0))), (some b274, (.cells #[(.int .i64 s188.1), (.int .i64 s239.1)] 27 (0, 0))), (some b231, (.cells #[(.int .i64 x217.Clock.Slip), (.int .i64 x217.Clock.Drift), (.slice ae229_2 x217.Clock.Jumps.length ne229_2), (.slice ae229_3 x217.Times.length ne229_3)] 54 (0, 0)))]) (Lz := []) (l := [false, false, false, false, false, false, false, false, false, false, false, false, false, false, false, false, false, false]) (fuel := 18) (by kernel_rfl) (by kernel_rfl) hs292 (by simp) (by simp) (fun f w => ∃ (F16 : Mem), HS wb Fb w F16 ((some b277, (.cells #[(.int .i64 s188.1), (.int .i64 (W64 (s239.1 + 1)))] 27 (0, 0))) :: (some b274, (.cells #[(.int .i64 s188.1), (.int .i64 s239.1)] 27 (0, 0))) :: (some b231, (.cells #[(.int .i64 x217.Clock.Slip), (.int .i64 x217.Clock.Drift), (.slice ae229_2 x217.Clock.Jumps.length ne229_2), (.slice ae229_3 x217.Times.length ne229_3)] 54 (0, 0))) :: Lf291) ∧ Mem.le F15 F16 ∧ f.d = [] ∧ f 0 = (.func (.yield l) #[] #[]) ∧ f 1 = (.pointer (some ⟨bz0, 0, none⟩)) ∧ f 8 = (.int .i64 s188.1) ∧ f 9 = (.pointer (some ⟨b231, 0, none⟩)) ∧ f 10 = (.int .i64 s239.1) ∧ f 11 = (.pointer (some ⟨b274, 0, none⟩)) ∧ f 12 = (.pointer (some ⟨b277, 0, none⟩)) ∧ f 65 = (.slice (some ⟨b221, o222, none⟩) z0.Tracks.length nz0_0) ∧ f 66 = (.int .i64 (z0.Tracks.length : Int)) ∧ f 67 = (.int .i64 s188.1) ∧ f 111 = (.bool j304)) (fun wd299 hw300 => ?_) ?_
       ·refine Dt 0 94 0 (.pointer (some ⟨b231, 0, none⟩)) (fun _ hq => fa 54 9 0 0 3 b231 0 0 e249) ?_
        refine Dt 1 95 52 _ (fun _ hq => ld 52 94 b231 0 true 3 (.agg #[(.int .i64 x217.Clock.Slip), (.int .i64 x217.Clock.Drift), (.slice ae229_2 x217.Clock.Jumps.length ne229_2)]) (hq.1.2 2 _ _ rfl)) ?_
        refine Dt 2 96 0 (.pointer (some ⟨b231, 3, none⟩)) (fun _ hq => fa 54 9 1 3 1 b231 0 3 e249) ?_
        refine Dt 3 97 50 _ (fun _ hq => ld 50 96 b231 3 false 1 (.slice ae229_3 x217.Times.length ne229_3) (hq.1.2 2 _ _ rfl)) ?_
        refine Dt 4 98 3 _ (fun _ hq => mv 10 (.int .i64 s239.1) e250) ?_
        obtain ⟨x319, hx320, h322⟩ := bind_some hj317
        obtain ⟨hi321, hx320'⟩ := idx_spec hx320
        obtain ⟨b323, o324, C325, E326, fz327, rfl, hF329, hE330⟩ := SlA.open (SlA.mono hse229_3 (le242.trans le289)) hx320'
        have hc332 := hE330 _ _ hx320'
        refine Dt 5 99 0 (.pointer (some ⟨b323, (o324 + (s239.1 : Int).toNat * 1), none⟩)) (fun _ hq => ix 50 97 98 b323 o324 3 1 8 hi321) ?_
        refine Dt 6 100 3 _ (fun _ hq => lx 3 99 0 1 false 1 (.int .i64 x319) (hq.1.1 _ _ hF329) hc332) ?_
        refine Dt 8 102 0 (.pointer (some ⟨b231, 0, none⟩)) (fun _ hq => fa 54 9 0 0 3 b231 0 0 e249) ?_
        refine Dt 9 103 52 _ (fun _ hq => ld 52 102 b231 0 true 3 (.agg #[(.int .i64 x217.Clock.Slip), (.int .i64 x217.Clock.Drift), (.slice ae229_2 x217.Clock.Jumps.length ne229_2)]) (hq.1.2 2 _ _ rfl)) ?_
        refine Dt 10 104 0 (.pointer (some ⟨b231, 3, none⟩)) (fun _ hq => fa 54 9 1 3 1 b231 0 3 e249) ?_
        refine Dt 11 105 50 _ (fun _ hq => ld 50 104 b231 3 false 1 (.slice (some ⟨b323, o324, none⟩) x217.Times.length ne229_3) (hq.1.2 2 _ _ rfl)) ?_
        refine Dt 12 106 3 _ (fun _ hq => mv 10 (.int .i64 s239.1) e250) ?_
        refine Dt 13 107 3 (.int .i64 (W64 (s239.1 + 1))) (fun _ hq => run_add (t := 3) (t' := 3) (x := (.tmp 106)) (y := (.const (.int .i64 1))) (k := .i64) (a := s239.1) (b := 1) rfl rfl) ?_
        obtain ⟨x333, hx334, h336⟩ := bind_some h322
        obtain ⟨hi335, hx334'⟩ := idx_spec hx334
        have hc338 := hE330 _ _ hx334'
        refine Dt 14 108 0 (.pointer (some ⟨b323, (o324 + ((W64 (s239.1 + 1)) : Int).toNat * 1), none⟩)) (fun _ hq => ix 50 105 107 b323 o324 3 1 8 hi335) ?_
        refine Dt 15 109 3 _ (fun _ hq => lx 3 108 0 1 false 1 (.int .i64 x333) (hq.1.1 _ _ hF329) hc338) ?_
        refine DWP.one (i := 7) (by kernel_rfl) ?_
        obtain ⟨r339, hr340, h341⟩ := bind_some h336
        refine DStep.call (l' := [true, true, true, true, true, true, true, true, true, true, true, true, true, true, true, true, false, false]) (zd := true) (by kernel_rfl) (by kernel_rfl) (by kernel_rfl) (dst := (some 101)) (ty := 3) (g := none) (by kernel_rfl) rfl (f0 := (.func 82)) (aos := #[(.tmp 95), (.tmp 100)]) (ats := #[52, 3]) (fid := 82) (first := #[]) (cap := #[]) (args := [(.agg #[(.int .i64 x217.Clock.Slip), (.int .i64 x217.Clock.Drift), (.slice ae229_2 x217.Clock.Jumps.length ne229_2)]), (.int .i64 x319)]) rfl co_clocks_segment (rfl) hw300 (c_clocks_segment N wd299 F15 hw300.pers (x217.Clock) ae229_2 ne229_2 hbe229_2 (SlA.mono hse229_2 (le242.trans le289)) (x319) _ hr340) ?_
        intro v342 F17 w343 hs344 le345 hp346
        obtain rfl := hp346
        refine DWP.one (i := 16) (by kernel_rfl) ?_
        obtain ⟨r347, hr348, h349⟩ := bind_some h341
        refine DStep.call (l' := [true, true, true, true, true, true, true, true, true, true, true, true, true, true, true, true, true, false]) (zd := true) (by kernel_rfl) (by kernel_rfl) (by kernel_rfl) (dst := (some 110)) (ty := 3) (g := none) (by kernel_rfl) rfl (f0 := (.func 82)) (aos := #[(.tmp 103), (.tmp 109)]) (ats := #[52, 3]) (fid := 82) (first := #[]) (cap := #[]) (args := [(.agg #[(.int .i64 x217.Clock.Slip), (.int .i64 x217.Clock.Drift), (.slice ae229_2 x217.Clock.Jumps.length ne229_2)]), (.int .i64 x333)]) rfl co_clocks_segment (rfl) hs344 (c_clocks_segment N w343 F17 hs344.pers (x217.Clock) ae229_2 ne229_2 hbe229_2 (SlA.mono hse229_2 ((le242.trans le289).trans le345)) (x333) _ hr348) ?_
        intro v350 F18 w351 hs352 le353 hp354
        obtain rfl := hp354
        refine Dt 17 111 4 (.bool (r339 != r347)) (fun _ hq => run_neq (t := 3) (t' := 3) (x := (.tmp 101)) (y := (.tmp 110)) (k := .i64) (a := r339) (b := r347) rfl rfl) ?_
        obtain rfl := some_inj h349
        exact DWP.done (by kernel_rfl) ⟨F18, hs352, (le345.trans le353), e245, e246, e247, e248, e249, e250, rfl, rfl, e251, e252, e253, rfl⟩
       ·rintro f w301 ⟨F16, hs302, le303, e305, e306, e307, e308, e309, e310, e311, e312, e313, e314, e315, e316⟩
        refine thenQ_nrm ?_
        refine CWP.cond (t := j304) (by kernel_rfl) e316 (fun hb355 => ?_) (fun hb355 => ?_)
        ·have h356 := cond_t h318 hb355
         refine CWP.exit (by kernel_rfl) ?_
         refine thenQ_ex ?_
         refine blockQ_hit rfl ?_
         refine thenQ_nrm ?_
         refine Rg [0, 1, 2] ?_
         refine V 78 3 (mv 10 (.int .i64 s239.1) e310) ?_
         refine V 79 3 (run_add (t := 3) (t' := 3) (x := (.tmp 78)) (y := (.const (.int .i64 1))) (k := .i64) (a := s239.1) (b := 1) rfl rfl) ?_
         refine V 10 3 (ma 79 (.int .i64 (W64 (s239.1 + 1)))) ?_
         refine RWP.nil ?_
         have hs357 : HS wb Fb w301 F16 ((some b274, (.cells #[(.int .i64 s188.1), (.int .i64 s239.1)] 27 (0, 0))) :: (some b231, (.cells #[(.int .i64 x217.Clock.Slip), (.int .i64 x217.Clock.Drift), (.slice ae229_2 x217.Clock.Jumps.length ne229_2), (.slice ae229_3 x217.Times.length ne229_3)] 54 (0, 0))) :: Lf291) := hs302.drop 0
         have hs358 : HS wb Fb w301 F16 ((some b231, (.cells #[(.int .i64 x217.Clock.Slip), (.int .i64 x217.Clock.Drift), (.slice ae229_2 x217.Clock.Jumps.length ne229_2), (.slice ae229_3 x217.Times.length ne229_3)] 54 (0, 0))) :: Lf291) := hs357.drop 0
         have hn359 := iter_next h356 hnx271
         exact ⟨m268, Nat.lt_succ_self _, ((W64 (s239.1 + 1)), q284.2), F16, Lf291, hn359, hs358, ((le242.trans le289).trans le303), e305, e306, e307, e308, e309, rfl, e313, e314, e315, (hJm _ _ _ _ hJ290 le303)⟩
        ·have h360 := cond_f h318 hb355
         refine Sc ?_
         refine thenQ_nrm ?_
         refine Sq ?_
         obtain ⟨j366, hj379, h380⟩ := bind_some h360
         refine CWP.regionD (by kernel_rfl) (by kernel_rfl) (by kernel_rfl) (by kernel_rfl) (z := 13) (F := F16) (Lc := [(some b277, (.cells #[(.int .i64 s188.1), (.int .i64 (W64 (s239.1 + 1)))] 27 (0, 0))), (some b274, (.cells #[(.int .i64 s188.1), (.int .i64 s239.1)] 27 (0, 0))), (some b231, (.cells #[(.int .i64 x217.Clock.Slip), (.int .i64 x217.Clock.Drift), (.slice ae229_2 x217.Clock.Jumps.length ne229_2), (.slice ae229_3 x217.Times.length ne229_3)] 54 (0, 0)))]) (Lz := []) (l := [false, false, false, false, false, false, false, false, false, false, false, false, false]) (fuel := 13) (by kernel_rfl) (by kernel_rfl) hs302 (by simp) (by simp) (fun f w => ∃ (F19 : Mem), HS wb Fb w F19 ((some b277, (.cells #[(.int .i64 s188.1), (.int .i64 (W64 (s239.1 + 1)))] 27 (0, 0))) :: (some b274, (.cells #[(.int .i64 s188.1), (.int .i64 s239.1)] 27 (0, 0))) :: (some b231, (.cells #[(.int .i64 x217.Clock.Slip), (.int .i64 x217.Clock.Drift), (.slice ae229_2 x217.Clock.Jumps.length ne229_2), (.slice ae229_3 x217.Times.length ne229_3)] 54 (0, 0))) :: Lf291) ∧ Mem.le F16 F19 ∧ f.d = [] ∧ f 0 = (.func (.yield l) #[] #[]) ∧ f 1 = (.pointer (some ⟨bz0, 0, none⟩)) ∧ f 8 = (.int .i64 s188.1) ∧ f 9 = (.pointer (some ⟨b231, 0, none⟩)) ∧ f 10 = (.int .i64 s239.1) ∧ f 11 = (.pointer (some ⟨b274, 0, none⟩)) ∧ f 12 = (.pointer (some ⟨b277, 0, none⟩)) ∧ f 13 = (.int .i64 j366) ∧ f 65 = (.slice (some ⟨b221, o222, none⟩) z0.Tracks.length nz0_0) ∧ f 66 = (.int .i64 (z0.Tracks.length : Int)) ∧ f 67 = (.int .i64 s188.1)) (fun wd361 hw362 => ?_) ?_
         ·refine Dt 0 112 0 (.pointer (some ⟨b231, 3, none⟩)) (fun _ hq => fa 54 9 1 3 1 b231 0 3 e309) ?_
          refine Dt 1 113 50 _ (fun _ hq => ld 50 112 b231 3 false 1 (.slice ae229_3 x217.Times.length ne229_3) (hq.1.2 2 _ _ rfl)) ?_
          refine Dt 2 114 3 _ (fun _ hq => mv 10 (.int .i64 s239.1) e310) ?_
          refine Dt 3 115 3 (.int .i64 (W64 (s239.1 + 1))) (fun _ hq => run_add (t := 3) (t' := 3) (x := (.tmp 114)) (y := (.const (.int .i64 1))) (k := .i64) (a := s239.1) (b := 1) rfl rfl) ?_
          obtain ⟨x381, hx382, h384⟩ := bind_some hj379
          obtain ⟨hi383, hx382'⟩ := idx_spec hx382
          obtain ⟨b385, o386, C387, E388, fz389, rfl, hF391, hE392⟩ := SlA.open (SlA.mono hse229_3 ((le242.trans le289).trans le303)) hx382'
          have hc394 := hE392 _ _ hx382'
          refine Dt 4 116 0 (.pointer (some ⟨b385, (o386 + ((W64 (s239.1 + 1)) : Int).toNat * 1), none⟩)) (fun _ hq => ix 50 113 115 b385 o386 3 1 8 hi383) ?_
          refine Dt 5 117 3 _ (fun _ hq => lx 3 116 0 1 false 1 (.int .i64 x381) (hq.1.1 _ _ hF391) hc394) ?_
          refine Dt 6 118 0 (.pointer (some ⟨b231, 3, none⟩)) (fun _ hq => fa 54 9 1 3 1 b231 0 3 e309) ?_
          refine Dt 7 119 50 _ (fun _ hq => ld 50 118 b231 3 false 1 (.slice (some ⟨b385, o386, none⟩) x217.Times.length ne229_3) (hq.1.2 2 _ _ rfl)) ?_
          refine Dt 8 120 3 _ (fun _ hq => mv 10 (.int .i64 s239.1) e310) ?_
          obtain ⟨x395, hx396, h398⟩ := bind_some h384
          obtain ⟨hi397, hx396'⟩ := idx_spec hx396
          have hc400 := hE392 _ _ hx396'
          refine Dt 9 121 0 (.pointer (some ⟨b385, (o386 + (s239.1 : Int).toNat * 1), none⟩)) (fun _ hq => ix 50 119 120 b385 o386 3 1 8 hi397) ?_
          refine Dt 10 122 3 _ (fun _ hq => lx 3 121 0 1 false 1 (.int .i64 x395) (hq.1.1 _ _ hF391) hc400) ?_
          refine Dt 11 123 3 (.int .i64 (W64 (x381 - x395))) (fun _ hq => run_sub (t := 3) (t' := 3) (x := (.tmp 117)) (y := (.tmp 122)) (k := .i64) (a := x381) (b := x395) rfl rfl) ?_
          refine Dt 12 13 3 _ (fun _ hq => ma 123 (.int .i64 (W64 (x381 - x395)))) ?_
          obtain rfl := some_inj h398
          exact DWP.done (by kernel_rfl) ⟨F16, hw362, (Mem.le.refl _), e305, e306, e307, e308, e309, e310, e311, e312, rfl, e313, e314, e315⟩
         ·rintro f w363 ⟨F19, hs364, le365, e367, e368, e369, e370, e371, e372, e373, e374, e375, e376, e377, e378⟩
          refine thenQ_nrm ?_
          refine Sq (Rg [0, 1, 2, 3, 4, 5, 6, 7, 8] ?_)
          refine V 124 0 (fa 54 9 0 0 3 b231 0 0 e371) ?_
          refine V 125 0 (fa 52 124 1 1 1 b231 0 1) ?_
          refine V 126 3 (ld 3 125 b231 1 false 1 (.int .i64 x217.Clock.Drift) (hs364.ownAt (k := 2) rfl)) ?_
          refine V 127 3 (mv 13 (.int .i64 j366) e375) ?_
          refine V 128 3 (run_mul (t := 3) (t' := 3) (x := (.tmp 126)) (y := (.tmp 127)) (k := .i64) (a := x217.Clock.Drift) (b := j366) rfl rfl) ?_
          refine V 129 3 (run_add (t := 3) (t' := 3) (x := (.tmp 128)) (y := (.const (.int .i64 999))) (k := .i64) (a := (W64 (x217.Clock.Drift * j366))) (b := 999) rfl rfl) ?_
          refine V 130 3 (run_quo (t := 3) (t' := 3) (x := (.tmp 129)) (y := (.const (.int .i64 1000))) (k := .i64) (a := (W64 ((W64 (x217.Clock.Drift * j366)) + 999))) (b := 1000) rfl rfl (by decide)) ?_
          refine V 131 3 (run_add (t := 3) (t' := 3) (x := (.const (.int .i64 1))) (y := (.tmp 130)) (k := .i64) (a := 1) (b := (W64 (Int.tdiv (W64 ((W64 (x217.Clock.Drift * j366)) + 999)) 1000))) rfl rfl) ?_
          refine V 14 3 (ma 131 (.int .i64 (W64 (1 + (W64 (Int.tdiv (W64 ((W64 (x217.Clock.Drift * j366)) + 999)) 1000)))))) ?_
          refine Nss (Rg [0, 1, 2, 3, 4, 5, 6, 7, 8, 9, 10, 11, 12, 13, 14, 15, 16, 17, 18, 19, 20, 21] ?_)
          obtain ⟨j404, hj417, h418⟩ := bind_some h380
          refine RWP.cut (fun f w => ∃ (F20 : Mem) (Lf405 : Own), HS wb Fb w F20 ((some b231, (.cells #[(.int .i64 x217.Clock.Slip), (.int .i64 x217.Clock.Drift), (.slice ae229_2 x217.Clock.Jumps.length ne229_2), (.slice ae229_3 x217.Times.length ne229_3)] 54 (0, 0))) :: Lf405) ∧ Mem.le F19 F20 ∧ f.d = [] ∧ f 0 = (.func (.yield l) #[] #[]) ∧ f 1 = (.pointer (some ⟨bz0, 0, none⟩)) ∧ f 8 = (.int .i64 s188.1) ∧ f 9 = (.pointer (some ⟨b231, 0, none⟩)) ∧ f 10 = (.int .i64 s239.1) ∧ f 65 = (.slice (some ⟨b221, o222, none⟩) z0.Tracks.length nz0_0) ∧ f 66 = (.int .i64 (z0.Tracks.length : Int)) ∧ f 67 = (.int .i64 s188.1) ∧ f 153 = (.bool j404.1) ∧ J j404.2 F20 Lf405) ?_ ?_
          ·refine V 132 134 (mv 0 (.func (.yield l) #[] #[]) e368) ?_
           refine V 133 27 (ld 27 11 b274 0 true 2 (.agg #[(.int .i64 s188.1), (.int .i64 s239.1)]) (hs364.ownAt (k := 1) rfl) e373) ?_
           refine V 134 27 (ld 27 12 b277 0 true 2 (.agg #[(.int .i64 s188.1), (.int .i64 (W64 (s239.1 + 1)))]) (hs364.ownAt (k := 0) rfl) e374) ?_
           refine V 135 3 (mv 13 (.int .i64 j366) e375) ?_
           refine V 136 3 (mv 14 (.int .i64 (W64 (1 + (W64 (Int.tdiv (W64 ((W64 (x217.Clock.Drift * j366)) + 999)) 1000)))))) ?_
           refine V 137 3 (run_add (t := 3) (t' := 3) (x := (.tmp 135)) (y := (.tmp 136)) (k := .i64) (a := j366) (b := (W64 (1 + (W64 (Int.tdiv (W64 ((W64 (x217.Clock.Drift * j366)) + 999)) 1000))))) rfl rfl) ?_
           refine V 138 3 (mv 10 (.int .i64 s239.1) e372) ?_
           refine V 139 103 (run_build2 (t := 103) (parts := #[(0, (.tmp 133)), (1, (.tmp 134)), (2, (.tmp 137)), (3, (.const (.int .i64 3))), (4, (.tmp 138))]) (vs := [(0, (.agg #[(.int .i64 s188.1), (.int .i64 s239.1)])), (1, (.agg #[(.int .i64 s188.1), (.int .i64 (W64 (s239.1 + 1)))])), (2, (.int .i64 (W64 (j366 + (W64 (1 + (W64 (Int.tdiv (W64 ((W64 (x217.Clock.Drift * j366)) + 999)) 1000)))))))), (3, (.int .i64 3)), (4, (.int .i64 s239.1))]) (rfl) (cs := [(.int .i64 s188.1), (.int .i64 s239.1), (.int .i64 s188.1), (.int .i64 (W64 (s239.1 + 1))), (.int .i64 (W64 (j366 + (W64 (1 + (W64 (Int.tdiv (W64 ((W64 (x217.Clock.Drift * j366)) + 999)) 1000))))))), (.int .i64 3), (.int .i64 s239.1)]) (by kernel_rfl)) ?_
           obtain ⟨q419, hq420, h421⟩ := bind_some hj417
           refine RWP.yield (dst := (some 140)) (ty := 4) (g := none) (by kernel_rfl) rfl (f0 := (.tmp 132)) (aos := #[(.tmp 139)]) (ats := #[103]) (l := l) (args := [(.agg #[(.int .i64 s188.1), (.int .i64 s239.1), (.int .i64 s188.1), (.int .i64 (W64 (s239.1 + 1))), (.int .i64 (W64 (j366 + (W64 (1 + (W64 (Int.tdiv (W64 ((W64 (x217.Clock.Drift * j366)) + 999)) 1000))))))), (.int .i64 3), (.int .i64 s239.1)])]) rfl (rfl) (hY q284.2 ({ From := ({ Log := s188.1, Line := s239.1 } : Ref), To := ({ Log := s188.1, Line := (W64 (s239.1 + 1)) } : Ref), Most := (W64 (j366 + (W64 (1 + (W64 (Int.tdiv (W64 ((W64 (x217.Clock.Drift * j366)) + 999)) 1000)))))), Kind := 3, ID := s239.1 } : Bound) w363 F19 [(some b277, (.cells #[(.int .i64 s188.1), (.int .i64 (W64 (s239.1 + 1)))] 27 (0, 0))), (some b274, (.cells #[(.int .i64 s188.1), (.int .i64 s239.1)] 27 (0, 0))), (some b231, (.cells #[(.int .i64 x217.Clock.Slip), (.int .i64 x217.Clock.Drift), (.slice ae229_2 x217.Clock.Jumps.length ne229_2), (.slice ae229_3 x217.Times.length ne229_3)] 54 (0, 0)))] Lf291 q419 (((((le19.trans le191).trans le242).trans le289).trans le303).trans le365) trivial (hJm _ _ _ _ hJ290 (le303.trans le365)) hs364 hq420) ?_
           rintro _ w422 ⟨F21, Lf426, rfl, hs423, le424, hJ425⟩
           have hs427 : HS wb Fb w422 F21 ((some b277, (.cells #[(.int .i64 s188.1), (.int .i64 (W64 (s239.1 + 1)))] 27 (0, 0))) :: (some b274, (.cells #[(.int .i64 s188.1), (.int .i64 s239.1)] 27 (0, 0))) :: (some b231, (.cells #[(.int .i64 x217.Clock.Slip), (.int .i64 x217.Clock.Drift), (.slice ae229_2 x217.Clock.Jumps.length ne229_2), (.slice ae229_3 x217.Times.length ne229_3)] 54 (0, 0))) :: Lf426) := hs423
           refine ⟨_, rfl, ?_⟩
           refine V 141 4 (run_not (t := 4) (x := (.tmp 140)) (a := q419.1) rfl) ?_
           refine V 142 4 (mv 141 (.bool (!q419.1))) ?_
           refine RWP.split (!q419.1) (fun hb428 => ?_) (fun hb428 => ?_)
           ·have h429 := cond_t h421 hb428
            refine Sk [143, 144, 145, 146, 147, 148, 149, 150, 151, 152] 10 false 142 hb428 ?_
            refine V 153 4 (p1 142 (.const (.bool true)) (.tmp 152) (.bool true) hb428) ?_
            obtain rfl := some_inj h429
            have hs430 : HS wb Fb w422 F21 ((some b274, (.cells #[(.int .i64 s188.1), (.int .i64 s239.1)] 27 (0, 0))) :: (some b231, (.cells #[(.int .i64 x217.Clock.Slip), (.int .i64 x217.Clock.Drift), (.slice ae229_2 x217.Clock.Jumps.length ne229_2), (.slice ae229_3 x217.Times.length ne229_3)] 54 (0, 0))) :: Lf426) := hs427.drop 0
            have hs431 : HS wb Fb w422 F21 ((some b231, (.cells #[(.int .i64 x217.Clock.Slip), (.int .i64 x217.Clock.Drift), (.slice ae229_2 x217.Clock.Jumps.length ne229_2), (.slice ae229_3 x217.Times.length ne229_3)] 54 (0, 0))) :: Lf426) := hs430.drop 0
            exact RWP.nil ⟨rfl, F21, Lf426, hs431, le424, e367, e368, e369, e370, e371, e372, e376, e377, e378, rfl, hJ425⟩
           ·have h432 := cond_f h421 hb428
            refine Vg 143 134 10 false 142 hb428 (mv 0 (.func (.yield l) #[] #[]) e368) ?_
            refine Vg 144 27 10 false 142 hb428 (ld 27 12 b277 0 true 2 (.agg #[(.int .i64 s188.1), (.int .i64 (W64 (s239.1 + 1)))]) (hs427.ownAt (k := 0) rfl) e374) ?_
            refine Vg 145 27 10 false 142 hb428 (ld 27 11 b274 0 true 2 (.agg #[(.int .i64 s188.1), (.int .i64 s239.1)]) (hs427.ownAt (k := 1) rfl) e373) ?_
            refine Vg 146 3 10 false 142 hb428 (mv 14 (.int .i64 (W64 (1 + (W64 (Int.tdiv (W64 ((W64 (x217.Clock.Drift * j366)) + 999)) 1000)))))) ?_
            refine Vg 147 3 10 false 142 hb428 (mv 13 (.int .i64 j366) e375) ?_
            refine Vg 148 3 10 false 142 hb428 (run_sub (t := 3) (t' := 3) (x := (.tmp 146)) (y := (.tmp 147)) (k := .i64) (a := (W64 (1 + (W64 (Int.tdiv (W64 ((W64 (x217.Clock.Drift * j366)) + 999)) 1000))))) (b := j366) rfl rfl) ?_
            refine Vg 149 3 10 false 142 hb428 (mv 10 (.int .i64 s239.1) e372) ?_
            refine Vg 150 103 10 false 142 hb428 (run_build2 (t := 103) (parts := #[(0, (.tmp 144)), (1, (.tmp 145)), (2, (.tmp 148)), (3, (.const (.int .i64 3))), (4, (.tmp 149))]) (vs := [(0, (.agg #[(.int .i64 s188.1), (.int .i64 (W64 (s239.1 + 1)))])), (1, (.agg #[(.int .i64 s188.1), (.int .i64 s239.1)])), (2, (.int .i64 (W64 ((W64 (1 + (W64 (Int.tdiv (W64 ((W64 (x217.Clock.Drift * j366)) + 999)) 1000)))) - j366)))), (3, (.int .i64 3)), (4, (.int .i64 s239.1))]) (rfl) (cs := [(.int .i64 s188.1), (.int .i64 (W64 (s239.1 + 1))), (.int .i64 s188.1), (.int .i64 s239.1), (.int .i64 (W64 ((W64 (1 + (W64 (Int.tdiv (W64 ((W64 (x217.Clock.Drift * j366)) + 999)) 1000)))) - j366))), (.int .i64 3), (.int .i64 s239.1)]) (by kernel_rfl)) ?_
            obtain ⟨q433, hq434, h435⟩ := bind_some h432
            refine RWP.yield (dst := (some 151)) (ty := 4) (g := (some (10, false))) (by kernel_rfl) (gd_y (d := 142) (by kernel_rfl) rfl hb428) (f0 := (.tmp 143)) (aos := #[(.tmp 150)]) (ats := #[103]) (l := l) (args := [(.agg #[(.int .i64 s188.1), (.int .i64 (W64 (s239.1 + 1))), (.int .i64 s188.1), (.int .i64 s239.1), (.int .i64 (W64 ((W64 (1 + (W64 (Int.tdiv (W64 ((W64 (x217.Clock.Drift * j366)) + 999)) 1000)))) - j366))), (.int .i64 3), (.int .i64 s239.1)])]) rfl (rfl) (hY q419.2 ({ From := ({ Log := s188.1, Line := (W64 (s239.1 + 1)) } : Ref), To := ({ Log := s188.1, Line := s239.1 } : Ref), Most := (W64 ((W64 (1 + (W64 (Int.tdiv (W64 ((W64 (x217.Clock.Drift * j366)) + 999)) 1000)))) - j366)), Kind := 3, ID := s239.1 } : Bound) w422 F21 [(some b277, (.cells #[(.int .i64 s188.1), (.int .i64 (W64 (s239.1 + 1)))] 27 (0, 0))), (some b274, (.cells #[(.int .i64 s188.1), (.int .i64 s239.1)] 27 (0, 0))), (some b231, (.cells #[(.int .i64 x217.Clock.Slip), (.int .i64 x217.Clock.Drift), (.slice ae229_2 x217.Clock.Jumps.length ne229_2), (.slice ae229_3 x217.Times.length ne229_3)] 54 (0, 0)))] Lf426 q433 ((((((le19.trans le191).trans le242).trans le289).trans le303).trans le365).trans le424) trivial hJ425 hs427 hq434) ?_
            rintro _ w436 ⟨F22, Lf440, rfl, hs437, le438, hJ439⟩
            have hs441 : HS wb Fb w436 F22 ((some b277, (.cells #[(.int .i64 s188.1), (.int .i64 (W64 (s239.1 + 1)))] 27 (0, 0))) :: (some b274, (.cells #[(.int .i64 s188.1), (.int .i64 s239.1)] 27 (0, 0))) :: (some b231, (.cells #[(.int .i64 x217.Clock.Slip), (.int .i64 x217.Clock.Drift), (.slice ae229_2 x217.Clock.Jumps.length ne229_2), (.slice ae229_3 x217.Times.length ne229_3)] 54 (0, 0))) :: Lf440) := hs437
            refine ⟨_, rfl, ?_⟩
            refine Vg 152 4 10 false 142 hb428 (run_not (t := 4) (x := (.tmp 151)) (a := q433.1) rfl) ?_
            refine V 153 4 (p0 142 (.const (.bool true)) (.tmp 152) (.bool (!q433.1)) hb428) ?_
            obtain rfl := some_inj h435
            have hs442 : HS wb Fb w436 F22 ((some b274, (.cells #[(.int .i64 s188.1), (.int .i64 s239.1)] 27 (0, 0))) :: (some b231, (.cells #[(.int .i64 x217.Clock.Slip), (.int .i64 x217.Clock.Drift), (.slice ae229_2 x217.Clock.Jumps.length ne229_2), (.slice ae229_3 x217.Times.length ne229_3)] 54 (0, 0))) :: Lf440) := hs441.drop 0
            have hs443 : HS wb Fb w436 F22 ((some b231, (.cells #[(.int .i64 x217.Clock.Slip), (.int .i64 x217.Clock.Drift), (.slice ae229_2 x217.Clock.Jumps.length ne229_2), (.slice ae229_3 x217.Times.length ne229_3)] 54 (0, 0))) :: Lf440) := hs442.drop 0
            exact RWP.nil ⟨rfl, F22, Lf440, hs443, (le424.trans le438), e367, e368, e369, e370, e371, e372, e376, e377, e378, rfl, hJ439⟩
          ·rintro f w401 ⟨F20, Lf405, hs402, le403, e407, e408, e409, e410, e411, e412, e413, e414, e415, e416, hJ406⟩
           refine thenQ_nrm ?_
           refine CWP.cond (t := j404.1) (by kernel_rfl) e416 (fun hb444 => ?_) (fun hb444 => ?_)
           ·have h445 := cond_t h418 hb444
            refine CWP.ret (by kernel_rfl) ?_
            refine blockQ_ret ?_
            refine thenQ_ret ?_
            refine thenQ_ret ?_
            refine blockQ_ret ?_
            have hret := iter_ret h445 hnx271
            subst hret
            refine .inr ?_
            refine blockQ_ret ?_
            refine thenQ_ret ?_
            refine thenQ_ret ?_
            refine blockQ_ret ?_
            have hret := iter_ret h238 hnx214
            subst hret
            refine .inr ?_
            refine thenQ_ret ?_
            have hs446 : HS wb Fb w401 F20 Lf405 := hs402.drop 0
            have hfin := some_inj h187
            subst hfin
            exact ⟨e407, .tuple #[], res_of (l := []) (by kernel_rfl) (vs := []) trivial, F20, Lf405, rfl, hs446, ((((((le19.trans le191).trans le242).trans le289).trans le303).trans le365).trans le403), hJ406⟩
           ·have h447 := cond_f h418 hb444
            refine Sc ?_
            refine blockQ_nrm ?_
            refine thenQ_nrm ?_
            refine Rg [0, 1, 2] ?_
            refine V 78 3 (mv 10 (.int .i64 s239.1) e412) ?_
            refine V 79 3 (run_add (t := 3) (t' := 3) (x := (.tmp 78)) (y := (.const (.int .i64 1))) (k := .i64) (a := s239.1) (b := 1) rfl rfl) ?_
            refine V 10 3 (ma 79 (.int .i64 (W64 (s239.1 + 1)))) ?_
            refine RWP.nil ?_
            have hn448 := iter_next h447 hnx271
            exact ⟨m268, Nat.lt_succ_self _, ((W64 (s239.1 + 1)), j404.2), F20, Lf405, hn448, hs402, ((((le242.trans le289).trans le303).trans le365).trans le403), e407, e408, e409, e410, e411, rfl, e413, e414, e415, hJ406⟩
     ·have h449 := cond_f hb270 hb272
      refine CWP.exit (by kernel_rfl) ?_
      refine thenQ_ex ?_
      refine thenQ_ex ?_
      refine blockQ_hit rfl ?_
      have hs450 : HS wb Fb w240 F13 Lf243 := hs241.drop 0
      have ho451 := iter_done h449 hnx271
      exact .inl ⟨rfl, (s239.1, s239.2), F13, Lf243, ho451, hs450, le242, e245, e246, e247, e251, e252, e253, hJ244⟩
    ·rintro f w255 ⟨s254, F14, Lf258, rfl, hs256, le257, e260, e261, e262, e263, e264, e265, hJ259⟩
     have h452 := k_done h238
     refine blockQ_nrm ?_
     refine thenQ_nrm ?_
     refine Rg [0, 1] ?_
     refine V 154 3 (run_add (t := 3) (t' := 3) (x := (.tmp 67)) (y := (.const (.int .i64 1))) (k := .i64) (a := s188.1) (b := 1) e265 rfl) ?_
     refine V 67 3 (mv 154 (.int .i64 (W64 (s188.1 + 1)))) ?_
     refine RWP.nil ?_
     have hn453 := iter_next h452 hnx214
     exact ⟨m211, Nat.lt_succ_self _, ((W64 (s188.1 + 1)), s254.2), F14, Lf258, hn453, hs256, (le191.trans le257), e260, e261, e262, e263, e264, rfl, hJ259⟩
   ·have h454 := cond_f hb213 hb215
    refine CWP.exit (by kernel_rfl) ?_
    refine thenQ_ex ?_
    refine thenQ_ex ?_
    refine blockQ_hit rfl ?_
    have ho455 := iter_done h454 hnx214
    exact .inl ⟨rfl, (s188.1, s188.2), F11, Lf192, ho455, hs190, le191, e194, e195, e196, hJ193⟩
  ·rintro f w201 ⟨s200, F12, Lf204, rfl, hs202, le203, e206, e207, e208, hJ205⟩
   have h456 := k_done h187
   refine thenQ_nrm ?_
   refine Sq (Rg [0, 1, 2, 3] ?_)
   refine V 155 0 (fa 25 1 1 1 1 bz0 0 1 e208) ?_
   refine V 156 23 (ld 23 155 bz0 1 false 1 (.slice az0_1 z0.Ties.length nz0_1) (hs202.pers _ _ (((le01.trans le19).trans le203) _ _ hz0))) ?_
   refine V 157 3 (ln 156 23 az0_1 z0.Ties.length nz0_1 46 4 32) ?_
   refine V 158 3 (run_move (x := (.const (.int .i64 0))) (v := (.int .i64 0)) rfl) ?_
   refine Nt ?_
   obtain ⟨o457, ho458, h459⟩ := bind_some h456
   refine CWP.cut (fun f w => ∃ (s472 : (Int × σ)) (F24 : Mem) (Lf476 : Own), o457 = .done s472 ∧ HS wb Fb w F24 Lf476 ∧ Mem.le F12 F24 ∧ f.d = [] ∧ J s472.2 F24 Lf476) ?_ ?_
   ·refine Bk ?_
    refine CWP.loop (by kernel_rfl) (fun m f w => ∃ (s460 : (Int × σ)) (F23 : Mem) (Lf464 : Own), iter (clocks_bounds_1_L4 N y z0 s s16 s200) m s460 = some o457 ∧ HS wb Fb w F23 Lf464 ∧ Mem.le F12 F23 ∧ f.d = [] ∧ f 0 = (.func (.yield l) #[] #[]) ∧ f 1 = (.pointer (some ⟨bz0, 0, none⟩)) ∧ f 156 = (.slice az0_1 z0.Ties.length nz0_1) ∧ f 157 = (.int .i64 (z0.Ties.length : Int)) ∧ f 158 = (.int .i64 s460.1) ∧ J s460.2 F23 Lf464) N ⟨(0, s200.2), F12, Lf204, ho458, hs202, (Mem.le.refl _), e206, e207, e208, rfl, rfl, rfl, hJ205⟩ ?_
    rintro m479 f w461 ⟨s460, F23, Lf464, hit480, hs462, le463, e466, e467, e468, e469, e470, e471, hJ465⟩
    obtain ⟨m481, fl482, rfl, hb483, hnx484⟩ := iter_step hit480
    refine Sq (Rg [0] ?_)
    refine V 159 0 (run_lss (t := 3) (t' := 3) (x := (.tmp 158)) (y := (.tmp 157)) (k := .i64) (a := s460.1) (b := (z0.Ties.length : Int)) e471 e470) ?_
    refine Nss ?_
    refine CWP.cond (t := (decide (s460.1 < (z0.Ties.length : Int)))) (by kernel_rfl) rfl (fun hb485 => ?_) (fun hb485 => ?_)
    ·have h486 := cond_t hb483 hb485
     refine Sc ?_
     refine thenQ_nrm ?_
     refine Sq ?_
     refine Bk ?_
     refine Sq (Rg [0, 1, 2, 3, 4, 5] ?_)
     refine V 160 3 (mv 158 (.int .i64 s460.1) e471) ?_
     obtain ⟨x487, hx488, h490⟩ := bind_some h486
     obtain ⟨hi489, hx488'⟩ := idx_spec hx488
     obtain ⟨b491, o492, C493, E494, fz495, rfl, hF497, hE498⟩ := SlA.open (SlA.mono hsz0_1 (((le01.trans le19).trans le203).trans le463)) hx488'
     have hc500 := hE498 _ _ hx488'
     refine V 161 0 (run_index (t := 23) (x := (.tmp 156)) (y := (.tmp 158)) (b := b491) (o := o492) (E := 46) (s := 4) (by_ := 32) e469 e471 (by kernel_rfl) hi489) ?_
     refine V 162 46 (lx 46 161 0 4 true 4 (.agg #[(.int .i64 x487.A.Log), (.int .i64 x487.A.Line), (.int .i64 x487.B.Log), (.int .i64 x487.B.Line)]) (hs462.pers _ _ hF497) hc500) ?_
     refine Al 16 0 46 #[(.int .i64 0), (.int .i64 0), (.int .i64 0), (.int .i64 0)] hs462 (fun b501 w502 (hs503 : HS wb Fb w502 F23 ((some b501, (.cells #[(.int .i64 0), (.int .i64 0), (.int .i64 0), (.int .i64 0)] 46 (0, 0))) :: Lf464)) => ?_)
     refine V 15 3 (ma 160 (.int .i64 s460.1)) ?_
     refine RWP.store (ty := 0) (g := none) (by kernel_rfl) rfl (x := (.tmp 16)) (y := (.tmp 162)) (t := 46) (gg := true) (s := 4) (v := (.agg #[(.int .i64 x487.A.Log), (.int .i64 x487.A.Line), (.int .i64 x487.B.Log), (.int .i64 x487.B.Line)])) (b := b501) (o := 0) (C := #[(.int .i64 0), (.int .i64 0), (.int .i64 0), (.int .i64 0)]) rfl rfl (by kernel_rfl) hs503 (k := 0) rfl rfl rfl rfl (C' := #[(.int .i64 x487.A.Log), (.int .i64 x487.A.Line), (.int .i64 x487.B.Log), (.int .i64 x487.B.Line)]) rfl (fun w504 (hs505 : HS wb Fb w504 F23 ((some b501, (.cells #[(.int .i64 x487.A.Log), (.int .i64 x487.A.Line), (.int .i64 x487.B.Log), (.int .i64 x487.B.Line)] 46 (0, 0))) :: Lf464)) => ?_)
     refine Nss (Rg [0, 1, 2, 3, 4, 5, 6, 7, 8, 9, 10, 11, 12, 13, 14, 15, 16, 17, 18, 19, 20, 21, 22, 23] ?_)
     obtain ⟨j509, hj519, h520⟩ := bind_some h490
     refine RWP.cut (fun f w => ∃ (F25 : Mem) (Lf510 : Own), HS wb Fb w F25 Lf510 ∧ Mem.le F23 F25 ∧ f.d = [] ∧ f 0 = (.func (.yield l) #[] #[]) ∧ f 1 = (.pointer (some ⟨bz0, 0, none⟩)) ∧ f 156 = (.slice (some ⟨b491, o492, none⟩) z0.Ties.length nz0_1) ∧ f 157 = (.int .i64 (z0.Ties.length : Int)) ∧ f 158 = (.int .i64 s460.1) ∧ f 186 = (.bool j509.1) ∧ J j509.2 F25 Lf510) ?_ ?_
     ·refine V 163 134 (mv 0 (.func (.yield l) #[] #[]) e467) ?_
      refine V 164 0 (fa 46 16 0 0 2 b501 0 0) ?_
      refine V 165 27 (ld 27 164 b501 0 true 2 (.agg #[(.int .i64 x487.A.Log), (.int .i64 x487.A.Line)]) (hs505.ownAt (k := 0) rfl)) ?_
      refine V 166 0 (fa 46 16 1 2 2 b501 0 2) ?_
      refine V 167 27 (ld 27 166 b501 2 true 2 (.agg #[(.int .i64 x487.B.Log), (.int .i64 x487.B.Line)]) (hs505.ownAt (k := 0) rfl)) ?_
      refine V 168 0 (fa 25 1 2 2 1 bz0 0 2 e468) ?_
      refine V 169 3 (ld 3 168 bz0 2 false 1 (.int .i64 z0.Window) (hs505.pers _ _ ((((le01.trans le19).trans le203).trans le463) _ _ hz0))) ?_
      refine V 170 3 (mv 15 (.int .i64 s460.1)) ?_
      refine V 171 103 (run_build2 (t := 103) (parts := #[(0, (.tmp 165)), (1, (.tmp 167)), (2, (.tmp 169)), (3, (.const (.int .i64 4))), (4, (.tmp 170))]) (vs := [(0, (.agg #[(.int .i64 x487.A.Log), (.int .i64 x487.A.Line)])), (1, (.agg #[(.int .i64 x487.B.Log), (.int .i64 x487.B.Line)])), (2, (.int .i64 z0.Window)), (3, (.int .i64 4)), (4, (.int .i64 s460.1))]) (rfl) (cs := [(.int .i64 x487.A.Log), (.int .i64 x487.A.Line), (.int .i64 x487.B.Log), (.int .i64 x487.B.Line), (.int .i64 z0.Window), (.int .i64 4), (.int .i64 s460.1)]) (by kernel_rfl)) ?_
      obtain ⟨q521, hq522, h523⟩ := bind_some hj519
      refine RWP.yield (dst := (some 172)) (ty := 4) (g := none) (by kernel_rfl) rfl (f0 := (.tmp 163)) (aos := #[(.tmp 171)]) (ats := #[103]) (l := l) (args := [(.agg #[(.int .i64 x487.A.Log), (.int .i64 x487.A.Line), (.int .i64 x487.B.Log), (.int .i64 x487.B.Line), (.int .i64 z0.Window), (.int .i64 4), (.int .i64 s460.1)])]) rfl (rfl) (hY s460.2 ({ From := x487.A, To := x487.B, Most := z0.Window, Kind := 4, ID := s460.1 } : Bound) w504 F23 [(some b501, (.cells #[(.int .i64 x487.A.Log), (.int .i64 x487.A.Line), (.int .i64 x487.B.Log), (.int .i64 x487.B.Line)] 46 (0, 0)))] Lf464 q521 ((le19.trans le203).trans le463) trivial hJ465 hs505 hq522) ?_
      rintro _ w524 ⟨F26, Lf528, rfl, hs525, le526, hJ527⟩
      have hs529 : HS wb Fb w524 F26 ((some b501, (.cells #[(.int .i64 x487.A.Log), (.int .i64 x487.A.Line), (.int .i64 x487.B.Log), (.int .i64 x487.B.Line)] 46 (0, 0))) :: Lf528) := hs525
      refine ⟨_, rfl, ?_⟩
      refine V 173 4 (run_not (t := 4) (x := (.tmp 172)) (a := q521.1) rfl) ?_
      refine V 174 4 (mv 173 (.bool (!q521.1))) ?_
      refine RWP.split (!q521.1) (fun hb530 => ?_) (fun hb530 => ?_)
      ·have h531 := cond_t h523 hb530
       refine Sk [175, 176, 177, 178, 179, 180, 181, 182, 183, 184, 185] 11 false 174 hb530 ?_
       refine V 186 4 (p1 174 (.const (.bool true)) (.tmp 185) (.bool true) hb530) ?_
       obtain rfl := some_inj h531
       have hs532 : HS wb Fb w524 F26 Lf528 := hs529.drop 0
       exact RWP.nil ⟨rfl, F26, Lf528, hs532, le526, e466, e467, e468, e469, e470, e471, rfl, hJ527⟩
      ·have h533 := cond_f h523 hb530
       refine Vg 175 134 11 false 174 hb530 (mv 0 (.func (.yield l) #[] #[]) e467) ?_
       refine Vg 176 0 11 false 174 hb530 (fa 46 16 1 2 2 b501 0 2) ?_
       refine Vg 177 27 11 false 174 hb530 (ld 27 176 b501 2 true 2 (.agg #[(.int .i64 x487.B.Log), (.int .i64 x487.B.Line)]) (hs529.ownAt (k := 0) rfl)) ?_
       refine Vg 178 0 11 false 174 hb530 (fa 46 16 0 0 2 b501 0 0) ?_
       refine Vg 179 27 11 false 174 hb530 (ld 27 178 b501 0 true 2 (.agg #[(.int .i64 x487.A.Log), (.int .i64 x487.A.Line)]) (hs529.ownAt (k := 0) rfl)) ?_
       refine Vg 180 0 11 false 174 hb530 (fa 25 1 2 2 1 bz0 0 2 e468) ?_
       refine Vg 181 3 11 false 174 hb530 (ld 3 180 bz0 2 false 1 (.int .i64 z0.Window) (hs529.pers _ _ (((((le01.trans le19).trans le203).trans le463).trans le526) _ _ hz0))) ?_
       refine Vg 182 3 11 false 174 hb530 (mv 15 (.int .i64 s460.1)) ?_
       refine Vg 183 103 11 false 174 hb530 (run_build2 (t := 103) (parts := #[(0, (.tmp 177)), (1, (.tmp 179)), (2, (.tmp 181)), (3, (.const (.int .i64 4))), (4, (.tmp 182))]) (vs := [(0, (.agg #[(.int .i64 x487.B.Log), (.int .i64 x487.B.Line)])), (1, (.agg #[(.int .i64 x487.A.Log), (.int .i64 x487.A.Line)])), (2, (.int .i64 z0.Window)), (3, (.int .i64 4)), (4, (.int .i64 s460.1))]) (rfl) (cs := [(.int .i64 x487.B.Log), (.int .i64 x487.B.Line), (.int .i64 x487.A.Log), (.int .i64 x487.A.Line), (.int .i64 z0.Window), (.int .i64 4), (.int .i64 s460.1)]) (by kernel_rfl)) ?_
       obtain ⟨q534, hq535, h536⟩ := bind_some h533
       refine RWP.yield (dst := (some 184)) (ty := 4) (g := (some (11, false))) (by kernel_rfl) (gd_y (d := 174) (by kernel_rfl) rfl hb530) (f0 := (.tmp 175)) (aos := #[(.tmp 183)]) (ats := #[103]) (l := l) (args := [(.agg #[(.int .i64 x487.B.Log), (.int .i64 x487.B.Line), (.int .i64 x487.A.Log), (.int .i64 x487.A.Line), (.int .i64 z0.Window), (.int .i64 4), (.int .i64 s460.1)])]) rfl (rfl) (hY q521.2 ({ From := x487.B, To := x487.A, Most := z0.Window, Kind := 4, ID := s460.1 } : Bound) w524 F26 [(some b501, (.cells #[(.int .i64 x487.A.Log), (.int .i64 x487.A.Line), (.int .i64 x487.B.Log), (.int .i64 x487.B.Line)] 46 (0, 0)))] Lf528 q534 (((le19.trans le203).trans le463).trans le526) trivial hJ527 hs529 hq535) ?_
       rintro _ w537 ⟨F27, Lf541, rfl, hs538, le539, hJ540⟩
       have hs542 : HS wb Fb w537 F27 ((some b501, (.cells #[(.int .i64 x487.A.Log), (.int .i64 x487.A.Line), (.int .i64 x487.B.Log), (.int .i64 x487.B.Line)] 46 (0, 0))) :: Lf541) := hs538
       refine ⟨_, rfl, ?_⟩
       refine Vg 185 4 11 false 174 hb530 (run_not (t := 4) (x := (.tmp 184)) (a := q534.1) rfl) ?_
       refine V 186 4 (p0 174 (.const (.bool true)) (.tmp 185) (.bool (!q534.1)) hb530) ?_
       obtain rfl := some_inj h536
       have hs543 : HS wb Fb w537 F27 Lf541 := hs542.drop 0
       exact RWP.nil ⟨rfl, F27, Lf541, hs543, (le526.trans le539), e466, e467, e468, e469, e470, e471, rfl, hJ540⟩
     ·rintro f w506 ⟨F25, Lf510, hs507, le508, e512, e513, e514, e515, e516, e517, e518, hJ511⟩
      refine thenQ_nrm ?_
      refine CWP.cond (t := j509.1) (by kernel_rfl) e518 (fun hb544 => ?_) (fun hb544 => ?_)
      ·have h545 := cond_t h520 hb544
       refine CWP.ret (by kernel_rfl) ?_
       refine blockQ_ret ?_
       refine thenQ_ret ?_
       refine thenQ_ret ?_
       refine blockQ_ret ?_
       have hret := iter_ret h545 hnx484
       subst hret
       refine .inr ?_
       have hfin := some_inj h459
       subst hfin
       exact ⟨e512, .tuple #[], res_of (l := []) (by kernel_rfl) (vs := []) trivial, F25, Lf510, rfl, hs507, (((le19.trans le203).trans le463).trans le508), hJ511⟩
      ·have h546 := cond_f h520 hb544
       refine Sc ?_
       refine blockQ_nrm ?_
       refine thenQ_nrm ?_
       refine Rg [0, 1] ?_
       refine V 187 3 (run_add (t := 3) (t' := 3) (x := (.tmp 158)) (y := (.const (.int .i64 1))) (k := .i64) (a := s460.1) (b := 1) e517 rfl) ?_
       refine V 158 3 (mv 187 (.int .i64 (W64 (s460.1 + 1)))) ?_
       refine RWP.nil ?_
       have hn547 := iter_next h546 hnx484
       exact ⟨m481, Nat.lt_succ_self _, ((W64 (s460.1 + 1)), j509.2), F25, Lf510, hn547, hs507, (le463.trans le508), e512, e513, e514, e515, e516, rfl, hJ511⟩
    ·have h548 := cond_f hb483 hb485
     refine CWP.exit (by kernel_rfl) ?_
     refine thenQ_ex ?_
     refine thenQ_ex ?_
     refine blockQ_hit rfl ?_
     have ho549 := iter_done h548 hnx484
     exact .inl ⟨rfl, (s460.1, s460.2), F23, Lf464, ho549, hs462, le463, e466, hJ465⟩
   ·rintro f w473 ⟨s472, F24, Lf476, rfl, hs474, le475, e478, hJ477⟩
    have h550 := k_done h459
    have hfin := some_inj h550
    subst hfin
    exact ⟨e478, .tuple #[], res_of (l := []) (by kernel_rfl) (vs := []) trivial, F24, Lf476, rfl, hs474, ((le19.trans le203).trans le475), hJ477⟩
end Go.Proofs.Ythbcnabeabcmlaa
namespace Go.Proofs.Ythbcnabeabcmlaa
open Go.Proofs
def slices_AppendSeq_api_Bound_api_Bound_L0 (N : Nat) (x1 : System) : (List Bound) → Bound → Option (List Bound) := fun s6 x19 =>
 ((apnd s6 [x19]).bind fun r44 => some r44)
def slices_AppendSeq_api_Bound_api_Bound (N : Nat) (x1 : System) : Option (List Bound) :=
 ((clocks_bounds_1 N (fun st x => ((slices_AppendSeq_api_Bound_api_Bound_L0 N x1) st x).map fun t => (true, t)) x1 ([] : List Bound)).bind fun r14 => some r14)
theorem co_slices_AppendSeq_api_Bound_api_Bound : CallOk Try.prog 119 := fun _ _ => by kernel_rfl
set_option maxHeartbeats 4000000 in
set_option maxRecDepth 100000 in
theorem c_slices_AppendSeq_api_Bound_api_Bound (N : Nat) (w0 : World) (F0 : Mem) (hF : ∀ b o, F0 b = some o → w0.heap[b]? = some o) (x1 : System) (a1_0_0 : Option Addr) (n1_0_0 : Nat) (hb1_0_0 : LC x1.Tracks.length n1_0_0) (hs1_0_0 : SlA tTrack F0 a1_0_0 x1.Tracks) (a1_0_1 : Option Addr) (n1_0_1 : Nat) (hb1_0_1 : LC x1.Ties.length n1_0_1) (hs1_0_1 : SlA tTie F0 a1_0_1 x1.Ties) (b1_0 : Nat) (hF1_0 : F0 b1_0 = some (.cells #[(.slice a1_0_0 x1.Tracks.length n1_0_0), (.slice a1_0_1 x1.Ties.length n1_0_1), (.int .i64 x1.Window)] 25 (0, 0))) (r : (List Bound)) (h : slices_AppendSeq_api_Bound_api_Bound N x1 = some r) :
  Calls Try.prog 119 ([.slice none 0 0, (.func (.func 120) #[] #[(.pointer (some ⟨b1_0, 0, none⟩))])] : List Value).toArray w0 (FRet w0 F0 fun F' v => ∃ (aq0_0 : Option Addr) (nq0_0 : Nat), v = (.slice aq0_0 r.length nq0_0) ∧ LC r.length nq0_0 ∧ SlA tBound F' aq0_0 r) := by
 have hs0 := HS.start hF
 refine calls_ofM (n := 13) (c := bodyOf Try.f119) Try.func119 (by kernel_rfl) (by kernel_rfl) (by kernel_rfl) ?_
 refine Sq (Rg [0, 1] ?_)
 refine Bx 2 0 0 57 #[(.slice none ([] : List Bound).length 0)] hs0 (fun b1 w2 (hs3 : HS w0 F0 w2 F0 [(some b1, (.cells #[(.slice none ([] : List Bound).length 0)] 57 (0, 0)))]) => ?_)
 refine V 4 57 (mc (.slice none 0 0) (.slice none ([] : List Bound).length 0)) ?_
 refine Nss ?_
 refine Sq (Rg [0] ?_)
 refine V 6 105 (mv 1 (.func (.func 120) #[] #[(.pointer (some ⟨b1_0, 0, none⟩))])) ?_
 refine Nt ?_
 refine Bk ?_
 have hs4 : HS w0 F0 w2 F0 [(none, .cells #[] 0 (0, 0)), (some b1, (.cells #[(.slice none ([] : List Bound).length 0)] 57 (0, 0)))] := hs3.dummy _
 obtain ⟨r14, hr15, h16⟩ := bind_some h
 refine CWP.rangeFunc (enc := enc134) (ok := ok134) (px := px134) (m := fun {_} y s => clocks_bounds_1 N y x1 s) (L := [(none, .cells #[] 0 (0, 0)), (some b1, (.cells #[(.slice none ([] : List Bound).length 0)] 57 (0, 0)))]) (B := []) (ps := [7]) (by kernel_rfl) (gf := 120) (cap := [(.pointer (some ⟨b1_0, 0, none⟩))]) rfl co_clocks_bounds_1 rfl (by kernel_rfl) (by kernel_rfl) (fun _ => rfl) hs4 (c_clocks_bounds_1 N F0 x1 a1_0_0 n1_0_0 hb1_0_0 hs1_0_0 a1_0_1 n1_0_1 hb1_0_1 hs1_0_1 b1_0 hF1_0) (fun st x => ((slices_AppendSeq_api_Bound_api_Bound_L0 N x1) st x).map fun t => (true, t)) (fun (s6 : (List Bound)) (F1 : Mem) (Lq : Own) => ∃ (as6_0 : Option Addr) (ns6_0 : Nat) (es6_0 : Option Nat × Obj), Lq = [es6_0, (some b1, (.cells #[(.slice as6_0 s6.length ns6_0)] 57 (0, 0)))] ∧ RowR tBound 103 F1 as6_0 ns6_0 s6 es6_0) ?_ (s := ([] : List Bound)) (r := r14) ?_ hr15 (fun _ _ _ h => (map_true h).1) ?_ ?_
 ·rintro s F F' L ⟨as6_0, ns6_0, es6_0, rfl, hrs6_0⟩ hl
  exact ⟨as6_0, ns6_0, es6_0, rfl, (hrs6_0.mono hl)⟩
 ·exact ⟨none, 0, (none, .cells #[] 0 (0, 0)), rfl, (RowR.nil tBound 103 F0 _)⟩
 ·rintro l17 s6 x19 w20 F1 _ Rf22 ⟨_, q23⟩ le24 ok25 ⟨as6_0, ns6_0, es6_0, rfl, hrs6_0⟩ hs26 hy27
  have h28 := (map_true hy27).2
  have hs29 : HS w0 F0 w20 F1 (es6_0 :: (some b1, (.cells #[(.slice as6_0 s6.length ns6_0)] 57 (0, 0))) :: Rf22) := hs26
  refine Rg [0, 1] ?_
  refine Al 5 0 103 #[(.int .i64 0), (.int .i64 0), (.int .i64 0), (.int .i64 0), (.int .i64 0), (.int .i64 0), (.int .i64 0)] hs29 (fun b30 w31 (hs32 : HS w0 F0 w31 F1 ((some b30, (.cells #[(.int .i64 0), (.int .i64 0), (.int .i64 0), (.int .i64 0), (.int .i64 0), (.int .i64 0), (.int .i64 0)] 103 (0, 0))) :: es6_0 :: (some b1, (.cells #[(.slice as6_0 s6.length ns6_0)] 57 (0, 0))) :: Rf22)) => ?_)
  refine RWP.store (ty := 0) (g := none) (by kernel_rfl) rfl (x := (.tmp 5)) (y := (.tmp 7)) (t := 103) (gg := true) (s := 7) (v := (.agg #[(.int .i64 x19.From.Log), (.int .i64 x19.From.Line), (.int .i64 x19.To.Log), (.int .i64 x19.To.Line), (.int .i64 x19.Most), (.int .i64 x19.Kind), (.int .i64 x19.ID)])) (b := b30) (o := 0) (C := #[(.int .i64 0), (.int .i64 0), (.int .i64 0), (.int .i64 0), (.int .i64 0), (.int .i64 0), (.int .i64 0)]) rfl rfl (by kernel_rfl) hs32 (k := 0) rfl rfl rfl rfl (C' := #[(.int .i64 x19.From.Log), (.int .i64 x19.From.Line), (.int .i64 x19.To.Log), (.int .i64 x19.To.Line), (.int .i64 x19.Most), (.int .i64 x19.Kind), (.int .i64 x19.ID)]) rfl (fun w33 (hs34 : HS w0 F0 w33 F1 ((some b30, (.cells #[(.int .i64 x19.From.Log), (.int .i64 x19.From.Line), (.int .i64 x19.To.Log), (.int .i64 x19.To.Line), (.int .i64 x19.Most), (.int .i64 x19.Kind), (.int .i64 x19.ID)] 103 (0, 0))) :: es6_0 :: (some b1, (.cells #[(.slice as6_0 s6.length ns6_0)] 57 (0, 0))) :: Rf22)) => ?_)
  refine RWP.nil ?_
  refine ⟨rfl, F1, [(some b30, (.cells #[(.int .i64 x19.From.Log), (.int .i64 x19.From.Line), (.int .i64 x19.To.Log), (.int .i64 x19.To.Line), (.int .i64 x19.Most), (.int .i64 x19.Kind), (.int .i64 x19.ID)] 103 (0, 0))), es6_0, (some b1, (.cells #[(.slice as6_0 s6.length ns6_0)] 57 (0, 0)))], hs34, fun w35 Rf36 hs37 => ?_⟩
  have hs38 : HS w0 F0 w35 F1 ((some b30, (.cells #[(.int .i64 x19.From.Log), (.int .i64 x19.From.Line), (.int .i64 x19.To.Log), (.int .i64 x19.To.Line), (.int .i64 x19.Most), (.int .i64 x19.Kind), (.int .i64 x19.ID)] 103 (0, 0))) :: es6_0 :: (some b1, (.cells #[(.slice as6_0 s6.length ns6_0)] 57 (0, 0))) :: Rf36) := hs37
  refine Bk ?_
  refine Rg [0, 1, 2, 3, 4] ?_
  refine V 8 57 (ld 57 2 b1 0 false 1 (.slice as6_0 s6.length ns6_0) (hs38.ownAt (k := 2) rfl)) ?_
  refine V 9 103 (ld 103 5 b30 0 true 7 (.agg #[(.int .i64 x19.From.Log), (.int .i64 x19.From.Line), (.int .i64 x19.To.Log), (.int .i64 x19.To.Line), (.int .i64 x19.Most), (.int .i64 x19.Kind), (.int .i64 x19.ID)]) (hs38.ownAt (k := 0) rfl)) ?_
  refine RWP.buildSlice (dst := (some 10)) (ty := 57) (g := none) (by kernel_rfl) rfl (t := 57) (len := 1) (parts := #[(0, (.tmp 9))]) (vs := [(0, (.agg #[(.int .i64 x19.From.Log), (.int .i64 x19.From.Line), (.int .i64 x19.To.Log), (.int .i64 x19.To.Line), (.int .i64 x19.Most), (.int .i64 x19.Kind), (.int .i64 x19.ID)]))]) (rfl) (E := 103) (cs := [(.int .i64 x19.From.Log), (.int .i64 x19.From.Line), (.int .i64 x19.To.Log), (.int .i64 x19.To.Line), (.int .i64 x19.Most), (.int .i64 x19.Kind), (.int .i64 x19.ID)]) (by kernel_rfl) hs38 (fun b39 w40 (hs41 : HS w0 F0 w40 F1 ((some b39, .cells ([(.int .i64 x19.From.Log), (.int .i64 x19.From.Line), (.int .i64 x19.To.Log), (.int .i64 x19.To.Line), (.int .i64 x19.Most), (.int .i64 x19.Kind), (.int .i64 x19.ID)] : List Value).toArray 103 (0, 0)) :: (some b30, (.cells #[(.int .i64 x19.From.Log), (.int .i64 x19.From.Line), (.int .i64 x19.To.Log), (.int .i64 x19.To.Line), (.int .i64 x19.Most), (.int .i64 x19.Kind), (.int .i64 x19.ID)] 103 (0, 0))) :: es6_0 :: (some b1, (.cells #[(.slice as6_0 s6.length ns6_0)] 57 (0, 0))) :: Rf36)) => ?_)
  have hr43 : RowR tBound 103 F1 (some ⟨b39, 0, none⟩) 1 [x19] (some b39, .cells ([(.int .i64 x19.From.Log), (.int .i64 x19.From.Line), (.int .i64 x19.To.Log), (.int .i64 x19.To.Line), (.int .i64 x19.Most), (.int .i64 x19.Kind), (.int .i64 x19.ID)] : List Value).toArray 103 (0, 0)) := RowR.lit ⟨rfl, rfl⟩ (by simp)
  obtain ⟨r44, hap45, h46⟩ := bind_some h28
  refine RWP.append (dst := (some 11)) (ty := 57) (g := none) (by kernel_rfl) rfl (x := (.tmp 8)) (y := (.tmp 10)) (t := 57) (t2 := 57) (by_ := 56) (z := (.agg #[(.int .i64 0), (.int .i64 0), (.int .i64 0), (.int .i64 0), (.int .i64 0), (.int .i64 0), (.int .i64 0)])) (a2 := (some ⟨b39, 0, none⟩)) (c2 := 1) (m := [x19]) (T := tBound) (E := 103) (a := as6_0) (cap := ns6_0) (l := s6) rfl rfl (by kernel_rfl) (by decide) (by kernel_rfl) (by kernel_rfl) rfl oBound hs41 (k := 2) rfl hrs6_0 (RowR.rd hs41 (k := 0) rfl hr43) (r := r44) hap45 (fun a47 n48 e49 w50 (hs51 : HS w0 F0 w50 F1 ((some b39, .cells ([(.int .i64 x19.From.Log), (.int .i64 x19.From.Line), (.int .i64 x19.To.Log), (.int .i64 x19.To.Line), (.int .i64 x19.Most), (.int .i64 x19.Kind), (.int .i64 x19.ID)] : List Value).toArray 103 (0, 0)) :: (some b30, (.cells #[(.int .i64 x19.From.Log), (.int .i64 x19.From.Line), (.int .i64 x19.To.Log), (.int .i64 x19.To.Line), (.int .i64 x19.Most), (.int .i64 x19.Kind), (.int .i64 x19.ID)] 103 (0, 0))) :: e49 :: (some b1, (.cells #[(.slice as6_0 s6.length ns6_0)] 57 (0, 0))) :: Rf36)) hr52 => ?_)
  refine RWP.store (ty := 0) (g := none) (by kernel_rfl) rfl (x := (.tmp 2)) (y := (.tmp 11)) (t := 57) (gg := false) (s := 1) (v := (.slice a47 r44.length n48)) (b := b1) (o := 0) (C := #[(.slice as6_0 s6.length ns6_0)]) rfl rfl (by kernel_rfl) hs51 (k := 3) rfl rfl rfl rfl (C' := #[(.slice a47 r44.length n48)]) rfl (fun w53 (hs54 : HS w0 F0 w53 F1 ((some b39, .cells ([(.int .i64 x19.From.Log), (.int .i64 x19.From.Line), (.int .i64 x19.To.Log), (.int .i64 x19.To.Line), (.int .i64 x19.Most), (.int .i64 x19.Kind), (.int .i64 x19.ID)] : List Value).toArray 103 (0, 0)) :: (some b30, (.cells #[(.int .i64 x19.From.Log), (.int .i64 x19.From.Line), (.int .i64 x19.To.Log), (.int .i64 x19.To.Line), (.int .i64 x19.Most), (.int .i64 x19.Kind), (.int .i64 x19.ID)] 103 (0, 0))) :: e49 :: (some b1, (.cells #[(.slice a47 r44.length n48)] 57 (0, 0))) :: Rf36)) => ?_)
  refine RWP.nil ?_
  refine blockQ_nrm ?_
  have hs55 : HS w0 F0 w53 F1 ((some b30, (.cells #[(.int .i64 x19.From.Log), (.int .i64 x19.From.Line), (.int .i64 x19.To.Log), (.int .i64 x19.To.Line), (.int .i64 x19.Most), (.int .i64 x19.Kind), (.int .i64 x19.ID)] 103 (0, 0))) :: e49 :: (some b1, (.cells #[(.slice a47 r44.length n48)] 57 (0, 0))) :: Rf36) := hs54.drop 0
  have hs56 : HS w0 F0 w53 F1 (e49 :: (some b1, (.cells #[(.slice a47 r44.length n48)] 57 (0, 0))) :: Rf36) := hs55.drop 0
  obtain rfl := some_inj h46
  exact ⟨rfl, F1, [e49, (some b1, (.cells #[(.slice a47 r44.length n48)] 57 (0, 0)))], hs56, (Mem.le.refl _), ⟨a47, n48, e49, rfl, hr52⟩⟩
 ·rintro D58 w59 F2 _ hs60 le61 ⟨as10_0, ns10_0, es10_0, rfl, hrs10_0⟩
  have hs62 : HS w0 F0 w59 F2 [(some D58, (.deferred (some []))), es10_0, (some b1, (.cells #[(.slice as10_0 r14.length ns10_0)] 57 (0, 0)))] := hs60
  refine blockQ_nrm ?_
  refine thenQ_nrm ?_
  refine Sq (Rg [0, 1] ?_)
  refine V 12 57 (ld 57 2 b1 0 false 1 (.slice as10_0 r14.length ns10_0) (hs62.ownAt (k := 2) rfl)) ?_
  refine V 4 57 (ma 12 (.slice as10_0 r14.length ns10_0)) ?_
  refine Nt ?_
  refine CWP.ret (by kernel_rfl) ?_
  have hb66 := RowR.bound hrs10_0
  obtain ⟨F3, hs63, le64, hs65⟩ : ∃ Fq, HS w0 F0 w59 Fq [(some D58, (.deferred (some []))), (some b1, (.cells #[(.slice as10_0 r14.length ns10_0)] 57 (0, 0)))] ∧ Mem.le F2 Fq ∧ SlA tBound Fq as10_0 r14 := HS.freezeRow hs62 (k := 1) rfl hrs10_0
  have hs67 := hs63.put (k := 0) rfl (.deferred none)
  have hs68 : HS w0 F0 (putB w59 D58 (.deferred none)) F3 [(some b1, (.cells #[(.slice as10_0 r14.length ns10_0)] 57 (0, 0)))] := hs67.drop 0
  have hfin := some_inj h16
  subst hfin
  exact .inr ⟨D58, rfl, hs63.ownAt (k := 0) rfl, (.slice as10_0 r14.length ns10_0), res_of (l := [.tmp 4]) (by kernel_rfl) (vs := [(.slice as10_0 r14.length ns10_0)]) ⟨rfl, trivial⟩, (.slice as10_0 r14.length ns10_0), F3, rfl, hs68.clear, ⟨as10_0, ns10_0, rfl, hb66, hs65⟩⟩
end Go.Proofs.Ythbcnabeabcmlaa
namespace Go.Proofs.Ythbcnabeabcmlaa
open Go.Proofs
def slices_Collect_api_Bound (N : Nat) (x0 : System) : Option (List Bound) :=
 ((slices_AppendSeq_api_Bound_api_Bound N x0).bind fun r1 => some r1)
theorem co_slices_Collect_api_Bound : CallOk Try.prog 75 := fun _ _ => by kernel_rfl
set_option maxHeartbeats 4000000 in
set_option maxRecDepth 100000 in
theorem c_slices_Collect_api_Bound (N : Nat) (w0 : World) (F0 : Mem) (hF : ∀ b o, F0 b = some o → w0.heap[b]? = some o) (x0 : System) (a0_0_0 : Option Addr) (n0_0_0 : Nat) (hb0_0_0 : LC x0.Tracks.length n0_0_0) (hs0_0_0 : SlA tTrack F0 a0_0_0 x0.Tracks) (a0_0_1 : Option Addr) (n0_0_1 : Nat) (hb0_0_1 : LC x0.Ties.length n0_0_1) (hs0_0_1 : SlA tTie F0 a0_0_1 x0.Ties) (b0_0 : Nat) (hF0_0 : F0 b0_0 = some (.cells #[(.slice a0_0_0 x0.Tracks.length n0_0_0), (.slice a0_0_1 x0.Ties.length n0_0_1), (.int .i64 x0.Window)] 25 (0, 0))) (r : (List Bound)) (h : slices_Collect_api_Bound N x0 = some r) :
  Calls Try.prog 75 ([(.func (.func 120) #[] #[(.pointer (some ⟨b0_0, 0, none⟩))])] : List Value).toArray w0 (FRet w0 F0 fun F' v => ∃ (aq0_0 : Option Addr) (nq0_0 : Nat), v = (.slice aq0_0 r.length nq0_0) ∧ LC r.length nq0_0 ∧ SlA tBound F' aq0_0 r) := by
 have hs0 := HS.start hF
 refine calls_of (n := 5) (c := bodyOf Try.f75) Try.func75 (by kernel_rfl) (by kernel_rfl) (by kernel_rfl) ?_
 refine Sq (Rg [0] ?_)
 refine V 2 57 (mc (.slice none 0 0) (.slice none ([] : List Bound).length 0)) ?_
 refine Nss (Rg [0, 1, 2] ?_)
 refine V 3 105 (mv 0 (.func (.func 120) #[] #[(.pointer (some ⟨b0_0, 0, none⟩))])) ?_
 obtain ⟨r1, hr2, h3⟩ := bind_some h
 refine Cl 4 57 119 #[(.const (.slice none 0 0)), (.tmp 3)] #[57, 105] co_slices_AppendSeq_api_Bound_api_Bound hs0 (c_slices_AppendSeq_api_Bound_api_Bound N w0 F0 hs0.pers (x0) a0_0_0 n0_0_0 hb0_0_0 hs0_0_0 a0_0_1 n0_0_1 hb0_0_1 hs0_0_1 b0_0 hF0_0 _ hr2) ?_
 intro v4 F1 w5 hs6 le7 hp8
 obtain ⟨ar1_0_0, nr1_0_0, rfl, hbr1_0_0, hsr1_0_0⟩ := hp8
 refine V 2 57 (ma 4 (.slice ar1_0_0 r1.length nr1_0_0)) ?_
 refine Nt ?_
 refine CWP.ret (by kernel_rfl) ?_
 have hfin := some_inj h3
 subst hfin
 exact ⟨rfl, (.slice ar1_0_0 r1.length nr1_0_0), res_of (l := [.tmp 2]) (by kernel_rfl) (vs := [(.slice ar1_0_0 r1.length nr1_0_0)]) ⟨rfl, trivial⟩, (.slice ar1_0_0 r1.length nr1_0_0), F1, rfl, hs6.clear, ⟨ar1_0_0, nr1_0_0, rfl, hbr1_0_0, hsr1_0_0⟩⟩
end Go.Proofs.Ythbcnabeabcmlaa
namespace Go.Proofs.Ythbcnabeabcmlaa
open Go.Proofs
def clocks_bounds (N : Nat) (x0 : System) : Option System :=
 some x0
theorem co_clocks_bounds : CallOk Try.prog 76 := fun _ _ => by kernel_rfl
set_option maxHeartbeats 4000000 in
set_option maxRecDepth 100000 in
theorem c_clocks_bounds (N : Nat) (w0 : World) (F0 : Mem) (hF : ∀ b o, F0 b = some o → w0.heap[b]? = some o) (x0 : System) (a0_0 : Option Addr) (n0_0 : Nat) (hb0_0 : LC x0.Tracks.length n0_0) (hs0_0 : SlA tTrack F0 a0_0 x0.Tracks) (a0_1 : Option Addr) (n0_1 : Nat) (hb0_1 : LC x0.Ties.length n0_1) (hs0_1 : SlA tTie F0 a0_1 x0.Ties) (r : System) (h : clocks_bounds N x0 = some r) :
  Calls Try.prog 76 ([(.agg #[(.slice a0_0 x0.Tracks.length n0_0), (.slice a0_1 x0.Ties.length n0_1), (.int .i64 x0.Window)])] : List Value).toArray w0 (FRet w0 F0 fun F' v => ∃ (aq0_0_0 : Option Addr) (nq0_0_0 : Nat) (aq0_0_1 : Option Addr) (nq0_0_1 : Nat) (bq0_0 : Nat), v = (.func (.func 120) #[] #[(.pointer (some ⟨bq0_0, 0, none⟩))]) ∧ LC r.Tracks.length nq0_0_0 ∧ SlA tTrack F' aq0_0_0 r.Tracks ∧ LC r.Ties.length nq0_0_1 ∧ SlA tTie F' aq0_0_1 r.Ties ∧ F' bq0_0 = some (.cells #[(.slice aq0_0_0 r.Tracks.length nq0_0_0), (.slice aq0_0_1 r.Ties.length nq0_0_1), (.int .i64 r.Window)] 25 (0, 0))) := by
 have hs0 := HS.start hF
 refine calls_of (n := 4) (c := bodyOf Try.f76) Try.func76 (by kernel_rfl) (by kernel_rfl) (by kernel_rfl) ?_
 refine Sq (Rg [0, 1] ?_)
 refine Bx 1 0 0 25 #[(.slice a0_0 x0.Tracks.length n0_0), (.slice a0_1 x0.Ties.length n0_1), (.int .i64 x0.Window)] hs0 (fun b1 w2 (hs3 : HS w0 F0 w2 F0 [(some b1, (.cells #[(.slice a0_0 x0.Tracks.length n0_0), (.slice a0_1 x0.Ties.length n0_1), (.int .i64 x0.Window)] 25 (0, 0)))]) => ?_)
 refine V 2 105 (mc .nilFunc .nilFunc) ?_
 refine Nss (Rg [0, 1] ?_)
 refine V 3 104 (run_makeFunc (fn := .func 120) (first := #[]) (cap := #[(.tmp 1)]) (fl := []) (cl := [(.pointer (some ⟨b1, 0, none⟩))]) rfl (rfl)) ?_
 refine V 2 105 (ma 3 (.func (.func 120) #[] #[(.pointer (some ⟨b1, 0, none⟩))])) ?_
 refine Nt ?_
 refine CWP.ret (by kernel_rfl) ?_
 obtain ⟨F1, hs4, le5, hF6⟩ : ∃ Fq, HS w0 F0 w2 Fq [] ∧ Mem.le F0 Fq ∧ Fq b1 = some (.cells #[(.slice a0_0 x0.Tracks.length n0_0), (.slice a0_1 x0.Ties.length n0_1), (.int .i64 x0.Window)] 25 (0, 0)) := HS.freezeC hs3 (k := 0) rfl
 have hfin := some_inj h
 subst hfin
 exact ⟨rfl, (.func (.func 120) #[] #[(.pointer (some ⟨b1, 0, none⟩))]), res_of (l := [.tmp 2]) (by kernel_rfl) (vs := [(.func (.func 120) #[] #[(.pointer (some ⟨b1, 0, none⟩))])]) ⟨rfl, trivial⟩, (.func (.func 120) #[] #[(.pointer (some ⟨b1, 0, none⟩))]), F1, rfl, hs4.clear, ⟨a0_0, n0_0, a0_1, n0_1, b1, rfl, hb0_0, (SlA.mono hs0_0 le5), hb0_1, (SlA.mono hs0_1 le5), hF6⟩⟩
end Go.Proofs.Ythbcnabeabcmlaa
namespace Go.Proofs.Ythbcnabeabcmlaa
open Go.Proofs
def clocks_Bounds (N : Nat) (x0 : System) : Option ((List Bound) × Int) :=
 ((clocks_Check N x0).bind fun r4 => (bif (r4 != 0) then some (([] : List Bound), r4) else ((clocks_bounds N x0).bind fun r15 => ((slices_Collect_api_Bound N r15).bind fun r23 => some (r23, 0)))))
theorem co_clocks_Bounds : CallOk Try.prog 34 := fun _ _ => by kernel_rfl
set_option maxHeartbeats 4000000 in
set_option maxRecDepth 100000 in
theorem c_clocks_Bounds (N : Nat) (w0 : World) (F0 : Mem) (hF : ∀ b o, F0 b = some o → w0.heap[b]? = some o) (x0 : System) (a0_0 : Option Addr) (n0_0 : Nat) (hb0_0 : LC x0.Tracks.length n0_0) (hs0_0 : SlA tTrack F0 a0_0 x0.Tracks) (a0_1 : Option Addr) (n0_1 : Nat) (hb0_1 : LC x0.Ties.length n0_1) (hs0_1 : SlA tTie F0 a0_1 x0.Ties) (r : ((List Bound) × Int)) (h : clocks_Bounds N x0 = some r) :
  Calls Try.prog 34 ([(.agg #[(.slice a0_0 x0.Tracks.length n0_0), (.slice a0_1 x0.Ties.length n0_1), (.int .i64 x0.Window)])] : List Value).toArray w0 (FRet w0 F0 fun F' v => ∃ (aq0_0 : Option Addr) (nq0_0 : Nat), v = (.tuple #[(.slice aq0_0 r.1.length nq0_0), (.int .i64 r.2)]) ∧ LC r.1.length nq0_0 ∧ SlA tBound F' aq0_0 r.1) := by
 have hs0 := HS.start hF
 refine calls_of (n := 13) (c := bodyOf Try.f34) Try.func34 (by kernel_rfl) (by kernel_rfl) (by kernel_rfl) ?_
 refine Sq (Rg [0, 1, 2] ?_)
 refine Bx 1 0 0 25 #[(.slice a0_0 x0.Tracks.length n0_0), (.slice a0_1 x0.Ties.length n0_1), (.int .i64 x0.Window)] hs0 (fun b1 w2 (hs3 : HS w0 F0 w2 F0 [(some b1, (.cells #[(.slice a0_0 x0.Tracks.length n0_0), (.slice a0_1 x0.Ties.length n0_1), (.int .i64 x0.Window)] 25 (0, 0)))]) => ?_)
 refine V 2 57 (mc (.slice none 0 0) (.slice none ([] : List Bound).length 0)) ?_
 refine V 3 30 (mc (.int .i64 0) (.int .i64 0)) ?_
 refine Nss ?_
 refine Sq (Rg [0, 1, 2] ?_)
 refine V 5 25 (ld 25 1 b1 0 true 3 (.agg #[(.slice a0_0 x0.Tracks.length n0_0), (.slice a0_1 x0.Ties.length n0_1), (.int .i64 x0.Window)]) (hs3.ownAt (k := 0) rfl)) ?_
 obtain ⟨r4, hr5, h6⟩ := bind_some h
 refine Cl 6 30 17 #[(.tmp 5)] #[25] co_clocks_Check hs3 (c_clocks_Check N w2 F0 hs3.pers (x0) a0_0 n0_0 hb0_0 hs0_0 a0_1 n0_1 hb0_1 hs0_1 _ hr5) ?_
 intro v7 F1 w8 hs9 le10 hp11
 obtain rfl := hp11
 refine V 4 30 (ma 6 (.int .i64 r4)) ?_
 refine Nss (Rg [0, 1] ?_)
 refine V 7 30 (mv 4 (.int .i64 r4)) ?_
 refine V 8 4 (run_neq (t := 30) (t' := 30) (x := (.tmp 7)) (y := (.const (.int .i64 0))) (k := .i64) (a := r4) (b := 0) rfl rfl) ?_
 refine Nt ?_
 refine CWP.cond (t := (r4 != 0)) (by kernel_rfl) rfl (fun hb12 => ?_) (fun hb12 => ?_)
 ·have h13 := cond_t h6 hb12
  refine Sq (Rg [0, 1, 2] ?_)
  refine V 9 30 (mv 4 (.int .i64 r4)) ?_
  refine V 2 57 (mc (.slice none 0 0) (.slice none ([] : List Bound).length 0)) ?_
  refine V 3 30 (ma 9 (.int .i64 r4)) ?_
  refine Nt ?_
  refine CWP.ret (by kernel_rfl) ?_
  refine thenQ_ret ?_
  have hfin := some_inj h13
  subst hfin
  exact ⟨rfl, (.tuple #[(.slice none ([] : List Bound).length 0), (.int .i64 r4)]), res_of (l := [.tmp 2, .tmp 3]) (by kernel_rfl) (vs := [(.slice none ([] : List Bound).length 0), (.int .i64 r4)]) ⟨rfl, ⟨rfl, trivial⟩⟩, (.tuple #[(.slice none ([] : List Bound).length 0), (.int .i64 r4)]), F1, rfl, hs9.clear, ⟨none, 0, rfl, LC.nil, (.inl rfl)⟩⟩
 ·have h14 := cond_f h6 hb12
  refine Sc ?_
  refine thenQ_nrm ?_
  refine Sq (Rg [0, 1, 2, 3, 4] ?_)
  refine V 10 25 (ld 25 1 b1 0 true 3 (.agg #[(.slice a0_0 x0.Tracks.length n0_0), (.slice a0_1 x0.Ties.length n0_1), (.int .i64 x0.Window)]) (hs9.ownAt (k := 0) rfl)) ?_
  obtain ⟨r15, hr16, h17⟩ := bind_some h14
  refine Cl 11 105 76 #[(.tmp 10)] #[25] co_clocks_bounds hs9 (c_clocks_bounds N w8 F1 hs9.pers (x0) a0_0 n0_0 hb0_0 (SlA.mono hs0_0 le10) a0_1 n0_1 hb0_1 (SlA.mono hs0_1 le10) _ hr16) ?_
  intro v18 F2 w19 hs20 le21 hp22
  obtain ⟨ar15_0_0_0, nr15_0_0_0, ar15_0_0_1, nr15_0_0_1, br15_0_0, rfl, hbr15_0_0_0, hsr15_0_0_0, hbr15_0_0_1, hsr15_0_0_1, hFr15_0_0⟩ := hp22
  obtain ⟨r23, hr24, h25⟩ := bind_some h17
  refine Cl 12 57 75 #[(.tmp 11)] #[105] co_slices_Collect_api_Bound hs20 (c_slices_Collect_api_Bound N w19 F2 hs20.pers (r15) ar15_0_0_0 nr15_0_0_0 hbr15_0_0_0 hsr15_0_0_0 ar15_0_0_1 nr15_0_0_1 hbr15_0_0_1 hsr15_0_0_1 br15_0_0 hFr15_0_0 _ hr24) ?_
  intro v26 F3 w27 hs28 le29 hp30
  obtain ⟨ar23_0_0, nr23_0_0, rfl, hbr23_0_0, hsr23_0_0⟩ := hp30
  refine V 2 57 (ma 12 (.slice ar23_0_0 r23.length nr23_0_0)) ?_
  refine V 3 30 (mc (.int .i64 0) (.int .i64 0)) ?_
  refine Nt ?_
  refine CWP.ret (by kernel_rfl) ?_
  have hfin := some_inj h25
  subst hfin
  exact ⟨rfl, (.tuple #[(.slice ar23_0_0 r23.length nr23_0_0), (.int .i64 0)]), res_of (l := [.tmp 2, .tmp 3]) (by kernel_rfl) (vs := [(.slice ar23_0_0 r23.length nr23_0_0), (.int .i64 0)]) ⟨rfl, ⟨rfl, trivial⟩⟩, (.tuple #[(.slice ar23_0_0 r23.length nr23_0_0), (.int .i64 0)]), F3, rfl, hs28.clear, ⟨ar23_0_0, nr23_0_0, rfl, hbr23_0_0, hsr23_0_0⟩⟩
end Go.Proofs.Ythbcnabeabcmlaa
namespace Go.Proofs.Ythbcnabeabcmlaa
open Go.Proofs
def ref03_Beginning (N : Nat)  : Option Ref :=
 some ({ Log := (-1), Line := 0 } : Ref)
theorem co_ref03_Beginning : CallOk Try.prog 109 := fun _ _ => by kernel_rfl
set_option maxHeartbeats 4000000 in
set_option maxRecDepth 100000 in
theorem c_ref03_Beginning (N : Nat) (w0 : World) (F0 : Mem) (hF : ∀ b o, F0 b = some o → w0.heap[b]? = some o)  (r : Ref) (h : ref03_Beginning N  = some r) :
  Calls Try.prog 109 ([] : List Value).toArray w0 (FRet w0 F0 fun F' v => v = (.agg #[(.int .i64 r.Log), (.int .i64 r.Line)])) := by
 have hs0 := HS.start hF
 refine calls_of (n := 2) (c := bodyOf Try.f109) Try.func109 (by kernel_rfl) (by kernel_rfl) (by kernel_rfl) ?_
 refine Sq (Rg [0] ?_)
 refine Al 0 0 27 #[(.int .i64 0), (.int .i64 0)] hs0 (fun b1 w2 (hs3 : HS w0 F0 w2 F0 [(some b1, (.cells #[(.int .i64 0), (.int .i64 0)] 27 (0, 0)))]) => ?_)
 refine Nss (Rg [0, 1] ?_)
 refine V 1 27 (run_build2 (t := 27) (parts := #[(0, (.const (.int .i64 (-1)))), (1, (.const (.int .i64 0)))]) (vs := [(0, (.int .i64 (-1))), (1, (.int .i64 0))]) (rfl) (cs := [(.int .i64 (-1)), (.int .i64 0)]) (by kernel_rfl)) ?_
 refine RWP.store (ty := 0) (g := none) (by kernel_rfl) rfl (x := (.tmp 0)) (y := (.tmp 1)) (t := 27) (gg := true) (s := 2) (v := (.agg #[(.int .i64 (-1)), (.int .i64 0)])) (b := b1) (o := 0) (C := #[(.int .i64 0), (.int .i64 0)]) rfl rfl (by kernel_rfl) hs3 (k := 0) rfl rfl rfl rfl (C' := #[(.int .i64 (-1)), (.int .i64 0)]) rfl (fun w4 (hs5 : HS w0 F0 w4 F0 [(some b1, (.cells #[(.int .i64 (-1)), (.int .i64 0)] 27 (0, 0)))]) => ?_)
 refine Nt ?_
 refine CWP.ret (by kernel_rfl) ?_
 have hfin := some_inj h
 subst hfin
 exact ⟨rfl, (.agg #[(.int .i64 (-1)), (.int .i64 0)]), res_of (l := [.cell 0 27]) (by kernel_rfl) (vs := [(.agg #[(.int .i64 (-1)), (.int .i64 0)])]) ⟨b1, 0, rfl, run_loadVar' (t := 27) (g := true) (s := 2) (by kernel_rfl) (hs5.ownAt (k := 0) rfl) rfl (by decide), trivial⟩, (.agg #[(.int .i64 (-1)), (.int .i64 0)]), F0, rfl, hs5.clear, rfl⟩
end Go.Proofs.Ythbcnabeabcmlaa
namespace Go.Proofs.Ythbcnabeabcmlaa
open Go.Proofs
def ref03_jumped_L0 (N : Nat) (x0 : Clock) (x1 : Int) (x2 : Int) : Int → Option (Flow Bool Int) := fun s7 =>
 (bif (decide (s7 < (x0.Jumps.length : Int))) then (((idx x0.Jumps s7).bind fun x41 => (bif (decide (x1 < x41)) then ((idx x0.Jumps s7).bind fun x57 => some (decide (x57 ≤ x2))) else some false)).bind fun j32 => (bif j32 then some (.ret true) else some (.next (W64 (s7 + 1))))) else some (.done s7))
def ref03_jumped (N : Nat) (x0 : Clock) (x1 : Int) (x2 : Int) : Option Bool :=
 ((iter (ref03_jumped_L0 N x0 x1 x2) N 0).bind fun o => o.k (fun r => some r) (fun s16 => some false))
theorem co_ref03_jumped : CallOk Try.prog 124 := fun _ _ => by kernel_rfl
set_option maxHeartbeats 4000000 in
set_option maxRecDepth 100000 in
theorem c_ref03_jumped (N : Nat) (w0 : World) (F0 : Mem) (hF : ∀ b o, F0 b = some o → w0.heap[b]? = some o) (x0 : Clock) (a0_2 : Option Addr) (n0_2 : Nat) (hb0_2 : LC x0.Jumps.length n0_2) (hs0_2 : SlA tInt F0 a0_2 x0.Jumps) (x1 : Int) (x2 : Int) (r : Bool) (h : ref03_jumped N x0 x1 x2 = some r) :
  Calls Try.prog 124 ([(.agg #[(.int .i64 x0.Slip), (.int .i64 x0.Drift), (.slice a0_2 x0.Jumps.length n0_2)]), (.int .i64 x1), (.int .i64 x2)] : List Value).toArray w0 (FRet w0 F0 fun F' v => v = (.bool r)) := by
 have hs0 := HS.start hF
 refine calls_of (n := 31) (c := bodyOf Try.f124) Try.func124 (by kernel_rfl) (by kernel_rfl) (by kernel_rfl) ?_
 refine Sq (Rg [0, 1] ?_)
 refine Bx 3 0 0 52 #[(.int .i64 x0.Slip), (.int .i64 x0.Drift), (.slice a0_2 x0.Jumps.length n0_2)] hs0 (fun b1 w2 (hs3 : HS w0 F0 w2 F0 [(some b1, (.cells #[(.int .i64 x0.Slip), (.int .i64 x0.Drift), (.slice a0_2 x0.Jumps.length n0_2)] 52 (0, 0)))]) => ?_)
 refine V 6 4 (mc (.bool false) (.bool false)) ?_
 refine Nss ?_
 refine Sq (Rg [0] ?_)
 refine V 7 3 (mc (.int .i64 0) (.int .i64 0)) ?_
 refine Nt ?_
 obtain ⟨o4, ho5, h6⟩ := bind_some h
 refine CWP.cut (fun f w => ∃ (s16 : Int) (F2 : Mem), o4 = .done s16 ∧ HS w0 F0 w F2 [] ∧ Mem.le F0 F2 ∧ f.d = []) ?_ ?_
 ·refine Bk ?_
  refine CWP.loop (by kernel_rfl) (fun m f w => ∃ (s7 : Int) (F1 : Mem), iter (ref03_jumped_L0 N x0 x1 x2) m s7 = some o4 ∧ HS w0 F0 w F1 [(some b1, (.cells #[(.int .i64 x0.Slip), (.int .i64 x0.Drift), (.slice a0_2 x0.Jumps.length n0_2)] 52 (0, 0)))] ∧ Mem.le F0 F1 ∧ f.d = [] ∧ f 1 = (.int .i64 x1) ∧ f 2 = (.int .i64 x2) ∧ f 3 = (.pointer (some ⟨b1, 0, none⟩)) ∧ f 7 = (.int .i64 s7)) N ⟨0, F0, ho5, hs3, (Mem.le.refl _), rfl, rfl, rfl, rfl, rfl⟩ ?_
  rintro m21 f w8 ⟨s7, F1, hit22, hs9, le10, e11, e12, e13, e14, e15⟩
  obtain ⟨m23, fl24, rfl, hb25, hnx26⟩ := iter_step hit22
  refine Sq ?_
  refine Sq (Rg [0, 1, 2, 3, 4] ?_)
  refine V 8 3 (mv 7 (.int .i64 s7) e15) ?_
  refine V 9 0 (fa 52 3 2 2 1 b1 0 2 e14) ?_
  refine V 10 50 (ld 50 9 b1 2 false 1 (.slice a0_2 x0.Jumps.length n0_2) (hs9.ownAt (k := 0) rfl)) ?_
  refine V 11 3 (ln 10 50 a0_2 x0.Jumps.length n0_2 3 1 8) ?_
  refine V 12 4 (run_lss (t := 3) (t' := 3) (x := (.tmp 8)) (y := (.tmp 11)) (k := .i64) (a := s7) (b := (x0.Jumps.length : Int)) rfl rfl) ?_
  refine Nt ?_
  refine CWP.cond (t := (decide (s7 < (x0.Jumps.length : Int)))) (by kernel_rfl) rfl (fun hb27 => ?_) (fun hb27 => ?_)
  ·have h28 := cond_t hb25 hb27
   refine Sc ?_
   refine thenQ_nrm ?_
   refine Sq ?_
   refine Bk ?_
   refine Sq (Rg [0, 1, 2, 3, 4, 5, 6, 7, 8, 9, 10, 11, 12, 13, 14, 15] ?_)
   obtain ⟨j32, hj39, h40⟩ := bind_some h28
   refine RWP.cut (fun f w => ∃ (F3 : Mem), HS w0 F0 w F3 [(some b1, (.cells #[(.int .i64 x0.Slip), (.int .i64 x0.Drift), (.slice a0_2 x0.Jumps.length n0_2)] 52 (0, 0)))] ∧ Mem.le F1 F3 ∧ f.d = [] ∧ f 1 = (.int .i64 x1) ∧ f 2 = (.int .i64 x2) ∧ f 3 = (.pointer (some ⟨b1, 0, none⟩)) ∧ f 7 = (.int .i64 s7) ∧ f 30 = (.bool j32)) ?_ ?_
   ·refine V 15 3 (mv 1 (.int .i64 x1) e12) ?_
    refine V 16 0 (fa 52 3 2 2 1 b1 0 2 e14) ?_
    refine V 17 50 (ld 50 16 b1 2 false 1 (.slice a0_2 x0.Jumps.length n0_2) (hs9.ownAt (k := 0) rfl)) ?_
    refine V 18 3 (mv 7 (.int .i64 s7) e15) ?_
    obtain ⟨x41, hx42, h44⟩ := bind_some hj39
    obtain ⟨hi43, hx42'⟩ := idx_spec hx42
    obtain ⟨b45, o46, C47, E48, fz49, rfl, hF51, hE52⟩ := SlA.open (SlA.mono hs0_2 le10) hx42'
    have hc54 := hE52 _ _ hx42'
    refine V 19 0 (ix 50 17 18 b45 o46 3 1 8 hi43) ?_
    refine V 20 3 (lx 3 19 0 1 false 1 (.int .i64 x41) (hs9.pers _ _ hF51) hc54) ?_
    refine V 21 4 (run_lss (t := 3) (t' := 3) (x := (.tmp 15)) (y := (.tmp 20)) (k := .i64) (a := x1) (b := x41) rfl rfl) ?_
    refine V 22 4 (mv 21 (.bool (decide (x1 < x41)))) ?_
    refine RWP.split (decide (x1 < x41)) (fun hb55 => ?_) (fun hb55 => ?_)
    ·have h56 := cond_t h44 hb55
     refine Vg 23 0 7 true 22 hb55 (fa 52 3 2 2 1 b1 0 2 e14) ?_
     refine Vg 24 50 7 true 22 hb55 (ld 50 23 b1 2 false 1 (.slice (some ⟨b45, o46, none⟩) x0.Jumps.length n0_2) (hs9.ownAt (k := 0) rfl)) ?_
     refine Vg 25 3 7 true 22 hb55 (mv 7 (.int .i64 s7) e15) ?_
     obtain ⟨x57, hx58, h60⟩ := bind_some h56
     obtain ⟨hi59, hx58'⟩ := idx_spec hx58
     have hc62 := hE52 _ _ hx58'
     refine Vg 26 0 7 true 22 hb55 (ix 50 24 25 b45 o46 3 1 8 hi59) ?_
     refine Vg 27 3 7 true 22 hb55 (lx 3 26 0 1 false 1 (.int .i64 x57) (hs9.pers _ _ hF51) hc62) ?_
     refine Vg 28 3 7 true 22 hb55 (mv 2 (.int .i64 x2) e13) ?_
     refine Vg 29 4 7 true 22 hb55 (run_leq (t := 3) (t' := 3) (x := (.tmp 27)) (y := (.tmp 28)) (k := .i64) (a := x57) (b := x2) rfl rfl) ?_
     refine V 30 4 (p1 22 (.tmp 29) (.const (.bool false)) (.bool (decide (x57 ≤ x2))) hb55) ?_
     obtain rfl := some_inj h60
     exact RWP.nil ⟨rfl, F1, hs9, (Mem.le.refl _), e11, e12, e13, e14, e15, rfl⟩
    ·have h63 := cond_f h44 hb55
     refine Sk [23, 24, 25, 26, 27, 28, 29] 7 true 22 hb55 ?_
     refine V 30 4 (p0 22 (.tmp 29) (.const (.bool false)) (.bool false) hb55) ?_
     obtain rfl := some_inj h63
     exact RWP.nil ⟨rfl, F1, hs9, (Mem.le.refl _), e11, e12, e13, e14, e15, rfl⟩
   ·rintro f w29 ⟨F3, hs30, le31, e33, e34, e35, e36, e37, e38⟩
    refine thenQ_nrm ?_
    refine CWP.cond (t := j32) (by kernel_rfl) e38 (fun hb64 => ?_) (fun hb64 => ?_)
    ·have h65 := cond_t h40 hb64
     refine Sq (Rg [0] ?_)
     refine V 6 4 (mc (.bool true) (.bool true)) ?_
     refine Nt ?_
     refine CWP.ret (by kernel_rfl) ?_
     refine blockQ_ret ?_
     refine thenQ_ret ?_
     refine thenQ_ret ?_
     refine blockQ_ret ?_
     have hret := iter_ret h65 hnx26
     subst hret
     refine .inr ?_
     refine thenQ_ret ?_
     have hfin := some_inj h6
     subst hfin
     exact ⟨e33, (.bool true), res_of (l := [.tmp 6]) (by kernel_rfl) (vs := [(.bool true)]) ⟨rfl, trivial⟩, (.bool true), F3, rfl, hs30.clear, rfl⟩
    ·have h66 := cond_f h40 hb64
     refine Sc ?_
     refine blockQ_nrm ?_
     refine thenQ_nrm ?_
     refine Rg [0, 1, 2] ?_
     refine V 13 3 (mv 7 (.int .i64 s7) e37) ?_
     refine V 14 3 (run_add (t := 3) (t' := 3) (x := (.tmp 13)) (y := (.const (.int .i64 1))) (k := .i64) (a := s7) (b := 1) rfl rfl) ?_
     refine V 7 3 (ma 14 (.int .i64 (W64 (s7 + 1)))) ?_
     refine RWP.nil ?_
     have hn67 := iter_next h66 hnx26
     exact ⟨m23, Nat.lt_succ_self _, (W64 (s7 + 1)), F3, hn67, hs30, (le10.trans le31), e33, e34, e35, e36, rfl⟩
  ·have h68 := cond_f hb25 hb27
   refine CWP.exit (by kernel_rfl) ?_
   refine thenQ_ex ?_
   refine thenQ_ex ?_
   refine blockQ_hit rfl ?_
   have hs69 : HS w0 F0 w8 F1 [] := hs9.drop 0
   have ho70 := iter_done h68 hnx26
   exact .inl ⟨rfl, s7, F1, ho70, hs69, le10, e11⟩
 ·rintro f w17 ⟨s16, F2, rfl, hs18, le19, e20⟩
  have h71 := k_done h6
  refine thenQ_nrm ?_
  refine Sq (Rg [0] ?_)
  refine V 6 4 (mc (.bool false) (.bool false)) ?_
  refine Nt ?_
  refine CWP.ret (by kernel_rfl) ?_
  have hfin := some_inj h71
  subst hfin
  exact ⟨e20, (.bool false), res_of (l := [.tmp 6]) (by kernel_rfl) (vs := [(.bool false)]) ⟨rfl, trivial⟩, (.bool false), F2, rfl, hs18.clear, rfl⟩
end Go.Proofs.Ythbcnabeabcmlaa
namespace Go.Proofs.Ythbcnabeabcmlaa
open Go.Proofs
def ref03_bounds_L1 (N : Nat) (x0 : System) (s9 : (List Bound × Int)) (x32 : Track) : (List Bound × Int) → Option (Flow (List Bound) (List Bound × Int)) := fun s54 =>
 (bif (decide (s54.2 < (x32.Times.length : Int))) then (((idx x32.Times s54.2).bind fun x100 => ((ref03_Beginning N ).bind fun r114 => ((apnd s54.1 [({ From := r114, To := ({ Log := s9.2, Line := s54.2 } : Ref), Most := (W64 (x100 + x32.Clock.Slip)), Kind := 1, ID := s54.2 } : Bound)]).bind fun r127 => some r127))).bind fun j90 => (((idx x32.Times s54.2).bind fun x151 => ((ref03_Beginning N ).bind fun r165 => ((apnd j90 [({ From := ({ Log := s9.2, Line := s54.2 } : Ref), To := r165, Most := (W64 (x32.Clock.Slip - x151)), Kind := 1, ID := s54.2 } : Bound)]).bind fun r178 => some r178))).bind fun j142 => some (.next (j142, (W64 (s54.2 + 1)))))) else some (.done (s54.1, s54.2)))
def ref03_bounds_L0 (N : Nat) (x0 : System) : (List Bound × Int) → Option (Flow (List Bound) (List Bound × Int)) := fun s9 =>
 (bif (decide (s9.2 < (x0.Tracks.length : Int))) then ((idx x0.Tracks s9.2).bind fun x32 => ((iter (ref03_bounds_L1 N x0 s9 x32) N (s9.1, 0)).bind fun o => o.k (fun r => some (.ret r)) (fun s64 => some (.next (s64.1, (W64 (s9.2 + 1))))))) else some (.done (s9.1, s9.2)))
def ref03_bounds_L3 (N : Nat) (x0 : System) (s17 : (List Bound × Int)) (s201 : (List Bound × Int)) (x224 : Track) : (List Bound × Int) → Option (Flow (List Bound) (List Bound × Int)) := fun s246 =>
 (bif (decide ((W64 (s246.2 + 1)) < (x224.Times.length : Int))) then ((apnd s246.1 [({ From := ({ Log := s201.2, Line := (W64 (s246.2 + 1)) } : Ref), To := ({ Log := s201.2, Line := s246.2 } : Ref), Most := 0, Kind := 2, ID := s246.2 } : Bound)]).bind fun r287 => (((idx x224.Times s246.2).bind fun x313 => ((idx x224.Times (W64 (s246.2 + 1))).bind fun x327 => ((ref03_jumped N x224.Clock x313 x327).bind fun r333 => some r333))).bind fun j301 => (bif j301 then some (.next (r287, (W64 (s246.2 + 1)))) else (((idx x224.Times (W64 (s246.2 + 1))).bind fun x365 => ((idx x224.Times s246.2).bind fun x379 => some (W64 (x365 - x379)))).bind fun j353 => ((apnd r287 [({ From := ({ Log := s201.2, Line := s246.2 } : Ref), To := ({ Log := s201.2, Line := (W64 (s246.2 + 1)) } : Ref), Most := (W64 (j353 + (W64 (1 + (W64 (Int.tdiv (W64 ((W64 (x224.Clock.Drift * j353)) + 999)) 1000)))))), Kind := 3, ID := s246.2 } : Bound)]).bind fun r390 => ((apnd r390 [({ From := ({ Log := s201.2, Line := (W64 (s246.2 + 1)) } : Ref), To := ({ Log := s201.2, Line := s246.2 } : Ref), Most := (W64 ((W64 (1 + (W64 (Int.tdiv (W64 ((W64 (x224.Clock.Drift * j353)) + 999)) 1000)))) - j353)), Kind := 3, ID := s246.2 } : Bound)]).bind fun r404 => some (.next (r404, (W64 (s246.2 + 1)))))))))) else some (.done (s246.1, s246.2)))
def ref03_bounds_L2 (N : Nat) (x0 : System) (s17 : (List Bound × Int)) : (List Bound × Int) → Option (Flow (List Bound) (List Bound × Int)) := fun s201 =>
 (bif (decide (s201.2 < (x0.Tracks.length : Int))) then ((idx x0.Tracks s201.2).bind fun x224 => ((iter (ref03_bounds_L3 N x0 s17 s201 x224) N (s201.1, 0)).bind fun o => o.k (fun r => some (.ret r)) (fun s256 => some (.next (s256.1, (W64 (s201.2 + 1))))))) else some (.done (s201.1, s201.2)))
def ref03_bounds_L4 (N : Nat) (x0 : System) (s17 : (List Bound × Int)) (s209 : (List Bound × Int)) : (List Bound × Int) → Option (Flow (List Bound) (List Bound × Int)) := fun s429 =>
 (bif (decide (s429.2 < (x0.Ties.length : Int))) then ((idx x0.Ties s429.2).bind fun x451 => ((apnd s429.1 [({ From := x451.A, To := x451.B, Most := x0.Window, Kind := 4, ID := s429.2 } : Bound)]).bind fun r475 => ((apnd r475 [({ From := x451.B, To := x451.A, Most := x0.Window, Kind := 4, ID := s429.2 } : Bound)]).bind fun r489 => some (.next (r489, (W64 (s429.2 + 1))))))) else some (.done (s429.1, s429.2)))
def ref03_bounds (N : Nat) (x0 : System) : Option (List Bound) :=
 ((iter (ref03_bounds_L0 N x0) N (([] : List Bound), 0)).bind fun o => o.k (fun r => some r) (fun s17 => ((iter (ref03_bounds_L2 N x0 s17) N (s17.1, 0)).bind fun o => o.k (fun r => some r) (fun s209 => ((iter (ref03_bounds_L4 N x0 s17 s209) N (s209.1, 0)).bind fun o => o.k (fun r => some r) (fun s437 => some s437.1))))))
theorem co_ref03_bounds : CallOk Try.prog 84 := fun _ _ => by kernel_rfl
set_option maxHeartbeats 4000000 in
set_option maxRecDepth 100000 in
theorem c_ref03_bounds (N : Nat) (w0 : World) (F0 : Mem) (hF : ∀ b o, F0 b = some o → w0.heap[b]? = some o) (x0 : System) (a0_0 : Option Addr) (n0_0 : Nat) (hb0_0 : LC x0.Tracks.length n0_0) (hs0_0 : SlA tTrack F0 a0_0 x0.Tracks) (a0_1 : Option Addr) (n0_1 : Nat) (hb0_1 : LC x0.Ties.length n0_1) (hs0_1 : SlA tTie F0 a0_1 x0.Ties) (r : (List Bound)) (h : ref03_bounds N x0 = some r) :
  Calls Try.prog 84 ([(.agg #[(.slice a0_0 x0.Tracks.length n0_0), (.slice a0_1 x0.Ties.length n0_1), (.int .i64 x0.Window)])] : List Value).toArray w0 (FRet w0 F0 fun F' v => ∃ (aq0_0 : Option Addr) (nq0_0 : Nat), v = (.slice aq0_0 r.length nq0_0) ∧ LC r.length nq0_0 ∧ SlA tBound F' aq0_0 r) := by
 have hs0 := HS.start hF
 refine calls_of (n := 194) (c := bodyOf Try.f84) Try.func84 (by kernel_rfl) (by kernel_rfl) (by kernel_rfl) ?_
 refine Sq (Rg [0, 1] ?_)
 refine Bx 1 0 0 25 #[(.slice a0_0 x0.Tracks.length n0_0), (.slice a0_1 x0.Ties.length n0_1), (.int .i64 x0.Window)] hs0 (fun b1 w2 (hs3 : HS w0 F0 w2 F0 [(some b1, (.cells #[(.slice a0_0 x0.Tracks.length n0_0), (.slice a0_1 x0.Ties.length n0_1), (.int .i64 x0.Window)] 25 (0, 0)))]) => ?_)
 refine V 2 57 (mc (.slice none 0 0) (.slice none ([] : List Bound).length 0)) ?_
 refine Nss (Rg [0] ?_)
 refine V 3 57 (mc (.slice none 0 0) (.slice none ([] : List Bound).length 0)) ?_
 refine Nss ?_
 refine Sq (Rg [0] ?_)
 refine V 4 3 (mc (.int .i64 0) (.int .i64 0)) ?_
 refine Nt ?_
 have hs4 : HS w0 F0 w2 F0 [(none, .cells #[] 0 (0, 0)), (some b1, (.cells #[(.slice a0_0 x0.Tracks.length n0_0), (.slice a0_1 x0.Ties.length n0_1), (.int .i64 x0.Window)] 25 (0, 0)))] := hs3.dummy _
 obtain ⟨o6, ho7, h8⟩ := bind_some h
 refine CWP.cut (fun f w => ∃ (s17 : (List Bound × Int)) (F2 : Mem) (as17_0 : Option Addr) (ns17_0 : Nat) (es17_0 : Option Nat × Obj), o6 = .done s17 ∧ HS w0 F0 w F2 [es17_0, (some b1, (.cells #[(.slice a0_0 x0.Tracks.length n0_0), (.slice a0_1 x0.Ties.length n0_1), (.int .i64 x0.Window)] 25 (0, 0)))] ∧ Mem.le F0 F2 ∧ f.d = [] ∧ f 1 = (.pointer (some ⟨b1, 0, none⟩)) ∧ f 3 = (.slice as17_0 s17.1.length ns17_0) ∧ RowR tBound 103 F2 as17_0 ns17_0 s17.1 es17_0) ?_ ?_
 ·refine Bk ?_
  refine CWP.loop (by kernel_rfl) (fun m f w => ∃ (s9 : (List Bound × Int)) (F1 : Mem) (as9_0 : Option Addr) (ns9_0 : Nat) (es9_0 : Option Nat × Obj), iter (ref03_bounds_L0 N x0) m s9 = some o6 ∧ HS w0 F0 w F1 [es9_0, (some b1, (.cells #[(.slice a0_0 x0.Tracks.length n0_0), (.slice a0_1 x0.Ties.length n0_1), (.int .i64 x0.Window)] 25 (0, 0)))] ∧ Mem.le F0 F1 ∧ f.d = [] ∧ f 1 = (.pointer (some ⟨b1, 0, none⟩)) ∧ f 3 = (.slice as9_0 s9.1.length ns9_0) ∧ f 4 = (.int .i64 s9.2) ∧ RowR tBound 103 F1 as9_0 ns9_0 s9.1 es9_0) N ⟨(([] : List Bound), 0), F0, none, 0, (none, .cells #[] 0 (0, 0)), ho7, hs4, (Mem.le.refl _), rfl, rfl, rfl, rfl, (RowR.nil tBound 103 F0 _)⟩ ?_
  rintro m24 f w10 ⟨s9, F1, as9_0, ns9_0, es9_0, hit25, hs11, le12, e13, e14, e15, e16, hrs9_0⟩
  obtain ⟨m26, fl27, rfl, hb28, hnx29⟩ := iter_step hit25
  refine Sq ?_
  refine Sq (Rg [0, 1, 2, 3, 4] ?_)
  refine V 17 3 (mv 4 (.int .i64 s9.2) e16) ?_
  refine V 18 0 (fa 25 1 0 0 1 b1 0 0 e14) ?_
  refine V 19 22 (ld 22 18 b1 0 false 1 (.slice a0_0 x0.Tracks.length n0_0) (hs11.ownAt (k := 1) rfl)) ?_
  refine V 20 3 (ln 19 22 a0_0 x0.Tracks.length n0_0 54 4 64) ?_
  refine V 21 4 (run_lss (t := 3) (t' := 3) (x := (.tmp 17)) (y := (.tmp 20)) (k := .i64) (a := s9.2) (b := (x0.Tracks.length : Int)) rfl rfl) ?_
  refine Nt ?_
  refine CWP.cond (t := (decide (s9.2 < (x0.Tracks.length : Int)))) (by kernel_rfl) rfl (fun hb30 => ?_) (fun hb30 => ?_)
  ·have h31 := cond_t hb28 hb30
   refine Sc ?_
   refine thenQ_nrm ?_
   refine Sq ?_
   refine Bk ?_
   refine Sq (Rg [0, 1, 2, 3, 4, 5, 6] ?_)
   refine V 24 0 (fa 25 1 0 0 1 b1 0 0 e14) ?_
   refine V 25 22 (ld 22 24 b1 0 false 1 (.slice a0_0 x0.Tracks.length n0_0) (hs11.ownAt (k := 1) rfl)) ?_
   refine V 26 3 (mv 4 (.int .i64 s9.2) e16) ?_
   obtain ⟨x32, hx33, h35⟩ := bind_some h31
   obtain ⟨hi34, hx33'⟩ := idx_spec hx33
   obtain ⟨b36, o37, C38, E39, fz40, rfl, hF42, hE43⟩ := SlA.open (SlA.mono hs0_0 le12) hx33'
   obtain ⟨ae44_2, ne44_2, ae44_3, ne44_3, hc45, hbe44_2, hse44_2, hbe44_3, hse44_3⟩ := hE43 _ _ hx33'
   refine V 27 0 (ix 22 25 26 b36 o37 54 4 64 hi34) ?_
   refine V 28 54 (lx 54 27 0 4 true 4 (.agg #[(.int .i64 x32.Clock.Slip), (.int .i64 x32.Clock.Drift), (.slice ae44_2 x32.Clock.Jumps.length ne44_2), (.slice ae44_3 x32.Times.length ne44_3)]) (hs11.pers _ _ hF42) hc45) ?_
   refine Al 5 0 54 #[(.int .i64 0), (.int .i64 0), (.slice none ([] : List Int).length 0), (.slice none ([] : List Int).length 0)] hs11 (fun b46 w47 (hs48 : HS w0 F0 w47 F1 [(some b46, (.cells #[(.int .i64 0), (.int .i64 0), (.slice none ([] : List Int).length 0), (.slice none ([] : List Int).length 0)] 54 (0, 0))), es9_0, (some b1, (.cells #[(.slice (some ⟨b36, o37, none⟩) x0.Tracks.length n0_0), (.slice a0_1 x0.Ties.length n0_1), (.int .i64 x0.Window)] 25 (0, 0)))]) => ?_)
   refine RWP.store (ty := 0) (g := none) (by kernel_rfl) rfl (x := (.tmp 5)) (y := (.tmp 28)) (t := 54) (gg := true) (s := 4) (v := (.agg #[(.int .i64 x32.Clock.Slip), (.int .i64 x32.Clock.Drift), (.slice ae44_2 x32.Clock.Jumps.length ne44_2), (.slice ae44_3 x32.Times.length ne44_3)])) (b := b46) (o := 0) (C := #[(.int .i64 0), (.int .i64 0), (.slice none ([] : List Int).length 0), (.slice none ([] : List Int).length 0)]) rfl rfl (by kernel_rfl) hs48 (k := 0) rfl rfl rfl rfl (C' := #[(.int .i64 x32.Clock.Slip), (.int .i64 x32.Clock.Drift), (.slice ae44_2 x32.Clock.Jumps.length ne44_2), (.slice ae44_3 x32.Times.length ne44_3)]) rfl (fun w49 (hs50 : HS w0 F0 w49 F1 [(some b46, (.cells #[(.int .i64 x32.Clock.Slip), (.int .i64 x32.Clock.Drift), (.slice ae44_2 x32.Clock.Jumps.length ne44_2), (.slice ae44_3 x32.Times.length ne44_3)] 54 (0, 0))), es9_0, (some b1, (.cells #[(.slice (some ⟨b36, o37, none⟩) x0.Tracks.length n0_0), (.slice a0_1 x0.Ties.length n0_1), (.int .i64 x0.Window)] 25 (0, 0)))]) => ?_)
   refine Nss (Rg [0] ?_)
   refine V 6 3 (mc (.int .i64 0) (.int .i64 0)) ?_
   refine Nt ?_
   obtain ⟨o51, ho52, h53⟩ := bind_some h35
   refine CWP.cut (fun f w => ∃ (s64 : (List Bound × Int)) (F4 : Mem) (as64_0 : Option Addr) (ns64_0 : Nat) (es64_0 : Option Nat × Obj), o51 = .done s64 ∧ HS w0 F0 w F4 [es64_0, (some b1, (.cells #[(.slice (some ⟨b36, o37, none⟩) x0.Tracks.length n0_0), (.slice a0_1 x0.Ties.length n0_1), (.int .i64 x0.Window)] 25 (0, 0)))] ∧ Mem.le F1 F4 ∧ f.d = [] ∧ f 1 = (.pointer (some ⟨b1, 0, none⟩)) ∧ f 3 = (.slice as64_0 s64.1.length ns64_0) ∧ f 4 = (.int .i64 s9.2) ∧ RowR tBound 103 F4 as64_0 ns64_0 s64.1 es64_0) ?_ ?_
   ·refine Bk ?_
    refine CWP.loop (by kernel_rfl) (fun m f w => ∃ (s54 : (List Bound × Int)) (F3 : Mem) (as54_0 : Option Addr) (ns54_0 : Nat) (es54_0 : Option Nat × Obj), iter (ref03_bounds_L1 N x0 s9 x32) m s54 = some o51 ∧ HS w0 F0 w F3 [(some b46, (.cells #[(.int .i64 x32.Clock.Slip), (.int .i64 x32.Clock.Drift), (.slice ae44_2 x32.Clock.Jumps.length ne44_2), (.slice ae44_3 x32.Times.length ne44_3)] 54 (0, 0))), es54_0, (some b1, (.cells #[(.slice (some ⟨b36, o37, none⟩) x0.Tracks.length n0_0), (.slice a0_1 x0.Ties.length n0_1), (.int .i64 x0.Window)] 25 (0, 0)))] ∧ Mem.le F1 F3 ∧ f.d = [] ∧ f 1 = (.pointer (some ⟨b1, 0, none⟩)) ∧ f 3 = (.slice as54_0 s54.1.length ns54_0) ∧ f 4 = (.int .i64 s9.2) ∧ f 5 = (.pointer (some ⟨b46, 0, none⟩)) ∧ f 6 = (.int .i64 s54.2) ∧ RowR tBound 103 F3 as54_0 ns54_0 s54.1 es54_0) N ⟨(s9.1, 0), F1, as9_0, ns9_0, es9_0, ho52, hs50, (Mem.le.refl _), e13, e14, e15, e16, rfl, rfl, hrs9_0⟩ ?_
    rintro m72 f w55 ⟨s54, F3, as54_0, ns54_0, es54_0, hit73, hs56, le57, e58, e59, e60, e61, e62, e63, hrs54_0⟩
    obtain ⟨m74, fl75, rfl, hb76, hnx77⟩ := iter_step hit73
    refine Sq ?_
    refine Sq (Rg [0, 1, 2, 3, 4] ?_)
    refine V 29 3 (mv 6 (.int .i64 s54.2) e63) ?_
    refine V 30 0 (fa 54 5 1 3 1 b46 0 3 e62) ?_
    refine V 31 50 (ld 50 30 b46 3 false 1 (.slice ae44_3 x32.Times.length ne44_3) (hs56.ownAt (k := 0) rfl)) ?_
    refine V 32 3 (ln 31 50 ae44_3 x32.Times.length ne44_3 3 1 8) ?_
    refine V 33 4 (run_lss (t := 3) (t' := 3) (x := (.tmp 29)) (y := (.tmp 32)) (k := .i64) (a := s54.2) (b := (x32.Times.length : Int)) rfl rfl) ?_
    refine Nt ?_
    refine CWP.cond (t := (decide (s54.2 < (x32.Times.length : Int)))) (by kernel_rfl) rfl (fun hb78 => ?_) (fun hb78 => ?_)
    ·have h79 := cond_t hb76 hb78
     refine Sc ?_
     refine thenQ_nrm ?_
     refine Sq ?_
     refine Bk ?_
     refine Sq (Rg [0, 1, 2, 3, 4] ?_)
     refine V 36 3 (mv 4 (.int .i64 s9.2) e61) ?_
     refine V 37 3 (mv 6 (.int .i64 s54.2) e63) ?_
     refine V 38 27 (run_build2 (t := 27) (parts := #[(0, (.tmp 36)), (1, (.tmp 37))]) (vs := [(0, (.int .i64 s9.2)), (1, (.int .i64 s54.2))]) (rfl) (cs := [(.int .i64 s9.2), (.int .i64 s54.2)]) (by kernel_rfl)) ?_
     refine Al 7 0 27 #[(.int .i64 0), (.int .i64 0)] hs56 (fun b80 w81 (hs82 : HS w0 F0 w81 F3 [(some b80, (.cells #[(.int .i64 0), (.int .i64 0)] 27 (0, 0))), (some b46, (.cells #[(.int .i64 x32.Clock.Slip), (.int .i64 x32.Clock.Drift), (.slice ae44_2 x32.Clock.Jumps.length ne44_2), (.slice ae44_3 x32.Times.length ne44_3)] 54 (0, 0))), es54_0, (some b1, (.cells #[(.slice (some ⟨b36, o37, none⟩) x0.Tracks.length n0_0), (.slice a0_1 x0.Ties.length n0_1), (.int .i64 x0.Window)] 25 (0, 0)))]) => ?_)
     refine RWP.store (ty := 0) (g := none) (by kernel_rfl) rfl (x := (.tmp 7)) (y := (.tmp 38)) (t := 27) (gg := true) (s := 2) (v := (.agg #[(.int .i64 s9.2), (.int .i64 s54.2)])) (b := b80) (o := 0) (C := #[(.int .i64 0), (.int .i64 0)]) rfl rfl (by kernel_rfl) hs82 (k := 0) rfl rfl rfl rfl (C' := #[(.int .i64 s9.2), (.int .i64 s54.2)]) rfl (fun w83 (hs84 : HS w0 F0 w83 F3 [(some b80, (.cells #[(.int .i64 s9.2), (.int .i64 s54.2)] 27 (0, 0))), (some b46, (.cells #[(.int .i64 x32.Clock.Slip), (.int .i64 x32.Clock.Drift), (.slice ae44_2 x32.Clock.Jumps.length ne44_2), (.slice ae44_3 x32.Times.length ne44_3)] 54 (0, 0))), es54_0, (some b1, (.cells #[(.slice (some ⟨b36, o37, none⟩) x0.Tracks.length n0_0), (.slice a0_1 x0.Ties.length n0_1), (.int .i64 x0.Window)] 25 (0, 0)))]) => ?_)
     refine Nss ?_
     obtain ⟨j90, hj98, h99⟩ := bind_some h79
     refine CWP.regionD (by kernel_rfl) (by kernel_rfl) (by kernel_rfl) (by kernel_rfl) (z := 17) (F := F3) (Lc := [(some b80, (.cells #[(.int .i64 s9.2), (.int .i64 s54.2)] 27 (0, 0))), (some b46, (.cells #[(.int .i64 x32.Clock.Slip), (.int .i64 x32.Clock.Drift), (.slice ae44_2 x32.Clock.Jumps.length ne44_2), (.slice ae44_3 x32.Times.length ne44_3)] 54 (0, 0))), (some b1, (.cells #[(.slice (some ⟨b36, o37, none⟩) x0.Tracks.length n0_0), (.slice a0_1 x0.Ties.length n0_1), (.int .i64 x0.Window)] 25 (0, 0)))]) (Lz := []) (l := [false, false, false, false, false, false, false, false, false, false, false, false, false, false, false, false, false]) (fuel := 17) (by kernel_rfl) (by kernel_rfl) hs84 (by simp) (by simp) (fun f w => ∃ (F5 : Mem) (aj90_0 : Option Addr) (nj90_0 : Nat) (ej90_0 : Option Nat × Obj), HS w0 F0 w F5 [(some b80, (.cells #[(.int .i64 s9.2), (.int .i64 s54.2)] 27 (0, 0))), (some b46, (.cells #[(.int .i64 x32.Clock.Slip), (.int .i64 x32.Clock.Drift), (.slice ae44_2 x32.Clock.Jumps.length ne44_2), (.slice ae44_3 x32.Times.length ne44_3)] 54 (0, 0))), ej90_0, (some b1, (.cells #[(.slice (some ⟨b36, o37, none⟩) x0.Tracks.length n0_0), (.slice a0_1 x0.Ties.length n0_1), (.int .i64 x0.Window)] 25 (0, 0)))] ∧ Mem.le F3 F5 ∧ f.d = [] ∧ f 1 = (.pointer (some ⟨b1, 0, none⟩)) ∧ f 3 = (.slice aj90_0 j90.length nj90_0) ∧ f 4 = (.int .i64 s9.2) ∧ f 5 = (.pointer (some ⟨b46, 0, none⟩)) ∧ f 6 = (.int .i64 s54.2) ∧ f 7 = (.pointer (some ⟨b80, 0, none⟩)) ∧ RowR tBound 103 F5 aj90_0 nj90_0 j90 ej90_0) (fun wd85 hw86 => ?_) ?_
     ·refine Dt 0 39 57 _ (fun _ hq => mv 3 (.slice as54_0 s54.1.length ns54_0) e60) ?_
      refine Dt 2 41 27 _ (fun _ hq => ld 27 7 b80 0 true 2 (.agg #[(.int .i64 s9.2), (.int .i64 s54.2)]) (hq.1.2 0 _ _ rfl)) ?_
      refine Dt 3 42 0 (.pointer (some ⟨b46, 3, none⟩)) (fun _ hq => fa 54 5 1 3 1 b46 0 3 e62) ?_
      refine Dt 4 43 50 _ (fun _ hq => ld 50 42 b46 3 false 1 (.slice ae44_3 x32.Times.length ne44_3) (hq.1.2 1 _ _ rfl)) ?_
      refine Dt 5 44 3 _ (fun _ hq => mv 6 (.int .i64 s54.2) e63) ?_
      obtain ⟨x100, hx101, h103⟩ := bind_some hj98
      obtain ⟨hi102, hx101'⟩ := idx_spec hx101
      obtain ⟨b104, o105, C106, E107, fz108, rfl, hF110, hE111⟩ := SlA.open (SlA.mono hse44_3 le57) hx101'
      have hc113 := hE111 _ _ hx101'
      refine Dt 6 45 0 (.pointer (some ⟨b104, (o105 + (s54.2 : Int).toNat * 1), none⟩)) (fun _ hq => ix 50 43 44 b104 o105 3 1 8 hi102) ?_
      refine Dt 7 46 3 _ (fun _ hq => lx 3 45 0 1 false 1 (.int .i64 x100) (hq.1.1 _ _ hF110) hc113) ?_
      refine Dt 8 47 0 (.pointer (some ⟨b46, 0, none⟩)) (fun _ hq => fa 54 5 0 0 3 b46 0 0 e62) ?_
      refine Dt 9 48 0 (.pointer (some ⟨b46, 0, none⟩)) (fun _ hq => fa 52 47 0 0 1 b46 0 0) ?_
      refine Dt 10 49 3 _ (fun _ hq => ld 3 48 b46 0 false 1 (.int .i64 x32.Clock.Slip) (hq.1.2 1 _ _ rfl)) ?_
      refine Dt 11 50 3 (.int .i64 (W64 (x100 + x32.Clock.Slip))) (fun _ hq => run_add (t := 3) (t' := 3) (x := (.tmp 46)) (y := (.tmp 49)) (k := .i64) (a := x100) (b := x32.Clock.Slip) rfl rfl) ?_
      refine Dt 12 51 3 _ (fun _ hq => mv 6 (.int .i64 s54.2) e63) ?_
      refine DWP.one (i := 1) (by kernel_rfl) ?_
      obtain ⟨r114, hr115, h116⟩ := bind_some h103
      refine DStep.call (l' := [true, true, true, true, true, true, true, true, true, true, true, true, true, false, false, false, false]) (zd := true) (by kernel_rfl) (by kernel_rfl) (by kernel_rfl) (dst := (some 40)) (ty := 27) (g := none) (by kernel_rfl) rfl (f0 := (.func 109)) (aos := #[]) (ats := #[]) (fid := 109) (first := #[]) (cap := #[]) (args := []) rfl co_ref03_Beginning (rfl) hw86 (c_ref03_Beginning N wd85 F3 hw86.pers  _ hr115) ?_
      intro v117 F6 w118 hs119 le120 hp121
      obtain rfl := hp121
      refine Dt 13 52 103 (.agg #[(.int .i64 r114.Log), (.int .i64 r114.Line), (.int .i64 s9.2), (.int .i64 s54.2), (.int .i64 (W64 (x100 + x32.Clock.Slip))), (.int .i64 1), (.int .i64 s54.2)]) (fun _ hq => run_build2 (t := 103) (parts := #[(0, (.tmp 40)), (1, (.tmp 41)), (2, (.tmp 50)), (3, (.const (.int .i64 1))), (4, (.tmp 51))]) (vs := [(0, (.agg #[(.int .i64 r114.Log), (.int .i64 r114.Line)])), (1, (.agg #[(.int .i64 s9.2), (.int .i64 s54.2)])), (2, (.int .i64 (W64 (x100 + x32.Clock.Slip)))), (3, (.int .i64 1)), (4, (.int .i64 s54.2))]) (rfl) (cs := [(.int .i64 r114.Log), (.int .i64 r114.Line), (.int .i64 s9.2), (.int .i64 s54.2), (.int .i64 (W64 (x100 + x32.Clock.Slip))), (.int .i64 1), (.int .i64 s54.2)]) (by kernel_rfl)) ?_
      refine DWP.one (i := 14) (by kernel_rfl) ?_
      refine DStep.buildSlice (l' := [true, true, true, true, true, true, true, true, true, true, true, true, true, true, true, false, false]) (zd := true) (by kernel_rfl) (by kernel_rfl) (dst := (some 53)) (ty := 57) (g := none) (by kernel_rfl) rfl (t := 57) (len := 1) (parts := #[(0, (.tmp 52))]) (vs := [(0, (.agg #[(.int .i64 r114.Log), (.int .i64 r114.Line), (.int .i64 s9.2), (.int .i64 s54.2), (.int .i64 (W64 (x100 + x32.Clock.Slip))), (.int .i64 1), (.int .i64 s54.2)]))]) (rfl) (E := 103) (cs := [(.int .i64 r114.Log), (.int .i64 r114.Line), (.int .i64 s9.2), (.int .i64 s54.2), (.int .i64 (W64 (x100 + x32.Clock.Slip))), (.int .i64 1), (.int .i64 s54.2)]) (by kernel_rfl) hs119 le120 (by simp) (fun e => by cases e) (fun b122 w123 (hs124 : HS w0 F0 w123 F6 [(some b122, .cells ([(.int .i64 r114.Log), (.int .i64 r114.Line), (.int .i64 s9.2), (.int .i64 s54.2), (.int .i64 (W64 (x100 + x32.Clock.Slip))), (.int .i64 1), (.int .i64 s54.2)] : List Value).toArray 103 (0, 0)), (some b80, (.cells #[(.int .i64 s9.2), (.int .i64 s54.2)] 27 (0, 0))), (some b46, (.cells #[(.int .i64 x32.Clock.Slip), (.int .i64 x32.Clock.Drift), (.slice ae44_2 x32.Clock.Jumps.length ne44_2), (.slice (some ⟨b104, o105, none⟩) x32.Times.length ne44_3)] 54 (0, 0))), es54_0, (some b1, (.cells #[(.slice (some ⟨b36, o37, none⟩) x0.Tracks.length n0_0), (.slice a0_1 x0.Ties.length n0_1), (.int .i64 x0.Window)] 25 (0, 0)))]) => ?_)
      have hr126 : RowR tBound 103 F6 (some ⟨b122, 0, none⟩) 1 [({ From := r114, To := ({ Log := s9.2, Line := s54.2 } : Ref), Most := (W64 (x100 + x32.Clock.Slip)), Kind := 1, ID := s54.2 } : Bound)] (some b122, .cells ([(.int .i64 r114.Log), (.int .i64 r114.Line), (.int .i64 s9.2), (.int .i64 s54.2), (.int .i64 (W64 (x100 + x32.Clock.Slip))), (.int .i64 1), (.int .i64 s54.2)] : List Value).toArray 103 (0, 0)) := RowR.lit ⟨rfl, rfl⟩ (by simp)
      refine DWP.one (i := 15) (by kernel_rfl) ?_
      obtain ⟨r127, hap128, h129⟩ := bind_some h116
      refine DStep.append (l' := [true, true, true, true, true, true, true, true, true, true, true, true, true, true, true, true, false]) (zd := true) (by kernel_rfl) (by kernel_rfl) (dst := (some 54)) (ty := 57) (g := none) (by kernel_rfl) rfl (x := (.tmp 39)) (y := (.tmp 53)) (t := 57) (t2 := 57) (by_ := 56) (z := (.agg #[(.int .i64 0), (.int .i64 0), (.int .i64 0), (.int .i64 0), (.int .i64 0), (.int .i64 0), (.int .i64 0)])) (a2 := (some ⟨b122, 0, none⟩)) (c2 := 1) (m := [({ From := r114, To := ({ Log := s9.2, Line := s54.2 } : Ref), Most := (W64 (x100 + x32.Clock.Slip)), Kind := 1, ID := s54.2 } : Bound)]) (T := tBound) (E := 103) (a := as54_0) (cap := ns54_0) (l := s54.1) rfl rfl (by kernel_rfl) (by decide) (by kernel_rfl) (by kernel_rfl) rfl oBound hs124 (k := 3) rfl (hrs54_0.mono le120) (RowR.rd hs124 (k := 0) rfl hr126) (r := r127) hap128 le120 (fun _ => by simp) (fun e => by cases e) (fun a130 n131 e132 w133 (hs134 : HS w0 F0 w133 F6 [(some b122, .cells ([(.int .i64 r114.Log), (.int .i64 r114.Line), (.int .i64 s9.2), (.int .i64 s54.2), (.int .i64 (W64 (x100 + x32.Clock.Slip))), (.int .i64 1), (.int .i64 s54.2)] : List Value).toArray 103 (0, 0)), (some b80, (.cells #[(.int .i64 s9.2), (.int .i64 s54.2)] 27 (0, 0))), (some b46, (.cells #[(.int .i64 x32.Clock.Slip), (.int .i64 x32.Clock.Drift), (.slice ae44_2 x32.Clock.Jumps.length ne44_2), (.slice (some ⟨b104, o105, none⟩) x32.Times.length ne44_3)] 54 (0, 0))), e132, (some b1, (.cells #[(.slice (some ⟨b36, o37, none⟩) x0.Tracks.length n0_0), (.slice a0_1 x0.Ties.length n0_1), (.int .i64 x0.Window)] 25 (0, 0)))]) hr135 => ?_)
      refine Dt 16 3 57 _ (fun _ hq => ma 54 (.slice a130 r127.length n131)) ?_
      obtain rfl := some_inj h129
      have hs136 : HS w0 F0 w133 F6 [(some b80, (.cells #[(.int .i64 s9.2), (.int .i64 s54.2)] 27 (0, 0))), (some b46, (.cells #[(.int .i64 x32.Clock.Slip), (.int .i64 x32.Clock.Drift), (.slice ae44_2 x32.Clock.Jumps.length ne44_2), (.slice (some ⟨b104, o105, none⟩) x32.Times.length ne44_3)] 54 (0, 0))), e132, (some b1, (.cells #[(.slice (some ⟨b36, o37, none⟩) x0.Tracks.length n0_0), (.slice a0_1 x0.Ties.length n0_1), (.int .i64 x0.Window)] 25 (0, 0)))] := hs134.drop 0
      exact DWP.done (by kernel_rfl) ⟨F6, a130, n131, e132, hs136, le120, e58, e59, rfl, e61, e62, e63, rfl, hr135⟩
     ·rintro f w87 ⟨F5, aj90_0, nj90_0, ej90_0, hs88, le89, e91, e92, e93, e94, e95, e96, e97, hrj90_0⟩
      refine thenQ_nrm ?_
      obtain ⟨j142, hj149, h150⟩ := bind_some h99
      refine CWP.regionD (by kernel_rfl) (by kernel_rfl) (by kernel_rfl) (by kernel_rfl) (z := 17) (F := F5) (Lc := [(some b80, (.cells #[(.int .i64 s9.2), (.int .i64 s54.2)] 27 (0, 0))), (some b46, (.cells #[(.int .i64 x32.Clock.Slip), (.int .i64 x32.Clock.Drift), (.slice ae44_2 x32.Clock.Jumps.length ne44_2), (.slice ae44_3 x32.Times.length ne44_3)] 54 (0, 0))), (some b1, (.cells #[(.slice (some ⟨b36, o37, none⟩) x0.Tracks.length n0_0), (.slice a0_1 x0.Ties.length n0_1), (.int .i64 x0.Window)] 25 (0, 0)))]) (Lz := []) (l := [false, false, false, false, false, false, false, false, false, false, false, false, false, false, false, false, false]) (fuel := 17) (by kernel_rfl) (by kernel_rfl) hs88 (by simp) (by simp) (fun f w => ∃ (F7 : Mem) (aj142_0 : Option Addr) (nj142_0 : Nat) (ej142_0 : Option Nat × Obj), HS w0 F0 w F7 [(some b46, (.cells #[(.int .i64 x32.Clock.Slip), (.int .i64 x32.Clock.Drift), (.slice ae44_2 x32.Clock.Jumps.length ne44_2), (.slice ae44_3 x32.Times.length ne44_3)] 54 (0, 0))), ej142_0, (some b1, (.cells #[(.slice (some ⟨b36, o37, none⟩) x0.Tracks.length n0_0), (.slice a0_1 x0.Ties.length n0_1), (.int .i64 x0.Window)] 25 (0, 0)))] ∧ Mem.le F5 F7 ∧ f.d = [] ∧ f 1 = (.pointer (some ⟨b1, 0, none⟩)) ∧ f 3 = (.slice aj142_0 j142.length nj142_0) ∧ f 4 = (.int .i64 s9.2) ∧ f 5 = (.pointer (some ⟨b46, 0, none⟩)) ∧ f 6 = (.int .i64 s54.2) ∧ RowR tBound 103 F7 aj142_0 nj142_0 j142 ej142_0) (fun wd137 hw138 => ?_) ?_
      ·refine Dt 0 55 57 _ (fun _ hq => mv 3 (.slice aj90_0 j90.length nj90_0) e93) ?_
       refine Dt 1 56 27 _ (fun _ hq => ld 27 7 b80 0 true 2 (.agg #[(.int .i64 s9.2), (.int .i64 s54.2)]) (hq.1.2 0 _ _ rfl) e97) ?_
       refine Dt 3 58 0 (.pointer (some ⟨b46, 0, none⟩)) (fun _ hq => fa 54 5 0 0 3 b46 0 0 e95) ?_
       refine Dt 4 59 0 (.pointer (some ⟨b46, 0, none⟩)) (fun _ hq => fa 52 58 0 0 1 b46 0 0) ?_
       refine Dt 5 60 3 _ (fun _ hq => ld 3 59 b46 0 false 1 (.int .i64 x32.Clock.Slip) (hq.1.2 1 _ _ rfl)) ?_
       refine Dt 6 61 0 (.pointer (some ⟨b46, 3, none⟩)) (fun _ hq => fa 54 5 1 3 1 b46 0 3 e95) ?_
       refine Dt 7 62 50 _ (fun _ hq => ld 50 61 b46 3 false 1 (.slice ae44_3 x32.Times.length ne44_3) (hq.1.2 1 _ _ rfl)) ?_
       refine Dt 8 63 3 _ (fun _ hq => mv 6 (.int .i64 s54.2) e96) ?_
       obtain ⟨x151, hx152, h154⟩ := bind_some hj149
       obtain ⟨hi153, hx152'⟩ := idx_spec hx152
       obtain ⟨b155, o156, C157, E158, fz159, rfl, hF161, hE162⟩ := SlA.open (SlA.mono hse44_3 (le57.trans le89)) hx152'
       have hc164 := hE162 _ _ hx152'
       refine Dt 9 64 0 (.pointer (some ⟨b155, (o156 + (s54.2 : Int).toNat * 1), none⟩)) (fun _ hq => ix 50 62 63 b155 o156 3 1 8 hi153) ?_
       refine Dt 10 65 3 _ (fun _ hq => lx 3 64 0 1 false 1 (.int .i64 x151) (hq.1.1 _ _ hF161) hc164) ?_
       refine Dt 11 66 3 (.int .i64 (W64 (x32.Clock.Slip - x151))) (fun _ hq => run_sub (t := 3) (t' := 3) (x := (.tmp 60)) (y := (.tmp 65)) (k := .i64) (a := x32.Clock.Slip) (b := x151) rfl rfl) ?_
       refine Dt 12 67 3 _ (fun _ hq => mv 6 (.int .i64 s54.2) e96) ?_
       refine DWP.one (i := 2) (by kernel_rfl) ?_
       obtain ⟨r165, hr166, h167⟩ := bind_some h154
       refine DStep.call (l' := [true, true, true, true, true, true, true, true, true, true, true, true, true, false, false, false, false]) (zd := true) (by kernel_rfl) (by kernel_rfl) (by kernel_rfl) (dst := (some 57)) (ty := 27) (g := none) (by kernel_rfl) rfl (f0 := (.func 109)) (aos := #[]) (ats := #[]) (fid := 109) (first := #[]) (cap := #[]) (args := []) rfl co_ref03_Beginning (rfl) hw138 (c_ref03_Beginning N wd137 F5 hw138.pers  _ hr166) ?_
       intro v168 F8 w169 hs170 le171 hp172
       obtain rfl := hp172
       refine Dt 13 68 103 (.agg #[(.int .i64 s9.2), (.int .i64 s54.2), (.int .i64 r165.Log), (.int .i64 r165.Line), (.int .i64 (W64 (x32.Clock.Slip - x151))), (.int .i64 1), (.int .i64 s54.2)]) (fun _ hq => run_build2 (t := 103) (parts := #[(0, (.tmp 56)), (1, (.tmp 57)), (2, (.tmp 66)), (3, (.const (.int .i64 1))), (4, (.tmp 67))]) (vs := [(0, (.agg #[(.int .i64 s9.2), (.int .i64 s54.2)])), (1, (.agg #[(.int .i64 r165.Log), (.int .i64 r165.Line)])), (2, (.int .i64 (W64 (x32.Clock.Slip - x151)))), (3, (.int .i64 1)), (4, (.int .i64 s54.2))]) (rfl) (cs := [(.int .i64 s9.2), (.int .i64 s54.2), (.int .i64 r165.Log), (.int .i64 r165.Line), (.int .i64 (W64 (x32.Clock.Slip - x151))), (.int .i64 1), (.int .i64 s54.2)]) (by kernel_rfl)) ?_
       refine DWP.one (i := 14) (by kernel_rfl) ?_
       refine DStep.buildSlice (l' := [true, true, true, true, true, true, true, true, true, true, true, true, true, true, true, false, false]) (zd := true) (by kernel_rfl) (by kernel_rfl) (dst := (some 69)) (ty := 57) (g := none) (by kernel_rfl) rfl (t := 57) (len := 1) (parts := #[(0, (.tmp 68))]) (vs := [(0, (.agg #[(.int .i64 s9.2), (.int .i64 s54.2), (.int .i64 r165.Log), (.int .i64 r165.Line), (.int .i64 (W64 (x32.Clock.Slip - x151))), (.int .i64 1), (.int .i64 s54.2)]))]) (rfl) (E := 103) (cs := [(.int .i64 s9.2), (.int .i64 s54.2), (.int .i64 r165.Log), (.int .i64 r165.Line), (.int .i64 (W64 (x32.Clock.Slip - x151))), (.int .i64 1), (.int .i64 s54.2)]) (by kernel_rfl) hs170 le171 (by simp) (fun e => by cases e) (fun b173 w174 (hs175 : HS w0 F0 w174 F8 [(some b173, .cells ([(.int .i64 s9.2), (.int .i64 s54.2), (.int .i64 r165.Log), (.int .i64 r165.Line), (.int .i64 (W64 (x32.Clock.Slip - x151))), (.int .i64 1), (.int .i64 s54.2)] : List Value).toArray 103 (0, 0)), (some b80, (.cells #[(.int .i64 s9.2), (.int .i64 s54.2)] 27 (0, 0))), (some b46, (.cells #[(.int .i64 x32.Clock.Slip), (.int .i64 x32.Clock.Drift), (.slice ae44_2 x32.Clock.Jumps.length ne44_2), (.slice (some ⟨b155, o156, none⟩) x32.Times.length ne44_3)] 54 (0, 0))), ej90_0, (some b1, (.cells #[(.slice (some ⟨b36, o37, none⟩) x0.Tracks.length n0_0), (.slice a0_1 x0.Ties.length n0_1), (.int .i64 x0.Window)] 25 (0, 0)))]) => ?_)
       have hr177 : RowR tBound 103 F8 (some ⟨b173, 0, none⟩) 1 [({ From := ({ Log := s9.2, Line := s54.2 } : Ref), To := r165, Most := (W64 (x32.Clock.Slip - x151)), Kind := 1, ID := s54.2 } : Bound)] (some b173, .cells ([(.int .i64 s9.2), (.int .i64 s54.2), (.int .i64 r165.Log), (.int .i64 r165.Line), (.int .i64 (W64 (x32.Clock.Slip - x151))), (.int .i64 1), (.int .i64 s54.2)] : List Value).toArray 103 (0, 0)) := RowR.lit ⟨rfl, rfl⟩ (by simp)
       refine DWP.one (i := 15) (by kernel_rfl) ?_
       obtain ⟨r178, hap179, h180⟩ := bind_some h167
       refine DStep.append (l' := [true, true, true, true, true, true, true, true, true, true, true, true, true, true, true, true, false]) (zd := true) (by kernel_rfl) (by kernel_rfl) (dst := (some 70)) (ty := 57) (g := none) (by kernel_rfl) rfl (x := (.tmp 55)) (y := (.tmp 69)) (t := 57) (t2 := 57) (by_ := 56) (z := (.agg #[(.int .i64 0), (.int .i64 0), (.int .i64 0), (.int .i64 0), (.int .i64 0), (.int .i64 0), (.int .i64 0)])) (a2 := (some ⟨b173, 0, none⟩)) (c2 := 1) (m := [({ From := ({ Log := s9.2, Line := s54.2 } : Ref), To := r165, Most := (W64 (x32.Clock.Slip - x151)), Kind := 1, ID := s54.2 } : Bound)]) (T := tBound) (E := 103) (a := aj90_0) (cap := nj90_0) (l := j90) rfl rfl (by kernel_rfl) (by decide) (by kernel_rfl) (by kernel_rfl) rfl oBound hs175 (k := 3) rfl (hrj90_0.mono le171) (RowR.rd hs175 (k := 0) rfl hr177) (r := r178) hap179 le171 (fun _ => by simp) (fun e => by cases e) (fun a181 n182 e183 w184 (hs185 : HS w0 F0 w184 F8 [(some b173, .cells ([(.int .i64 s9.2), (.int .i64 s54.2), (.int .i64 r165.Log), (.int .i64 r165.Line), (.int .i64 (W64 (x32.Clock.Slip - x151))), (.int .i64 1), (.int .i64 s54.2)] : List Value).toArray 103 (0, 0)), (some b80, (.cells #[(.int .i64 s9.2), (.int .i64 s54.2)] 27 (0, 0))), (some b46, (.cells #[(.int .i64 x32.Clock.Slip), (.int .i64 x32.Clock.Drift), (.slice ae44_2 x32.Clock.Jumps.length ne44_2), (.slice (some ⟨b155, o156, none⟩) x32.Times.length ne44_3)] 54 (0, 0))), e183, (some b1, (.cells #[(.slice (some ⟨b36, o37, none⟩) x0.Tracks.length n0_0), (.slice a0_1 x0.Ties.length n0_1), (.int .i64 x0.Window)] 25 (0, 0)))]) hr186 => ?_)
       refine Dt 16 3 57 _ (fun _ hq => ma 70 (.slice a181 r178.length n182)) ?_
       obtain rfl := some_inj h180
       have hs187 : HS w0 F0 w184 F8 [(some b80, (.cells #[(.int .i64 s9.2), (.int .i64 s54.2)] 27 (0, 0))), (some b46, (.cells #[(.int .i64 x32.Clock.Slip), (.int .i64 x32.Clock.Drift), (.slice ae44_2 x32.Clock.Jumps.length ne44_2), (.slice (some ⟨b155, o156, none⟩) x32.Times.length ne44_3)] 54 (0, 0))), e183, (some b1, (.cells #[(.slice (some ⟨b36, o37, none⟩) x0.Tracks.length n0_0), (.slice a0_1 x0.Ties.length n0_1), (.int .i64 x0.Window)] 25 (0, 0)))] := hs185.drop 0
       have hs188 : HS w0 F0 w184 F8 [(some b46, (.cells #[(.int .i64 x32.Clock.Slip), (.int .i64 x32.Clock.Drift), (.slice ae44_2 x32.Clock.Jumps.length ne44_2), (.slice (some ⟨b155, o156, none⟩) x32.Times.length ne44_3)] 54 (0, 0))), e183, (some b1, (.cells #[(.slice (some ⟨b36, o37, none⟩) x0.Tracks.length n0_0), (.slice a0_1 x0.Ties.length n0_1), (.int .i64 x0.Window)] 25 (0, 0)))] := hs187.drop 0
       exact DWP.done (by kernel_rfl) ⟨F8, a181, n182, e183, hs188, le171, e91, e92, rfl, e94, e95, e96, hr186⟩
      ·rintro f w139 ⟨F7, aj142_0, nj142_0, ej142_0, hs140, le141, e143, e144, e145, e146, e147, e148, hrj142_0⟩
       refine blockQ_nrm ?_
       refine thenQ_nrm ?_
       refine Rg [0, 1, 2] ?_
       refine V 34 3 (mv 6 (.int .i64 s54.2) e148) ?_
       refine V 35 3 (run_add (t := 3) (t' := 3) (x := (.tmp 34)) (y := (.const (.int .i64 1))) (k := .i64) (a := s54.2) (b := 1) rfl rfl) ?_
       refine V 6 3 (ma 35 (.int .i64 (W64 (s54.2 + 1)))) ?_
       refine RWP.nil ?_
       have hn189 := iter_next h150 hnx77
       exact ⟨m74, Nat.lt_succ_self _, (j142, (W64 (s54.2 + 1))), F7, aj142_0, nj142_0, ej142_0, hn189, hs140, ((le57.trans le89).trans le141), e143, e144, e145, e146, e147, rfl, hrj142_0⟩
    ·have h190 := cond_f hb76 hb78
     refine CWP.exit (by kernel_rfl) ?_
     refine thenQ_ex ?_
     refine thenQ_ex ?_
     refine blockQ_hit rfl ?_
     have hs191 : HS w0 F0 w55 F3 [es54_0, (some b1, (.cells #[(.slice (some ⟨b36, o37, none⟩) x0.Tracks.length n0_0), (.slice a0_1 x0.Ties.length n0_1), (.int .i64 x0.Window)] 25 (0, 0)))] := hs56.drop 0
     have ho192 := iter_done h190 hnx77
     exact .inl ⟨rfl, (s54.1, s54.2), F3, as54_0, ns54_0, es54_0, ho192, hs191, le57, e58, e59, e60, e61, hrs54_0⟩
   ·rintro f w65 ⟨s64, F4, as64_0, ns64_0, es64_0, rfl, hs66, le67, e68, e69, e70, e71, hrs64_0⟩
    have h193 := k_done h53
    refine blockQ_nrm ?_
    refine thenQ_nrm ?_
    refine Rg [0, 1, 2] ?_
    refine V 22 3 (mv 4 (.int .i64 s9.2) e71) ?_
    refine V 23 3 (run_add (t := 3) (t' := 3) (x := (.tmp 22)) (y := (.const (.int .i64 1))) (k := .i64) (a := s9.2) (b := 1) rfl rfl) ?_
    refine V 4 3 (ma 23 (.int .i64 (W64 (s9.2 + 1)))) ?_
    refine RWP.nil ?_
    have hn194 := iter_next h193 hnx29
    exact ⟨m26, Nat.lt_succ_self _, (s64.1, (W64 (s9.2 + 1))), F4, as64_0, ns64_0, es64_0, hn194, hs66, (le12.trans le67), e68, e69, e70, rfl, hrs64_0⟩
  ·have h195 := cond_f hb28 hb30
   refine CWP.exit (by kernel_rfl) ?_
   refine thenQ_ex ?_
   refine thenQ_ex ?_
   refine blockQ_hit rfl ?_
   have ho196 := iter_done h195 hnx29
   exact .inl ⟨rfl, (s9.1, s9.2), F1, as9_0, ns9_0, es9_0, ho196, hs11, le12, e13, e14, e15, hrs9_0⟩
 ·rintro f w18 ⟨s17, F2, as17_0, ns17_0, es17_0, rfl, hs19, le20, e21, e22, e23, hrs17_0⟩
  have h197 := k_done h8
  refine thenQ_nrm ?_
  refine Sq ?_
  refine Sq (Rg [0] ?_)
  refine V 8 3 (mc (.int .i64 0) (.int .i64 0)) ?_
  refine Nt ?_
  obtain ⟨o198, ho199, h200⟩ := bind_some h197
  refine CWP.cut (fun f w => ∃ (s209 : (List Bound × Int)) (F10 : Mem) (as209_0 : Option Addr) (ns209_0 : Nat) (es209_0 : Option Nat × Obj), o198 = .done s209 ∧ HS w0 F0 w F10 [es209_0, (some b1, (.cells #[(.slice a0_0 x0.Tracks.length n0_0), (.slice a0_1 x0.Ties.length n0_1), (.int .i64 x0.Window)] 25 (0, 0)))] ∧ Mem.le F2 F10 ∧ f.d = [] ∧ f 1 = (.pointer (some ⟨b1, 0, none⟩)) ∧ f 3 = (.slice as209_0 s209.1.length ns209_0) ∧ RowR tBound 103 F10 as209_0 ns209_0 s209.1 es209_0) ?_ ?_
  ·refine Bk ?_
   refine CWP.loop (by kernel_rfl) (fun m f w => ∃ (s201 : (List Bound × Int)) (F9 : Mem) (as201_0 : Option Addr) (ns201_0 : Nat) (es201_0 : Option Nat × Obj), iter (ref03_bounds_L2 N x0 s17) m s201 = some o198 ∧ HS w0 F0 w F9 [es201_0, (some b1, (.cells #[(.slice a0_0 x0.Tracks.length n0_0), (.slice a0_1 x0.Ties.length n0_1), (.int .i64 x0.Window)] 25 (0, 0)))] ∧ Mem.le F2 F9 ∧ f.d = [] ∧ f 1 = (.pointer (some ⟨b1, 0, none⟩)) ∧ f 3 = (.slice as201_0 s201.1.length ns201_0) ∧ f 8 = (.int .i64 s201.2) ∧ RowR tBound 103 F9 as201_0 ns201_0 s201.1 es201_0) N ⟨(s17.1, 0), F2, as17_0, ns17_0, es17_0, ho199, hs19, (Mem.le.refl _), e21, e22, e23, rfl, hrs17_0⟩ ?_
   rintro m216 f w202 ⟨s201, F9, as201_0, ns201_0, es201_0, hit217, hs203, le204, e205, e206, e207, e208, hrs201_0⟩
   obtain ⟨m218, fl219, rfl, hb220, hnx221⟩ := iter_step hit217
   refine Sq ?_
   refine Sq (Rg [0, 1, 2, 3, 4] ?_)
   refine V 71 3 (mv 8 (.int .i64 s201.2) e208) ?_
   refine V 72 0 (fa 25 1 0 0 1 b1 0 0 e206) ?_
   refine V 73 22 (ld 22 72 b1 0 false 1 (.slice a0_0 x0.Tracks.length n0_0) (hs203.ownAt (k := 1) rfl)) ?_
   refine V 74 3 (ln 73 22 a0_0 x0.Tracks.length n0_0 54 4 64) ?_
   refine V 75 4 (run_lss (t := 3) (t' := 3) (x := (.tmp 71)) (y := (.tmp 74)) (k := .i64) (a := s201.2) (b := (x0.Tracks.length : Int)) rfl rfl) ?_
   refine Nt ?_
   refine CWP.cond (t := (decide (s201.2 < (x0.Tracks.length : Int)))) (by kernel_rfl) rfl (fun hb222 => ?_) (fun hb222 => ?_)
   ·have h223 := cond_t hb220 hb222
    refine Sc ?_
    refine thenQ_nrm ?_
    refine Sq ?_
    refine Bk ?_
    refine Sq (Rg [0, 1, 2, 3, 4, 5, 6] ?_)
    refine V 78 0 (fa 25 1 0 0 1 b1 0 0 e206) ?_
    refine V 79 22 (ld 22 78 b1 0 false 1 (.slice a0_0 x0.Tracks.length n0_0) (hs203.ownAt (k := 1) rfl)) ?_
    refine V 80 3 (mv 8 (.int .i64 s201.2) e208) ?_
    obtain ⟨x224, hx225, h227⟩ := bind_some h223
    obtain ⟨hi226, hx225'⟩ := idx_spec hx225
    obtain ⟨b228, o229, C230, E231, fz232, rfl, hF234, hE235⟩ := SlA.open (SlA.mono hs0_0 (le20.trans le204)) hx225'
    obtain ⟨ae236_2, ne236_2, ae236_3, ne236_3, hc237, hbe236_2, hse236_2, hbe236_3, hse236_3⟩ := hE235 _ _ hx225'
    refine V 81 0 (ix 22 79 80 b228 o229 54 4 64 hi226) ?_
    refine V 82 54 (lx 54 81 0 4 true 4 (.agg #[(.int .i64 x224.Clock.Slip), (.int .i64 x224.Clock.Drift), (.slice ae236_2 x224.Clock.Jumps.length ne236_2), (.slice ae236_3 x224.Times.length ne236_3)]) (hs203.pers _ _ hF234) hc237) ?_
    refine Al 9 0 54 #[(.int .i64 0), (.int .i64 0), (.slice none ([] : List Int).length 0), (.slice none ([] : List Int).length 0)] hs203 (fun b238 w239 (hs240 : HS w0 F0 w239 F9 [(some b238, (.cells #[(.int .i64 0), (.int .i64 0), (.slice none ([] : List Int).length 0), (.slice none ([] : List Int).length 0)] 54 (0, 0))), es201_0, (some b1, (.cells #[(.slice (some ⟨b228, o229, none⟩) x0.Tracks.length n0_0), (.slice a0_1 x0.Ties.length n0_1), (.int .i64 x0.Window)] 25 (0, 0)))]) => ?_)
    refine RWP.store (ty := 0) (g := none) (by kernel_rfl) rfl (x := (.tmp 9)) (y := (.tmp 82)) (t := 54) (gg := true) (s := 4) (v := (.agg #[(.int .i64 x224.Clock.Slip), (.int .i64 x224.Clock.Drift), (.slice ae236_2 x224.Clock.Jumps.length ne236_2), (.slice ae236_3 x224.Times.length ne236_3)])) (b := b238) (o := 0) (C := #[(.int .i64 0), (.int .i64 0), (.slice none ([] : List Int).length 0), (.slice none ([] : List Int).length 0)]) rfl rfl (by kernel_rfl) hs240 (k := 0) rfl rfl rfl rfl (C' := #[(.int .i64 x224.Clock.Slip), (.int .i64 x224.Clock.Drift), (.slice ae236_2 x224.Clock.Jumps.length ne236_2), (.slice ae236_3 x224.Times.length ne236_3)]) rfl (fun w241 (hs242 : HS w0 F0 w241 F9 [(some b238, (.cells #[(.int .i64 x224.Clock.Slip), (.int .i64 x224.Clock.Drift), (.slice ae236_2 x224.Clock.Jumps.length ne236_2), (.slice ae236_3 x224.Times.length ne236_3)] 54 (0, 0))), es201_0, (some b1, (.cells #[(.slice (some ⟨b228, o229, none⟩) x0.Tracks.length n0_0), (.slice a0_1 x0.Ties.length n0_1), (.int .i64 x0.Window)] 25 (0, 0)))]) => ?_)
    refine Nss (Rg [0] ?_)
    refine V 10 3 (mc (.int .i64 0) (.int .i64 0)) ?_
    refine Nt ?_
    obtain ⟨o243, ho244, h245⟩ := bind_some h227
    refine CWP.cut (fun f w => ∃ (s256 : (List Bound × Int)) (F12 : Mem) (as256_0 : Option Addr) (ns256_0 : Nat) (es256_0 : Option Nat × Obj), o243 = .done s256 ∧ HS w0 F0 w F12 [es256_0, (some b1, (.cells #[(.slice (some ⟨b228, o229, none⟩) x0.Tracks.length n0_0), (.slice a0_1 x0.Ties.length n0_1), (.int .i64 x0.Window)] 25 (0, 0)))] ∧ Mem.le F9 F12 ∧ f.d = [] ∧ f 1 = (.pointer (some ⟨b1, 0, none⟩)) ∧ f 3 = (.slice as256_0 s256.1.length ns256_0) ∧ f 8 = (.int .i64 s201.2) ∧ RowR tBound 103 F12 as256_0 ns256_0 s256.1 es256_0) ?_ ?_
    ·refine Bk ?_
     refine CWP.loop (by kernel_rfl) (fun m f w => ∃ (s246 : (List Bound × Int)) (F11 : Mem) (as246_0 : Option Addr) (ns246_0 : Nat) (es246_0 : Option Nat × Obj), iter (ref03_bounds_L3 N x0 s17 s201 x224) m s246 = some o243 ∧ HS w0 F0 w F11 [(some b238, (.cells #[(.int .i64 x224.Clock.Slip), (.int .i64 x224.Clock.Drift), (.slice ae236_2 x224.Clock.Jumps.length ne236_2), (.slice ae236_3 x224.Times.length ne236_3)] 54 (0, 0))), es246_0, (some b1, (.cells #[(.slice (some ⟨b228, o229, none⟩) x0.Tracks.length n0_0), (.slice a0_1 x0.Ties.length n0_1), (.int .i64 x0.Window)] 25 (0, 0)))] ∧ Mem.le F9 F11 ∧ f.d = [] ∧ f 1 = (.pointer (some ⟨b1, 0, none⟩)) ∧ f 3 = (.slice as246_0 s246.1.length ns246_0) ∧ f 8 = (.int .i64 s201.2) ∧ f 9 = (.pointer (some ⟨b238, 0, none⟩)) ∧ f 10 = (.int .i64 s246.2) ∧ RowR tBound 103 F11 as246_0 ns246_0 s246.1 es246_0) N ⟨(s201.1, 0), F9, as201_0, ns201_0, es201_0, ho244, hs242, (Mem.le.refl _), e205, e206, e207, e208, rfl, rfl, hrs201_0⟩ ?_
     rintro m264 f w247 ⟨s246, F11, as246_0, ns246_0, es246_0, hit265, hs248, le249, e250, e251, e252, e253, e254, e255, hrs246_0⟩
     obtain ⟨m266, fl267, rfl, hb268, hnx269⟩ := iter_step hit265
     refine Sq ?_
     refine Sq (Rg [0, 1, 2, 3, 4, 5] ?_)
     refine V 83 3 (mv 10 (.int .i64 s246.2) e255) ?_
     refine V 84 3 (run_add (t := 3) (t' := 3) (x := (.tmp 83)) (y := (.const (.int .i64 1))) (k := .i64) (a := s246.2) (b := 1) rfl rfl) ?_
     refine V 85 0 (fa 54 9 1 3 1 b238 0 3 e254) ?_
     refine V 86 50 (ld 50 85 b238 3 false 1 (.slice ae236_3 x224.Times.length ne236_3) (hs248.ownAt (k := 0) rfl)) ?_
     refine V 87 3 (ln 86 50 ae236_3 x224.Times.length ne236_3 3 1 8) ?_
     refine V 88 4 (run_lss (t := 3) (t' := 3) (x := (.tmp 84)) (y := (.tmp 87)) (k := .i64) (a := (W64 (s246.2 + 1))) (b := (x224.Times.length : Int)) rfl rfl) ?_
     refine Nt ?_
     refine CWP.cond (t := (decide ((W64 (s246.2 + 1)) < (x224.Times.length : Int)))) (by kernel_rfl) rfl (fun hb270 => ?_) (fun hb270 => ?_)
     ·have h271 := cond_t hb268 hb270
      refine Sc ?_
      refine thenQ_nrm ?_
      refine Sq ?_
      refine Bk ?_
      refine Sq (Rg [0, 1, 2, 3, 4] ?_)
      refine V 91 3 (mv 8 (.int .i64 s201.2) e253) ?_
      refine V 92 3 (mv 10 (.int .i64 s246.2) e255) ?_
      refine V 93 27 (run_build2 (t := 27) (parts := #[(0, (.tmp 91)), (1, (.tmp 92))]) (vs := [(0, (.int .i64 s201.2)), (1, (.int .i64 s246.2))]) (rfl) (cs := [(.int .i64 s201.2), (.int .i64 s246.2)]) (by kernel_rfl)) ?_
      refine Al 11 0 27 #[(.int .i64 0), (.int .i64 0)] hs248 (fun b272 w273 (hs274 : HS w0 F0 w273 F11 [(some b272, (.cells #[(.int .i64 0), (.int .i64 0)] 27 (0, 0))), (some b238, (.cells #[(.int .i64 x224.Clock.Slip), (.int .i64 x224.Clock.Drift), (.slice ae236_2 x224.Clock.Jumps.length ne236_2), (.slice ae236_3 x224.Times.length ne236_3)] 54 (0, 0))), es246_0, (some b1, (.cells #[(.slice (some ⟨b228, o229, none⟩) x0.Tracks.length n0_0), (.slice a0_1 x0.Ties.length n0_1), (.int .i64 x0.Window)] 25 (0, 0)))]) => ?_)
      refine RWP.store (ty := 0) (g := none) (by kernel_rfl) rfl (x := (.tmp 11)) (y := (.tmp 93)) (t := 27) (gg := true) (s := 2) (v := (.agg #[(.int .i64 s201.2), (.int .i64 s246.2)])) (b := b272) (o := 0) (C := #[(.int .i64 0), (.int .i64 0)]) rfl rfl (by kernel_rfl) hs274 (k := 0) rfl rfl rfl rfl (C' := #[(.int .i64 s201.2), (.int .i64 s246.2)]) rfl (fun w275 (hs276 : HS w0 F0 w275 F11 [(some b272, (.cells #[(.int .i64 s201.2), (.int .i64 s246.2)] 27 (0, 0))), (some b238, (.cells #[(.int .i64 x224.Clock.Slip), (.int .i64 x224.Clock.Drift), (.slice ae236_2 x224.Clock.Jumps.length ne236_2), (.slice ae236_3 x224.Times.length ne236_3)] 54 (0, 0))), es246_0, (some b1, (.cells #[(.slice (some ⟨b228, o229, none⟩) x0.Tracks.length n0_0), (.slice a0_1 x0.Ties.length n0_1), (.int .i64 x0.Window)] 25 (0, 0)))]) => ?_)
      refine Nss (Rg [0, 1, 2, 3, 4, 5] ?_)
      refine V 94 3 (mv 8 (.int .i64 s201.2) e253) ?_
      refine V 95 3 (mv 10 (.int .i64 s246.2) e255) ?_
      refine V 96 3 (run_add (t := 3) (t' := 3) (x := (.tmp 95)) (y := (.const (.int .i64 1))) (k := .i64) (a := s246.2) (b := 1) rfl rfl) ?_
      refine V 97 27 (run_build2 (t := 27) (parts := #[(0, (.tmp 94)), (1, (.tmp 96))]) (vs := [(0, (.int .i64 s201.2)), (1, (.int .i64 (W64 (s246.2 + 1))))]) (rfl) (cs := [(.int .i64 s201.2), (.int .i64 (W64 (s246.2 + 1)))]) (by kernel_rfl)) ?_
      refine Al 12 0 27 #[(.int .i64 0), (.int .i64 0)] hs276 (fun b277 w278 (hs279 : HS w0 F0 w278 F11 [(some b277, (.cells #[(.int .i64 0), (.int .i64 0)] 27 (0, 0))), (some b272, (.cells #[(.int .i64 s201.2), (.int .i64 s246.2)] 27 (0, 0))), (some b238, (.cells #[(.int .i64 x224.Clock.Slip), (.int .i64 x224.Clock.Drift), (.slice ae236_2 x224.Clock.Jumps.length ne236_2), (.slice ae236_3 x224.Times.length ne236_3)] 54 (0, 0))), es246_0, (some b1, (.cells #[(.slice (some ⟨b228, o229, none⟩) x0.Tracks.length n0_0), (.slice a0_1 x0.Ties.length n0_1), (.int .i64 x0.Window)] 25 (0, 0)))]) => ?_)
      refine RWP.store (ty := 0) (g := none) (by kernel_rfl) rfl (x := (.tmp 12)) (y := (.tmp 97)) (t := 27) (gg := true) (s := 2) (v := (.agg #[(.int .i64 s201.2), (.int .i64 (W64 (s246.2 + 1)))])) (b := b277) (o := 0) (C := #[(.int .i64 0), (.int .i64 0)]) rfl rfl (by kernel_rfl) hs279 (k := 0) rfl rfl rfl rfl (C' := #[(.int .i64 s201.2), (.int .i64 (W64 (s246.2 + 1)))]) rfl (fun w280 (hs281 : HS w0 F0 w280 F11 [(some b277, (.cells #[(.int .i64 s201.2), (.int .i64 (W64 (s246.2 + 1)))] 27 (0, 0))), (some b272, (.cells #[(.int .i64 s201.2), (.int .i64 s246.2)] 27 (0, 0))), (some b238, (.cells #[(.int .i64 x224.Clock.Slip), (.int .i64 x224.Clock.Drift), (.slice ae236_2 x224.Clock.Jumps.length ne236_2), (.slice ae236_3 x224.Times.length ne236_3)] 54 (0, 0))), es246_0, (some b1, (.cells #[(.slice (some ⟨b228, o229, none⟩) x0.Tracks.length n0_0), (.slice a0_1 x0.Ties.length n0_1), (.int .i64 x0.Window)] 25 (0, 0)))]) => ?_)
      refine Nss (Rg [0, 1, 2, 3, 4, 5, 6, 7] ?_)
      refine V 98 57 (mv 3 (.slice as246_0 s246.1.length ns246_0) e252) ?_
      refine V 99 27 (ld 27 12 b277 0 true 2 (.agg #[(.int .i64 s201.2), (.int .i64 (W64 (s246.2 + 1)))]) (hs281.ownAt (k := 0) rfl)) ?_
      refine V 100 27 (ld 27 11 b272 0 true 2 (.agg #[(.int .i64 s201.2), (.int .i64 s246.2)]) (hs281.ownAt (k := 1) rfl)) ?_
      refine V 101 3 (mv 10 (.int .i64 s246.2) e255) ?_
      refine V 102 103 (run_build2 (t := 103) (parts := #[(0, (.tmp 99)), (1, (.tmp 100)), (2, (.const (.int .i64 0))), (3, (.const (.int .i64 2))), (4, (.tmp 101))]) (vs := [(0, (.agg #[(.int .i64 s201.2), (.int .i64 (W64 (s246.2 + 1)))])), (1, (.agg #[(.int .i64 s201.2), (.int .i64 s246.2)])), (2, (.int .i64 0)), (3, (.int .i64 2)), (4, (.int .i64 s246.2))]) (rfl) (cs := [(.int .i64 s201.2), (.int .i64 (W64 (s246.2 + 1))), (.int .i64 s201.2), (.int .i64 s246.2), (.int .i64 0), (.int .i64 2), (.int .i64 s246.2)]) (by kernel_rfl)) ?_
      refine RWP.buildSlice (dst := (some 103)) (ty := 57) (g := none) (by kernel_rfl) rfl (t := 57) (len := 1) (parts := #[(0, (.tmp 102))]) (vs := [(0, (.agg #[(.int .i64 s201.2), (.int .i64 (W64 (s246.2 + 1))), (.int .i64 s201.2), (.int .i64 s246.2), (.int .i64 0), (.int .i64 2), (.int .i64 s246.2)]))]) (rfl) (E := 103) (cs := [(.int .i64 s201.2), (.int .i64 (W64 (s246.2 + 1))), (.int .i64 s201.2), (.int .i64 s246.2), (.int .i64 0), (.int .i64 2), (.int .i64 s246.2)]) (by kernel_rfl) hs281 (fun b282 w283 (hs284 : HS w0 F0 w283 F11 [(some b282, .cells ([(.int .i64 s201.2), (.int .i64 (W64 (s246.2 + 1))), (.int .i64 s201.2), (.int .i64 s246.2), (.int .i64 0), (.int .i64 2), (.int .i64 s246.2)] : List Value).toArray 103 (0, 0)), (some b277, (.cells #[(.int .i64 s201.2), (.int .i64 (W64 (s246.2 + 1)))] 27 (0, 0))), (some b272, (.cells #[(.int .i64 s201.2), (.int .i64 s246.2)] 27 (0, 0))), (some b238, (.cells #[(.int .i64 x224.Clock.Slip), (.int .i64 x224.Clock.Drift), (.slice ae236_2 x224.Clock.Jumps.length ne236_2), (.slice ae236_3 x224.Times.length ne236_3)] 54 (0, 0))), es246_0, (some b1, (.cells #[(.slice (some ⟨b228, o229, none⟩) x0.Tracks.length n0_0), (.slice a0_1 x0.Ties.length n0_1), (.int .i64 x0.Window)] 25 (0, 0)))]) => ?_)
      have hr286 : RowR tBound 103 F11 (some ⟨b282, 0, none⟩) 1 [({ From := ({ Log := s201.2, Line := (W64 (s246.2 + 1)) } : Ref), To := ({ Log := s201.2, Line := s246.2 } : Ref), Most := 0, Kind := 2, ID := s246.2 } : Bound)] (some b282, .cells ([(.int .i64 s201.2), (.int .i64 (W64 (s246.2 + 1))), (.int .i64 s201.2), (.int .i64 s246.2), (.int .i64 0), (.int .i64 2), (.int .i64 s246.2)] : List Value).toArray 103 (0, 0)) := RowR.lit ⟨rfl, rfl⟩ (by simp)
      obtain ⟨r287, hap288, h289⟩ := bind_some h271
      refine RWP.append (dst := (some 104)) (ty := 57) (g := none) (by kernel_rfl) rfl (x := (.tmp 98)) (y := (.tmp 103)) (t := 57) (t2 := 57) (by_ := 56) (z := (.agg #[(.int .i64 0), (.int .i64 0), (.int .i64 0), (.int .i64 0), (.int .i64 0), (.int .i64 0), (.int .i64 0)])) (a2 := (some ⟨b282, 0, none⟩)) (c2 := 1) (m := [({ From := ({ Log := s201.2, Line := (W64 (s246.2 + 1)) } : Ref), To := ({ Log := s201.2, Line := s246.2 } : Ref), Most := 0, Kind := 2, ID := s246.2 } : Bound)]) (T := tBound) (E := 103) (a := as246_0) (cap := ns246_0) (l := s246.1) rfl rfl (by kernel_rfl) (by decide) (by kernel_rfl) (by kernel_rfl) rfl oBound hs284 (k := 4) rfl hrs246_0 (RowR.rd hs284 (k := 0) rfl hr286) (r := r287) hap288 (fun a290 n291 e292 w293 (hs294 : HS w0 F0 w293 F11 [(some b282, .cells ([(.int .i64 s201.2), (.int .i64 (W64 (s246.2 + 1))), (.int .i64 s201.2), (.int .i64 s246.2), (.int .i64 0), (.int .i64 2), (.int .i64 s246.2)] : List Value).toArray 103 (0, 0)), (some b277, (.cells #[(.int .i64 s201.2), (.int .i64 (W64 (s246.2 + 1)))] 27 (0, 0))), (some b272, (.cells #[(.int .i64 s201.2), (.int .i64 s246.2)] 27 (0, 0))), (some b238, (.cells #[(.int .i64 x224.Clock.Slip), (.int .i64 x224.Clock.Drift), (.slice ae236_2 x224.Clock.Jumps.length ne236_2), (.slice ae236_3 x224.Times.length ne236_3)] 54 (0, 0))), e292, (some b1, (.cells #[(.slice (some ⟨b228, o229, none⟩) x0.Tracks.length n0_0), (.slice a0_1 x0.Ties.length n0_1), (.int .i64 x0.Window)] 25 (0, 0)))]) hr295 => ?_)
      refine V 3 57 (ma 104 (.slice a290 r287.length n291)) ?_
      refine Nss ?_
      refine Sq ?_
      obtain ⟨j301, hj311, h312⟩ := bind_some h289
      refine CWP.regionD (by kernel_rfl) (by kernel_rfl) (by kernel_rfl) (by kernel_rfl) (z := 14) (F := F11) (Lc := [(some b282, .cells ([(.int .i64 s201.2), (.int .i64 (W64 (s246.2 + 1))), (.int .i64 s201.2), (.int .i64 s246.2), (.int .i64 0), (.int .i64 2), (.int .i64 s246.2)] : List Value).toArray 103 (0, 0)), (some b277, (.cells #[(.int .i64 s201.2), (.int .i64 (W64 (s246.2 + 1)))] 27 (0, 0))), (some b272, (.cells #[(.int .i64 s201.2), (.int .i64 s246.2)] 27 (0, 0))), (some b238, (.cells #[(.int .i64 x224.Clock.Slip), (.int .i64 x224.Clock.Drift), (.slice ae236_2 x224.Clock.Jumps.length ne236_2), (.slice ae236_3 x224.Times.length ne236_3)] 54 (0, 0))), e292, (some b1, (.cells #[(.slice (some ⟨b228, o229, none⟩) x0.Tracks.length n0_0), (.slice a0_1 x0.Ties.length n0_1), (.int .i64 x0.Window)] 25 (0, 0)))]) (Lz := []) (l := [false, false, false, false, false, false, false, false, false, false, false, false, false, false]) (fuel := 14) (by kernel_rfl) (by kernel_rfl) hs294 (by simp) (by simp) (fun f w => ∃ (F13 : Mem), HS w0 F0 w F13 [(some b277, (.cells #[(.int .i64 s201.2), (.int .i64 (W64 (s246.2 + 1)))] 27 (0, 0))), (some b272, (.cells #[(.int .i64 s201.2), (.int .i64 s246.2)] 27 (0, 0))), (some b238, (.cells #[(.int .i64 x224.Clock.Slip), (.int .i64 x224.Clock.Drift), (.slice ae236_2 x224.Clock.Jumps.length ne236_2), (.slice ae236_3 x224.Times.length ne236_3)] 54 (0, 0))), e292, (some b1, (.cells #[(.slice (some ⟨b228, o229, none⟩) x0.Tracks.length n0_0), (.slice a0_1 x0.Ties.length n0_1), (.int .i64 x0.Window)] 25 (0, 0)))] ∧ Mem.le F11 F13 ∧ f.d = [] ∧ f 1 = (.pointer (some ⟨b1, 0, none⟩)) ∧ f 3 = (.slice a290 r287.length n291) ∧ f 8 = (.int .i64 s201.2) ∧ f 9 = (.pointer (some ⟨b238, 0, none⟩)) ∧ f 10 = (.int .i64 s246.2) ∧ f 11 = (.pointer (some ⟨b272, 0, none⟩)) ∧ f 12 = (.pointer (some ⟨b277, 0, none⟩)) ∧ f 118 = (.bool j301)) (fun wd296 hw297 => ?_) ?_
      ·refine Dt 0 105 0 (.pointer (some ⟨b238, 0, none⟩)) (fun _ hq => fa 54 9 0 0 3 b238 0 0 e254) ?_
       refine Dt 1 106 52 _ (fun _ hq => ld 52 105 b238 0 true 3 (.agg #[(.int .i64 x224.Clock.Slip), (.int .i64 x224.Clock.Drift), (.slice ae236_2 x224.Clock.Jumps.length ne236_2)]) (hq.1.2 3 _ _ rfl)) ?_
       refine Dt 2 107 0 (.pointer (some ⟨b238, 3, none⟩)) (fun _ hq => fa 54 9 1 3 1 b238 0 3 e254) ?_
       refine Dt 3 108 50 _ (fun _ hq => ld 50 107 b238 3 false 1 (.slice ae236_3 x224.Times.length ne236_3) (hq.1.2 3 _ _ rfl)) ?_
       refine Dt 4 109 3 _ (fun _ hq => mv 10 (.int .i64 s246.2) e255) ?_
       obtain ⟨x313, hx314, h316⟩ := bind_some hj311
       obtain ⟨hi315, hx314'⟩ := idx_spec hx314
       obtain ⟨b317, o318, C319, E320, fz321, rfl, hF323, hE324⟩ := SlA.open (SlA.mono hse236_3 le249) hx314'
       have hc326 := hE324 _ _ hx314'
       refine Dt 5 110 0 (.pointer (some ⟨b317, (o318 + (s246.2 : Int).toNat * 1), none⟩)) (fun _ hq => ix 50 108 109 b317 o318 3 1 8 hi315) ?_
       refine Dt 6 111 3 _ (fun _ hq => lx 3 110 0 1 false 1 (.int .i64 x313) (hq.1.1 _ _ hF323) hc326) ?_
       refine Dt 7 112 0 (.pointer (some ⟨b238, 3, none⟩)) (fun _ hq => fa 54 9 1 3 1 b238 0 3 e254) ?_
       refine Dt 8 113 50 _ (fun _ hq => ld 50 112 b238 3 false 1 (.slice (some ⟨b317, o318, none⟩) x224.Times.length ne236_3) (hq.1.2 3 _ _ rfl)) ?_
       refine Dt 9 114 3 _ (fun _ hq => mv 10 (.int .i64 s246.2) e255) ?_
       refine Dt 10 115 3 (.int .i64 (W64 (s246.2 + 1))) (fun _ hq => run_add (t := 3) (t' := 3) (x := (.tmp 114)) (y := (.const (.int .i64 1))) (k := .i64) (a := s246.2) (b := 1) rfl rfl) ?_
       obtain ⟨x327, hx328, h330⟩ := bind_some h316
       obtain ⟨hi329, hx328'⟩ := idx_spec hx328
       have hc332 := hE324 _ _ hx328'
       refine Dt 11 116 0 (.pointer (some ⟨b317, (o318 + ((W64 (s246.2 + 1)) : Int).toNat * 1), none⟩)) (fun _ hq => ix 50 113 115 b317 o318 3 1 8 hi329) ?_
       refine Dt 12 117 3 _ (fun _ hq => lx 3 116 0 1 false 1 (.int .i64 x327) (hq.1.1 _ _ hF323) hc332) ?_
       refine DWP.one (i := 13) (by kernel_rfl) ?_
       obtain ⟨r333, hr334, h335⟩ := bind_some h330
       refine DStep.call (l' := [true, true, true, true, true, true, true, true, true, true, true, true, true, true]) (zd := true) (by kernel_rfl) (by kernel_rfl) (by kernel_rfl) (dst := (some 118)) (ty := 4) (g := none) (by kernel_rfl) rfl (f0 := (.func 124)) (aos := #[(.tmp 106), (.tmp 111), (.tmp 117)]) (ats := #[52, 3, 3]) (fid := 124) (first := #[]) (cap := #[]) (args := [(.agg #[(.int .i64 x224.Clock.Slip), (.int .i64 x224.Clock.Drift), (.slice ae236_2 x224.Clock.Jumps.length ne236_2)]), (.int .i64 x313), (.int .i64 x327)]) rfl co_ref03_jumped (rfl) hw297 (c_ref03_jumped N wd296 F11 hw297.pers (x224.Clock) ae236_2 ne236_2 hbe236_2 (SlA.mono hse236_2 le249) (x313) (x327) _ hr334) ?_
       intro v336 F14 w337 hs338 le339 hp340
       obtain rfl := hp340
       obtain rfl := some_inj h335
       have hs341 : HS w0 F0 w337 F14 [(some b277, (.cells #[(.int .i64 s201.2), (.int .i64 (W64 (s246.2 + 1)))] 27 (0, 0))), (some b272, (.cells #[(.int .i64 s201.2), (.int .i64 s246.2)] 27 (0, 0))), (some b238, (.cells #[(.int .i64 x224.Clock.Slip), (.int .i64 x224.Clock.Drift), (.slice ae236_2 x224.Clock.Jumps.length ne236_2), (.slice (some ⟨b317, o318, none⟩) x224.Times.length ne236_3)] 54 (0, 0))), e292, (some b1, (.cells #[(.slice (some ⟨b228, o229, none⟩) x0.Tracks.length n0_0), (.slice a0_1 x0.Ties.length n0_1), (.int .i64 x0.Window)] 25 (0, 0)))] := hs338.drop 0
       exact DWP.done (by kernel_rfl) ⟨F14, hs341, le339, e250, e251, rfl, e253, e254, e255, rfl, rfl, rfl⟩
      ·rintro f w298 ⟨F13, hs299, le300, e302, e303, e304, e305, e306, e307, e308, e309, e310⟩
       refine thenQ_nrm ?_
       refine CWP.cond (t := j301) (by kernel_rfl) e310 (fun hb342 => ?_) (fun hb342 => ?_)
       ·have h343 := cond_t h312 hb342
        refine CWP.exit (by kernel_rfl) ?_
        refine thenQ_ex ?_
        refine blockQ_hit rfl ?_
        refine thenQ_nrm ?_
        refine Rg [0, 1, 2] ?_
        refine V 89 3 (mv 10 (.int .i64 s246.2) e307) ?_
        refine V 90 3 (run_add (t := 3) (t' := 3) (x := (.tmp 89)) (y := (.const (.int .i64 1))) (k := .i64) (a := s246.2) (b := 1) rfl rfl) ?_
        refine V 10 3 (ma 90 (.int .i64 (W64 (s246.2 + 1)))) ?_
        refine RWP.nil ?_
        have hs344 : HS w0 F0 w298 F13 [(some b272, (.cells #[(.int .i64 s201.2), (.int .i64 s246.2)] 27 (0, 0))), (some b238, (.cells #[(.int .i64 x224.Clock.Slip), (.int .i64 x224.Clock.Drift), (.slice ae236_2 x224.Clock.Jumps.length ne236_2), (.slice ae236_3 x224.Times.length ne236_3)] 54 (0, 0))), e292, (some b1, (.cells #[(.slice (some ⟨b228, o229, none⟩) x0.Tracks.length n0_0), (.slice a0_1 x0.Ties.length n0_1), (.int .i64 x0.Window)] 25 (0, 0)))] := hs299.drop 0
        have hs345 : HS w0 F0 w298 F13 [(some b238, (.cells #[(.int .i64 x224.Clock.Slip), (.int .i64 x224.Clock.Drift), (.slice ae236_2 x224.Clock.Jumps.length ne236_2), (.slice ae236_3 x224.Times.length ne236_3)] 54 (0, 0))), e292, (some b1, (.cells #[(.slice (some ⟨b228, o229, none⟩) x0.Tracks.length n0_0), (.slice a0_1 x0.Ties.length n0_1), (.int .i64 x0.Window)] 25 (0, 0)))] := hs344.drop 0
        have hn346 := iter_next h343 hnx269
        exact ⟨m266, Nat.lt_succ_self _, (r287, (W64 (s246.2 + 1))), F13, a290, n291, e292, hn346, hs345, (le249.trans le300), e302, e303, e304, e305, e306, rfl, (hr295.mono le300)⟩
       ·have h347 := cond_f h312 hb342
        refine Sc ?_
        refine thenQ_nrm ?_
        refine Sq ?_
        obtain ⟨j353, hj363, h364⟩ := bind_some h347
        refine CWP.regionD (by kernel_rfl) (by kernel_rfl) (by kernel_rfl) (by kernel_rfl) (z := 13) (F := F13) (Lc := [(some b277, (.cells #[(.int .i64 s201.2), (.int .i64 (W64 (s246.2 + 1)))] 27 (0, 0))), (some b272, (.cells #[(.int .i64 s201.2), (.int .i64 s246.2)] 27 (0, 0))), (some b238, (.cells #[(.int .i64 x224.Clock.Slip), (.int .i64 x224.Clock.Drift), (.slice ae236_2 x224.Clock.Jumps.length ne236_2), (.slice ae236_3 x224.Times.length ne236_3)] 54 (0, 0))), e292, (some b1, (.cells #[(.slice (some ⟨b228, o229, none⟩) x0.Tracks.length n0_0), (.slice a0_1 x0.Ties.length n0_1), (.int .i64 x0.Window)] 25 (0, 0)))]) (Lz := []) (l := [false, false, false, false, false, false, false, false, false, false, false, false, false]) (fuel := 13) (by kernel_rfl) (by kernel_rfl) hs299 (by simp) (by simp) (fun f w => ∃ (F15 : Mem), HS w0 F0 w F15 [(some b277, (.cells #[(.int .i64 s201.2), (.int .i64 (W64 (s246.2 + 1)))] 27 (0, 0))), (some b272, (.cells #[(.int .i64 s201.2), (.int .i64 s246.2)] 27 (0, 0))), (some b238, (.cells #[(.int .i64 x224.Clock.Slip), (.int .i64 x224.Clock.Drift), (.slice ae236_2 x224.Clock.Jumps.length ne236_2), (.slice ae236_3 x224.Times.length ne236_3)] 54 (0, 0))), e292, (some b1, (.cells #[(.slice (some ⟨b228, o229, none⟩) x0.Tracks.length n0_0), (.slice a0_1 x0.Ties.length n0_1), (.int .i64 x0.Window)] 25 (0, 0)))] ∧ Mem.le F13 F15 ∧ f.d = [] ∧ f 1 = (.pointer (some ⟨b1, 0, none⟩)) ∧ f 3 = (.slice a290 r287.length n291) ∧ f 8 = (.int .i64 s201.2) ∧ f 9 = (.pointer (some ⟨b238, 0, none⟩)) ∧ f 10 = (.int .i64 s246.2) ∧ f 11 = (.pointer (some ⟨b272, 0, none⟩)) ∧ f 12 = (.pointer (some ⟨b277, 0, none⟩)) ∧ f 13 = (.int .i64 j353)) (fun wd348 hw349 => ?_) ?_
        ·refine Dt 0 119 0 (.pointer (some ⟨b238, 3, none⟩)) (fun _ hq => fa 54 9 1 3 1 b238 0 3 e306) ?_
         refine Dt 1 120 50 _ (fun _ hq => ld 50 119 b238 3 false 1 (.slice ae236_3 x224.Times.length ne236_3) (hq.1.2 2 _ _ rfl)) ?_
         refine Dt 2 121 3 _ (fun _ hq => mv 10 (.int .i64 s246.2) e307) ?_
         refine Dt 3 122 3 (.int .i64 (W64 (s246.2 + 1))) (fun _ hq => run_add (t := 3) (t' := 3) (x := (.tmp 121)) (y := (.const (.int .i64 1))) (k := .i64) (a := s246.2) (b := 1) rfl rfl) ?_
         obtain ⟨x365, hx366, h368⟩ := bind_some hj363
         obtain ⟨hi367, hx366'⟩ := idx_spec hx366
         obtain ⟨b369, o370, C371, E372, fz373, rfl, hF375, hE376⟩ := SlA.open (SlA.mono hse236_3 (le249.trans le300)) hx366'
         have hc378 := hE376 _ _ hx366'
         refine Dt 4 123 0 (.pointer (some ⟨b369, (o370 + ((W64 (s246.2 + 1)) : Int).toNat * 1), none⟩)) (fun _ hq => ix 50 120 122 b369 o370 3 1 8 hi367) ?_
         refine Dt 5 124 3 _ (fun _ hq => lx 3 123 0 1 false 1 (.int .i64 x365) (hq.1.1 _ _ hF375) hc378) ?_
         refine Dt 6 125 0 (.pointer (some ⟨b238, 3, none⟩)) (fun _ hq => fa 54 9 1 3 1 b238 0 3 e306) ?_
         refine Dt 7 126 50 _ (fun _ hq => ld 50 125 b238 3 false 1 (.slice (some ⟨b369, o370, none⟩) x224.Times.length ne236_3) (hq.1.2 2 _ _ rfl)) ?_
         refine Dt 8 127 3 _ (fun _ hq => mv 10 (.int .i64 s246.2) e307) ?_
         obtain ⟨x379, hx380, h382⟩ := bind_some h368
         obtain ⟨hi381, hx380'⟩ := idx_spec hx380
         have hc384 := hE376 _ _ hx380'
         refine Dt 9 128 0 (.pointer (some ⟨b369, (o370 + (s246.2 : Int).toNat * 1), none⟩)) (fun _ hq => ix 50 126 127 b369 o370 3 1 8 hi381) ?_
         refine Dt 10 129 3 _ (fun _ hq => lx 3 128 0 1 false 1 (.int .i64 x379) (hq.1.1 _ _ hF375) hc384) ?_
         refine Dt 11 130 3 (.int .i64 (W64 (x365 - x379))) (fun _ hq => run_sub (t := 3) (t' := 3) (x := (.tmp 124)) (y := (.tmp 129)) (k := .i64) (a := x365) (b := x379) rfl rfl) ?_
         refine Dt 12 13 3 _ (fun _ hq => ma 130 (.int .i64 (W64 (x365 - x379)))) ?_
         obtain rfl := some_inj h382
         exact DWP.done (by kernel_rfl) ⟨F13, hw349, (Mem.le.refl _), e302, e303, e304, e305, e306, e307, e308, e309, rfl⟩
        ·rintro f w350 ⟨F15, hs351, le352, e354, e355, e356, e357, e358, e359, e360, e361, e362⟩
         refine thenQ_nrm ?_
         refine Sq (Rg [0, 1, 2, 3, 4, 5, 6, 7, 8] ?_)
         refine V 131 0 (fa 54 9 0 0 3 b238 0 0 e358) ?_
         refine V 132 0 (fa 52 131 1 1 1 b238 0 1) ?_
         refine V 133 3 (ld 3 132 b238 1 false 1 (.int .i64 x224.Clock.Drift) (hs351.ownAt (k := 2) rfl)) ?_
         refine V 134 3 (mv 13 (.int .i64 j353) e362) ?_
         refine V 135 3 (run_mul (t := 3) (t' := 3) (x := (.tmp 133)) (y := (.tmp 134)) (k := .i64) (a := x224.Clock.Drift) (b := j353) rfl rfl) ?_
         refine V 136 3 (run_add (t := 3) (t' := 3) (x := (.tmp 135)) (y := (.const (.int .i64 999))) (k := .i64) (a := (W64 (x224.Clock.Drift * j353))) (b := 999) rfl rfl) ?_
         refine V 137 3 (run_quo (t := 3) (t' := 3) (x := (.tmp 136)) (y := (.const (.int .i64 1000))) (k := .i64) (a := (W64 ((W64 (x224.Clock.Drift * j353)) + 999))) (b := 1000) rfl rfl (by decide)) ?_
         refine V 138 3 (run_add (t := 3) (t' := 3) (x := (.const (.int .i64 1))) (y := (.tmp 137)) (k := .i64) (a := 1) (b := (W64 (Int.tdiv (W64 ((W64 (x224.Clock.Drift * j353)) + 999)) 1000))) rfl rfl) ?_
         refine V 14 3 (ma 138 (.int .i64 (W64 (1 + (W64 (Int.tdiv (W64 ((W64 (x224.Clock.Drift * j353)) + 999)) 1000)))))) ?_
         refine Nss (Rg [0, 1, 2, 3, 4, 5, 6, 7, 8, 9, 10] ?_)
         refine V 139 57 (mv 3 (.slice a290 r287.length n291) e356) ?_
         refine V 140 27 (ld 27 11 b272 0 true 2 (.agg #[(.int .i64 s201.2), (.int .i64 s246.2)]) (hs351.ownAt (k := 1) rfl) e360) ?_
         refine V 141 27 (ld 27 12 b277 0 true 2 (.agg #[(.int .i64 s201.2), (.int .i64 (W64 (s246.2 + 1)))]) (hs351.ownAt (k := 0) rfl) e361) ?_
         refine V 142 3 (mv 13 (.int .i64 j353) e362) ?_
         refine V 143 3 (mv 14 (.int .i64 (W64 (1 + (W64 (Int.tdiv (W64 ((W64 (x224.Clock.Drift * j353)) + 999)) 1000)))))) ?_
         refine V 144 3 (run_add (t := 3) (t' := 3) (x := (.tmp 142)) (y := (.tmp 143)) (k := .i64) (a := j353) (b := (W64 (1 + (W64 (Int.tdiv (W64 ((W64 (x224.Clock.Drift * j353)) + 999)) 1000))))) rfl rfl) ?_
         refine V 145 3 (mv 10 (.int .i64 s246.2) e359) ?_
         refine V 146 103 (run_build2 (t := 103) (parts := #[(0, (.tmp 140)), (1, (.tmp 141)), (2, (.tmp 144)), (3, (.const (.int .i64 3))), (4, (.tmp 145))]) (vs := [(0, (.agg #[(.int .i64 s201.2), (.int .i64 s246.2)])), (1, (.agg #[(.int .i64 s201.2), (.int .i64 (W64 (s246.2 + 1)))])), (2, (.int .i64 (W64 (j353 + (W64 (1 + (W64 (Int.tdiv (W64 ((W64 (x224.Clock.Drift * j353)) + 999)) 1000)))))))), (3, (.int .i64 3)), (4, (.int .i64 s246.2))]) (rfl) (cs := [(.int .i64 s201.2), (.int .i64 s246.2), (.int .i64 s201.2), (.int .i64 (W64 (s246.2 + 1))), (.int .i64 (W64 (j353 + (W64 (1 + (W64 (Int.tdiv (W64 ((W64 (x224.Clock.Drift * j353)) + 999)) 1000))))))), (.int .i64 3), (.int .i64 s246.2)]) (by kernel_rfl)) ?_
         refine RWP.buildSlice (dst := (some 147)) (ty := 57) (g := none) (by kernel_rfl) rfl (t := 57) (len := 1) (parts := #[(0, (.tmp 146))]) (vs := [(0, (.agg #[(.int .i64 s201.2), (.int .i64 s246.2), (.int .i64 s201.2), (.int .i64 (W64 (s246.2 + 1))), (.int .i64 (W64 (j353 + (W64 (1 + (W64 (Int.tdiv (W64 ((W64 (x224.Clock.Drift * j353)) + 999)) 1000))))))), (.int .i64 3), (.int .i64 s246.2)]))]) (rfl) (E := 103) (cs := [(.int .i64 s201.2), (.int .i64 s246.2), (.int .i64 s201.2), (.int .i64 (W64 (s246.2 + 1))), (.int .i64 (W64 (j353 + (W64 (1 + (W64 (Int.tdiv (W64 ((W64 (x224.Clock.Drift * j353)) + 999)) 1000))))))), (.int .i64 3), (.int .i64 s246.2)]) (by kernel_rfl) hs351 (fun b385 w386 (hs387 : HS w0 F0 w386 F15 [(some b385, .cells ([(.int .i64 s201.2), (.int .i64 s246.2), (.int .i64 s201.2), (.int .i64 (W64 (s246.2 + 1))), (.int .i64 (W64 (j353 + (W64 (1 + (W64 (Int.tdiv (W64 ((W64 (x224.Clock.Drift * j353)) + 999)) 1000))))))), (.int .i64 3), (.int .i64 s246.2)] : List Value).toArray 103 (0, 0)), (some b277, (.cells #[(.int .i64 s201.2), (.int .i64 (W64 (s246.2 + 1)))] 27 (0, 0))), (some b272, (.cells #[(.int .i64 s201.2), (.int .i64 s246.2)] 27 (0, 0))), (some b238, (.cells #[(.int .i64 x224.Clock.Slip), (.int .i64 x224.Clock.Drift), (.slice ae236_2 x224.Clock.Jumps.length ne236_2), (.slice ae236_3 x224.Times.length ne236_3)] 54 (0, 0))), e292, (some b1, (.cells #[(.slice (some ⟨b228, o229, none⟩) x0.Tracks.length n0_0), (.slice a0_1 x0.Ties.length n0_1), (.int .i64 x0.Window)] 25 (0, 0)))]) => ?_)
         have hr389 : RowR tBound 103 F15 (some ⟨b385, 0, none⟩) 1 [({ From := ({ Log := s201.2, Line := s246.2 } : Ref), To := ({ Log := s201.2, Line := (W64 (s246.2 + 1)) } : Ref), Most := (W64 (j353 + (W64 (1 + (W64 (Int.tdiv (W64 ((W64 (x224.Clock.Drift * j353)) + 999)) 1000)))))), Kind := 3, ID := s246.2 } : Bound)] (some b385, .cells ([(.int .i64 s201.2), (.int .i64 s246.2), (.int .i64 s201.2), (.int .i64 (W64 (s246.2 + 1))), (.int .i64 (W64 (j353 + (W64 (1 + (W64 (Int.tdiv (W64 ((W64 (x224.Clock.Drift * j353)) + 999)) 1000))))))), (.int .i64 3), (.int .i64 s246.2)] : List Value).toArray 103 (0, 0)) := RowR.lit ⟨rfl, rfl⟩ (by simp)
         obtain ⟨r390, hap391, h392⟩ := bind_some h364
         refine RWP.append (dst := (some 148)) (ty := 57) (g := none) (by kernel_rfl) rfl (x := (.tmp 139)) (y := (.tmp 147)) (t := 57) (t2 := 57) (by_ := 56) (z := (.agg #[(.int .i64 0), (.int .i64 0), (.int .i64 0), (.int .i64 0), (.int .i64 0), (.int .i64 0), (.int .i64 0)])) (a2 := (some ⟨b385, 0, none⟩)) (c2 := 1) (m := [({ From := ({ Log := s201.2, Line := s246.2 } : Ref), To := ({ Log := s201.2, Line := (W64 (s246.2 + 1)) } : Ref), Most := (W64 (j353 + (W64 (1 + (W64 (Int.tdiv (W64 ((W64 (x224.Clock.Drift * j353)) + 999)) 1000)))))), Kind := 3, ID := s246.2 } : Bound)]) (T := tBound) (E := 103) (a := a290) (cap := n291) (l := r287) rfl rfl (by kernel_rfl) (by decide) (by kernel_rfl) (by kernel_rfl) rfl oBound hs387 (k := 4) rfl (hr295.mono (le300.trans le352)) (RowR.rd hs387 (k := 0) rfl hr389) (r := r390) hap391 (fun a393 n394 e395 w396 (hs397 : HS w0 F0 w396 F15 [(some b385, .cells ([(.int .i64 s201.2), (.int .i64 s246.2), (.int .i64 s201.2), (.int .i64 (W64 (s246.2 + 1))), (.int .i64 (W64 (j353 + (W64 (1 + (W64 (Int.tdiv (W64 ((W64 (x224.Clock.Drift * j353)) + 999)) 1000))))))), (.int .i64 3), (.int .i64 s246.2)] : List Value).toArray 103 (0, 0)), (some b277, (.cells #[(.int .i64 s201.2), (.int .i64 (W64 (s246.2 + 1)))] 27 (0, 0))), (some b272, (.cells #[(.int .i64 s201.2), (.int .i64 s246.2)] 27 (0, 0))), (some b238, (.cells #[(.int .i64 x224.Clock.Slip), (.int .i64 x224.Clock.Drift), (.slice ae236_2 x224.Clock.Jumps.length ne236_2), (.slice ae236_3 x224.Times.length ne236_3)] 54 (0, 0))), e395, (some b1, (.cells #[(.slice (some ⟨b228, o229, none⟩) x0.Tracks.length n0_0), (.slice a0_1 x0.Ties.length n0_1), (.int .i64 x0.Window)] 25 (0, 0)))]) hr398 => ?_)
         refine V 3 57 (ma 148 (.slice a393 r390.length n394)) ?_
         refine Nt ?_
         refine Rg [0, 1, 2, 3, 4, 5, 6, 7, 8, 9, 10] ?_
         refine V 149 57 (mv 3 (.slice a393 r390.length n394)) ?_
         refine V 150 27 (ld 27 12 b277 0 true 2 (.agg #[(.int .i64 s201.2), (.int .i64 (W64 (s246.2 + 1)))]) (hs397.ownAt (k := 1) rfl) e361) ?_
         refine V 151 27 (ld 27 11 b272 0 true 2 (.agg #[(.int .i64 s201.2), (.int .i64 s246.2)]) (hs397.ownAt (k := 2) rfl) e360) ?_
         refine V 152 3 (mv 14 (.int .i64 (W64 (1 + (W64 (Int.tdiv (W64 ((W64 (x224.Clock.Drift * j353)) + 999)) 1000)))))) ?_
         refine V 153 3 (mv 13 (.int .i64 j353) e362) ?_
         refine V 154 3 (run_sub (t := 3) (t' := 3) (x := (.tmp 152)) (y := (.tmp 153)) (k := .i64) (a := (W64 (1 + (W64 (Int.tdiv (W64 ((W64 (x224.Clock.Drift * j353)) + 999)) 1000))))) (b := j353) rfl rfl) ?_
         refine V 155 3 (mv 10 (.int .i64 s246.2) e359) ?_
         refine V 156 103 (run_build2 (t := 103) (parts := #[(0, (.tmp 150)), (1, (.tmp 151)), (2, (.tmp 154)), (3, (.const (.int .i64 3))), (4, (.tmp 155))]) (vs := [(0, (.agg #[(.int .i64 s201.2), (.int .i64 (W64 (s246.2 + 1)))])), (1, (.agg #[(.int .i64 s201.2), (.int .i64 s246.2)])), (2, (.int .i64 (W64 ((W64 (1 + (W64 (Int.tdiv (W64 ((W64 (x224.Clock.Drift * j353)) + 999)) 1000)))) - j353)))), (3, (.int .i64 3)), (4, (.int .i64 s246.2))]) (rfl) (cs := [(.int .i64 s201.2), (.int .i64 (W64 (s246.2 + 1))), (.int .i64 s201.2), (.int .i64 s246.2), (.int .i64 (W64 ((W64 (1 + (W64 (Int.tdiv (W64 ((W64 (x224.Clock.Drift * j353)) + 999)) 1000)))) - j353))), (.int .i64 3), (.int .i64 s246.2)]) (by kernel_rfl)) ?_
         refine RWP.buildSlice (dst := (some 157)) (ty := 57) (g := none) (by kernel_rfl) rfl (t := 57) (len := 1) (parts := #[(0, (.tmp 156))]) (vs := [(0, (.agg #[(.int .i64 s201.2), (.int .i64 (W64 (s246.2 + 1))), (.int .i64 s201.2), (.int .i64 s246.2), (.int .i64 (W64 ((W64 (1 + (W64 (Int.tdiv (W64 ((W64 (x224.Clock.Drift * j353)) + 999)) 1000)))) - j353))), (.int .i64 3), (.int .i64 s246.2)]))]) (rfl) (E := 103) (cs := [(.int .i64 s201.2), (.int .i64 (W64 (s246.2 + 1))), (.int .i64 s201.2), (.int .i64 s246.2), (.int .i64 (W64 ((W64 (1 + (W64 (Int.tdiv (W64 ((W64 (x224.Clock.Drift * j353)) + 999)) 1000)))) - j353))), (.int .i64 3), (.int .i64 s246.2)]) (by kernel_rfl) hs397 (fun b399 w400 (hs401 : HS w0 F0 w400 F15 [(some b399, .cells ([(.int .i64 s201.2), (.int .i64 (W64 (s246.2 + 1))), (.int .i64 s201.2), (.int .i64 s246.2), (.int .i64 (W64 ((W64 (1 + (W64 (Int.tdiv (W64 ((W64 (x224.Clock.Drift * j353)) + 999)) 1000)))) - j353))), (.int .i64 3), (.int .i64 s246.2)] : List Value).toArray 103 (0, 0)), (some b385, .cells ([(.int .i64 s201.2), (.int .i64 s246.2), (.int .i64 s201.2), (.int .i64 (W64 (s246.2 + 1))), (.int .i64 (W64 (j353 + (W64 (1 + (W64 (Int.tdiv (W64 ((W64 (x224.Clock.Drift * j353)) + 999)) 1000))))))), (.int .i64 3), (.int .i64 s246.2)] : List Value).toArray 103 (0, 0)), (some b277, (.cells #[(.int .i64 s201.2), (.int .i64 (W64 (s246.2 + 1)))] 27 (0, 0))), (some b272, (.cells #[(.int .i64 s201.2), (.int .i64 s246.2)] 27 (0, 0))), (some b238, (.cells #[(.int .i64 x224.Clock.Slip), (.int .i64 x224.Clock.Drift), (.slice ae236_2 x224.Clock.Jumps.length ne236_2), (.slice ae236_3 x224.Times.length ne236_3)] 54 (0, 0))), e395, (some b1, (.cells #[(.slice (some ⟨b228, o229, none⟩) x0.Tracks.length n0_0), (.slice a0_1 x0.Ties.length n0_1), (.int .i64 x0.Window)] 25 (0, 0)))]) => ?_)
         have hr403 : RowR tBound 103 F15 (some ⟨b399, 0, none⟩) 1 [({ From := ({ Log := s201.2, Line := (W64 (s246.2 + 1)) } : Ref), To := ({ Log := s201.2, Line := s246.2 } : Ref), Most := (W64 ((W64 (1 + (W64 (Int.tdiv (W64 ((W64 (x224.Clock.Drift * j353)) + 999)) 1000)))) - j353)), Kind := 3, ID := s246.2 } : Bound)] (some b399, .cells ([(.int .i64 s201.2), (.int .i64 (W64 (s246.2 + 1))), (.int .i64 s201.2), (.int .i64 s246.2), (.int .i64 (W64 ((W64 (1 + (W64 (Int.tdiv (W64 ((W64 (x224.Clock.Drift * j353)) + 999)) 1000)))) - j353))), (.int .i64 3), (.int .i64 s246.2)] : List Value).toArray 103 (0, 0)) := RowR.lit ⟨rfl, rfl⟩ (by simp)
         obtain ⟨r404, hap405, h406⟩ := bind_some h392
         refine RWP.append (dst := (some 158)) (ty := 57) (g := none) (by kernel_rfl) rfl (x := (.tmp 149)) (y := (.tmp 157)) (t := 57) (t2 := 57) (by_ := 56) (z := (.agg #[(.int .i64 0), (.int .i64 0), (.int .i64 0), (.int .i64 0), (.int .i64 0), (.int .i64 0), (.int .i64 0)])) (a2 := (some ⟨b399, 0, none⟩)) (c2 := 1) (m := [({ From := ({ Log := s201.2, Line := (W64 (s246.2 + 1)) } : Ref), To := ({ Log := s201.2, Line := s246.2 } : Ref), Most := (W64 ((W64 (1 + (W64 (Int.tdiv (W64 ((W64 (x224.Clock.Drift * j353)) + 999)) 1000)))) - j353)), Kind := 3, ID := s246.2 } : Bound)]) (T := tBound) (E := 103) (a := a393) (cap := n394) (l := r390) rfl rfl (by kernel_rfl) (by decide) (by kernel_rfl) (by kernel_rfl) rfl oBound hs401 (k := 5) rfl hr398 (RowR.rd hs401 (k := 0) rfl hr403) (r := r404) hap405 (fun a407 n408 e409 w410 (hs411 : HS w0 F0 w410 F15 [(some b399, .cells ([(.int .i64 s201.2), (.int .i64 (W64 (s246.2 + 1))), (.int .i64 s201.2), (.int .i64 s246.2), (.int .i64 (W64 ((W64 (1 + (W64 (Int.tdiv (W64 ((W64 (x224.Clock.Drift * j353)) + 999)) 1000)))) - j353))), (.int .i64 3), (.int .i64 s246.2)] : List Value).toArray 103 (0, 0)), (some b385, .cells ([(.int .i64 s201.2), (.int .i64 s246.2), (.int .i64 s201.2), (.int .i64 (W64 (s246.2 + 1))), (.int .i64 (W64 (j353 + (W64 (1 + (W64 (Int.tdiv (W64 ((W64 (x224.Clock.Drift * j353)) + 999)) 1000))))))), (.int .i64 3), (.int .i64 s246.2)] : List Value).toArray 103 (0, 0)), (some b277, (.cells #[(.int .i64 s201.2), (.int .i64 (W64 (s246.2 + 1)))] 27 (0, 0))), (some b272, (.cells #[(.int .i64 s201.2), (.int .i64 s246.2)] 27 (0, 0))), (some b238, (.cells #[(.int .i64 x224.Clock.Slip), (.int .i64 x224.Clock.Drift), (.slice ae236_2 x224.Clock.Jumps.length ne236_2), (.slice ae236_3 x224.Times.length ne236_3)] 54 (0, 0))), e409, (some b1, (.cells #[(.slice (some ⟨b228, o229, none⟩) x0.Tracks.length n0_0), (.slice a0_1 x0.Ties.length n0_1), (.int .i64 x0.Window)] 25 (0, 0)))]) hr412 => ?_)
         refine V 3 57 (ma 158 (.slice a407 r404.length n408)) ?_
         refine RWP.nil ?_
         refine blockQ_nrm ?_
         refine thenQ_nrm ?_
         refine Rg [0, 1, 2] ?_
         refine V 89 3 (mv 10 (.int .i64 s246.2) e359) ?_
         refine V 90 3 (run_add (t := 3) (t' := 3) (x := (.tmp 89)) (y := (.const (.int .i64 1))) (k := .i64) (a := s246.2) (b := 1) rfl rfl) ?_
         refine V 10 3 (ma 90 (.int .i64 (W64 (s246.2 + 1)))) ?_
         refine RWP.nil ?_
         have hs413 : HS w0 F0 w410 F15 [(some b385, .cells ([(.int .i64 s201.2), (.int .i64 s246.2), (.int .i64 s201.2), (.int .i64 (W64 (s246.2 + 1))), (.int .i64 (W64 (j353 + (W64 (1 + (W64 (Int.tdiv (W64 ((W64 (x224.Clock.Drift * j353)) + 999)) 1000))))))), (.int .i64 3), (.int .i64 s246.2)] : List Value).toArray 103 (0, 0)), (some b277, (.cells #[(.int .i64 s201.2), (.int .i64 (W64 (s246.2 + 1)))] 27 (0, 0))), (some b272, (.cells #[(.int .i64 s201.2), (.int .i64 s246.2)] 27 (0, 0))), (some b238, (.cells #[(.int .i64 x224.Clock.Slip), (.int .i64 x224.Clock.Drift), (.slice ae236_2 x224.Clock.Jumps.length ne236_2), (.slice ae236_3 x224.Times.length ne236_3)] 54 (0, 0))), e409, (some b1, (.cells #[(.slice (some ⟨b228, o229, none⟩) x0.Tracks.length n0_0), (.slice a0_1 x0.Ties.length n0_1), (.int .i64 x0.Window)] 25 (0, 0)))] := hs411.drop 0
         have hs414 : HS w0 F0 w410 F15 [(some b277, (.cells #[(.int .i64 s201.2), (.int .i64 (W64 (s246.2 + 1)))] 27 (0, 0))), (some b272, (.cells #[(.int .i64 s201.2), (.int .i64 s246.2)] 27 (0, 0))), (some b238, (.cells #[(.int .i64 x224.Clock.Slip), (.int .i64 x224.Clock.Drift), (.slice ae236_2 x224.Clock.Jumps.length ne236_2), (.slice ae236_3 x224.Times.length ne236_3)] 54 (0, 0))), e409, (some b1, (.cells #[(.slice (some ⟨b228, o229, none⟩) x0.Tracks.length n0_0), (.slice a0_1 x0.Ties.length n0_1), (.int .i64 x0.Window)] 25 (0, 0)))] := hs413.drop 0
         have hs415 : HS w0 F0 w410 F15 [(some b272, (.cells #[(.int .i64 s201.2), (.int .i64 s246.2)] 27 (0, 0))), (some b238, (.cells #[(.int .i64 x224.Clock.Slip), (.int .i64 x224.Clock.Drift), (.slice ae236_2 x224.Clock.Jumps.length ne236_2), (.slice ae236_3 x224.Times.length ne236_3)] 54 (0, 0))), e409, (some b1, (.cells #[(.slice (some ⟨b228, o229, none⟩) x0.Tracks.length n0_0), (.slice a0_1 x0.Ties.length n0_1), (.int .i64 x0.Window)] 25 (0, 0)))] := hs414.drop 0
         have hs416 : HS w0 F0 w410 F15 [(some b238, (.cells #[(.int .i64 x224.Clock.Slip), (.int .i64 x224.Clock.Drift), (.slice ae236_2 x224.Clock.Jumps.length ne236_2), (.slice ae236_3 x224.Times.length ne236_3)] 54 (0, 0))), e409, (some b1, (.cells #[(.slice (some ⟨b228, o229, none⟩) x0.Tracks.length n0_0), (.slice a0_1 x0.Ties.length n0_1), (.int .i64 x0.Window)] 25 (0, 0)))] := hs415.drop 0
         have hn417 := iter_next h406 hnx269
         exact ⟨m266, Nat.lt_succ_self _, (r404, (W64 (s246.2 + 1))), F15, a407, n408, e409, hn417, hs416, ((le249.trans le300).trans le352), e354, e355, rfl, e357, e358, rfl, hr412⟩
     ·have h418 := cond_f hb268 hb270
      refine CWP.exit (by kernel_rfl) ?_
      refine thenQ_ex ?_
      refine thenQ_ex ?_
      refine blockQ_hit rfl ?_
      have hs419 : HS w0 F0 w247 F11 [es246_0, (some b1, (.cells #[(.slice (some ⟨b228, o229, none⟩) x0.Tracks.length n0_0), (.slice a0_1 x0.Ties.length n0_1), (.int .i64 x0.Window)] 25 (0, 0)))] := hs248.drop 0
      have ho420 := iter_done h418 hnx269
      exact .inl ⟨rfl, (s246.1, s246.2), F11, as246_0, ns246_0, es246_0, ho420, hs419, le249, e250, e251, e252, e253, hrs246_0⟩
    ·rintro f w257 ⟨s256, F12, as256_0, ns256_0, es256_0, rfl, hs258, le259, e260, e261, e262, e263, hrs256_0⟩
     have h421 := k_done h245
     refine blockQ_nrm ?_
     refine thenQ_nrm ?_
     refine Rg [0, 1, 2] ?_
     refine V 76 3 (mv 8 (.int .i64 s201.2) e263) ?_
     refine V 77 3 (run_add (t := 3) (t' := 3) (x := (.tmp 76)) (y := (.const (.int .i64 1))) (k := .i64) (a := s201.2) (b := 1) rfl rfl) ?_
     refine V 8 3 (ma 77 (.int .i64 (W64 (s201.2 + 1)))) ?_
     refine RWP.nil ?_
     have hn422 := iter_next h421 hnx221
     exact ⟨m218, Nat.lt_succ_self _, (s256.1, (W64 (s201.2 + 1))), F12, as256_0, ns256_0, es256_0, hn422, hs258, (le204.trans le259), e260, e261, e262, rfl, hrs256_0⟩
   ·have h423 := cond_f hb220 hb222
    refine CWP.exit (by kernel_rfl) ?_
    refine thenQ_ex ?_
    refine thenQ_ex ?_
    refine blockQ_hit rfl ?_
    have ho424 := iter_done h423 hnx221
    exact .inl ⟨rfl, (s201.1, s201.2), F9, as201_0, ns201_0, es201_0, ho424, hs203, le204, e205, e206, e207, hrs201_0⟩
  ·rintro f w210 ⟨s209, F10, as209_0, ns209_0, es209_0, rfl, hs211, le212, e213, e214, e215, hrs209_0⟩
   have h425 := k_done h200
   refine thenQ_nrm ?_
   refine Sq ?_
   refine Sq (Rg [0] ?_)
   refine V 15 3 (mc (.int .i64 0) (.int .i64 0)) ?_
   refine Nt ?_
   obtain ⟨o426, ho427, h428⟩ := bind_some h425
   refine CWP.cut (fun f w => ∃ (s437 : (List Bound × Int)) (F17 : Mem) (as437_0 : Option Addr) (ns437_0 : Nat) (es437_0 : Option Nat × Obj), o426 = .done s437 ∧ HS w0 F0 w F17 [es437_0] ∧ Mem.le F10 F17 ∧ f.d = [] ∧ f 3 = (.slice as437_0 s437.1.length ns437_0) ∧ RowR tBound 103 F17 as437_0 ns437_0 s437.1 es437_0) ?_ ?_
   ·refine Bk ?_
    refine CWP.loop (by kernel_rfl) (fun m f w => ∃ (s429 : (List Bound × Int)) (F16 : Mem) (as429_0 : Option Addr) (ns429_0 : Nat) (es429_0 : Option Nat × Obj), iter (ref03_bounds_L4 N x0 s17 s209) m s429 = some o426 ∧ HS w0 F0 w F16 [es429_0, (some b1, (.cells #[(.slice a0_0 x0.Tracks.length n0_0), (.slice a0_1 x0.Ties.length n0_1), (.int .i64 x0.Window)] 25 (0, 0)))] ∧ Mem.le F10 F16 ∧ f.d = [] ∧ f 1 = (.pointer (some ⟨b1, 0, none⟩)) ∧ f 3 = (.slice as429_0 s429.1.length ns429_0) ∧ f 15 = (.int .i64 s429.2) ∧ RowR tBound 103 F16 as429_0 ns429_0 s429.1 es429_0) N ⟨(s209.1, 0), F10, as209_0, ns209_0, es209_0, ho427, hs211, (Mem.le.refl _), e213, e214, e215, rfl, hrs209_0⟩ ?_
    rintro m443 f w430 ⟨s429, F16, as429_0, ns429_0, es429_0, hit444, hs431, le432, e433, e434, e435, e436, hrs429_0⟩
    obtain ⟨m445, fl446, rfl, hb447, hnx448⟩ := iter_step hit444
    refine Sq ?_
    refine Sq (Rg [0, 1, 2, 3, 4] ?_)
    refine V 159 3 (mv 15 (.int .i64 s429.2) e436) ?_
    refine V 160 0 (fa 25 1 1 1 1 b1 0 1 e434) ?_
    refine V 161 23 (ld 23 160 b1 1 false 1 (.slice a0_1 x0.Ties.length n0_1) (hs431.ownAt (k := 1) rfl)) ?_
    refine V 162 3 (ln 161 23 a0_1 x0.Ties.length n0_1 46 4 32) ?_
    refine V 163 4 (run_lss (t := 3) (t' := 3) (x := (.tmp 159)) (y := (.tmp 162)) (k := .i64) (a := s429.2) (b := (x0.Ties.length : Int)) rfl rfl) ?_
    refine Nt ?_
    refine CWP.cond (t := (decide (s429.2 < (x0.Ties.length : Int)))) (by kernel_rfl) rfl (fun hb449 => ?_) (fun hb449 => ?_)
    ·have h450 := cond_t hb447 hb449
     refine Sc ?_
     refine thenQ_nrm ?_
     refine Sq ?_
     refine Bk ?_
     refine Sq (Rg [0, 1, 2, 3, 4, 5, 6] ?_)
     refine V 166 0 (fa 25 1 1 1 1 b1 0 1 e434) ?_
     refine V 167 23 (ld 23 166 b1 1 false 1 (.slice a0_1 x0.Ties.length n0_1) (hs431.ownAt (k := 1) rfl)) ?_
     refine V 168 3 (mv 15 (.int .i64 s429.2) e436) ?_
     obtain ⟨x451, hx452, h454⟩ := bind_some h450
     obtain ⟨hi453, hx452'⟩ := idx_spec hx452
     obtain ⟨b455, o456, C457, E458, fz459, rfl, hF461, hE462⟩ := SlA.open (SlA.mono hs0_1 ((le20.trans le212).trans le432)) hx452'
     have hc464 := hE462 _ _ hx452'
     refine V 169 0 (ix 23 167 168 b455 o456 46 4 32 hi453) ?_
     refine V 170 46 (lx 46 169 0 4 true 4 (.agg #[(.int .i64 x451.A.Log), (.int .i64 x451.A.Line), (.int .i64 x451.B.Log), (.int .i64 x451.B.Line)]) (hs431.pers _ _ hF461) hc464) ?_
     refine Al 16 0 46 #[(.int .i64 0), (.int .i64 0), (.int .i64 0), (.int .i64 0)] hs431 (fun b465 w466 (hs467 : HS w0 F0 w466 F16 [(some b465, (.cells #[(.int .i64 0), (.int .i64 0), (.int .i64 0), (.int .i64 0)] 46 (0, 0))), es429_0, (some b1, (.cells #[(.slice a0_0 x0.Tracks.length n0_0), (.slice (some ⟨b455, o456, none⟩) x0.Ties.length n0_1), (.int .i64 x0.Window)] 25 (0, 0)))]) => ?_)
     refine RWP.store (ty := 0) (g := none) (by kernel_rfl) rfl (x := (.tmp 16)) (y := (.tmp 170)) (t := 46) (gg := true) (s := 4) (v := (.agg #[(.int .i64 x451.A.Log), (.int .i64 x451.A.Line), (.int .i64 x451.B.Log), (.int .i64 x451.B.Line)])) (b := b465) (o := 0) (C := #[(.int .i64 0), (.int .i64 0), (.int .i64 0), (.int .i64 0)]) rfl rfl (by kernel_rfl) hs467 (k := 0) rfl rfl rfl rfl (C' := #[(.int .i64 x451.A.Log), (.int .i64 x451.A.Line), (.int .i64 x451.B.Log), (.int .i64 x451.B.Line)]) rfl (fun w468 (hs469 : HS w0 F0 w468 F16 [(some b465, (.cells #[(.int .i64 x451.A.Log), (.int .i64 x451.A.Line), (.int .i64 x451.B.Log), (.int .i64 x451.B.Line)] 46 (0, 0))), es429_0, (some b1, (.cells #[(.slice a0_0 x0.Tracks.length n0_0), (.slice (some ⟨b455, o456, none⟩) x0.Ties.length n0_1), (.int .i64 x0.Window)] 25 (0, 0)))]) => ?_)
     refine Nss (Rg [0, 1, 2, 3, 4, 5, 6, 7, 8, 9, 10, 11] ?_)
     refine V 171 57 (mv 3 (.slice as429_0 s429.1.length ns429_0) e435) ?_
     refine V 172 0 (fa 46 16 0 0 2 b465 0 0) ?_
     refine V 173 27 (ld 27 172 b465 0 true 2 (.agg #[(.int .i64 x451.A.Log), (.int .i64 x451.A.Line)]) (hs469.ownAt (k := 0) rfl)) ?_
     refine V 174 0 (fa 46 16 1 2 2 b465 0 2) ?_
     refine V 175 27 (ld 27 174 b465 2 true 2 (.agg #[(.int .i64 x451.B.Log), (.int .i64 x451.B.Line)]) (hs469.ownAt (k := 0) rfl)) ?_
     refine V 176 0 (fa 25 1 2 2 1 b1 0 2 e434) ?_
     refine V 177 3 (ld 3 176 b1 2 false 1 (.int .i64 x0.Window) (hs469.ownAt (k := 2) rfl)) ?_
     refine V 178 3 (mv 15 (.int .i64 s429.2) e436) ?_
     refine V 179 103 (run_build2 (t := 103) (parts := #[(0, (.tmp 173)), (1, (.tmp 175)), (2, (.tmp 177)), (3, (.const (.int .i64 4))), (4, (.tmp 178))]) (vs := [(0, (.agg #[(.int .i64 x451.A.Log), (.int .i64 x451.A.Line)])), (1, (.agg #[(.int .i64 x451.B.Log), (.int .i64 x451.B.Line)])), (2, (.int .i64 x0.Window)), (3, (.int .i64 4)), (4, (.int .i64 s429.2))]) (rfl) (cs := [(.int .i64 x451.A.Log), (.int .i64 x451.A.Line), (.int .i64 x451.B.Log), (.int .i64 x451.B.Line), (.int .i64 x0.Window), (.int .i64 4), (.int .i64 s429.2)]) (by kernel_rfl)) ?_
     refine RWP.buildSlice (dst := (some 180)) (ty := 57) (g := none) (by kernel_rfl) rfl (t := 57) (len := 1) (parts := #[(0, (.tmp 179))]) (vs := [(0, (.agg #[(.int .i64 x451.A.Log), (.int .i64 x451.A.Line), (.int .i64 x451.B.Log), (.int .i64 x451.B.Line), (.int .i64 x0.Window), (.int .i64 4), (.int .i64 s429.2)]))]) (rfl) (E := 103) (cs := [(.int .i64 x451.A.Log), (.int .i64 x451.A.Line), (.int .i64 x451.B.Log), (.int .i64 x451.B.Line), (.int .i64 x0.Window), (.int .i64 4), (.int .i64 s429.2)]) (by kernel_rfl) hs469 (fun b470 w471 (hs472 : HS w0 F0 w471 F16 [(some b470, .cells ([(.int .i64 x451.A.Log), (.int .i64 x451.A.Line), (.int .i64 x451.B.Log), (.int .i64 x451.B.Line), (.int .i64 x0.Window), (.int .i64 4), (.int .i64 s429.2)] : List Value).toArray 103 (0, 0)), (some b465, (.cells #[(.int .i64 x451.A.Log), (.int .i64 x451.A.Line), (.int .i64 x451.B.Log), (.int .i64 x451.B.Line)] 46 (0, 0))), es429_0, (some b1, (.cells #[(.slice a0_0 x0.Tracks.length n0_0), (.slice (some ⟨b455, o456, none⟩) x0.Ties.length n0_1), (.int .i64 x0.Window)] 25 (0, 0)))]) => ?_)
     have hr474 : RowR tBound 103 F16 (some ⟨b470, 0, none⟩) 1 [({ From := x451.A, To := x451.B, Most := x0.Window, Kind := 4, ID := s429.2 } : Bound)] (some b470, .cells ([(.int .i64 x451.A.Log), (.int .i64 x451.A.Line), (.int .i64 x451.B.Log), (.int .i64 x451.B.Line), (.int .i64 x0.Window), (.int .i64 4), (.int .i64 s429.2)] : List Value).toArray 103 (0, 0)) := RowR.lit ⟨rfl, rfl⟩ (by simp)
     obtain ⟨r475, hap476, h477⟩ := bind_some h454
     refine RWP.append (dst := (some 181)) (ty := 57) (g := none) (by kernel_rfl) rfl (x := (.tmp 171)) (y := (.tmp 180)) (t := 57) (t2 := 57) (by_ := 56) (z := (.agg #[(.int .i64 0), (.int .i64 0), (.int .i64 0), (.int .i64 0), (.int .i64 0), (.int .i64 0), (.int .i64 0)])) (a2 := (some ⟨b470, 0, none⟩)) (c2 := 1) (m := [({ From := x451.A, To := x451.B, Most := x0.Window, Kind := 4, ID := s429.2 } : Bound)]) (T := tBound) (E := 103) (a := as429_0) (cap := ns429_0) (l := s429.1) rfl rfl (by kernel_rfl) (by decide) (by kernel_rfl) (by kernel_rfl) rfl oBound hs472 (k := 2) rfl hrs429_0 (RowR.rd hs472 (k := 0) rfl hr474) (r := r475) hap476 (fun a478 n479 e480 w481 (hs482 : HS w0 F0 w481 F16 [(some b470, .cells ([(.int .i64 x451.A.Log), (.int .i64 x451.A.Line), (.int .i64 x451.B.Log), (.int .i64 x451.B.Line), (.int .i64 x0.Window), (.int .i64 4), (.int .i64 s429.2)] : List Value).toArray 103 (0, 0)), (some b465, (.cells #[(.int .i64 x451.A.Log), (.int .i64 x451.A.Line), (.int .i64 x451.B.Log), (.int .i64 x451.B.Line)] 46 (0, 0))), e480, (some b1, (.cells #[(.slice a0_0 x0.Tracks.length n0_0), (.slice (some ⟨b455, o456, none⟩) x0.Ties.length n0_1), (.int .i64 x0.Window)] 25 (0, 0)))]) hr483 => ?_)
     refine V 3 57 (ma 181 (.slice a478 r475.length n479)) ?_
     refine Nt ?_
     refine Rg [0, 1, 2, 3, 4, 5, 6, 7, 8, 9, 10, 11] ?_
     refine V 182 57 (mv 3 (.slice a478 r475.length n479)) ?_
     refine V 183 0 (fa 46 16 1 2 2 b465 0 2) ?_
     refine V 184 27 (ld 27 183 b465 2 true 2 (.agg #[(.int .i64 x451.B.Log), (.int .i64 x451.B.Line)]) (hs482.ownAt (k := 1) rfl)) ?_
     refine V 185 0 (fa 46 16 0 0 2 b465 0 0) ?_
     refine V 186 27 (ld 27 185 b465 0 true 2 (.agg #[(.int .i64 x451.A.Log), (.int .i64 x451.A.Line)]) (hs482.ownAt (k := 1) rfl)) ?_
     refine V 187 0 (fa 25 1 2 2 1 b1 0 2 e434) ?_
     refine V 188 3 (ld 3 187 b1 2 false 1 (.int .i64 x0.Window) (hs482.ownAt (k := 3) rfl)) ?_
     refine V 189 3 (mv 15 (.int .i64 s429.2) e436) ?_
     refine V 190 103 (run_build2 (t := 103) (parts := #[(0, (.tmp 184)), (1, (.tmp 186)), (2, (.tmp 188)), (3, (.const (.int .i64 4))), (4, (.tmp 189))]) (vs := [(0, (.agg #[(.int .i64 x451.B.Log), (.int .i64 x451.B.Line)])), (1, (.agg #[(.int .i64 x451.A.Log), (.int .i64 x451.A.Line)])), (2, (.int .i64 x0.Window)), (3, (.int .i64 4)), (4, (.int .i64 s429.2))]) (rfl) (cs := [(.int .i64 x451.B.Log), (.int .i64 x451.B.Line), (.int .i64 x451.A.Log), (.int .i64 x451.A.Line), (.int .i64 x0.Window), (.int .i64 4), (.int .i64 s429.2)]) (by kernel_rfl)) ?_
     refine RWP.buildSlice (dst := (some 191)) (ty := 57) (g := none) (by kernel_rfl) rfl (t := 57) (len := 1) (parts := #[(0, (.tmp 190))]) (vs := [(0, (.agg #[(.int .i64 x451.B.Log), (.int .i64 x451.B.Line), (.int .i64 x451.A.Log), (.int .i64 x451.A.Line), (.int .i64 x0.Window), (.int .i64 4), (.int .i64 s429.2)]))]) (rfl) (E := 103) (cs := [(.int .i64 x451.B.Log), (.int .i64 x451.B.Line), (.int .i64 x451.A.Log), (.int .i64 x451.A.Line), (.int .i64 x0.Window), (.int .i64 4), (.int .i64 s429.2)]) (by kernel_rfl) hs482 (fun b484 w485 (hs486 : HS w0 F0 w485 F16 [(some b484, .cells ([(.int .i64 x451.B.Log), (.int .i64 x451.B.Line), (.int .i64 x451.A.Log), (.int .i64 x451.A.Line), (.int .i64 x0.Window), (.int .i64 4), (.int .i64 s429.2)] : List Value).toArray 103 (0, 0)), (some b470, .cells ([(.int .i64 x451.A.Log), (.int .i64 x451.A.Line), (.int .i64 x451.B.Log), (.int .i64 x451.B.Line), (.int .i64 x0.Window), (.int .i64 4), (.int .i64 s429.2)] : List Value).toArray 103 (0, 0)), (some b465, (.cells #[(.int .i64 x451.A.Log), (.int .i64 x451.A.Line), (.int .i64 x451.B.Log), (.int .i64 x451.B.Line)] 46 (0, 0))), e480, (some b1, (.cells #[(.slice a0_0 x0.Tracks.length n0_0), (.slice (some ⟨b455, o456, none⟩) x0.Ties.length n0_1), (.int .i64 x0.Window)] 25 (0, 0)))]) => ?_)
     have hr488 : RowR tBound 103 F16 (some ⟨b484, 0, none⟩) 1 [({ From := x451.B, To := x451.A, Most := x0.Window, Kind := 4, ID := s429.2 } : Bound)] (some b484, .cells ([(.int .i64 x451.B.Log), (.int .i64 x451.B.Line), (.int .i64 x451.A.Log), (.int .i64 x451.A.Line), (.int .i64 x0.Window), (.int .i64 4), (.int .i64 s429.2)] : List Value).toArray 103 (0, 0)) := RowR.lit ⟨rfl, rfl⟩ (by simp)
     obtain ⟨r489, hap490, h491⟩ := bind_some h477
     refine RWP.append (dst := (some 192)) (ty := 57) (g := none) (by kernel_rfl) rfl (x := (.tmp 182)) (y := (.tmp 191)) (t := 57) (t2 := 57) (by_ := 56) (z := (.agg #[(.int .i64 0), (.int .i64 0), (.int .i64 0), (.int .i64 0), (.int .i64 0), (.int .i64 0), (.int .i64 0)])) (a2 := (some ⟨b484, 0, none⟩)) (c2 := 1) (m := [({ From := x451.B, To := x451.A, Most := x0.Window, Kind := 4, ID := s429.2 } : Bound)]) (T := tBound) (E := 103) (a := a478) (cap := n479) (l := r475) rfl rfl (by kernel_rfl) (by decide) (by kernel_rfl) (by kernel_rfl) rfl oBound hs486 (k := 3) rfl hr483 (RowR.rd hs486 (k := 0) rfl hr488) (r := r489) hap490 (fun a492 n493 e494 w495 (hs496 : HS w0 F0 w495 F16 [(some b484, .cells ([(.int .i64 x451.B.Log), (.int .i64 x451.B.Line), (.int .i64 x451.A.Log), (.int .i64 x451.A.Line), (.int .i64 x0.Window), (.int .i64 4), (.int .i64 s429.2)] : List Value).toArray 103 (0, 0)), (some b470, .cells ([(.int .i64 x451.A.Log), (.int .i64 x451.A.Line), (.int .i64 x451.B.Log), (.int .i64 x451.B.Line), (.int .i64 x0.Window), (.int .i64 4), (.int .i64 s429.2)] : List Value).toArray 103 (0, 0)), (some b465, (.cells #[(.int .i64 x451.A.Log), (.int .i64 x451.A.Line), (.int .i64 x451.B.Log), (.int .i64 x451.B.Line)] 46 (0, 0))), e494, (some b1, (.cells #[(.slice a0_0 x0.Tracks.length n0_0), (.slice (some ⟨b455, o456, none⟩) x0.Ties.length n0_1), (.int .i64 x0.Window)] 25 (0, 0)))]) hr497 => ?_)
     refine V 3 57 (ma 192 (.slice a492 r489.length n493)) ?_
     refine RWP.nil ?_
     refine blockQ_nrm ?_
     refine thenQ_nrm ?_
     refine Rg [0, 1, 2] ?_
     refine V 164 3 (mv 15 (.int .i64 s429.2) e436) ?_
     refine V 165 3 (run_add (t := 3) (t' := 3) (x := (.tmp 164)) (y := (.const (.int .i64 1))) (k := .i64) (a := s429.2) (b := 1) rfl rfl) ?_
     refine V 15 3 (ma 165 (.int .i64 (W64 (s429.2 + 1)))) ?_
     refine RWP.nil ?_
     have hs498 : HS w0 F0 w495 F16 [(some b470, .cells ([(.int .i64 x451.A.Log), (.int .i64 x451.A.Line), (.int .i64 x451.B.Log), (.int .i64 x451.B.Line), (.int .i64 x0.Window), (.int .i64 4), (.int .i64 s429.2)] : List Value).toArray 103 (0, 0)), (some b465, (.cells #[(.int .i64 x451.A.Log), (.int .i64 x451.A.Line), (.int .i64 x451.B.Log), (.int .i64 x451.B.Line)] 46 (0, 0))), e494, (some b1, (.cells #[(.slice a0_0 x0.Tracks.length n0_0), (.slice (some ⟨b455, o456, none⟩) x0.Ties.length n0_1), (.int .i64 x0.Window)] 25 (0, 0)))] := hs496.drop 0
     have hs499 : HS w0 F0 w495 F16 [(some b465, (.cells #[(.int .i64 x451.A.Log), (.int .i64 x451.A.Line), (.int .i64 x451.B.Log), (.int .i64 x451.B.Line)] 46 (0, 0))), e494, (some b1, (.cells #[(.slice a0_0 x0.Tracks.length n0_0), (.slice (some ⟨b455, o456, none⟩) x0.Ties.length n0_1), (.int .i64 x0.Window)] 25 (0, 0)))] := hs498.drop 0
     have hs500 : HS w0 F0 w495 F16 [e494, (some b1, (.cells #[(.slice a0_0 x0.Tracks.length n0_0), (.slice (some ⟨b455, o456, none⟩) x0.Ties.length n0_1), (.int .i64 x0.Window)] 25 (0, 0)))] := hs499.drop 0
     have hn501 := iter_next h491 hnx448
     exact ⟨m445, Nat.lt_succ_self _, (r489, (W64 (s429.2 + 1))), F16, a492, n493, e494, hn501, hs500, le432, e433, e434, rfl, rfl, hr497⟩
    ·have h502 := cond_f hb447 hb449
     refine CWP.exit (by kernel_rfl) ?_
     refine thenQ_ex ?_
     refine thenQ_ex ?_
     refine blockQ_hit rfl ?_
     have hs503 : HS w0 F0 w430 F16 [es429_0] := hs431.drop 1
     have ho504 := iter_done h502 hnx448
     exact .inl ⟨rfl, (s429.1, s429.2), F16, as429_0, ns429_0, es429_0, ho504, hs503, le432, e433, e435, hrs429_0⟩
   ·rintro f w438 ⟨s437, F17, as437_0, ns437_0, es437_0, rfl, hs439, le440, e441, e442, hrs437_0⟩
    have h505 := k_done h428
    refine thenQ_nrm ?_
    refine Sq (Rg [0, 1] ?_)
    refine V 193 57 (mv 3 (.slice as437_0 s437.1.length ns437_0) e442) ?_
    refine V 2 57 (ma 193 (.slice as437_0 s437.1.length ns437_0)) ?_
    refine Nt ?_
    refine CWP.ret (by kernel_rfl) ?_
    have hb509 := RowR.bound hrs437_0
    obtain ⟨F18, hs506, le507, hs508⟩ : ∃ Fq, HS w0 F0 w438 Fq [] ∧ Mem.le F17 Fq ∧ SlA tBound Fq as437_0 s437.1 := HS.freezeRow hs439 (k := 0) rfl hrs437_0
    have hfin := some_inj h505
    subst hfin
    exact ⟨e441, (.slice as437_0 s437.1.length ns437_0), res_of (l := [.tmp 2]) (by kernel_rfl) (vs := [(.slice as437_0 s437.1.length ns437_0)]) ⟨rfl, trivial⟩, (.slice as437_0 s437.1.length ns437_0), F18, rfl, hs506.clear, ⟨as437_0, ns437_0, rfl, hb509, hs508⟩⟩
end Go.Proofs.Ythbcnabeabcmlaa
namespace Go.Proofs.Ythbcnabeabcmlaa
open Go.Proofs
def ref03_Bounds (N : Nat) (x0 : System) : Option ((List Bound) × Int) :=
 ((ref03_Check N x0).bind fun r4 => (bif (r4 != 0) then some (([] : List Bound), r4) else ((ref03_bounds N x0).bind fun r15 => some (r15, 0))))
theorem co_ref03_Bounds : CallOk Try.prog 35 := fun _ _ => by kernel_rfl
set_option maxHeartbeats 4000000 in
set_option maxRecDepth 100000 in
theorem c_ref03_Bounds (N : Nat) (w0 : World) (F0 : Mem) (hF : ∀ b o, F0 b = some o → w0.heap[b]? = some o) (x0 : System) (a0_0 : Option Addr) (n0_0 : Nat) (hb0_0 : LC x0.Tracks.length n0_0) (hs0_0 : SlA tTrack F0 a0_0 x0.Tracks) (a0_1 : Option Addr) (n0_1 : Nat) (hb0_1 : LC x0.Ties.length n0_1) (hs0_1 : SlA tTie F0 a0_1 x0.Ties) (r : ((List Bound) × Int)) (h : ref03_Bounds N x0 = some r) :
  Calls Try.prog 35 ([(.agg #[(.slice a0_0 x0.Tracks.length n0_0), (.slice a0_1 x0.Ties.length n0_1), (.int .i64 x0.Window)])] : List Value).toArray w0 (FRet w0 F0 fun F' v => ∃ (aq0_0 : Option Addr) (nq0_0 : Nat), v = (.tuple #[(.slice aq0_0 r.1.length nq0_0), (.int .i64 r.2)]) ∧ LC r.1.length nq0_0 ∧ SlA tBound F' aq0_0 r.1) := by
 have hs0 := HS.start hF
 refine calls_of (n := 12) (c := bodyOf Try.f35) Try.func35 (by kernel_rfl) (by kernel_rfl) (by kernel_rfl) ?_
 refine Sq (Rg [0, 1, 2] ?_)
 refine Bx 1 0 0 25 #[(.slice a0_0 x0.Tracks.length n0_0), (.slice a0_1 x0.Ties.length n0_1), (.int .i64 x0.Window)] hs0 (fun b1 w2 (hs3 : HS w0 F0 w2 F0 [(some b1, (.cells #[(.slice a0_0 x0.Tracks.length n0_0), (.slice a0_1 x0.Ties.length n0_1), (.int .i64 x0.Window)] 25 (0, 0)))]) => ?_)
 refine V 2 57 (mc (.slice none 0 0) (.slice none ([] : List Bound).length 0)) ?_
 refine V 3 30 (mc (.int .i64 0) (.int .i64 0)) ?_
 refine Nss (Rg [0, 1, 2] ?_)
 refine V 5 25 (ld 25 1 b1 0 true 3 (.agg #[(.slice a0_0 x0.Tracks.length n0_0), (.slice a0_1 x0.Ties.length n0_1), (.int .i64 x0.Window)]) (hs3.ownAt (k := 0) rfl)) ?_
 obtain ⟨r4, hr5, h6⟩ := bind_some h
 refine Cl 6 30 40 #[(.tmp 5)] #[25] co_ref03_Check hs3 (c_ref03_Check N w2 F0 hs3.pers (x0) a0_0 n0_0 hb0_0 hs0_0 a0_1 n0_1 hb0_1 hs0_1 _ hr5) ?_
 intro v7 F1 w8 hs9 le10 hp11
 obtain rfl := hp11
 refine V 4 30 (ma 6 (.int .i64 r4)) ?_
 refine Nss ?_
 refine Sq (Rg [0, 1] ?_)
 refine V 7 30 (mv 4 (.int .i64 r4)) ?_
 refine V 8 4 (run_neq (t := 30) (t' := 30) (x := (.tmp 7)) (y := (.const (.int .i64 0))) (k := .i64) (a := r4) (b := 0) rfl rfl) ?_
 refine Nt ?_
 refine CWP.cond (t := (r4 != 0)) (by kernel_rfl) rfl (fun hb12 => ?_) (fun hb12 => ?_)
 ·have h13 := cond_t h6 hb12
  refine Sq (Rg [0, 1, 2] ?_)
  refine V 9 30 (mv 4 (.int .i64 r4)) ?_
  refine V 2 57 (mc (.slice none 0 0) (.slice none ([] : List Bound).length 0)) ?_
  refine V 3 30 (ma 9 (.int .i64 r4)) ?_
  refine Nt ?_
  refine CWP.ret (by kernel_rfl) ?_
  refine thenQ_ret ?_
  have hfin := some_inj h13
  subst hfin
  exact ⟨rfl, (.tuple #[(.slice none ([] : List Bound).length 0), (.int .i64 r4)]), res_of (l := [.tmp 2, .tmp 3]) (by kernel_rfl) (vs := [(.slice none ([] : List Bound).length 0), (.int .i64 r4)]) ⟨rfl, ⟨rfl, trivial⟩⟩, (.tuple #[(.slice none ([] : List Bound).length 0), (.int .i64 r4)]), F1, rfl, hs9.clear, ⟨none, 0, rfl, LC.nil, (.inl rfl)⟩⟩
 ·have h14 := cond_f h6 hb12
  refine Sc ?_
  refine thenQ_nrm ?_
  refine Sq (Rg [0, 1, 2, 3] ?_)
  refine V 10 25 (ld 25 1 b1 0 true 3 (.agg #[(.slice a0_0 x0.Tracks.length n0_0), (.slice a0_1 x0.Ties.length n0_1), (.int .i64 x0.Window)]) (hs9.ownAt (k := 0) rfl)) ?_
  obtain ⟨r15, hr16, h17⟩ := bind_some h14
  refine Cl 11 57 84 #[(.tmp 10)] #[25] co_ref03_bounds hs9 (c_ref03_bounds N w8 F1 hs9.pers (x0) a0_0 n0_0 hb0_0 (SlA.mono hs0_0 le10) a0_1 n0_1 hb0_1 (SlA.mono hs0_1 le10) _ hr16) ?_
  intro v18 F2 w19 hs20 le21 hp22
  obtain ⟨ar15_0_0, nr15_0_0, rfl, hbr15_0_0, hsr15_0_0⟩ := hp22
  refine V 2 57 (ma 11 (.slice ar15_0_0 r15.length nr15_0_0)) ?_
  refine V 3 30 (mc (.int .i64 0) (.int .i64 0)) ?_
  refine Nt ?_
  refine CWP.ret (by kernel_rfl) ?_
  have hfin := some_inj h17
  subst hfin
  exact ⟨rfl, (.tuple #[(.slice ar15_0_0 r15.length nr15_0_0), (.int .i64 0)]), res_of (l := [.tmp 2, .tmp 3]) (by kernel_rfl) (vs := [(.slice ar15_0_0 r15.length nr15_0_0), (.int .i64 0)]) ⟨rfl, ⟨rfl, trivial⟩⟩, (.tuple #[(.slice ar15_0_0 r15.length nr15_0_0), (.int .i64 0)]), F2, rfl, hs20.clear, ⟨ar15_0_0, nr15_0_0, rfl, hbr15_0_0, hsr15_0_0⟩⟩
end Go.Proofs.Ythbcnabeabcmlaa
namespace Go.Proofs.Ythbcnabeabcmlaa
/-! ### segments -/
def cnt (J : List Int) (m : Int) : Nat := J.countP fun a => decide (a ≤ m)
theorem sorted_of {l : List Int} (h : allB l.length (okO ltS l) = true) : ∀ (d p : Nat) (hq : p + d + 1 < l.length), l[p]'(by omega) < l[p + d + 1]
  | 0, p, hq => by
    have := allB_t h hq
    simp only [Nat.add_zero] at this hq ⊢
    simp only [okO, getD_at hq, getD_at (show p < l.length by omega), Bool.and_eq_true, ltS, decide_eq_true_eq] at this
    exact this.2
  | d + 1, p, hq => by
    have h1 := sorted_of h d p (by omega)
    have h2 := allB_t h hq
    simp only [okO, getD_at hq, getD_at (show p + (d + 1) < l.length by omega), Bool.and_eq_true, ltS, decide_eq_true_eq] at h2
    exact Int.lt_trans h1 h2.2
theorem sorted_lt {l : List Int} (h : allB l.length (okO ltS l) = true) {p q : Nat} (hpq : p < q) (hq : q < l.length) : l[p] < l[q] := by
  obtain ⟨d, rfl⟩ : ∃ d, q = p + d + 1 := ⟨q - p - 1, by omega⟩
  exact sorted_of h d p hq
theorem cnt_at {J : List Int} {m : Int} {k : Nat} (hk : k ≤ J.length) (h1 : ∀ q (hq : q < J.length), q < k → J[q] ≤ m) (h2 : ∀ q (hq : q < J.length), k ≤ q → m < J[q]) : cnt J m = k := by
  unfold cnt
  rw [← List.take_append_drop k J, List.countP_append]
  have e1 : (J.take k).countP (fun a => decide (a ≤ m)) = k := by
    rw [List.countP_eq_length.2]
    · simp [hk]
    · intro a ha
      obtain ⟨i, hi, rfl⟩ := List.getElem_of_mem ha
      simp only [List.length_take] at hi
      rw [List.getElem_take]
      simpa using h1 i (by omega) (by omega)
  have e2 : (J.drop k).countP (fun a => decide (a ≤ m)) = 0 := by
    rw [List.countP_eq_zero]
    intro a ha
    obtain ⟨i, hi, rfl⟩ := List.getElem_of_mem ha
    simp only [List.length_drop] at hi
    rw [List.getElem_drop]
    have := h2 (k + i) (by omega) (by omega)
    simp; omega
  rw [e1, e2]; rfl
theorem mid_eq {i j : Nat} (h : i + j < 4611686018427387904) : W64 (Int.fdiv (IntKind.u64.wrap (W64 ((i : Int) + (j : Int)))) (2 ^ min (1 : Int).toNat IntKind.u64.bits)) = (((i + j) / 2 : Nat) : Int) := by
  have e1 : W64 ((i : Int) + (j : Int)) = ((i + j : Nat) : Int) := by rw [W64_id (by omega) (by omega)]; simp
  have e2 : IntKind.u64.wrap ((i + j : Nat) : Int) = ((i + j : Nat) : Int) := by
    unfold IntKind.wrap
    simp [IntKind.signed, IntKind.bits]
    omega
  have e3 : (2 ^ min (1 : Int).toNat IntKind.u64.bits : Int) = 2 := by decide
  rw [e1, e2, e3, Int.fdiv_eq_ediv_of_nonneg _ (by omega)]
  rw [W64_id (by omega) (by omega)]
  omega
theorem less_eq (N : Nat) (a b : Int) : cmp_Less_int N a b = some (decide (a < b)) := by
  unfold cmp_Less_int cmp_isNaN_int
  simp
theorem search_eq {N : Nat} {J : List Int} {t : Int} (hN : J.length < N) (hl : J.length ≤ 1000) (hs : allB J.length (okO ltS J) = true) :
    ∃ k b, k ≤ J.length ∧ slices_BinarySearch_int_int N J t = some ((k : Int), b) ∧ (∀ q (hq : q < J.length), q < k → J[q] < t) ∧ (∀ q (hq : q < J.length), k ≤ q → t ≤ J[q]) := by
  unfold slices_BinarySearch_int_int
  obtain ⟨o, ho, k, rfl, hk, h1, h2⟩ := iter_ex (body := slices_BinarySearch_int_int_L0 N J t) J.length
    (fun i s => ∃ lo hi : Nat, s = ((lo : Int), (hi : Int)) ∧ lo ≤ hi ∧ hi ≤ J.length ∧ hi - lo ≤ J.length - i ∧ (∀ q (hq : q < J.length), q < lo → J[q] < t) ∧ (∀ q (hq : q < J.length), hi ≤ q → t ≤ J[q]))
    (fun o => ∃ k : Nat, o = .done ((k : Int), (k : Int)) ∧ k ≤ J.length ∧ (∀ q (hq : q < J.length), q < k → J[q] < t) ∧ (∀ q (hq : q < J.length), k ≤ q → t ≤ J[q])) (by
      rintro i s hi ⟨lo, hi', rfl, hle, hhi, hd, h1, h2⟩
      unfold slices_BinarySearch_int_int_L0
      simp only
      by_cases hlt : lo < hi'
      · have hm : (lo + hi') / 2 < J.length := by omega
        simp only [lt_t hlt, cond_true, mid_eq (show lo + hi' < 4611686018427387904 by omega), idx_nat hm, Option.bind_some, less_eq]
        by_cases hc : J[(lo + hi') / 2] < t
        · left
          simp only [hc, decide_true, cond_true]
          rw [W64_succ (by omega)]
          refine ⟨_, rfl, ⟨(lo + hi') / 2 + 1, hi', rfl, by omega, hhi, by omega, fun q hq hql => ?_, h2⟩, by omega⟩
          by_cases hqm : q = (lo + hi') / 2
          · subst hqm; exact hc
          · exact Int.lt_trans (sorted_lt hs (by omega) hm) hc
        · left
          simp only [hc, decide_false, cond_false]
          refine ⟨_, rfl, ⟨lo, (lo + hi') / 2, rfl, by omega, by omega, by omega, h1, fun q hq hql => ?_⟩, by omega⟩
          by_cases hqm : q = (lo + hi') / 2
          · subst hqm; omega
          · have := sorted_lt hs (show (lo + hi') / 2 < q by omega) hq
            omega
      · right
        have : lo = hi' := by omega
        subst this
        simp only [lt_f, cond_false]
        exact ⟨_, rfl, fun _ h => (by cases h), lo, rfl, hhi, h1, h2⟩) J.length N 0 (0, (J.length : Int)) (by omega) ⟨0, J.length, rfl, by omega, by omega, by omega, fun q hq h => by omega, fun q hq h => by omega⟩ hN
  rw [ho]
  simp only [Option.bind_some, Flow.k]
  by_cases hkl : k < J.length
  · simp only [lt_t hkl, cond_true, idx_nat hkl, Option.bind_some]
    cases (J[k] == t) with
    | true => exact ⟨k, true, hk, by simp, h1, h2⟩
    | false => exact ⟨k, false, hk, by simp [slices_isNaN_int], h1, h2⟩
  · have : k = J.length := by omega
    refine ⟨k, false, hk, ?_, h1, h2⟩
    rw [this, lt_f]; rfl
theorem clock_facts {c : Clock} (h : vClock c = true) : allB c.Jumps.length (okO ltS c.Jumps) = true ∧ c.Jumps.length ≤ 16 ∧ 0 ≤ c.Slip ∧ c.Slip ≤ 1440 ∧ 0 ≤ c.Drift ∧ c.Drift ≤ 100 := by
  unfold vClock inr at h
  simp only [Bool.and_eq_true, decide_eq_true_eq] at h
  obtain ⟨h1, ⟨h2, h3⟩, ⟨h4, h5⟩, h6⟩ := h
  exact ⟨h1, by omega, h2, h3, h4, h5⟩
theorem segment_c {N : Nat} {c : Clock} {m : Int} (hN : c.Jumps.length < N) (hv : vClock c = true) (h0 : 0 ≤ m) (h1 : m ≤ 20000) : clocks_segment N c m = some ((cnt c.Jumps m : Nat) : Int) := by
  obtain ⟨hs, hl, _⟩ := clock_facts hv
  unfold clocks_segment
  rw [W64_id (by omega) (by omega)]
  obtain ⟨k, b, hk, h2, h3, h4⟩ := search_eq (t := m + 1) hN (by omega) hs
  rw [h2, cnt_at hk (fun q hq hqk => by have := h3 q hq hqk; omega) (fun q hq hqk => by have := h4 q hq hqk; omega)]
  rfl
theorem Segment_c {N : Nat} {c : Clock} {m : Int} (h : Fit N c.Jumps.length) : clocks_Segment N c m = some (bif vClock c && inr m 0 20000 then ((cnt c.Jumps m : Nat) : Int) else 0, bif vClock c && inr m 0 20000 then 0 else 1) := by
  unfold clocks_Segment
  rw [validClock_c h, within_c]
  cases hv : vClock c with
  | false => rfl
  | true =>
    cases hm : inr m 0 20000 with
    | false => rfl
    | true =>
      unfold inr at hm
      simp only [Bool.and_eq_true, decide_eq_true_eq] at hm
      simp only [Option.bind_some, Bool.not_true, cond_false, segment_c h.2 hv hm.1 hm.2, Bool.and_self, cond_true]
theorem Segment_r {N : Nat} {c : Clock} {m : Int} (h : Fit N c.Jumps.length) : ref03_Segment N c m = some (bif vClock c && inr m 0 20000 then ((cnt c.Jumps m : Nat) : Int) else 0, bif vClock c && inr m 0 20000 then 0 else 1) := by
  unfold ref03_Segment
  rw [validClock_r h, within_r]
  have h1 := h.1
  cases hv : vClock c with
  | false => rfl
  | true =>
    cases hm : inr m 0 20000 with
    | false => rfl
    | true =>
      simp only [Option.bind_some, Bool.not_true, cond_false, Bool.and_self, cond_true]
      obtain ⟨o, ho, rfl⟩ := iter_ex (body := ref03_Segment_L0 N c m false) c.Jumps.length (fun i s => s = ((((c.Jumps.take i).countP (fun a => decide (a ≤ m)) : Nat) : Int), (i : Int))) (fun o => o = .done (((cnt c.Jumps m : Nat) : Int), (c.Jumps.length : Int))) (by
        rintro i s hi rfl
        unfold ref03_Segment_L0
        simp only
        by_cases hlt : i < c.Jumps.length
        · left
          have hc := List.countP_le_length (p := fun a => decide (a ≤ m)) (l := c.Jumps.take i)
          simp only [List.length_take] at hc
          simp only [lt_t hlt, cond_true, idx_nat hlt, Option.bind_some]
          rw [W64_succ (by omega), W64_succ (by omega)]
          refine ⟨_, rfl, ?_, hlt⟩
          rw [List.take_succ_eq_append_getElem hlt, List.countP_append]
          by_cases ha : c.Jumps[i] ≤ m <;> simp [ha]
        · right
          have : i = c.Jumps.length := by omega
          subst this
          simp only [lt_f, cond_false, List.take_length]
          exact ⟨_, rfl, fun _ h => (by cases h), rfl⟩) c.Jumps.length N 0 (0, 0) (by omega) (by simp) h.2
      rw [ho]
      rfl
/-! ### jumps -/
def jmp (J : List Int) (a b : Int) : Bool := J.any fun x => decide (a < x) && decide (x ≤ b)
theorem cnt_split (J : List Int) {a b : Int} (h : a ≤ b) : cnt J b = cnt J a + J.countP fun x => decide (a < x) && decide (x ≤ b) := by
  unfold cnt
  induction J with
  | nil => rfl
  | cons x J ih =>
    rw [List.countP_cons, List.countP_cons, List.countP_cons, ih]
    by_cases h1 : x ≤ a
    · have : x ≤ b := by omega
      simp [h1, this, Int.not_lt.2 h1]; omega
    · by_cases h2 : x ≤ b
      · simp [h1, h2, Int.not_le.1 h1]; omega
      · simp [h1, h2]
theorem cnt_jmp (J : List Int) {a b : Int} (h : a ≤ b) : (((cnt J a : Nat) : Int) != ((cnt J b : Nat) : Int)) = jmp J a b := by
  rw [cnt_split J h]
  unfold jmp
  cases e : J.any (fun x => decide (a < x) && decide (x ≤ b)) with
  | true =>
    rw [List.any_eq_true] at e
    have := (List.countP_pos_iff (p := fun x => decide (a < x) && decide (x ≤ b)) (l := J)).2 e
    simp; omega
  | false =>
    rw [List.any_eq_false] at e
    have : J.countP (fun x => decide (a < x) && decide (x ≤ b)) = 0 := List.countP_eq_zero.2 e
    rw [this]; simp
theorem jumped_r {N : Nat} {c : Clock} (h : Fit N c.Jumps.length) (a b : Int) : ref03_jumped N c a b = some (jmp c.Jumps a b) := by
  unfold ref03_jumped
  have h1 := h.1
  rw [iter_check' (n := c.Jumps.length) (atB c.Jumps fun x => !(decide (a < x) && decide (x ≤ b))) true (fun i hi => by
    unfold ref03_jumped_L0
    rw [lt_t hi, cond_true, idx_nat hi, Option.bind_some, atB_at hi, W64_succ (by omega)]
    cases decide (a < c.Jumps[i]) with
    | false => rfl
    | true => simp only [cond_true, Option.bind_some, Bool.true_and]; cases decide (c.Jumps[i] ≤ b) <;> rfl) (by unfold ref03_jumped_L0; rw [lt_f]; rfl) h.2, ← all_allB]
  unfold jmp
  have : (c.Jumps.all fun x => !(decide (a < x) && decide (x ≤ b))) = !(c.Jumps.any fun x => decide (a < x) && decide (x ≤ b)) := by
    generalize c.Jumps = J
    induction J with
    | nil => rfl
    | cons x J ih => rw [List.all_cons, List.any_cons, ih, Bool.not_or]
  rw [this]
  cases (c.Jumps.any fun x => decide (a < x) && decide (x ≤ b)) <;> rfl
/-! ### bounds -/
def beg : Ref := { Log := -1, Line := 0 }
def slipB (i : Int) (t : Track) (j : Nat) : List Bound :=
  [{ From := beg, To := { Log := i, Line := (j : Int) }, Most := W64 (t.Times.getD j 0 + t.Clock.Slip), Kind := 1, ID := (j : Int) },
   { From := { Log := i, Line := (j : Int) }, To := beg, Most := W64 (t.Clock.Slip - t.Times.getD j 0), Kind := 1, ID := (j : Int) }]
def gapB (t : Track) (j : Nat) : Int := W64 (t.Times.getD (j + 1) 0 - t.Times.getD j 0)
def widB (t : Track) (j : Nat) : Int := W64 (1 + (W64 (Int.tdiv (W64 ((W64 (t.Clock.Drift * gapB t j)) + 999)) 1000)))
def ordB (i : Int) (t : Track) (j : Nat) : List Bound :=
  ({ From := { Log := i, Line := ((j + 1 : Nat) : Int) }, To := { Log := i, Line := (j : Int) }, Most := 0, Kind := 2, ID := (j : Int) } : Bound) ::
  (bif jmp t.Clock.Jumps (t.Times.getD j 0) (t.Times.getD (j + 1) 0) then [] else
    [{ From := { Log := i, Line := (j : Int) }, To := { Log := i, Line := ((j + 1 : Nat) : Int) }, Most := W64 (gapB t j + widB t j), Kind := 3, ID := (j : Int) },
     { From := { Log := i, Line := ((j + 1 : Nat) : Int) }, To := { Log := i, Line := (j : Int) }, Most := W64 (widB t j - gapB t j), Kind := 3, ID := (j : Int) }])
def tieB (s : System) (j : Nat) : List Bound := match s.Ties[j]? with
  | none => []
  | some t => [{ From := t.A, To := t.B, Most := s.Window, Kind := 4, ID := (j : Int) }, { From := t.B, To := t.A, Most := s.Window, Kind := 4, ID := (j : Int) }]
def slips (s : System) (i : Nat) : List Bound := match s.Tracks[i]? with
  | none => []
  | some t => cat t.Times.length (slipB (i : Int) t)
def ords (s : System) (i : Nat) : List Bound := match s.Tracks[i]? with
  | none => []
  | some t => cat (t.Times.length - 1) (ordB (i : Int) t)
/-- the bounds of a system -/
def bnds (s : System) : List Bound := cat s.Tracks.length (slips s) ++ (cat s.Tracks.length (ords s) ++ cat s.Ties.length (tieB s))
theorem ordB_len (i : Int) (t : Track) (j : Nat) : (ordB i t j).length ≤ 3 := by
  unfold ordB; cases jmp t.Clock.Jumps (t.Times.getD j 0) (t.Times.getD (j + 1) 0) <;> simp
theorem track_facts {t : Track} (h : vTrack t = true) : allB t.Times.length (okO ltE t.Times) = true ∧ vClock t.Clock = true ∧ t.Times.length ≤ 400 := by
  unfold vTrack at h
  simp only [Bool.and_eq_true, decide_eq_true_eq] at h
  exact ⟨h.1, h.2.1, by omega⟩
theorem times_in {t : Track} (h : vTrack t = true) {j : Nat} (hj : j < t.Times.length) : 0 ≤ t.Times[j] ∧ t.Times[j] ≤ 20000 := by
  have := allB_t (track_facts h).1 hj
  cases j with
  | zero => simp only [okO, getD_at hj, inr, Bool.and_eq_true, decide_eq_true_eq] at this; exact this
  | succ k => simp only [okO, getD_at hj, inr, Bool.and_eq_true, decide_eq_true_eq] at this; exact this.1
theorem times_up {t : Track} (h : vTrack t = true) {j : Nat} (hj : j + 1 < t.Times.length) : t.Times[j] ≤ t.Times[j + 1] := by
  have := allB_t (track_facts h).1 hj
  simp only [okO, getD_at hj, getD_at (show j < t.Times.length by omega), ltE, Bool.and_eq_true, decide_eq_true_eq] at this
  exact this.2
theorem check_ok {s : System} (h : vCheck s = 0) : s.Tracks.length ≤ 64 ∧ s.Ties.length ≤ 400 ∧ (∀ t, t ∈ s.Tracks → vTrack t = true) ∧ 0 ≤ s.Window ∧ s.Window ≤ 120 ∧ (∀ t, t ∈ s.Ties → vTie s t = true) := by
  unfold vCheck at h
  cases e : (decide ((s.Tracks.length : Int) > 64) || decide ((s.Ties.length : Int) > 400)) with
  | true => rw [e] at h; cases h
  | false =>
    rw [e] at h
    simp only [Bool.or_eq_false_iff, decide_eq_false_iff_not] at e
    cases e2 : (s.Tracks.all vTrack && (inr s.Window 0 120 && s.Ties.all (vTie s))) with
    | false => rw [e2] at h; cases h
    | true =>
      unfold inr at e2
      simp only [Bool.and_eq_true, decide_eq_true_eq, List.all_eq_true] at e2
      exact ⟨by omega, by omega, e2.1, e2.2.1.1, e2.2.1.2, e2.2.2⟩
theorem slips_len {s : System} (h : vCheck s = 0) {i : Nat} (hi : i < s.Tracks.length) : (slips s i).length ≤ 800 := by
  unfold slips
  rw [List.getElem?_eq_getElem hi]
  have h1 := (track_facts ((check_ok h).2.2.1 _ (List.getElem_mem hi))).2.2
  have := cat_le (n := s.Tracks[i].Times.length) (K := 2) (f := slipB (i : Int) s.Tracks[i]) (fun _ _ => Nat.le_refl _)
  simp only
  omega
theorem ords_len {s : System} (h : vCheck s = 0) {i : Nat} (hi : i < s.Tracks.length) : (ords s i).length ≤ 1200 := by
  unfold ords
  rw [List.getElem?_eq_getElem hi]
  have h1 := (track_facts ((check_ok h).2.2.1 _ (List.getElem_mem hi))).2.2
  have := cat_le (n := s.Tracks[i].Times.length - 1) (K := 3) (f := ordB (i : Int) s.Tracks[i]) (fun j _ => ordB_len _ _ j)
  simp only
  omega
theorem tieB_len (s : System) (j : Nat) : (tieB s j).length ≤ 2 := by
  unfold tieB; cases s.Ties[j]? <;> simp
section
variable {N : Nat} {s : System}
theorem bounds_r (hf : FitS N s) (h : vCheck s = 0) : ref03_bounds N s = some (bnds s) := by
  obtain ⟨k1, k2, k3, k4, k5, k6⟩ := check_ok h
  unfold ref03_bounds
  have hn := hf.n.2
  rw [iter_cat' (body := ref03_bounds_L0 N s) (n := s.Tracks.length) 800 (slips s) (fun i hi => slips_len h hi) (fun i st hi hst => by
    unfold ref03_bounds_L0
    have ht := hf.t _ (List.getElem_mem hi)
    have h400 := (track_facts (k3 _ (List.getElem_mem hi))).2.2
    simp only [lt_t hi, cond_true, idx_nat hi, Option.bind_some]
    rw [iter_cat' (body := ref03_bounds_L1 N s (st, (i : Int)) s.Tracks[i]) (n := s.Tracks[i].Times.length) 2 (slipB (i : Int) s.Tracks[i]) (fun _ _ => Nat.le_refl _) (fun j st2 hj hst2 => by
      unfold ref03_bounds_L1
      simp only [lt_t hj, cond_true, idx_nat hj, Option.bind_some, ref03_Beginning]
      simp only [List.length_nil] at hst
      rw [apnd_ok (by simp; omega)]
      simp only [Option.bind_some]
      rw [apnd_ok (by simp; omega)]
      simp only [Option.bind_some]
      rw [W64_succ (by omega)]
      simp [slipB, hj, beg]) (fun st2 => by unfold ref03_bounds_L1; simp only [lt_f]; rfl) ht.t.2]
    simp only [Option.bind_some, Flow.k]
    rw [W64_succ (by omega)]
    simp [slips, hi]) (fun st => by unfold ref03_bounds_L0; simp only [lt_f]; rfl) hn]
  simp only [Option.bind_some, Flow.k, List.nil_append]
  have hl1 := cat_le (n := s.Tracks.length) (K := 800) (f := slips s) (fun i hi => slips_len h hi)
  generalize hA : cat s.Tracks.length (slips s) = A at *
  rw [iter_cat' (body := ref03_bounds_L2 N s (A, (s.Tracks.length : Int))) (n := s.Tracks.length) 1200 (ords s) (fun i hi => ords_len h hi) (fun i st hi hst => by
    unfold ref03_bounds_L2
    have ht := hf.t _ (List.getElem_mem hi)
    have hv := k3 _ (List.getElem_mem hi)
    have h400 := (track_facts hv).2.2
    simp only [lt_t hi, cond_true, idx_nat hi, Option.bind_some]
    have ht2 := ht.t.2
    rw [iter_cat' (body := ref03_bounds_L3 N s (A, (s.Tracks.length : Int)) (st, (i : Int)) s.Tracks[i]) (n := s.Tracks[i].Times.length - 1) 3 (ordB (i : Int) s.Tracks[i]) (fun j _ => ordB_len _ _ j) (fun j st2 hj hst2 => by
      unfold ref03_bounds_L3
      have hj1 : j + 1 < s.Tracks[i].Times.length := by omega
      have hj0 : j < s.Tracks[i].Times.length := by omega
      simp only
      rw [W64_succ (by omega)]
      simp only [lt_t hj1, cond_true, idx_nat hj1, idx_nat hj0, Option.bind_some, jumped_r ht.j]
      rw [apnd_ok (by simp; omega)]
      simp only [Option.bind_some]
      cases hjm : jmp s.Tracks[i].Clock.Jumps s.Tracks[i].Times[j] s.Tracks[i].Times[j + 1] with
      | true => simp [ordB, hj0, hj1, hjm]
      | false =>
        simp only [cond_false]
        rw [apnd_ok (by simp; omega)]
        simp only [Option.bind_some]
        rw [apnd_ok (by simp; omega)]
        simp [ordB, hj0, hj1, hjm, gapB, widB]) (fun st2 => by
          unfold ref03_bounds_L3
          have e : decide (W64 (((s.Tracks[i].Times.length - 1 : Nat) : Int) + 1) < (s.Tracks[i].Times.length : Int)) = false := by
            rw [W64_succ (by omega)]; simp; omega
          simp only [e]; rfl) (by omega)]
    simp only [Option.bind_some, Flow.k]
    rw [W64_succ (by omega)]
    simp [ords, hi]) (fun st => by unfold ref03_bounds_L2; simp only [lt_f]; rfl) hn]
  simp only [Option.bind_some, Flow.k]
  have hl2 := cat_le (n := s.Tracks.length) (K := 1200) (f := ords s) (fun i hi => ords_len h hi)
  have he := hf.e.2
  rw [iter_cat' (body := ref03_bounds_L4 N s (A, (s.Tracks.length : Int)) (A ++ cat s.Tracks.length (ords s), (s.Tracks.length : Int))) (n := s.Ties.length) 2 (tieB s) (fun j _ => tieB_len _ j) (fun j st hj hst => by
    unfold ref03_bounds_L4
    simp only [List.length_append] at hst
    simp only [lt_t hj, cond_true, idx_nat hj, Option.bind_some]
    rw [apnd_ok (by simp; omega)]
    simp only [Option.bind_some]
    rw [apnd_ok (by simp; omega)]
    simp only [Option.bind_some]
    rw [W64_succ (by omega)]
    simp [tieB, hj]) (fun st => by unfold ref03_bounds_L4; simp only [lt_f]; rfl) he]
  simp only [Option.bind_some, Flow.k, bnds, hA, List.append_assoc]
abbrev yC (N : Nat) (x : System) : List Bound → Bound → Option (Bool × List Bound) := fun st b => ((slices_AppendSeq_api_Bound_api_Bound_L0 N x) st b).map fun t => (true, t)
theorem yC_eq {x : System} {st : List Bound} {b : Bound} (h : st.length + 1 < 4294967296) : yC N x st b = some (true, st ++ [b]) := by
  unfold yC slices_AppendSeq_api_Bound_api_Bound_L0
  rw [apnd_ok (by simpa using h)]; rfl
theorem collect_c (hf : FitS N s) (h : vCheck s = 0) : slices_Collect_api_Bound N s = some (bnds s) := by
  obtain ⟨k1, k2, k3, k4, k5, k6⟩ := check_ok h
  unfold slices_Collect_api_Bound slices_AppendSeq_api_Bound_api_Bound clocks_bounds_1
  have hn := hf.n.2
  rw [iter_cat (body := clocks_bounds_1_L0 N (yC N s) s []) (n := s.Tracks.length) 800 (slips s) (fun i hi => slips_len h hi) (fun i st hi hst => by
    unfold clocks_bounds_1_L0
    have ht := hf.t _ (List.getElem_mem hi)
    have h400 := (track_facts (k3 _ (List.getElem_mem hi))).2.2
    simp only [lt_t hi, cond_true, idx_nat hi, Option.bind_some]
    rw [iter_cat (body := clocks_bounds_1_L1 N (yC N s) s [] ((i : Int), st) s.Tracks[i]) (n := s.Tracks[i].Times.length) 2 (slipB (i : Int) s.Tracks[i]) (fun _ _ => Nat.le_refl _) (fun j st2 hj hst2 => by
      unfold clocks_bounds_1_L1
      simp only [lt_t hj, cond_true, idx_nat hj, Option.bind_some, clocks_beginning]
      simp only [List.length_nil] at hst
      rw [yC_eq (by omega)]
      simp only [Option.bind_some, Bool.not_true, cond_false]
      rw [yC_eq (by simp; omega)]
      simp only [Option.bind_some, Bool.not_true, cond_false]
      rw [W64_succ (by omega)]
      simp [slipB, hj, beg]) (fun st2 => by unfold clocks_bounds_1_L1; simp only [lt_f]; rfl) ht.t.2]
    simp only [Option.bind_some, Flow.k]
    rw [W64_succ (by omega)]
    simp [slips, hi]) (fun st => by unfold clocks_bounds_1_L0; simp only [lt_f]; rfl) hn]
  simp only [Option.bind_some, Flow.k, List.nil_append]
  have hl1 := cat_le (n := s.Tracks.length) (K := 800) (f := slips s) (fun i hi => slips_len h hi)
  generalize hA : cat s.Tracks.length (slips s) = A at *
  rw [iter_cat (body := clocks_bounds_1_L2 N (yC N s) s [] ((s.Tracks.length : Int), A)) (n := s.Tracks.length) 1200 (ords s) (fun i hi => ords_len h hi) (fun i st hi hst => by
    unfold clocks_bounds_1_L2
    have ht := hf.t _ (List.getElem_mem hi)
    have hv := k3 _ (List.getElem_mem hi)
    have hvc := (track_facts hv).2.1
    have h400 := (track_facts hv).2.2
    simp only [lt_t hi, cond_true, idx_nat hi, Option.bind_some]
    have ht2 := ht.t.2
    rw [iter_cat (body := clocks_bounds_1_L3 N (yC N s) s [] ((s.Tracks.length : Int), A) ((i : Int), st) s.Tracks[i]) (n := s.Tracks[i].Times.length - 1) 3 (ordB (i : Int) s.Tracks[i]) (fun j _ => ordB_len _ _ j) (fun j st2 hj hst2 => by
      unfold clocks_bounds_1_L3
      have hj1 : j + 1 < s.Tracks[i].Times.length := by omega
      have hj0 : j < s.Tracks[i].Times.length := by omega
      have hi0 := times_in hv hj0
      have hi1 := times_in hv hj1
      simp only
      rw [W64_succ (by omega)]
      simp only [lt_t hj1, cond_true, idx_nat hj1, idx_nat hj0, Option.bind_some, segment_c ht.j.2 hvc hi0.1 hi0.2, segment_c ht.j.2 hvc hi1.1 hi1.2, cnt_jmp _ (times_up hv hj1)]
      rw [yC_eq (by omega)]
      simp only [Option.bind_some, Bool.not_true, cond_false]
      cases hjm : jmp s.Tracks[i].Clock.Jumps s.Tracks[i].Times[j] s.Tracks[i].Times[j + 1] with
      | true => simp [ordB, hj0, hj1, hjm]
      | false =>
        simp only [cond_false]
        rw [yC_eq (by simp; omega)]
        simp only [Option.bind_some, Bool.not_true, cond_false]
        rw [yC_eq (by simp; omega)]
        simp [ordB, hj0, hj1, hjm, gapB, widB]) (fun st2 => by
          unfold clocks_bounds_1_L3
          have e : decide (W64 (((s.Tracks[i].Times.length - 1 : Nat) : Int) + 1) < (s.Tracks[i].Times.length : Int)) = false := by
            rw [W64_succ (by omega)]; simp; omega
          simp only [e]; rfl) (by omega)]
    simp only [Option.bind_some, Flow.k]
    rw [W64_succ (by omega)]
    simp [ords, hi]) (fun st => by unfold clocks_bounds_1_L2; simp only [lt_f]; rfl) hn]
  simp only [Option.bind_some, Flow.k]
  have hl2 := cat_le (n := s.Tracks.length) (K := 1200) (f := ords s) (fun i hi => ords_len h hi)
  have he := hf.e.2
  rw [iter_cat (body := clocks_bounds_1_L4 N (yC N s) s [] ((s.Tracks.length : Int), A) ((s.Tracks.length : Int), A ++ cat s.Tracks.length (ords s))) (n := s.Ties.length) 2 (tieB s) (fun j _ => tieB_len _ j) (fun j st hj hst => by
    unfold clocks_bounds_1_L4
    simp only [List.length_append] at hst
    simp only [lt_t hj, cond_true, idx_nat hj, Option.bind_some]
    rw [yC_eq (by omega)]
    simp only [Option.bind_some, Bool.not_true, cond_false]
    rw [yC_eq (by simp; omega)]
    simp only [Option.bind_some, Bool.not_true, cond_false]
    rw [W64_succ (by omega)]
    simp [tieB, hj]) (fun st => by unfold clocks_bounds_1_L4; simp only [lt_f]; rfl) he]
  simp only [Option.bind_some, Flow.k, bnds, hA, List.append_assoc]
def vBounds (s : System) : List Bound × Int := (bif vCheck s == 0 then bnds s else [], vCheck s)
theorem Bounds_c (hf : FitS N s) : clocks_Bounds N s = some (vBounds s) := by
  unfold clocks_Bounds vBounds
  rw [check_c hf]
  simp only [Option.bind_some]
  by_cases h : vCheck s = 0
  · simp only [h, bne_self_eq_false, cond_false, clocks_bounds, Option.bind_some, collect_c hf h, beq_self_eq_true, cond_true]
  · have e1 : (vCheck s != 0) = true := by simpa using h
    have e2 : (vCheck s == 0) = false := by simpa using h
    rw [e1, e2]; rfl
theorem Bounds_r (hf : FitS N s) : ref03_Bounds N s = some (vBounds s) := by
  unfold ref03_Bounds vBounds
  rw [check_r hf]
  simp only [Option.bind_some]
  by_cases h : vCheck s = 0
  · simp only [h, bne_self_eq_false, cond_false, Option.bind_some, bounds_r hf h, beq_self_eq_true, cond_true]
  · have e1 : (vCheck s != 0) = true := by simpa using h
    have e2 : (vCheck s == 0) = false := by simpa using h
    rw [e1, e2]; rfl
end
end Go.Proofs.Ythbcnabeabcmlaa
namespace Go.Proofs.Ythbcnabeabcmlaa
namespace BF
structure St (V E : Type) where
  at_ : V → Option Int
  by_ : V → Option E
section
variable {V E : Type} [DecidableEq V] (src dst : E → V) (w : E → Int)
/-- ways over edges of l, with their sums -/
inductive Walk (l : List E) : V → V → Int → Prop
  | nil (x : V) : Walk l x x 0
  | snoc {x : V} {n : Int} {e : E} {y : V} : Walk l x y n → e ∈ l → src e = y → Walk l x (dst e) (n + w e)
def NoNeg (l : List E) : Prop := ∀ x n, Walk src dst w l x x n → 0 ≤ n
def IsDist (l : List E) (x y : V) (n : Int) : Prop := Walk src dst w l x y n ∧ ∀ m, Walk src dst w l x y m → n ≤ m
def hot (st : St V E) (e : E) : Bool := match st.at_ (src e) with
  | none => false
  | some n => match st.at_ (dst e) with
    | none => true
    | some m => decide (n + w e < m)
def put (st : St V E) (e : E) : St V E := match st.at_ (src e) with
  | none => st
  | some n => ⟨fun x => if x = dst e then some (n + w e) else st.at_ x, fun x => if x = dst e then some e else st.by_ x⟩
def step (st : St V E) (e : E) : St V E := bif hot src dst w st e then put src dst w st e else st
def Closed (st : St V E) (e : E) : Prop := ∀ n, st.at_ (src e) = some n → ∃ m, st.at_ (dst e) = some m ∧ m ≤ n + w e
structure Inv (frm : V) (l : List E) (k : Nat) (pre suf : List E) (st : St V E) (ts rd : V → Nat) (now : Nat) : Prop where
  base : ∃ n, st.at_ frm = some n ∧ n ≤ 0
  walk : ∀ x n, st.at_ x = some n → Walk src dst w l frm x n
  par : ∀ x e, st.by_ x = some e → e ∈ l ∧ dst e = x ∧ ∃ n m, st.at_ (src e) = some m ∧ st.at_ x = some n ∧ (m + w e < n ∨ m + w e = n ∧ ts (src e) < ts x)
  root : ∀ x n, st.at_ x = some n → st.by_ x = none → x = frm ∧ n = 0
  tsle : ∀ x, ts x ≤ now
  rdle : ∀ x, rd x ≤ k + 1
  rdby : ∀ x e, st.by_ x = some e → 1 ≤ rd x ∧ rd x ≤ rd (src e) + 1
  rdno : ∀ x, st.by_ x = none → rd x = 0
  pres : ∀ e, e ∈ pre → rd (src e) < k + 1 → Closed src dst w st e
  sufs : ∀ e, e ∈ suf → rd (src e) < k → Closed src dst w st e
  sub : ∀ e, e ∈ pre ∨ e ∈ suf → e ∈ l
variable {src dst w}
theorem closed_of_cold {st : St V E} {e : E} (h : hot src dst w st e = false) : Closed src dst w st e := by
  intro n hn
  unfold hot at h
  rw [hn] at h
  cases hm : st.at_ (dst e) with
  | none => simp [hm] at h
  | some m => simp [hm] at h; exact ⟨m, rfl, h⟩
theorem not_closed_of_hot {st : St V E} {e : E} (h : hot src dst w st e = true) : ¬ Closed src dst w st e := by
  intro hc
  unfold hot at h
  cases hn : st.at_ (src e) with
  | none => simp [hn] at h
  | some n =>
    obtain ⟨m, hm, hle⟩ := hc n hn
    simp [hn, hm] at h
    omega
theorem Inv.cold {frm : V} {l : List E} {k : Nat} {pre suf : List E} {st : St V E} {ts rd : V → Nat} {now : Nat} {e : E}
    (h : Inv src dst w frm l k pre (e :: suf) st ts rd now) (hh : hot src dst w st e = false) :
    Inv src dst w frm l k (e :: pre) suf st ts rd now where
  base := h.base
  walk := h.walk
  par := h.par
  root := h.root
  tsle := h.tsle
  rdle := h.rdle
  rdby := h.rdby
  rdno := h.rdno
  pres := fun e' he' hr => by
    rcases List.mem_cons.1 he' with rfl | he'
    · exact closed_of_cold hh
    · exact h.pres e' he' hr
  sufs := fun e' he' => h.sufs e' (List.mem_cons_of_mem _ he')
  sub := fun e' he' => h.sub e' (by
    rcases he' with he' | he'
    · rcases List.mem_cons.1 he' with rfl | he'
      · exact .inr (List.mem_cons_self ..)
      · exact .inl he'
    · exact .inr (List.mem_cons_of_mem _ he'))
theorem Inv.hot {frm : V} {l : List E} {k : Nat} {pre suf : List E} {st : St V E} {ts rd : V → Nat} {now : Nat} {e : E}
    (h : Inv src dst w frm l k pre (e :: suf) st ts rd now) (hh : hot src dst w st e = true) :
    Inv src dst w frm l k (e :: pre) suf (put src dst w st e) (fun x => if x = dst e then now + 1 else ts x) (fun x => if x = dst e then k + 1 else rd x) (now + 1) := by
  have he : e ∈ l := h.sub e (.inr (List.mem_cons_self ..))
  have hrk : k ≤ rd (src e) := by
    rcases Nat.lt_or_ge (rd (src e)) k with hlt | hge
    · exact absurd (h.sufs e (List.mem_cons_self ..) hlt) (not_closed_of_hot hh)
    · exact hge
  obtain ⟨n, hn⟩ : ∃ n, st.at_ (src e) = some n := by
    unfold BF.hot at hh
    cases hn : st.at_ (src e) with
    | none => simp [hn] at hh
    | some n => exact ⟨n, rfl⟩
  have hold : ∀ m, st.at_ (dst e) = some m → n + w e < m := by
    intro m hm
    unfold BF.hot at hh
    simp [hn, hm] at hh
    exact hh
  have hp : put src dst w st e = ⟨fun x => if x = dst e then some (n + w e) else st.at_ x, fun x => if x = dst e then some e else st.by_ x⟩ := by
    unfold put; rw [hn]
  rw [hp]
  -- a closed edge stays so, if it does not begin where the change is
  have keep : ∀ e', src e' ≠ dst e → Closed src dst w st e' → Closed src dst w ⟨fun x => if x = dst e then some (n + w e) else st.at_ x, fun x => if x = dst e then some e else st.by_ x⟩ e' := by
    intro e' hs hc n' hn'
    simp only [hs, if_false] at hn'
    obtain ⟨m, hm, hle⟩ := hc n' hn'
    by_cases hd : dst e' = dst e
    · refine ⟨n + w e, by simp [hd], ?_⟩
      have := hold m (by rw [← hd]; exact hm)
      omega
    · exact ⟨m, by simp [hd, hm], hle⟩
  refine ⟨?_, ?_, ?_, ?_, ?_, ?_, ?_, ?_, ?_, ?_, ?_⟩
  · obtain ⟨b, hb, hle⟩ := h.base
    by_cases hd : frm = dst e
    · refine ⟨n + w e, by simp [hd], ?_⟩
      have := hold b (by rw [← hd]; exact hb)
      omega
    · exact ⟨b, by simp [hd, hb], hle⟩
  · intro x m hx
    by_cases hd : x = dst e
    · simp [hd] at hx
      subst hx; subst hd
      exact .snoc (h.walk _ _ hn) he rfl
    · simp [hd] at hx
      exact h.walk x m hx
  · intro x e' hx
    by_cases hd : x = dst e
    · simp only [hd, if_true, Option.some.injEq] at hx
      subst hx
      refine ⟨he, hd.symm, n + w e, ?_⟩
      by_cases hs : src e = dst e
      · refine ⟨n + w e, by simp [hs], by simp [hd], .inl ?_⟩
        have := hold n (by rw [← hs]; exact hn)
        omega
      · refine ⟨n, by simp [hs, hn], by simp [hd], .inr ⟨rfl, ?_⟩⟩
        simp only [hs, if_false, hd, if_true]
        have := h.tsle (src e)
        omega
    · simp only [hd, if_false] at hx
      obtain ⟨h1, h2, n', m', h3, h4, h5⟩ := h.par x e' hx
      refine ⟨h1, h2, n', ?_⟩
      by_cases hs : src e' = dst e
      · refine ⟨n + w e, by simp [hs], by simp [hd, h4], .inl ?_⟩
        have := hold m' (by rw [← hs]; exact h3)
        rcases h5 with h5 | h5 <;> omega
      · refine ⟨m', by simp [hs, h3], by simp [hd, h4], ?_⟩
        simp only [hs, if_false, hd]
        exact h5
  · intro x m hx hb
    by_cases hd : x = dst e
    · simp [hd] at hb
    · simp only [hd, if_false] at hx hb
      exact h.root x m hx hb
  · intro x
    have := h.tsle x
    by_cases hd : x = dst e <;> simp only [hd, if_true, if_false] <;> omega
  · intro x
    have := h.rdle x
    by_cases hd : x = dst e
    · simp only [hd, if_true]; omega
    · simp only [hd, if_false]; omega
  · intro x e' hx
    by_cases hd : x = dst e
    · simp only [hd, if_true, Option.some.injEq] at hx
      subst hx
      simp only [hd, if_true]
      by_cases hs : src e = dst e
      · simp [hs]
      · simp only [hs, if_false]; omega
    · simp only [hd, if_false] at hx ⊢
      have := h.rdby x e' hx
      have h2 := h.rdle x
      by_cases hs : src e' = dst e
      · simp only [hs, if_true]; omega
      · simp only [hs, if_false]; omega
  · intro x hx
    by_cases hd : x = dst e
    · simp [hd] at hx
    · simp only [hd, if_false] at hx ⊢
      exact h.rdno x hx
  · intro e' he' hr
    by_cases hs : src e' = dst e
    · simp [hs] at hr
    · simp only [hs, if_false] at hr
      rcases List.mem_cons.1 he' with rfl | he'
      · -- the edge itself
        intro n' hn'
        simp only [hs, if_false] at hn'
        rw [hn] at hn'
        cases hn'
        exact ⟨n + w e', by simp, Int.le_refl _⟩
      · exact keep e' hs (h.pres e' he' hr)
  · intro e' he' hr
    by_cases hs : src e' = dst e
    · simp only [hs, if_true] at hr; omega
    · simp only [hs, if_false] at hr
      exact keep e' hs (h.sufs e' (List.mem_cons_of_mem _ he') hr)
  · intro e' he'
    rcases he' with he' | he'
    · rcases List.mem_cons.1 he' with rfl | he'
      · exact he
      · exact h.sub e' (.inl he')
    · exact h.sub e' (.inr (List.mem_cons_of_mem _ he'))
/-- the next round -/
theorem Inv.next {frm : V} {l : List E} {k : Nat} {pre : List E} {st : St V E} {ts rd : V → Nat} {now : Nat}
    (h : Inv src dst w frm l k pre [] st ts rd now) (hp : ∀ e, e ∈ l → e ∈ pre) :
    Inv src dst w frm l (k + 1) [] l st ts rd now :=
  { h with
    rdle := fun x => Nat.le_trans (h.rdle x) (by omega)
    pres := fun e he => by cases he
    sufs := fun e he hr => h.pres e (hp e he) hr
    sub := fun e he => by rcases he with he | he; cases he; exact he }
/-- the beginning -/
def init (frm : V) : St V E := ⟨fun x => if x = frm then some 0 else none, fun _ => none⟩
theorem Inv.init (frm : V) (l : List E) : Inv src dst w frm l 0 [] l (init frm) (fun _ => 0) (fun _ => 0) 0 where
  base := ⟨0, by simp [BF.init], Int.le_refl _⟩
  walk := fun x n hx => by
    by_cases h : x = frm
    · simp [BF.init, h] at hx; subst hx; subst h; exact .nil _
    · simp [BF.init, h] at hx
  par := fun x e hx => by simp [BF.init] at hx
  root := fun x n hx _ => by
    by_cases h : x = frm
    · simp [BF.init, h] at hx; exact ⟨h, hx.symm⟩
    · simp [BF.init, h] at hx
  tsle := fun _ => Nat.le_refl _
  rdle := fun _ => Nat.zero_le _
  rdby := fun x e hx => by simp [BF.init] at hx
  rdno := fun _ _ => rfl
  pres := fun e he => by cases he
  sufs := fun e _ hr => by omega
  sub := fun e he => by rcases he with he | he; cases he; exact he
/-! ### closed: the numbers are the least sums -/
theorem walk_closed {l : List E} {st : St V E} (hc : ∀ e, e ∈ l → Closed src dst w st e) {x y : V} {n m : Int}
    (hw : Walk src dst w l x y n) (hx : st.at_ x = some m) : ∃ m', st.at_ y = some m' ∧ m' ≤ m + n := by
  induction hw with
  | nil => exact ⟨m, hx, by omega⟩
  | snoc _ he hs ih =>
    obtain ⟨m', h1, h2⟩ := ih
    obtain ⟨m'', h3, h4⟩ := hc _ he m' (by rw [hs]; exact h1)
    exact ⟨m'', h3, by omega⟩
theorem Inv.frm_zero {frm : V} {l : List E} {k : Nat} {pre suf : List E} {st : St V E} {ts rd : V → Nat} {now : Nat}
    (h : Inv src dst w frm l k pre suf st ts rd now) (hc : ∀ e, e ∈ l → Closed src dst w st e) : st.at_ frm = some 0 := by
  obtain ⟨n, hn, hle⟩ := h.base
  obtain ⟨m, h1, h2⟩ := walk_closed hc (h.walk _ _ hn) hn
  rw [hn] at h1; cases h1
  have : n = 0 := by omega
  rw [hn, this]
theorem Inv.dist {frm : V} {l : List E} {k : Nat} {pre suf : List E} {st : St V E} {ts rd : V → Nat} {now : Nat}
    (h : Inv src dst w frm l k pre suf st ts rd now) (hc : ∀ e, e ∈ l → Closed src dst w st e) {x : V} {n : Int} :
    st.at_ x = some n ↔ IsDist src dst w l frm x n := by
  have h0 := h.frm_zero hc
  constructor
  · intro hx
    refine ⟨h.walk _ _ hx, fun m hm => ?_⟩
    obtain ⟨m', h1, h2⟩ := walk_closed hc hm h0
    rw [hx] at h1; cases h1
    omega
  · intro ⟨hw, hmin⟩
    obtain ⟨m', h1, h2⟩ := walk_closed hc hw h0
    have := hmin _ (h.walk _ _ h1)
    have : m' = n := by omega
    rw [h1, this]
theorem Walk.trans {l : List E} {x y z : V} {n m : Int} (h : Walk src dst w l x y n) (h2 : Walk src dst w l y z m) : Walk src dst w l x z (n + m) := by
  induction h2 with
  | nil => simpa using h
  | snoc _ he hs ih => rw [← Int.add_assoc]; exact .snoc ih he hs
theorem Walk.one {l : List E} {e : E} (he : e ∈ l) : Walk src dst w l (src e) (dst e) (w e) := by
  have := Walk.snoc (src := src) (dst := dst) (w := w) (l := l) (.nil (src e)) he rfl
  simpa using this
theorem Walk.mono {l l' : List E} (hs : ∀ e, e ∈ l → e ∈ l') {x y : V} {n : Int} (h : Walk src dst w l x y n) : Walk src dst w l' x y n := by
  induction h with
  | nil => exact .nil _
  | snoc _ he hs' ih => exact .snoc ih (hs _ he) hs'
theorem Walk.turn {l : List E} {x y : V} {n : Int} (h : Walk src dst w l x y n) : Walk dst src w l y x n := by
  induction h with
  | nil => exact .nil _
  | @snoc n e y _ he hs ih =>
    have := (Walk.one (src := dst) (dst := src) (w := w) he).trans (hs ▸ ih)
    rw [Int.add_comm] at this
    exact this
theorem walk_turn {l : List E} {x y : V} {n : Int} : Walk dst src w l y x n ↔ Walk src dst w l x y n := ⟨Walk.turn, Walk.turn⟩
theorem noNeg_turn {l : List E} : NoNeg dst src w l ↔ NoNeg src dst w l := by
  unfold NoNeg; simp only [walk_turn]
theorem dist_turn {l : List E} {x y : V} {n : Int} : IsDist dst src w l y x n ↔ IsDist src dst w l x y n := by
  unfold IsDist; simp only [walk_turn]
theorem IsDist.unique {l : List E} {x y : V} {n m : Int} (h : IsDist src dst w l x y n) (h2 : IsDist src dst w l x y m) : n = m := by
  have h1 := h.2 _ h2.1
  have h2 := h2.2 _ h.1
  omega
/-- all lie within reach of the beginning, and nothing changes: no loop -/
theorem noNeg_of_closed {l : List E} {st : St V E} (hc : ∀ e, e ∈ l → Closed src dst w st e) (hr : ∀ e, e ∈ l → ∃ n, st.at_ (dst e) = some n) : NoNeg src dst w l := by
  intro x n hw
  cases hw with
  | nil => exact Int.le_refl _
  | @snoc n' e y hw' he hs =>
    obtain ⟨m, hm⟩ := hr e he
    obtain ⟨m', h1, h2⟩ := walk_closed hc (.snoc hw' he hs) hm
    rw [hm] at h1; cases h1
    omega
/-! ### parents -/
def parV (src : E → V) (d : V) (st : St V E) (x : V) : V := match st.by_ x with
  | some e => src e
  | none => d
theorem parV_eq {d : V} {st : St V E} {x : V} {e : E} (h : st.by_ x = some e) : parV src d st x = src e := by unfold parV; rw [h]
def itr {α : Type} (f : α → α) : Nat → α → α
  | 0, x => x
  | n + 1, x => itr f n (f x)
theorem itr_succ {α : Type} (f : α → α) (n : Nat) (x : α) : itr f (n + 1) x = f (itr f n x) := by
  induction n generalizing x with
  | zero => rfl
  | succ n ih => rw [itr, ih]; rfl
theorem itr_add {α : Type} (f : α → α) (n m : Nat) (x : α) : itr f (n + m) x = itr f m (itr f n x) := by
  induction n generalizing x with
  | zero => simp [itr]
  | succ n ih => rw [Nat.succ_add]; simp only [itr]; exact ih _
/-- the sum of the bounds back from x -/
def backSum (w : E → Int) (src : E → V) (d : V) (st : St V E) : Nat → V → Int
  | 0, _ => 0
  | n + 1, x => (match st.by_ x with | some e => w e | none => 0) + backSum w src d st n (parV src d st x)
theorem Inv.chain {frm : V} {l : List E} {k : Nat} {pre suf : List E} {st : St V E} {ts rd : V → Nat} {now : Nat} (d : V)
    (h : Inv src dst w frm l k pre suf st ts rd now) : ∀ (j : Nat) (z : V), j + 1 ≤ rd z → ∀ i, i ≤ j → ∃ e, st.by_ (itr (parV src d st) i z) = some e := by
  intro j
  induction j with
  | zero =>
    intro z hz i hi
    have : i = 0 := by omega
    subst this
    simp only [itr]
    cases hb : st.by_ z with
    | none => have := h.rdno z hb; omega
    | some e => exact ⟨e, rfl⟩
  | succ j ih =>
    intro z hz i hi
    cases hb : st.by_ z with
    | none => have := h.rdno z hb; omega
    | some e =>
      cases i with
      | zero => exact ⟨e, hb⟩
      | succ i =>
        simp only [itr]
        have hp : parV src d st z = src e := by unfold parV; rw [hb]
        rw [hp]
        have := h.rdby z e hb
        exact ih (src e) (by omega) i (by omega)
theorem Inv.back {frm : V} {l : List E} {k : Nat} {pre suf : List E} {st : St V E} {ts rd : V → Nat} {now : Nat} (d : V)
    (h : Inv src dst w frm l k pre suf st ts rd now) : ∀ (p : Nat) (x : V) (a : Int), st.at_ x = some a → (∀ i, i < p → ∃ e, st.by_ (itr (parV src d st) i x) = some e) →
      ∃ b, st.at_ (itr (parV src d st) p x) = some b ∧ (b + backSum w src d st p x < a ∨ b + backSum w src d st p x = a ∧ ts (itr (parV src d st) p x) + p ≤ ts x) := by
  intro p
  induction p with
  | zero => intro x a ha _; exact ⟨a, ha, .inr ⟨by simp [backSum], by simp [itr]⟩⟩
  | succ p ih =>
    intro x a ha hb
    obtain ⟨e, he⟩ := hb 0 (by omega)
    simp only [itr] at he
    obtain ⟨_, _, n, m, h3, h4, h5⟩ := h.par x e he
    rw [ha] at h4; cases h4
    have hp : parV src d st x = src e := by unfold parV; rw [he]
    obtain ⟨b, hb1, hb2⟩ := ih (src e) m h3 (fun i hi => by
      have := hb (i + 1) (by omega)
      simp only [itr, hp] at this
      exact this)
    refine ⟨b, by simp only [itr, hp]; exact hb1, ?_⟩
    simp only [backSum, he, hp, itr]
    rcases hb2 with hb2 | ⟨hb2, hb3⟩ <;> rcases h5 with h5 | ⟨h5, h6⟩
    · left; omega
    · left; omega
    · left; omega
    · right; constructor <;> omega
/-- a loop of parents has less than nothing -/
theorem Inv.cycle_neg {frm : V} {l : List E} {k : Nat} {pre suf : List E} {st : St V E} {ts rd : V → Nat} {now : Nat} (d : V)
    (h : Inv src dst w frm l k pre suf st ts rd now) {p : Nat} {x : V} (hp : 1 ≤ p) (hb : ∀ i, i < p → ∃ e, st.by_ (itr (parV src d st) i x) = some e)
    (hx : itr (parV src d st) p x = x) : backSum w src d st p x < 0 := by
  obtain ⟨e, he⟩ := hb 0 (by omega)
  obtain ⟨_, _, n, m, _, h4, _⟩ := h.par x e he
  obtain ⟨b, hb1, hb2⟩ := h.back d p x n h4 hb
  rw [hx] at hb1 hb2
  rw [h4] at hb1; cases hb1
  rcases hb2 with hb2 | hb2 <;> omega
theorem Inv.back_walk {frm : V} {l : List E} {k : Nat} {pre suf : List E} {st : St V E} {ts rd : V → Nat} {now : Nat} (d : V)
    (h : Inv src dst w frm l k pre suf st ts rd now) : ∀ (p : Nat) (x : V), (∀ i, i < p → ∃ e, st.by_ (itr (parV src d st) i x) = some e) →
      Walk src dst w l (itr (parV src d st) p x) x (backSum w src d st p x) := by
  intro p
  induction p with
  | zero => intro x _; exact .nil _
  | succ p ih =>
    intro x hb
    obtain ⟨e, he⟩ := hb 0 (by omega)
    simp only [itr] at he
    obtain ⟨h1, h2, _⟩ := h.par x e he
    have hp : parV src d st x = src e := by unfold parV; rw [he]
    have := ih (src e) (fun i hi => by
      have := hb (i + 1) (by omega)
      simp only [itr, hp] at this
      exact this)
    simp only [itr, backSum, he, hp]
    rw [Int.add_comm]
    rw [← h2]
    exact .snoc this h1 rfl
/-! ### among few, one comes twice -/
theorem pigeon : ∀ (l : List V) (f : Nat → V), (∀ i, i ≤ l.length → f i ∈ l) → ∃ i j, i < j ∧ j ≤ l.length ∧ f i = f j := by
  intro l
  generalize hn : l.length = n
  induction n generalizing l with
  | zero =>
    intro f h
    have : l = [] := List.length_eq_zero_iff.1 hn
    subst this
    have := h 0 (by omega)
    cases this
  | succ n ih =>
    intro f h
    by_cases hex : ∃ i, i < n + 1 ∧ f i = f (n + 1)
    · obtain ⟨i, hi, he⟩ := hex
      exact ⟨i, n + 1, hi, Nat.le_refl _, he⟩
    · have hm := h (n + 1) (Nat.le_refl _)
      have hl : (l.erase (f (n + 1))).length = n := by rw [List.length_erase_of_mem hm]; omega
      obtain ⟨i, j, h1, h2, h3⟩ := ih (l.erase (f (n + 1))) hl f (fun i hi => by
        have hne : f i ≠ f (n + 1) := fun he => hex ⟨i, by omega, he⟩
        exact (List.mem_erase_of_ne hne).2 (h i (by omega)))
      exact ⟨i, j, h1, by omega, h3⟩
theorem itr_per {α : Type} (f : α → α) {z : α} {i j : Nat} (hij : i < j) (he : itr f i z = itr f j z) : ∀ m, i ≤ m → itr f (j - i) (itr f m z) = itr f m z ∧ ∃ q, i ≤ q ∧ q < j ∧ itr f m z = itr f q z := by
  intro m
  induction m with
  | zero =>
    intro h
    have : i = 0 := by omega
    subst this
    refine ⟨?_, 0, by omega, by omega, rfl⟩
    have := he.symm
    simpa [itr] using this
  | succ m ih =>
    intro h
    rcases Nat.lt_or_ge m i with hlt | hge
    · have e : m + 1 = i := by omega
      rw [e]
      refine ⟨?_, i, by omega, by omega, rfl⟩
      rw [← itr_add]
      have : i + (j - i) = j := by omega
      rw [this, ← he]
    · obtain ⟨h1, q, h2, h3, h4⟩ := ih hge
      refine ⟨?_, ?_⟩
      · have hcm : ∀ (k : Nat) (y : α), itr f k (f y) = f (itr f k y) := fun k y => itr_succ f k y
        rw [itr_succ, hcm, h1]
      · by_cases hq : q + 1 < j
        · exact ⟨q + 1, by omega, hq, by rw [itr_succ, itr_succ, h4]⟩
        · refine ⟨i, by omega, by omega, ?_⟩
          have e2 : f (itr f q z) = itr f (q + 1) z := (itr_succ f q z).symm
          have e3 : q + 1 = j := by omega
          rw [itr_succ, h4, e2, e3, he]
/-- a change in a late round: the way back comes to a loop -/
theorem Inv.loop {frm : V} {l : List E} {k : Nat} {pre suf : List E} {st : St V E} {ts rd : V → Nat} {now : Nat} (d : V)
    (h : Inv src dst w frm l k pre suf st ts rd now) {nodes : List V} (hn : ∀ e, e ∈ l → dst e ∈ nodes) {z : V} (hz : nodes.length + 1 ≤ rd z) :
    ∃ p, 1 ≤ p ∧ p ≤ nodes.length ∧ ∀ m, nodes.length ≤ m → (∀ i, ∃ e, st.by_ (itr (parV src d st) i (itr (parV src d st) m z)) = some e) ∧ itr (parV src d st) p (itr (parV src d st) m z) = itr (parV src d st) m z := by
  have hb := h.chain d nodes.length z hz
  obtain ⟨i, j, hij, hj, he⟩ := pigeon nodes (fun i => itr (parV src d st) i z) (fun i hi => by
    obtain ⟨e, he⟩ := hb i hi
    obtain ⟨h1, h2, _⟩ := h.par _ e he
    have := hn e h1
    rw [h2] at this
    exact this)
  refine ⟨j - i, by omega, by omega, fun m hm => ⟨fun q => ?_, ?_⟩⟩
  · rw [← itr_add]
    obtain ⟨_, r, h2, h3, h4⟩ := itr_per (parV src d st) hij he (m + q) (by omega)
    rw [h4]
    exact hb r (by omega)
  · exact (itr_per (parV src d st) hij he m (by omega)).1
theorem Inv.neg_of_late {frm : V} {l : List E} {k : Nat} {pre suf : List E} {st : St V E} {ts rd : V → Nat} {now : Nat}
    (h : Inv src dst w frm l k pre suf st ts rd now) {nodes : List V} (hn : ∀ e, e ∈ l → dst e ∈ nodes) {z : V} (hz : nodes.length + 1 ≤ rd z) : ¬ NoNeg src dst w l := by
  obtain ⟨p, h1, _, h3⟩ := h.loop z hn hz
  obtain ⟨h4, h5⟩ := h3 nodes.length (Nat.le_refl _)
  have h6 := h.cycle_neg z h1 (fun i _ => h4 i) h5
  have h7 := h.back_walk z p _ (fun i _ => h4 i)
  rw [h5] at h7
  intro hno
  have := hno _ _ h7
  omega
/-- at the end, the way back from what is known comes to the beginning -/
theorem Inv.home {frm : V} {l : List E} {k : Nat} {pre suf : List E} {st : St V E} {ts rd : V → Nat} {now : Nat} (d : V)
    (h : Inv src dst w frm l k pre suf st ts rd now) (hc : ∀ e, e ∈ l → Closed src dst w st e) {nodes : List V} (hn : ∀ e, e ∈ l → dst e ∈ nodes) {x : V} {a : Int} (hx : st.at_ x = some a) :
    ∃ p, p ≤ nodes.length ∧ itr (parV src d st) p x = frm ∧ (∀ i, i < p → itr (parV src d st) i x ≠ frm ∧ ∃ e, st.by_ (itr (parV src d st) i x) = some e) ∧ backSum w src d st p x = a := by
  have hnone : ∀ q, 1 ≤ q → ∀ y, (∀ i, i < q → ∃ e, st.by_ (itr (parV src d st) i y) = some e) → itr (parV src d st) q y ≠ y := by
    intro q hq y hb he
    have h1 := h.cycle_neg d hq hb he
    have h2 := h.back_walk d q y hb
    rw [he] at h2
    obtain ⟨e, he0⟩ := hb 0 (by omega)
    obtain ⟨_, _, n, m, _, h4, _⟩ := h.par _ e he0
    obtain ⟨m', h5, h6⟩ := walk_closed hc h2 h4
    simp only [itr] at h4
    rw [h4] at h5; cases h5
    omega
  -- some node on the way back is the beginning
  have hex : ∃ p, p ≤ nodes.length ∧ itr (parV src d st) p x = frm := by
    refine Classical.byContradiction fun hno => ?_
    have hall : ∀ p, p ≤ nodes.length → itr (parV src d st) p x ≠ frm := fun p hp he => hno ⟨p, hp, he⟩
    have hby : ∀ i, i ≤ nodes.length → (∃ a, st.at_ (itr (parV src d st) i x) = some a) ∧ ∃ e, st.by_ (itr (parV src d st) i x) = some e := by
      intro i
      induction i with
      | zero =>
        intro _
        refine ⟨⟨a, hx⟩, ?_⟩
        cases hb : st.by_ x with
        | none => exact absurd (h.root x a hx hb).1 (hall 0 (by omega))
        | some e => exact ⟨e, hb⟩
      | succ i ih =>
        intro hi
        obtain ⟨_, e, he⟩ := ih (by omega)
        obtain ⟨_, _, n, m, h3, _⟩ := h.par _ e he
        have hp : itr (parV src d st) (i + 1) x = src e := by rw [itr_succ]; exact parV_eq he
        rw [hp]
        refine ⟨⟨m, h3⟩, ?_⟩
        cases hb : st.by_ (src e) with
        | none => exact absurd (h.root _ m h3 hb).1 (hp ▸ hall (i + 1) hi)
        | some e => exact ⟨e, rfl⟩
    obtain ⟨i, j, hij, hj, he⟩ := pigeon nodes (fun i => itr (parV src d st) i x) (fun i hi => by
      obtain ⟨_, e, he⟩ := hby i hi
      obtain ⟨h1, h2, _⟩ := h.par _ e he
      have := hn e h1
      rw [h2] at this
      exact this)
    refine hnone (j - i) (by omega) (itr (parV src d st) i x) (fun q hq => ?_) ?_
    · rw [← itr_add]; exact (hby (i + q) (by omega)).2
    · rw [← itr_add, show i + (j - i) = j by omega]; exact he.symm
  -- the first one
  have hfirst : ∀ p, itr (parV src d st) p x = frm → ∃ q, q ≤ p ∧ itr (parV src d st) q x = frm ∧ ∀ i, i < q → itr (parV src d st) i x ≠ frm := by
    intro p
    induction p using Nat.strongRecOn with
    | ind p ih =>
      intro hp
      by_cases hq : ∃ q, q < p ∧ itr (parV src d st) q x = frm
      · obtain ⟨q, h1, h2⟩ := hq
        obtain ⟨r, h3, h4⟩ := ih q h1 h2
        exact ⟨r, by omega, h4⟩
      · exact ⟨p, Nat.le_refl _, hp, fun i hi he => hq ⟨i, hi, he⟩⟩
  obtain ⟨p0, hp0, hf0⟩ := hex
  obtain ⟨p, hp, hf, hlt⟩ := hfirst p0 hf0
  have hby : ∀ i, i < p → (∃ a, st.at_ (itr (parV src d st) i x) = some a) ∧ ∃ e, st.by_ (itr (parV src d st) i x) = some e := by
    intro i
    induction i with
    | zero =>
      intro h0
      refine ⟨⟨a, hx⟩, ?_⟩
      cases hb : st.by_ x with
      | none => exact absurd (h.root x a hx hb).1 (hlt 0 h0)
      | some e => exact ⟨e, hb⟩
    | succ i ih =>
      intro hi
      obtain ⟨_, e, he⟩ := ih (by omega)
      obtain ⟨_, _, n, m, h3, _⟩ := h.par _ e he
      have hp : itr (parV src d st) (i + 1) x = src e := by rw [itr_succ]; exact parV_eq he
      rw [hp]
      refine ⟨⟨m, h3⟩, ?_⟩
      cases hb : st.by_ (src e) with
      | none => exact absurd (h.root _ m h3 hb).1 (hp ▸ hlt (i + 1) hi)
      | some e => exact ⟨e, rfl⟩
  refine ⟨p, by omega, hf, fun i hi => ⟨hlt i hi, (hby i hi).2⟩, ?_⟩
  obtain ⟨b, h1, h2⟩ := h.back d p x a hx (fun i hi => (hby i hi).2)
  have h0 := h.frm_zero hc
  rw [hf, h0] at h1; cases h1
  have h3 := h.back_walk d p x (fun i hi => (hby i hi).2)
  rw [hf] at h3
  obtain ⟨m', h5, h6⟩ := walk_closed hc h3 h0
  rw [hx] at h5; cases h5
  rcases h2 with h2 | ⟨h2, _⟩ <;> omega
end
end BF
end Go.Proofs.Ythbcnabeabcmlaa
namespace Go.Proofs.Ythbcnabeabcmlaa
open Go.Proofs
def clocks_ends (N : Nat) (x0 : Bound) (x1 : Bool) : Option (Ref × Ref) :=
 (bif x1 then some (x0.To, x0.From) else some (x0.From, x0.To))
theorem co_clocks_ends : CallOk Try.prog 121 := fun _ _ => by kernel_rfl
set_option maxHeartbeats 4000000 in
set_option maxRecDepth 100000 in
theorem c_clocks_ends (N : Nat) (w0 : World) (F0 : Mem) (hF : ∀ b o, F0 b = some o → w0.heap[b]? = some o) (x0 : Bound) (x1 : Bool) (r : (Ref × Ref)) (h : clocks_ends N x0 x1 = some r) :
  Calls Try.prog 121 ([(.agg #[(.int .i64 x0.From.Log), (.int .i64 x0.From.Line), (.int .i64 x0.To.Log), (.int .i64 x0.To.Line), (.int .i64 x0.Most), (.int .i64 x0.Kind), (.int .i64 x0.ID)]), (.bool x1)] : List Value).toArray w0 (FRet w0 F0 fun F' v => v = (.tuple #[(.agg #[(.int .i64 r.1.Log), (.int .i64 r.1.Line)]), (.agg #[(.int .i64 r.2.Log), (.int .i64 r.2.Line)])])) := by
 have hs0 := HS.start hF
 refine calls_of (n := 15) (c := bodyOf Try.f121) Try.func121 (by kernel_rfl) (by kernel_rfl) (by kernel_rfl) ?_
 refine Sq (Rg [0, 1, 2] ?_)
 refine Bx 2 0 0 103 #[(.int .i64 x0.From.Log), (.int .i64 x0.From.Line), (.int .i64 x0.To.Log), (.int .i64 x0.To.Line), (.int .i64 x0.Most), (.int .i64 x0.Kind), (.int .i64 x0.ID)] hs0 (fun b1 w2 (hs3 : HS w0 F0 w2 F0 [(some b1, (.cells #[(.int .i64 x0.From.Log), (.int .i64 x0.From.Line), (.int .i64 x0.To.Log), (.int .i64 x0.To.Line), (.int .i64 x0.Most), (.int .i64 x0.Kind), (.int .i64 x0.ID)] 103 (0, 0)))]) => ?_)
 refine Al 4 0 27 #[(.int .i64 0), (.int .i64 0)] hs3 (fun b4 w5 (hs6 : HS w0 F0 w5 F0 [(some b4, (.cells #[(.int .i64 0), (.int .i64 0)] 27 (0, 0))), (some b1, (.cells #[(.int .i64 x0.From.Log), (.int .i64 x0.From.Line), (.int .i64 x0.To.Log), (.int .i64 x0.To.Line), (.int .i64 x0.Most), (.int .i64 x0.Kind), (.int .i64 x0.ID)] 103 (0, 0)))]) => ?_)
 refine Al 5 0 27 #[(.int .i64 0), (.int .i64 0)] hs6 (fun b7 w8 (hs9 : HS w0 F0 w8 F0 [(some b7, (.cells #[(.int .i64 0), (.int .i64 0)] 27 (0, 0))), (some b4, (.cells #[(.int .i64 0), (.int .i64 0)] 27 (0, 0))), (some b1, (.cells #[(.int .i64 x0.From.Log), (.int .i64 x0.From.Line), (.int .i64 x0.To.Log), (.int .i64 x0.To.Line), (.int .i64 x0.Most), (.int .i64 x0.Kind), (.int .i64 x0.ID)] 103 (0, 0)))]) => ?_)
 refine Nss ?_
 refine Sq (Rg [0] ?_)
 refine V 6 4 (mv 1 (.bool x1)) ?_
 refine Nt ?_
 refine CWP.cond (t := x1) (by kernel_rfl) rfl (fun hb10 => ?_) (fun hb10 => ?_)
 ·have h11 := cond_t h hb10
  refine Sq ?_
  refine CWP.regionD (by kernel_rfl) (by kernel_rfl) (by kernel_rfl) (by kernel_rfl) (z := 5) (F := F0) (Lc := [(some b1, (.cells #[(.int .i64 x0.From.Log), (.int .i64 x0.From.Line), (.int .i64 x0.To.Log), (.int .i64 x0.To.Line), (.int .i64 x0.Most), (.int .i64 x0.Kind), (.int .i64 x0.ID)] 103 (0, 0)))]) (Lz := [(some b7, (.cells #[(.int .i64 0), (.int .i64 0)] 27 (0, 0)))]) (l := [false, false, false, false, false, false]) (fuel := 6) (by kernel_rfl) (by kernel_rfl) hs9 (by simp) (by simp) (fun f w => ∃ (F1 : Mem), HS w0 F0 w F1 [(some b7, (.cells #[(.int .i64 x0.From.Log), (.int .i64 x0.From.Line)] 27 (0, 0))), (some b4, (.cells #[(.int .i64 x0.To.Log), (.int .i64 x0.To.Line)] 27 (0, 0)))] ∧ Mem.le F0 F1 ∧ f.d = [] ∧ f 4 = (.pointer (some ⟨b4, 0, none⟩)) ∧ f 5 = (.pointer (some ⟨b7, 0, none⟩))) (fun wd12 hw13 => ?_) ?_
  ·refine Df 0 7 0 (.pointer (some ⟨b1, 2, none⟩)) (fun _ hq => fa 103 2 1 2 2 b1 0 2) ?_
   refine Df 1 8 27 _ (fun _ hq => ld 27 7 b1 2 true 2 (.agg #[(.int .i64 x0.To.Log), (.int .i64 x0.To.Line)]) (hq.1.2 0 _ _ rfl)) ?_
   refine Df 2 9 0 (.pointer (some ⟨b1, 0, none⟩)) (fun _ hq => fa 103 2 0 0 2 b1 0 0) ?_
   refine Df 3 10 27 _ (fun _ hq => ld 27 9 b1 0 true 2 (.agg #[(.int .i64 x0.From.Log), (.int .i64 x0.From.Line)]) (hq.1.2 0 _ _ rfl)) ?_
   refine DWP.one (i := 4) (by kernel_rfl) ?_
   refine DStep.store (l' := [true, true, true, true, true, false]) (zd := false) (by kernel_rfl) (by kernel_rfl) (ty := 0) (g := none) (by kernel_rfl) rfl (x := (.tmp 4)) (y := (.tmp 8)) (t := 27) (gg := true) (s := 2) (v := (.agg #[(.int .i64 x0.To.Log), (.int .i64 x0.To.Line)])) (b := b4) (o := 0) (C := #[(.int .i64 0), (.int .i64 0)]) rfl rfl (by kernel_rfl) hw13 (k := 1) rfl rfl rfl rfl (C' := #[(.int .i64 x0.To.Log), (.int .i64 x0.To.Line)]) rfl (Mem.le.refl _) (by simp) (fun _ => by simp) (fun w20 (hs21 : HS w0 F0 w20 F0 [(some b7, (.cells #[(.int .i64 0), (.int .i64 0)] 27 (0, 0))), (some b4, (.cells #[(.int .i64 x0.To.Log), (.int .i64 x0.To.Line)] 27 (0, 0))), (some b1, (.cells #[(.int .i64 x0.From.Log), (.int .i64 x0.From.Line), (.int .i64 x0.To.Log), (.int .i64 x0.To.Line), (.int .i64 x0.Most), (.int .i64 x0.Kind), (.int .i64 x0.ID)] 103 (0, 0)))]) => ?_)
   refine DWP.one (i := 5) (by kernel_rfl) ?_
   refine DStep.store (l' := [true, true, true, true, true, true]) (zd := true) (by kernel_rfl) (by kernel_rfl) (ty := 0) (g := none) (by kernel_rfl) rfl (x := (.tmp 5)) (y := (.tmp 10)) (t := 27) (gg := true) (s := 2) (v := (.agg #[(.int .i64 x0.From.Log), (.int .i64 x0.From.Line)])) (b := b7) (o := 0) (C := #[(.int .i64 0), (.int .i64 0)]) rfl rfl (by kernel_rfl) hs21 (k := 0) rfl rfl rfl rfl (C' := #[(.int .i64 x0.From.Log), (.int .i64 x0.From.Line)]) rfl (Mem.le.refl _) (by simp) (fun e => by cases e) (fun w22 (hs23 : HS w0 F0 w22 F0 [(some b7, (.cells #[(.int .i64 x0.From.Log), (.int .i64 x0.From.Line)] 27 (0, 0))), (some b4, (.cells #[(.int .i64 x0.To.Log), (.int .i64 x0.To.Line)] 27 (0, 0))), (some b1, (.cells #[(.int .i64 x0.From.Log), (.int .i64 x0.From.Line), (.int .i64 x0.To.Log), (.int .i64 x0.To.Line), (.int .i64 x0.Most), (.int .i64 x0.Kind), (.int .i64 x0.ID)] 103 (0, 0)))]) => ?_)
   have hs24 : HS w0 F0 w22 F0 [(some b7, (.cells #[(.int .i64 x0.From.Log), (.int .i64 x0.From.Line)] 27 (0, 0))), (some b4, (.cells #[(.int .i64 x0.To.Log), (.int .i64 x0.To.Line)] 27 (0, 0)))] := hs23.drop 2
   exact DWP.done (by kernel_rfl) ⟨F0, hs24, (Mem.le.refl _), rfl, rfl, rfl⟩
  ·rintro f w14 ⟨F1, hs15, le16, e17, e18, e19⟩
   refine thenQ_nrm ?_
   refine CWP.ret (by kernel_rfl) ?_
   refine thenQ_ret ?_
   have hfin := some_inj h11
   subst hfin
   exact ⟨e17, (.tuple #[(.agg #[(.int .i64 x0.To.Log), (.int .i64 x0.To.Line)]), (.agg #[(.int .i64 x0.From.Log), (.int .i64 x0.From.Line)])]), res_of (l := [.cell 4 27, .cell 5 27]) (by kernel_rfl) (vs := [(.agg #[(.int .i64 x0.To.Log), (.int .i64 x0.To.Line)]), (.agg #[(.int .i64 x0.From.Log), (.int .i64 x0.From.Line)])]) ⟨b4, 0, e18, run_loadVar' (t := 27) (g := true) (s := 2) (by kernel_rfl) (hs15.ownAt (k := 1) rfl) rfl (by decide), ⟨b7, 0, e19, run_loadVar' (t := 27) (g := true) (s := 2) (by kernel_rfl) (hs15.ownAt (k := 0) rfl) rfl (by decide), trivial⟩⟩, (.tuple #[(.agg #[(.int .i64 x0.To.Log), (.int .i64 x0.To.Line)]), (.agg #[(.int .i64 x0.From.Log), (.int .i64 x0.From.Line)])]), F1, rfl, hs15.clear, rfl⟩
 ·have h25 := cond_f h hb10
  refine Sc ?_
  refine thenQ_nrm ?_
  refine Sq ?_
  refine CWP.regionD (by kernel_rfl) (by kernel_rfl) (by kernel_rfl) (by kernel_rfl) (z := 5) (F := F0) (Lc := [(some b1, (.cells #[(.int .i64 x0.From.Log), (.int .i64 x0.From.Line), (.int .i64 x0.To.Log), (.int .i64 x0.To.Line), (.int .i64 x0.Most), (.int .i64 x0.Kind), (.int .i64 x0.ID)] 103 (0, 0)))]) (Lz := [(some b7, (.cells #[(.int .i64 0), (.int .i64 0)] 27 (0, 0)))]) (l := [false, false, false, false, false, false]) (fuel := 6) (by kernel_rfl) (by kernel_rfl) hs9 (by simp) (by simp) (fun f w => ∃ (F2 : Mem), HS w0 F0 w F2 [(some b7, (.cells #[(.int .i64 x0.To.Log), (.int .i64 x0.To.Line)] 27 (0, 0))), (some b4, (.cells #[(.int .i64 x0.From.Log), (.int .i64 x0.From.Line)] 27 (0, 0)))] ∧ Mem.le F0 F2 ∧ f.d = [] ∧ f 4 = (.pointer (some ⟨b4, 0, none⟩)) ∧ f 5 = (.pointer (some ⟨b7, 0, none⟩))) (fun wd26 hw27 => ?_) ?_
  ·refine Df 0 11 0 (.pointer (some ⟨b1, 0, none⟩)) (fun _ hq => fa 103 2 0 0 2 b1 0 0) ?_
   refine Df 1 12 27 _ (fun _ hq => ld 27 11 b1 0 true 2 (.agg #[(.int .i64 x0.From.Log), (.int .i64 x0.From.Line)]) (hq.1.2 0 _ _ rfl)) ?_
   refine Df 2 13 0 (.pointer (some ⟨b1, 2, none⟩)) (fun _ hq => fa 103 2 1 2 2 b1 0 2) ?_
   refine Df 3 14 27 _ (fun _ hq => ld 27 13 b1 2 true 2 (.agg #[(.int .i64 x0.To.Log), (.int .i64 x0.To.Line)]) (hq.1.2 0 _ _ rfl)) ?_
   refine DWP.one (i := 4) (by kernel_rfl) ?_
   refine DStep.store (l' := [true, true, true, true, true, false]) (zd := false) (by kernel_rfl) (by kernel_rfl) (ty := 0) (g := none) (by kernel_rfl) rfl (x := (.tmp 4)) (y := (.tmp 12)) (t := 27) (gg := true) (s := 2) (v := (.agg #[(.int .i64 x0.From.Log), (.int .i64 x0.From.Line)])) (b := b4) (o := 0) (C := #[(.int .i64 0), (.int .i64 0)]) rfl rfl (by kernel_rfl) hw27 (k := 1) rfl rfl rfl rfl (C' := #[(.int .i64 x0.From.Log), (.int .i64 x0.From.Line)]) rfl (Mem.le.refl _) (by simp) (fun _ => by simp) (fun w34 (hs35 : HS w0 F0 w34 F0 [(some b7, (.cells #[(.int .i64 0), (.int .i64 0)] 27 (0, 0))), (some b4, (.cells #[(.int .i64 x0.From.Log), (.int .i64 x0.From.Line)] 27 (0, 0))), (some b1, (.cells #[(.int .i64 x0.From.Log), (.int .i64 x0.From.Line), (.int .i64 x0.To.Log), (.int .i64 x0.To.Line), (.int .i64 x0.Most), (.int .i64 x0.Kind), (.int .i64 x0.ID)] 103 (0, 0)))]) => ?_)
   refine DWP.one (i := 5) (by kernel_rfl) ?_
   refine DStep.store (l' := [true, true, true, true, true, true]) (zd := true) (by kernel_rfl) (by kernel_rfl) (ty := 0) (g := none) (by kernel_rfl) rfl (x := (.tmp 5)) (y := (.tmp 14)) (t := 27) (gg := true) (s := 2) (v := (.agg #[(.int .i64 x0.To.Log), (.int .i64 x0.To.Line)])) (b := b7) (o := 0) (C := #[(.int .i64 0), (.int .i64 0)]) rfl rfl (by kernel_rfl) hs35 (k := 0) rfl rfl rfl rfl (C' := #[(.int .i64 x0.To.Log), (.int .i64 x0.To.Line)]) rfl (Mem.le.refl _) (by simp) (fun e => by cases e) (fun w36 (hs37 : HS w0 F0 w36 F0 [(some b7, (.cells #[(.int .i64 x0.To.Log), (.int .i64 x0.To.Line)] 27 (0, 0))), (some b4, (.cells #[(.int .i64 x0.From.Log), (.int .i64 x0.From.Line)] 27 (0, 0))), (some b1, (.cells #[(.int .i64 x0.From.Log), (.int .i64 x0.From.Line), (.int .i64 x0.To.Log), (.int .i64 x0.To.Line), (.int .i64 x0.Most), (.int .i64 x0.Kind), (.int .i64 x0.ID)] 103 (0, 0)))]) => ?_)
   have hs38 : HS w0 F0 w36 F0 [(some b7, (.cells #[(.int .i64 x0.To.Log), (.int .i64 x0.To.Line)] 27 (0, 0))), (some b4, (.cells #[(.int .i64 x0.From.Log), (.int .i64 x0.From.Line)] 27 (0, 0)))] := hs37.drop 2
   exact DWP.done (by kernel_rfl) ⟨F0, hs38, (Mem.le.refl _), rfl, rfl, rfl⟩
  ·rintro f w28 ⟨F2, hs29, le30, e31, e32, e33⟩
   refine thenQ_nrm ?_
   refine CWP.ret (by kernel_rfl) ?_
   have hfin := some_inj h25
   subst hfin
   exact ⟨e31, (.tuple #[(.agg #[(.int .i64 x0.From.Log), (.int .i64 x0.From.Line)]), (.agg #[(.int .i64 x0.To.Log), (.int .i64 x0.To.Line)])]), res_of (l := [.cell 4 27, .cell 5 27]) (by kernel_rfl) (vs := [(.agg #[(.int .i64 x0.From.Log), (.int .i64 x0.From.Line)]), (.agg #[(.int .i64 x0.To.Log), (.int .i64 x0.To.Line)])]) ⟨b4, 0, e32, run_loadVar' (t := 27) (g := true) (s := 2) (by kernel_rfl) (hs29.ownAt (k := 1) rfl) rfl (by decide), ⟨b7, 0, e33, run_loadVar' (t := 27) (g := true) (s := 2) (by kernel_rfl) (hs29.ownAt (k := 0) rfl) rfl (by decide), trivial⟩⟩, (.tuple #[(.agg #[(.int .i64 x0.From.Log), (.int .i64 x0.From.Line)]), (.agg #[(.int .i64 x0.To.Log), (.int .i64 x0.To.Line)])]), F2, rfl, hs29.clear, rfl⟩
end Go.Proofs.Ythbcnabeabcmlaa
