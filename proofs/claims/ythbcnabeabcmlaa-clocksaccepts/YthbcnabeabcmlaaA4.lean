/- Lemmas of the claim ClocksAccepts, printed by a program of the claimant and by hand. No statement of the seat is proved here. -/
import Derived.Test.YthbcnabeabcmlaaA3
set_option linter.unusedVariables false
set_option linter.unusedSimpArgs false
set_option linter.unusedSectionVars false
namespace Go.Proofs.Ythbcnabeabcmlaa
open Go.Proofs
def clocks_added_1_L0 {σ : Type} (N : Nat) (y : (σ → (Bool × (List Bound)) → Option (Bool × σ))) (z0 : System) (z1 : (List Tie)) (s : σ) (r1 : (List Tie)) : (Int × List Tie × σ) → Option (Flow σ (Int × List Tie × σ)) := fun s20 =>
 (bif (decide (s20.1 < (z1.length : Int))) then ((idx z1 s20.1).bind fun x47 => ((apnd s20.2.1 [x47]).bind fun r71 => ((clocks_loopOf N ({ Tracks := z0.Tracks, Ties := r71, Window := z0.Window } : System)).bind fun r82 => ((y s20.2.2 ((r82.isEmpty), r82)).bind fun q93 => (bif (!q93.1) then some (.ret q93.2) else ((bif (!r82.isEmpty) then ((sub r71 0 (W64 ((r71.length : Int) - 1))).bind fun r123 => some r123) else some r71).bind fun j112 => some (.next ((W64 (s20.1 + 1)), j112, q93.2)))))))) else some (.done (s20.1, s20.2.1, s20.2.2)))
def clocks_added_1 {σ : Type} (N : Nat) (y : σ → (Bool × (List Bound)) → Option (Bool × σ)) (z0 : System) (z1 : (List Tie)) (s : σ) : Option σ :=
 ((slices_Clone_api_Tie_api_Tie N z0.Ties).bind fun r1 => ((iter (clocks_added_1_L0 N y z0 z1 s r1) N (0, r1, s)).bind fun o => o.k (fun r => some r) (fun s32 => some s32.2.2)))
theorem co_clocks_added_1 : CallOk Try.prog 127 := fun _ _ => by kernel_rfl
set_option maxHeartbeats 4000000 in
set_option maxRecDepth 100000 in
theorem c_clocks_added_1 (N : Nat) (F0 : Mem) (z0 : System) (az0_0 : Option Addr) (nz0_0 : Nat) (hbz0_0 : LC z0.Tracks.length nz0_0) (hsz0_0 : SlA tTrack F0 az0_0 z0.Tracks) (az0_1 : Option Addr) (nz0_1 : Nat) (hbz0_1 : LC z0.Ties.length nz0_1) (hsz0_1 : SlA tTie F0 az0_1 z0.Ties) (bz0 : Nat) (z1 : (List Tie)) (az1_0 : Option Addr) (nz1_0 : Nat) (hbz1_0 : LC z1.length nz1_0) (hsz1_0 : SlA tTie F0 az1_0 z1) (bz1 : Nat) (hz1 : F0 bz1 = some (oc #[(.slice az1_0 z1.length nz1_0)] 23)) :
  SeqOk Try.prog 127 [(.pointer (some ⟨bz0, 0, none⟩)), (.pointer (some ⟨bz1, 0, none⟩))] F0 [(sb bz0 (kSystem z0 az0_0 nz0_0 az0_1 nz0_1) 25)] enc155 ok155 px155 (fun {_} y s => clocks_added_1 N y z0 z1 s) := by
 intro σ wb w0 Fb F1 l y J s r Lf le01 hJm hs0 hJ hY h
 have hs0 : HS wb Fb w0 F1 ((sb bz0 (kSystem z0 az0_0 nz0_0 az0_1 nz0_1) 25) :: Lf) := hs0
 refine calls_of (n := 42) (c := bodyOf Try.f127) Try.func127 (by kernel_rfl) (by kernel_rfl) (by kernel_rfl) ?_
 refine Sq (Rg [0, 1, 2, 3, 4] ?_)
 refine V 7 0 (fa 25 1 1 1 1 bz0 0 1) ?_
 refine V 8 23 (ld 23 7 bz0 1 false 1 (.slice az0_1 z0.Ties.length nz0_1) (hs0.ownAt (k := 0) rfl)) ?_
 obtain ⟨r1, hr2, h3⟩ := bind_some h
 refine RWP.callO (dst := (some 9)) (ty := 23) (g := none) (by kernel_rfl) rfl (f0 := (.func 128)) (aos := #[(.tmp 8)]) (ats := #[23]) (fid := 128) (first := #[]) (cap := #[]) (args := [(.slice az0_1 z0.Ties.length nz0_1)]) rfl co_slices_Clone_api_Tie_api_Tie (rfl) hs0 (c_slices_Clone_api_Tie_api_Tie N w0 F1 hs0.pers (z0.Ties) az0_1 nz0_1 hbz0_1 (SlA.mono hsz0_1 le01) _ hr2) ?_
 rintro _ F2 w5 _ hs6 le7 ⟨a9, n10, e11, rfl, rfl, hr12⟩
 have hs14 : HS wb Fb w5 F2 (e11 :: (sb bz0 (kSystem z0 az0_0 nz0_0 az0_1 nz0_1) 25) :: Lf) := hs6
 refine V 10 0 (fa 25 1 1 1 1 bz0 0 1) ?_
 refine RWP.store (ty := 0) (g := none) (by kernel_rfl) rfl (x := (.tmp 10)) (y := (.tmp 9)) (t := 23) (gg := false) (s := 1) (v := (.slice a9 r1.length n10)) (b := bz0) (o := 1) (C := (kSystem z0 az0_0 nz0_0 az0_1 nz0_1)) rfl rfl (by kernel_rfl) hs14 (k := 1) rfl rfl rfl rfl (C' := #[(.slice az0_0 z0.Tracks.length nz0_0), (.slice a9 r1.length n10), (vi z0.Window)]) rfl (fun w15 (hs16 : HS wb Fb w15 F2 (e11 :: (sb bz0 #[(.slice az0_0 z0.Tracks.length nz0_0), (.slice a9 r1.length n10), (vi z0.Window)] 25) :: Lf)) => ?_)
 refine Nss (Rg [0, 1, 2] ?_)
 refine V 11 23 (ld 23 2 bz1 0 false 1 (.slice az1_0 z1.length nz1_0) (hs16.pers _ _ ((le01.trans le7) _ _ hz1))) ?_
 refine V 12 3 (ln 11 23 az1_0 z1.length nz1_0 46 4 32) ?_
 refine V 13 3 (run_move (x := (.const (vi 0))) (v := (vi 0)) rfl) ?_
 refine Nt ?_
 obtain ⟨o17, ho18, h19⟩ := bind_some h3
 refine CWP.cut (fun f w => ∃ (s32 : (Int × List Tie × σ)) (F4 : Mem) (Lf36 : Own), o17 = .done s32 ∧ HS wb Fb w F4 Lf36 ∧ Mem.le F2 F4 ∧ f.d = [] ∧ J s32.2.2 F4 Lf36) ?_ ?_
 ·refine Bk ?_
  refine CWP.loop (by kernel_rfl) (fun m f w => ∃ (s20 : (Int × List Tie × σ)) (F3 : Mem) (as20_1 : Option Addr) (ns20_1 : Nat) (es20_1 : Option Nat × Obj) (Lf24 : Own), iter (clocks_added_1_L0 N y z0 z1 s r1) m s20 = some o17 ∧ HS wb Fb w F3 (es20_1 :: (sb bz0 #[(.slice az0_0 z0.Tracks.length nz0_0), (.slice as20_1 s20.2.1.length ns20_1), (vi z0.Window)] 25) :: Lf24) ∧ Mem.le F2 F3 ∧ f.d = [] ∧ f 0 = (.func (.yield l) #[] #[]) ∧ f 1 = (.pointer (some ⟨bz0, 0, none⟩)) ∧ f 11 = (.slice az1_0 z1.length nz1_0) ∧ f 12 = (vi (z1.length : Int)) ∧ f 13 = (vi s20.1) ∧ RowR tTie 46 F3 as20_1 ns20_1 s20.2.1 es20_1 ∧ J s20.2.2 F3 Lf24) N ⟨(0, r1, s), F2, a9, n10, e11, Lf, ho18, hs16, (Mem.le.refl _), rfl, rfl, rfl, rfl, rfl, rfl, hr12, (hJm _ _ _ _ hJ le7)⟩ ?_
  rintro m39 f w21 ⟨s20, F3, as20_1, ns20_1, es20_1, Lf24, hit40, hs22, le23, e26, e27, e28, e29, e30, e31, hrs20_1, hJ25⟩
  obtain ⟨m41, fl42, rfl, hb43, hnx44⟩ := iter_step hit40
  refine Sq (Rg [0] ?_)
  refine V 14 0 (run_lss (t := 3) (t' := 3) (x := (.tmp 13)) (y := (.tmp 12)) (k := .i64) (a := s20.1) (b := (z1.length : Int)) e31 e30) ?_
  refine Nss ?_
  refine CWP.cond (t := (decide (s20.1 < (z1.length : Int)))) (by kernel_rfl) rfl (fun hb45 => ?_) (fun hb45 => ?_)
  ·have h46 := cond_t hb43 hb45
   refine Sc ?_
   refine thenQ_nrm ?_
   refine Sq ?_
   refine Bk ?_
   refine Sq (Rg [0, 1, 2, 3] ?_)
   obtain ⟨x47, hx48, h50⟩ := bind_some h46
   obtain ⟨hi49, hx48'⟩ := idx_spec hx48
   obtain ⟨b51, o52, C53, E54, fz55, rfl, hF57, hE58⟩ := SlA.open (SlA.mono hsz1_0 ((le01.trans le7).trans le23)) hx48'
   have hc60 := hE58 _ _ hx48'
   refine V 15 0 (run_index (t := 23) (x := (.tmp 11)) (y := (.tmp 13)) (b := b51) (o := o52) (E := 46) (s := 4) (by_ := 32) e29 e31 (by kernel_rfl) hi49) ?_
   refine V 16 46 (lx 46 15 0 4 true 4 (.agg (kTie x47)) (hs22.pers _ _ hF57) hc60) ?_
   refine Al 5 0 46 #[(vi 0), (vi 0), (vi 0), (vi 0)] hs22 (fun b61 w62 (hs63 : HS wb Fb w62 F3 ((sb b61 #[(vi 0), (vi 0), (vi 0), (vi 0)] 46) :: es20_1 :: (sb bz0 #[(.slice az0_0 z0.Tracks.length nz0_0), (.slice as20_1 s20.2.1.length ns20_1), (vi z0.Window)] 25) :: Lf24)) => ?_)
   refine RWP.store (ty := 0) (g := none) (by kernel_rfl) rfl (x := (.tmp 5)) (y := (.tmp 16)) (t := 46) (gg := true) (s := 4) (v := (.agg (kTie x47))) (b := b61) (o := 0) (C := #[(vi 0), (vi 0), (vi 0), (vi 0)]) rfl rfl (by kernel_rfl) hs63 (k := 0) rfl rfl rfl rfl (C' := (kTie x47)) rfl (fun w64 (hs65 : HS wb Fb w64 F3 ((sb b61 (kTie x47) 46) :: es20_1 :: (sb bz0 #[(.slice az0_0 z0.Tracks.length nz0_0), (.slice as20_1 s20.2.1.length ns20_1), (vi z0.Window)] 25) :: Lf24)) => ?_)
   refine Nss (Rg [0, 1, 2, 3, 4, 5, 6] ?_)
   refine V 17 0 (fa 25 1 1 1 1 bz0 0 1 e28) ?_
   refine V 18 23 (ld 23 17 bz0 1 false 1 (.slice as20_1 s20.2.1.length ns20_1) (hs65.ownAt (k := 2) rfl)) ?_
   refine V 19 46 (ld 46 5 b61 0 true 4 (.agg (kTie x47)) (hs65.ownAt (k := 0) rfl)) ?_
   refine RWP.buildSlice (dst := (some 20)) (ty := 23) (g := none) (by kernel_rfl) rfl (t := 23) (len := 1) (parts := #[(0, (.tmp 19))]) (vs := [(0, (.agg (kTie x47)))]) (rfl) (E := 46) (cs := [(vi x47.A.Log), (vi x47.A.Line), (vi x47.B.Log), (vi x47.B.Line)]) (by kernel_rfl) hs65 (fun b66 w67 (hs68 : HS wb Fb w67 F3 ((some b66, .cells ([(vi x47.A.Log), (vi x47.A.Line), (vi x47.B.Log), (vi x47.B.Line)] : List Value).toArray 46 (0, 0)) :: (sb b61 (kTie x47) 46) :: es20_1 :: (sb bz0 #[(.slice az0_0 z0.Tracks.length nz0_0), (.slice as20_1 s20.2.1.length ns20_1), (vi z0.Window)] 25) :: Lf24)) => ?_)
   have hr70 : RowR tTie 46 F3 (some ⟨b66, 0, none⟩) 1 [x47] (some b66, .cells ([(vi x47.A.Log), (vi x47.A.Line), (vi x47.B.Log), (vi x47.B.Line)] : List Value).toArray 46 (0, 0)) := RowR.lit ⟨rfl, rfl⟩ (by simp)
   obtain ⟨r71, hap72, h73⟩ := bind_some h50
   refine RWP.append (dst := (some 21)) (ty := 23) (g := none) (by kernel_rfl) rfl (x := (.tmp 18)) (y := (.tmp 20)) (t := 23) (t2 := 23) (by_ := 32) (z := (.agg #[(vi 0), (vi 0), (vi 0), (vi 0)])) (a2 := (some ⟨b66, 0, none⟩)) (c2 := 1) (m := [x47]) (T := tTie) (E := 46) (a := as20_1) (cap := ns20_1) (l := s20.2.1) rfl rfl (by kernel_rfl) (by decide) (by kernel_rfl) (by kernel_rfl) rfl oTie hs68 (k := 2) rfl hrs20_1 (RowR.rd hs68 (k := 0) rfl hr70) (r := r71) hap72 (fun a74 n75 e76 w77 (hs78 : HS wb Fb w77 F3 ((some b66, .cells ([(vi x47.A.Log), (vi x47.A.Line), (vi x47.B.Log), (vi x47.B.Line)] : List Value).toArray 46 (0, 0)) :: (sb b61 (kTie x47) 46) :: e76 :: (sb bz0 #[(.slice az0_0 z0.Tracks.length nz0_0), (.slice as20_1 s20.2.1.length ns20_1), (vi z0.Window)] 25) :: Lf24)) hr79 => ?_)
   refine V 22 0 (fa 25 1 1 1 1 bz0 0 1 e28) ?_
   refine RWP.store (ty := 0) (g := none) (by kernel_rfl) rfl (x := (.tmp 22)) (y := (.tmp 21)) (t := 23) (gg := false) (s := 1) (v := (.slice a74 r71.length n75)) (b := bz0) (o := 1) (C := #[(.slice az0_0 z0.Tracks.length nz0_0), (.slice as20_1 s20.2.1.length ns20_1), (vi z0.Window)]) rfl rfl (by kernel_rfl) hs78 (k := 3) rfl rfl rfl rfl (C' := #[(.slice az0_0 z0.Tracks.length nz0_0), (.slice a74 r71.length n75), (vi z0.Window)]) rfl (fun w80 (hs81 : HS wb Fb w80 F3 ((some b66, .cells ([(vi x47.A.Log), (vi x47.A.Line), (vi x47.B.Log), (vi x47.B.Line)] : List Value).toArray 46 (0, 0)) :: (sb b61 (kTie x47) 46) :: e76 :: (sb bz0 #[(.slice az0_0 z0.Tracks.length nz0_0), (.slice a74 r71.length n75), (vi z0.Window)] 25) :: Lf24)) => ?_)
   refine Nss (Rg [0, 1, 2] ?_)
   refine V 23 25 (ld 25 1 bz0 0 true 3 (.agg #[(.slice az0_0 z0.Tracks.length nz0_0), (.slice a74 r71.length n75), (vi z0.Window)]) (hs81.ownAt (k := 3) rfl) e28) ?_
   obtain ⟨r82, hr83, h84⟩ := bind_some h73
   refine RWP.callLent (q := 2) (T := tBound) (r := r82) (dst := (some 24)) (ty := 57) (g := none) (by kernel_rfl) rfl (f0 := (.func 103)) (aos := #[(.tmp 23)]) (ats := #[25]) (fid := 103) (first := #[]) (cap := #[]) (args := [(.agg #[(.slice az0_0 z0.Tracks.length nz0_0), (.slice a74 r71.length n75), (vi z0.Window)])]) rfl co_clocks_loopOf (rfl) hs81 rfl (fun _ _ _ _ h => h) (c_clocks_loopOf N w80 (addF F3 e76) (HS.lend hs81 (q := 2) rfl).2 ({ Tracks := z0.Tracks, Ties := r71, Window := z0.Window } : System) az0_0 nz0_0 hbz0_0 (SlA.mono (SlA.mono hsz0_0 ((le01.trans le7).trans le23)) (HS.lend hs81 (q := 2) rfl).1) a74 n75 (RowR.bound hr79) (RowR.freeze hr79 (HS.lend hs81 (q := 2) rfl).1) _ hr83) (fun a85 n86 F5 w87 (hs88 : HS wb Fb w87 F5 ((some b66, .cells ([(vi x47.A.Log), (vi x47.A.Line), (vi x47.B.Log), (vi x47.B.Line)] : List Value).toArray 46 (0, 0)) :: (sb b61 (kTie x47) 46) :: e76 :: (sb bz0 #[(.slice az0_0 z0.Tracks.length nz0_0), (.slice a74 r71.length n75), (vi z0.Window)] 25) :: Lf24)) le89 hb90 hl91 nf92 => ?_)
   refine V 6 57 (ma 24 (.slice a85 r82.length n86)) ?_
   refine Nss ?_
   refine Sq (Rg [0, 1, 2, 3, 4, 5] ?_)
   refine V 25 155 (mv 0 (.func (.yield l) #[] #[]) e27) ?_
   refine V 26 57 (mv 6 (.slice a85 r82.length n86)) ?_
   refine V 27 4 (run_eqnil' (e := 103) (t := 57) (t' := 57) (x := (.tmp 26)) (y := (.const (.slice none 0 0))) hl91 nf92 rfl rfl (by kernel_rfl)) ?_
   refine V 28 57 (mv 6 (.slice a85 r82.length n86)) ?_
   obtain ⟨q93, hq94, h95⟩ := bind_some h84
   refine RWP.yield (dst := (some 29)) (ty := 4) (g := none) (by kernel_rfl) rfl (f0 := (.tmp 25)) (aos := #[(.tmp 27), (.tmp 28)]) (ats := #[4, 57]) (l := l) (args := [(.bool (r82.isEmpty)), (.slice a85 r82.length n86)]) rfl (rfl) (hY s20.2.2 ((r82.isEmpty), r82, a85, n86) w87 F5 [(some b66, .cells ([(vi x47.A.Log), (vi x47.A.Line), (vi x47.B.Log), (vi x47.B.Line)] : List Value).toArray 46 (0, 0)), (sb b61 (kTie x47) 46), e76, (sb bz0 #[(.slice az0_0 z0.Tracks.length nz0_0), (.slice a74 r71.length n75), (vi z0.Window)] 25)] Lf24 q93 ((le7.trans le23).trans le89) ⟨hb90, hl91⟩ (hJm _ _ _ _ hJ25 le89) hs88 hq94) ?_
   rintro _ w96 ⟨F6, Lf100, rfl, hs97, le98, hJ99⟩
   have hs101 : HS wb Fb w96 F6 ((some b66, .cells ([(vi x47.A.Log), (vi x47.A.Line), (vi x47.B.Log), (vi x47.B.Line)] : List Value).toArray 46 (0, 0)) :: (sb b61 (kTie x47) 46) :: e76 :: (sb bz0 #[(.slice az0_0 z0.Tracks.length nz0_0), (.slice a74 r71.length n75), (vi z0.Window)] 25) :: Lf100) := hs97
   refine ⟨_, rfl, ?_⟩
   refine V 30 4 (run_not (t := 4) (x := (.tmp 29)) (a := q93.1) rfl) ?_
   refine Nt ?_
   refine CWP.cond (t := (!q93.1)) (by kernel_rfl) rfl (fun hb102 => ?_) (fun hb102 => ?_)
   ·have h103 := cond_t h95 hb102
    refine CWP.ret (by kernel_rfl) ?_
    refine thenQ_ret ?_
    refine blockQ_ret ?_
    refine thenQ_ret ?_
    refine thenQ_ret ?_
    refine blockQ_ret ?_
    have hret := iter_ret h103 hnx44
    subst hret
    refine .inr ?_
    have hs104 : HS wb Fb w96 F6 ((sb b61 (kTie x47) 46) :: e76 :: (sb bz0 #[(.slice az0_0 z0.Tracks.length nz0_0), (.slice a74 r71.length n75), (vi z0.Window)] 25) :: Lf100) := hs101.drop 0
    have hs105 : HS wb Fb w96 F6 (e76 :: (sb bz0 #[(.slice az0_0 z0.Tracks.length nz0_0), (.slice a74 r71.length n75), (vi z0.Window)] 25) :: Lf100) := hs104.drop 0
    have hs106 : HS wb Fb w96 F6 ((sb bz0 #[(.slice az0_0 z0.Tracks.length nz0_0), (.slice a74 r71.length n75), (vi z0.Window)] 25) :: Lf100) := hs105.drop 0
    have hs107 : HS wb Fb w96 F6 Lf100 := hs106.drop 0
    have hfin := some_inj h19
    subst hfin
    exact ⟨e26, .tuple #[], res_of (l := []) (by kernel_rfl) (vs := []) trivial, F6, Lf100, rfl, hs107, (((le7.trans le23).trans le89).trans le98), hJ99⟩
   ·have h108 := cond_f h95 hb102
    refine Sc ?_
    refine thenQ_nrm ?_
    refine Sq (Rg [0, 1] ?_)
    refine V 31 57 (mv 6 (.slice a85 r82.length n86)) ?_
    refine V 32 4 (run_nenil' (e := 103) (t := 57) (t' := 57) (x := (.tmp 31)) (y := (.const (.slice none 0 0))) (SlA.mono hl91 le98) nf92 rfl rfl (by kernel_rfl)) ?_
    refine Nt ?_
    obtain ⟨j112, hj119, h120⟩ := bind_some h108
    refine CWP.cut (fun f w => ∃ (F7 : Mem) (aj112_0 : Option Addr) (nj112_0 : Nat) (ej112_0 : Option Nat × Obj), HS wb Fb w F7 (ej112_0 :: (sb bz0 #[(.slice az0_0 z0.Tracks.length nz0_0), (.slice aj112_0 j112.length nj112_0), (vi z0.Window)] 25) :: Lf100) ∧ Mem.le F6 F7 ∧ f.d = [] ∧ f 0 = (.func (.yield l) #[] #[]) ∧ f 1 = (.pointer (some ⟨bz0, 0, none⟩)) ∧ f 11 = (.slice (some ⟨b51, o52, none⟩) z1.length nz1_0) ∧ f 12 = (vi (z1.length : Int)) ∧ f 13 = (vi s20.1) ∧ RowR tTie 46 F7 aj112_0 nj112_0 j112 ej112_0) ?_ ?_
    ·refine CWP.cond (t := (!r82.isEmpty)) (by kernel_rfl) rfl (fun hb121 => ?_) (fun hb121 => ?_)
     ·have h122 := cond_t hj119 hb121
      refine Rg [0, 1, 2, 3, 4, 5, 6, 7, 8] ?_
      refine V 33 0 (fa 25 1 1 1 1 bz0 0 1 e28) ?_
      refine V 34 23 (ld 23 33 bz0 1 false 1 (.slice a74 r71.length n75) (hs101.ownAt (k := 3) rfl)) ?_
      refine V 35 0 (fa 25 1 1 1 1 bz0 0 1 e28) ?_
      refine V 36 23 (ld 23 35 bz0 1 false 1 (.slice a74 r71.length n75) (hs101.ownAt (k := 3) rfl)) ?_
      refine V 37 3 (ln 36 23 a74 r71.length n75 46 4 32) ?_
      refine V 38 3 (run_sub (t := 3) (t' := 3) (x := (.tmp 37)) (y := (.const (vi 1))) (k := .i64) (a := (r71.length : Int)) (b := 1) rfl rfl) ?_
      obtain ⟨r123, hr124, h125⟩ := bind_some h122
      refine RWP.sliceRow (T := tTie) (x := (.tmp 34)) (y := (.tmp 38)) (t := 23) (E := 46) (by_ := 32) (c := n75) (a := a74) (l := r71) (r := r123) (ih := (W64 ((r71.length : Int) - 1))) (dst := (some 39)) (ty := 23) (g := none) (by kernel_rfl) rfl rfl (by kernel_rfl) (by kernel_rfl) (hr79.mono (le89.trans le98)) rfl hr124 (fun hr126 => ?_)
      refine V 40 0 (fa 25 1 1 1 1 bz0 0 1 e28) ?_
      refine RWP.store (ty := 0) (g := none) (by kernel_rfl) rfl (x := (.tmp 40)) (y := (.tmp 39)) (t := 23) (gg := false) (s := 1) (v := (.slice a74 r123.length n75)) (b := bz0) (o := 1) (C := #[(.slice az0_0 z0.Tracks.length nz0_0), (.slice a74 r71.length n75), (vi z0.Window)]) rfl rfl (by kernel_rfl) hs101 (k := 3) rfl rfl rfl rfl (C' := #[(.slice az0_0 z0.Tracks.length nz0_0), (.slice a74 r123.length n75), (vi z0.Window)]) rfl (fun w127 (hs128 : HS wb Fb w127 F6 ((some b66, .cells ([(vi x47.A.Log), (vi x47.A.Line), (vi x47.B.Log), (vi x47.B.Line)] : List Value).toArray 46 (0, 0)) :: (sb b61 (kTie x47) 46) :: e76 :: (sb bz0 #[(.slice az0_0 z0.Tracks.length nz0_0), (.slice a74 r123.length n75), (vi z0.Window)] 25) :: Lf100)) => ?_)
      refine RWP.nil ?_
      obtain rfl := some_inj h125
      have hs129 : HS wb Fb w127 F6 ((sb b61 (kTie x47) 46) :: e76 :: (sb bz0 #[(.slice az0_0 z0.Tracks.length nz0_0), (.slice a74 r123.length n75), (vi z0.Window)] 25) :: Lf100) := hs128.drop 0
      have hs130 : HS wb Fb w127 F6 (e76 :: (sb bz0 #[(.slice az0_0 z0.Tracks.length nz0_0), (.slice a74 r123.length n75), (vi z0.Window)] 25) :: Lf100) := hs129.drop 0
      exact .inl ⟨rfl, F6, a74, n75, e76, hs130, (Mem.le.refl _), e26, e27, e28, e29, e30, e31, hr126⟩
     ·have h131 := cond_f hj119 hb121
      refine Sc ?_
      obtain rfl := some_inj h131
      have hs132 : HS wb Fb w96 F6 ((sb b61 (kTie x47) 46) :: e76 :: (sb bz0 #[(.slice az0_0 z0.Tracks.length nz0_0), (.slice a74 r71.length n75), (vi z0.Window)] 25) :: Lf100) := hs101.drop 0
      have hs133 : HS wb Fb w96 F6 (e76 :: (sb bz0 #[(.slice az0_0 z0.Tracks.length nz0_0), (.slice a74 r71.length n75), (vi z0.Window)] 25) :: Lf100) := hs132.drop 0
      exact .inl ⟨rfl, F6, a74, n75, e76, hs133, (Mem.le.refl _), e26, e27, e28, e29, e30, e31, (hr79.mono (le89.trans le98))⟩
    ·rintro f w109 ⟨F7, aj112_0, nj112_0, ej112_0, hs110, le111, e113, e114, e115, e116, e117, e118, hrj112_0⟩
     refine blockQ_nrm ?_
     refine thenQ_nrm ?_
     refine Rg [0, 1] ?_
     refine V 41 3 (run_add (t := 3) (t' := 3) (x := (.tmp 13)) (y := (.const (vi 1))) (k := .i64) (a := s20.1) (b := 1) e118 rfl) ?_
     refine V 13 3 (mv 41 (vi (W64 (s20.1 + 1)))) ?_
     refine RWP.nil ?_
     have hn134 := iter_next h120 hnx44
     exact ⟨m41, Nat.lt_succ_self _, ((W64 (s20.1 + 1)), j112, q93.2), F7, aj112_0, nj112_0, ej112_0, Lf100, hn134, hs110, (((le23.trans le89).trans le98).trans le111), e113, e114, e115, e116, e117, rfl, hrj112_0, (hJm _ _ _ _ hJ99 le111)⟩
  ·have h135 := cond_f hb43 hb45
   refine CWP.exit (by kernel_rfl) ?_
   refine thenQ_ex ?_
   refine thenQ_ex ?_
   refine blockQ_hit rfl ?_
   have hs136 : HS wb Fb w21 F3 ((sb bz0 #[(.slice az0_0 z0.Tracks.length nz0_0), (.slice as20_1 s20.2.1.length ns20_1), (vi z0.Window)] 25) :: Lf24) := hs22.drop 0
   have hs137 : HS wb Fb w21 F3 Lf24 := hs136.drop 0
   have ho138 := iter_done h135 hnx44
   exact .inl ⟨rfl, (s20.1, s20.2.1, s20.2.2), F3, Lf24, ho138, hs137, le23, e26, hJ25⟩
 ·rintro f w33 ⟨s32, F4, Lf36, rfl, hs34, le35, e38, hJ37⟩
  have h139 := k_done h19
  have hfin := some_inj h139
  subst hfin
  exact ⟨e38, .tuple #[], res_of (l := []) (by kernel_rfl) (vs := []) trivial, F4, Lf36, rfl, hs34, (le7.trans le35), hJ37⟩
end Go.Proofs.Ythbcnabeabcmlaa
namespace Go.Proofs.Ythbcnabeabcmlaa
open Go.Proofs
def clocks_offered_1 (N : Nat) (x0 : Tie) (z0 : System) : Option Bool :=
 (((clocks_has N z0 x0.A).bind fun r12 => (bif (!r12) then some true else ((clocks_has N z0 x0.B).bind fun r24 => some (!r24)))).bind fun j7 => some j7)
theorem co_clocks_offered_1 : CallOk Try.prog 125 := fun _ _ => by kernel_rfl
set_option maxHeartbeats 4000000 in
set_option maxRecDepth 100000 in
theorem c_clocks_offered_1 (N : Nat) (w0 : World) (F0 : Mem) (hF : ∀ b o, F0 b = some o → w0.heap[b]? = some o) (x0 : Tie) (bz0 : Nat) (z0 : System) (az0_0 : Option Addr) (nz0_0 : Nat) (hbz0_0 : LC z0.Tracks.length nz0_0) (hsz0_0 : SlA tTrack F0 az0_0 z0.Tracks) (az0_1 : Option Addr) (nz0_1 : Nat) (hbz0_1 : LC z0.Ties.length nz0_1) (hsz0_1 : SlA tTie F0 az0_1 z0.Ties) (hz0 : F0 bz0 = some (oc (kSystem z0 az0_0 nz0_0 az0_1 nz0_1) 25)) (r : Bool) (h : clocks_offered_1 N x0 z0 = some r) :
  Calls Try.prog 125 ([(.agg (kTie x0)), (.pointer (some ⟨bz0, 0, none⟩))] : List Value).toArray w0 (FRet w0 F0 fun F' v => v = (.bool r)) := by
 have hs0 := HS.start hF
 refine calls_of (n := 16) (c := bodyOf Try.f125) Try.func125 (by kernel_rfl) (by kernel_rfl) (by kernel_rfl) ?_
 refine Sq (Rg [0, 1] ?_)
 refine Bx 2 0 0 46 (kTie x0) hs0 (fun b1 w2 (hs3 : HS w0 F0 w2 F0 [(sb b1 (kTie x0) 46)]) => ?_)
 refine V 3 4 (mc (.bool false) (.bool false)) ?_
 refine Nss (Rg [0, 1, 2, 3, 4, 5, 6, 7, 8, 9, 10, 11, 12] ?_)
 obtain ⟨j7, hj10, h11⟩ := bind_some h
 refine RWP.cut (fun f w => ∃ (F1 : Mem), HS w0 F0 w F1 [] ∧ Mem.le F0 F1 ∧ f.d = [] ∧ f 3 = (.bool j7)) ?_ ?_
 ·refine V 4 25 (ld 25 1 bz0 0 true 3 (.agg (kSystem z0 az0_0 nz0_0 az0_1 nz0_1)) (hs3.pers _ _ hz0)) ?_
  refine V 5 0 (fa 46 2 0 0 2 b1 0 0) ?_
  refine V 6 27 (ld 27 5 b1 0 true 2 (.agg (kRef x0.A)) (hs3.ownAt (k := 0) rfl)) ?_
  obtain ⟨r12, hr13, h14⟩ := bind_some hj10
  refine Cl 7 4 107 #[(.tmp 4), (.tmp 6)] #[25, 27] co_clocks_has hs3 (c_clocks_has N w2 F0 hs3.pers (z0) az0_0 nz0_0 hbz0_0 hsz0_0 az0_1 nz0_1 hbz0_1 hsz0_1 (x0.A) _ hr13) ?_
  intro v15 F2 w16 hs17 le18 hp19
  obtain rfl := hp19
  refine V 8 4 (run_not (t := 4) (x := (.tmp 7)) (a := r12) rfl) ?_
  refine V 9 4 (mv 8 (.bool (!r12))) ?_
  refine RWP.split (!r12) (fun hb20 => ?_) (fun hb20 => ?_)
  ·have h21 := cond_t h14 hb20
   refine Sk [10, 11, 12, 13, 14] 5 false 9 hb20 ?_
   refine V 15 4 (p1 9 (.const (.bool true)) (.tmp 14) (.bool true) hb20) ?_
   refine V 3 4 (ma 15 (.bool true)) ?_
   obtain rfl := some_inj h21
   have hs22 : HS w0 F0 w16 F2 [] := hs17.drop 0
   exact RWP.nil ⟨rfl, F2, hs22, le18, rfl, rfl⟩
  ·have h23 := cond_f h14 hb20
   refine Vg 10 25 5 false 9 hb20 (ld 25 1 bz0 0 true 3 (.agg (kSystem z0 az0_0 nz0_0 az0_1 nz0_1)) (hs17.pers _ _ (le18 _ _ hz0))) ?_
   refine Vg 11 0 5 false 9 hb20 (fa 46 2 1 2 2 b1 0 2) ?_
   refine Vg 12 27 5 false 9 hb20 (ld 27 11 b1 2 true 2 (.agg (kRef x0.B)) (hs17.ownAt (k := 0) rfl)) ?_
   obtain ⟨r24, hr25, h26⟩ := bind_some h23
   refine RWP.call (dst := (some 13)) (ty := 4) (g := (some (5, false))) (by kernel_rfl) (gd_y (d := 9) (by kernel_rfl) rfl hb20) (f0 := (.func 107)) (aos := #[(.tmp 10), (.tmp 12)]) (ats := #[25, 27]) (fid := 107) (first := #[]) (cap := #[]) (args := [(.agg (kSystem z0 az0_0 nz0_0 az0_1 nz0_1)), (.agg (kRef x0.B))]) rfl co_clocks_has (rfl) hs17 (c_clocks_has N w16 F2 hs17.pers (z0) az0_0 nz0_0 hbz0_0 (SlA.mono hsz0_0 le18) az0_1 nz0_1 hbz0_1 (SlA.mono hsz0_1 le18) (x0.B) _ hr25) ?_
   intro v27 F3 w28 hs29 le30 hp31
   obtain rfl := hp31
   refine Vg 14 4 5 false 9 hb20 (run_not (t := 4) (x := (.tmp 13)) (a := r24) rfl) ?_
   refine V 15 4 (p0 9 (.const (.bool true)) (.tmp 14) (.bool (!r24)) hb20) ?_
   refine V 3 4 (ma 15 (.bool (!r24))) ?_
   obtain rfl := some_inj h26
   have hs32 : HS w0 F0 w28 F3 [] := hs29.drop 0
   exact RWP.nil ⟨rfl, F3, hs32, (le18.trans le30), rfl, rfl⟩
 ·rintro f w4 ⟨F1, hs5, le6, e8, e9⟩
  refine thenQ_nrm ?_
  refine CWP.ret (by kernel_rfl) ?_
  have hfin := some_inj h11
  subst hfin
  exact ⟨e8, (.bool j7), res_of (l := [.tmp 3]) (by kernel_rfl) (vs := [(.bool j7)]) ⟨e9, trivial⟩, (.bool j7), F1, rfl, hs5.clear, rfl⟩
end Go.Proofs.Ythbcnabeabcmlaa
namespace Go.Proofs.Ythbcnabeabcmlaa
open Go.Proofs
def clocks_offered_2 (N : Nat) (x0 : Tie) (z0 : System) : Option Bool :=
 ((clocks_tied N z0 x0).bind fun r4 => some (!r4))
theorem co_clocks_offered_2 : CallOk Try.prog 126 := fun _ _ => by kernel_rfl
set_option maxHeartbeats 4000000 in
set_option maxRecDepth 100000 in
theorem c_clocks_offered_2 (N : Nat) (w0 : World) (F0 : Mem) (hF : ∀ b o, F0 b = some o → w0.heap[b]? = some o) (x0 : Tie) (bz0 : Nat) (z0 : System) (az0_0 : Option Addr) (nz0_0 : Nat) (hbz0_0 : LC z0.Tracks.length nz0_0) (hsz0_0 : SlA tTrack F0 az0_0 z0.Tracks) (az0_1 : Option Addr) (nz0_1 : Nat) (hbz0_1 : LC z0.Ties.length nz0_1) (hsz0_1 : SlA tTie F0 az0_1 z0.Ties) (hz0 : F0 bz0 = some (oc (kSystem z0 az0_0 nz0_0 az0_1 nz0_1) 25)) (r : Bool) (h : clocks_offered_2 N x0 z0 = some r) :
  Calls Try.prog 126 ([(.agg (kTie x0)), (.pointer (some ⟨bz0, 0, none⟩))] : List Value).toArray w0 (FRet w0 F0 fun F' v => v = (.bool r)) := by
 have hs0 := HS.start hF
 refine calls_of (n := 8) (c := bodyOf Try.f126) Try.func126 (by kernel_rfl) (by kernel_rfl) (by kernel_rfl) ?_
 refine Sq (Rg [0, 1] ?_)
 refine Bx 2 0 0 46 (kTie x0) hs0 (fun b1 w2 (hs3 : HS w0 F0 w2 F0 [(sb b1 (kTie x0) 46)]) => ?_)
 refine V 3 4 (mc (.bool false) (.bool false)) ?_
 refine Nss (Rg [0, 1, 2, 3, 4] ?_)
 refine V 4 25 (ld 25 1 bz0 0 true 3 (.agg (kSystem z0 az0_0 nz0_0 az0_1 nz0_1)) (hs3.pers _ _ hz0)) ?_
 refine V 5 46 (ld 46 2 b1 0 true 4 (.agg (kTie x0)) (hs3.ownAt (k := 0) rfl)) ?_
 obtain ⟨r4, hr5, h6⟩ := bind_some h
 refine Cl 6 4 70 #[(.tmp 4), (.tmp 5)] #[25, 46] co_clocks_tied hs3 (c_clocks_tied N w2 F0 hs3.pers (z0) az0_0 nz0_0 hbz0_0 hsz0_0 az0_1 nz0_1 hbz0_1 hsz0_1 (x0) _ hr5) ?_
 intro v7 F1 w8 hs9 le10 hp11
 obtain rfl := hp11
 refine V 7 4 (run_not (t := 4) (x := (.tmp 6)) (a := r4) rfl) ?_
 refine V 3 4 (ma 7 (.bool (!r4))) ?_
 refine Nt ?_
 refine CWP.ret (by kernel_rfl) ?_
 have hfin := some_inj h6
 subst hfin
 exact ⟨rfl, (.bool (!r4)), res_of (l := [.tmp 3]) (by kernel_rfl) (vs := [(.bool (!r4))]) ⟨rfl, trivial⟩, (.bool (!r4)), F1, rfl, hs9.clear, rfl⟩
end Go.Proofs.Ythbcnabeabcmlaa
namespace Go.Proofs.Ythbcnabeabcmlaa
open Go.Proofs
def clocks_offered (N : Nat) (x0 : System) (x1 : (List Tie)) (x2 : Bool) : Option Int :=
 ((clocks_Check N x0).bind fun r4 => (bif (r4 != 0) then some r4 else ((slices_ContainsFunc_api_Tie_api_Tie N x1 (fun y0 => clocks_offered_1 N y0 x0)).bind fun r18 => (bif r18 then some 3 else ((bif (!x2) then some true else ((slices_ContainsFunc_api_Tie_api_Tie N x1 (fun y0 => clocks_offered_2 N y0 x0)).bind fun r42 => some r42)).bind fun j32 => (bif j32 then some 1 else ((clocks_loopOf N x0).bind fun r53 => (bif (!r53.isEmpty) then some 31 else (bif (decide ((W64 ((x0.Ties.length : Int) + (x1.length : Int))) > 400)) then some 2 else some 0)))))))))
theorem co_clocks_offered : CallOk Try.prog 86 := fun _ _ => by kernel_rfl
set_option maxHeartbeats 4000000 in
set_option maxRecDepth 100000 in
theorem c_clocks_offered (N : Nat) (w0 : World) (F0 : Mem) (hF : ∀ b o, F0 b = some o → w0.heap[b]? = some o) (x0 : System) (a0_0 : Option Addr) (n0_0 : Nat) (hb0_0 : LC x0.Tracks.length n0_0) (hs0_0 : SlA tTrack F0 a0_0 x0.Tracks) (a0_1 : Option Addr) (n0_1 : Nat) (hb0_1 : LC x0.Ties.length n0_1) (hs0_1 : SlA tTie F0 a0_1 x0.Ties) (x1 : (List Tie)) (a1_0 : Option Addr) (n1_0 : Nat) (hb1_0 : LC x1.length n1_0) (hs1_0 : SlA tTie F0 a1_0 x1) (x2 : Bool) (r : Int) (h : clocks_offered N x0 x1 x2 = some r) :
  Calls Try.prog 86 ([(.agg (kSystem x0 a0_0 n0_0 a0_1 n0_1)), (.slice a1_0 x1.length n1_0), (.bool x2)] : List Value).toArray w0 (FRet w0 F0 fun F' v => v = (vi r)) := by
 have hs0 := HS.start hF
 refine calls_of (n := 36) (c := bodyOf Try.f86) Try.func86 (by kernel_rfl) (by kernel_rfl) (by kernel_rfl) ?_
 refine Sq (Rg [0, 1] ?_)
 refine Bx 3 0 0 25 (kSystem x0 a0_0 n0_0 a0_1 n0_1) hs0 (fun b1 w2 (hs3 : HS w0 F0 w2 F0 [(sb b1 (kSystem x0 a0_0 n0_0 a0_1 n0_1) 25)]) => ?_)
 refine V 6 30 (mc (vi 0) (vi 0)) ?_
 refine Nss ?_
 refine Sq (Rg [0, 1, 2] ?_)
 refine V 8 25 (ld 25 3 b1 0 true 3 (.agg (kSystem x0 a0_0 n0_0 a0_1 n0_1)) (hs3.ownAt (k := 0) rfl)) ?_
 obtain ⟨r4, hr5, h6⟩ := bind_some h
 refine Cl 9 30 17 #[(.tmp 8)] #[25] co_clocks_Check hs3 (c_clocks_Check N w2 F0 hs3.pers (x0) a0_0 n0_0 hb0_0 hs0_0 a0_1 n0_1 hb0_1 hs0_1 _ hr5) ?_
 intro v7 F1 w8 hs9 le10 hp11
 obtain rfl := hp11
 refine V 7 30 (ma 9 (vi r4)) ?_
 refine Nss (Rg [0, 1] ?_)
 refine V 10 30 (mv 7 (vi r4)) ?_
 refine V 11 4 (run_neq (t := 30) (t' := 30) (x := (.tmp 10)) (y := (.const (vi 0))) (k := .i64) (a := r4) (b := 0) rfl rfl) ?_
 refine Nt ?_
 refine CWP.cond (t := (r4 != 0)) (by kernel_rfl) rfl (fun hb12 => ?_) (fun hb12 => ?_)
 ·have h13 := cond_t h6 hb12
  refine Sq (Rg [0, 1] ?_)
  refine V 12 30 (mv 7 (vi r4)) ?_
  refine V 6 30 (ma 12 (vi r4)) ?_
  refine Nt ?_
  refine CWP.ret (by kernel_rfl) ?_
  refine thenQ_ret ?_
  have hfin := some_inj h13
  subst hfin
  exact ⟨rfl, (vi r4), res_of (l := [.tmp 6]) (by kernel_rfl) (vs := [(vi r4)]) ⟨rfl, trivial⟩, (vi r4), F1, rfl, hs9.clear, rfl⟩
 ·have h14 := cond_f h6 hb12
  refine Sc ?_
  refine thenQ_nrm ?_
  refine Sq ?_
  refine Sq (Rg [0, 1, 2] ?_)
  refine V 13 23 (mv 1 (.slice a1_0 x1.length n1_0)) ?_
  refine V 14 91 (run_makeFunc (fn := .func 125) (first := #[]) (cap := #[(.tmp 3)]) (fl := []) (cl := [(.pointer (some ⟨b1, 0, none⟩))]) rfl (rfl)) ?_
  obtain ⟨F2, hs15, le16, hF17⟩ : ∃ Fq, HS w0 F0 w8 Fq [] ∧ Mem.le F1 Fq ∧ Fq b1 = some (oc (kSystem x0 a0_0 n0_0 a0_1 n0_1) 25) := HS.freezeC hs9 (k := 0) rfl
  obtain ⟨r18, hr19, h20⟩ := bind_some h14
  refine Cl 15 4 68 #[(.tmp 13), (.tmp 14)] #[23, 91] co_slices_ContainsFunc_api_Tie_api_Tie hs15 (c_slices_ContainsFunc_api_Tie_api_Tie N w8 F2 hs15.pers (x1) a1_0 n1_0 hb1_0 (SlA.mono hs1_0 (le10.trans le16)) 125 [] [(.pointer (some ⟨b1, 0, none⟩))] (fun y0 => clocks_offered_1 N y0 x0) co_clocks_offered_1 (fun w1 F1 y0 r le1 pe1 hr1 => c_clocks_offered_1 N w1 F1 pe1  y0 b1 x0 a0_0 n0_0 hb0_0 (SlA.mono (SlA.mono hs0_0 (le10.trans le16)) le1) a0_1 n0_1 hb0_1 (SlA.mono (SlA.mono hs0_1 (le10.trans le16)) le1) (le1 _ _ hF17) r hr1) _ hr19) ?_
  intro v21 F3 w22 hs23 le24 hp25
  obtain rfl := hp25
  refine Nt ?_
  refine CWP.cond (t := r18) (by kernel_rfl) rfl (fun hb26 => ?_) (fun hb26 => ?_)
  ·have h27 := cond_t h20 hb26
   refine Sq (Rg [0] ?_)
   refine V 6 30 (mc (vi 3) (vi 3)) ?_
   refine Nt ?_
   refine CWP.ret (by kernel_rfl) ?_
   refine thenQ_ret ?_
   have hfin := some_inj h27
   subst hfin
   exact ⟨rfl, (vi 3), res_of (l := [.tmp 6]) (by kernel_rfl) (vs := [(vi 3)]) ⟨rfl, trivial⟩, (vi 3), F3, rfl, hs23.clear, rfl⟩
  ·have h28 := cond_f h20 hb26
   refine Sc ?_
   refine thenQ_nrm ?_
   refine Sq ?_
   refine Bk ?_
   refine Sq (Rg [0, 1, 2, 3, 4, 5, 6, 7] ?_)
   obtain ⟨j32, hj37, h38⟩ := bind_some h28
   refine RWP.cut (fun f w => ∃ (F4 : Mem), HS w0 F0 w F4 [] ∧ Mem.le F3 F4 ∧ f.d = [] ∧ f 1 = (.slice a1_0 x1.length n1_0) ∧ f 3 = (.pointer (some ⟨b1, 0, none⟩)) ∧ f 16 = (.bool j32)) ?_ ?_
   ·refine V 17 4 (mv 2 (.bool x2)) ?_
    refine V 18 4 (run_not (t := 4) (x := (.tmp 17)) (a := x2) rfl) ?_
    refine V 19 4 (mv 18 (.bool (!x2))) ?_
    refine RWP.split (!x2) (fun hb39 => ?_) (fun hb39 => ?_)
    ·have h40 := cond_t hj37 hb39
     refine Sk [20, 21, 22] 2 false 19 hb39 ?_
     refine V 23 4 (p1 19 (.const (.bool true)) (.tmp 22) (.bool true) hb39) ?_
     refine V 16 4 (ma 23 (.bool true)) ?_
     obtain rfl := some_inj h40
     exact RWP.nil ⟨rfl, F3, hs23, (Mem.le.refl _), rfl, rfl, rfl, rfl⟩
    ·have h41 := cond_f hj37 hb39
     refine Vg 20 23 2 false 19 hb39 (mv 1 (.slice a1_0 x1.length n1_0)) ?_
     refine Vg 21 91 2 false 19 hb39 (run_makeFunc (fn := .func 126) (first := #[]) (cap := #[(.tmp 3)]) (fl := []) (cl := [(.pointer (some ⟨b1, 0, none⟩))]) rfl (rfl)) ?_
     obtain ⟨r42, hr43, h44⟩ := bind_some h41
     refine RWP.call (dst := (some 22)) (ty := 4) (g := (some (2, false))) (by kernel_rfl) (gd_y (d := 19) (by kernel_rfl) rfl hb39) (f0 := (.func 68)) (aos := #[(.tmp 20), (.tmp 21)]) (ats := #[23, 91]) (fid := 68) (first := #[]) (cap := #[]) (args := [(.slice a1_0 x1.length n1_0), (.func (.func 126) #[] #[(.pointer (some ⟨b1, 0, none⟩))])]) rfl co_slices_ContainsFunc_api_Tie_api_Tie (rfl) hs23 (c_slices_ContainsFunc_api_Tie_api_Tie N w22 F3 hs23.pers (x1) a1_0 n1_0 hb1_0 (SlA.mono hs1_0 ((le10.trans le16).trans le24)) 126 [] [(.pointer (some ⟨b1, 0, none⟩))] (fun y0 => clocks_offered_2 N y0 x0) co_clocks_offered_2 (fun w1 F1 y0 r le1 pe1 hr1 => c_clocks_offered_2 N w1 F1 pe1  y0 b1 x0 a0_0 n0_0 hb0_0 (SlA.mono (SlA.mono hs0_0 ((le10.trans le16).trans le24)) le1) a0_1 n0_1 hb0_1 (SlA.mono (SlA.mono hs0_1 ((le10.trans le16).trans le24)) le1) (le1 _ _ (le24 _ _ hF17)) r hr1) _ hr43) ?_
     intro v45 F5 w46 hs47 le48 hp49
     obtain rfl := hp49
     refine V 23 4 (p0 19 (.const (.bool true)) (.tmp 22) (.bool r42) hb39) ?_
     refine V 16 4 (ma 23 (.bool r42)) ?_
     obtain rfl := some_inj h44
     exact RWP.nil ⟨rfl, F5, hs47, le48, rfl, rfl, rfl, rfl⟩
   ·rintro f w29 ⟨F4, hs30, le31, e33, e34, e35, e36⟩
    refine thenQ_nrm ?_
    refine CWP.cond (t := j32) (by kernel_rfl) e36 (fun hb50 => ?_) (fun hb50 => ?_)
    ·have h51 := cond_t h38 hb50
     refine Sq (Rg [0] ?_)
     refine V 6 30 (mc (vi 1) (vi 1)) ?_
     refine Nt ?_
     refine CWP.ret (by kernel_rfl) ?_
     refine blockQ_ret ?_
     refine thenQ_ret ?_
     have hfin := some_inj h51
     subst hfin
     exact ⟨e33, (vi 1), res_of (l := [.tmp 6]) (by kernel_rfl) (vs := [(vi 1)]) ⟨rfl, trivial⟩, (vi 1), F4, rfl, hs30.clear, rfl⟩
    ·have h52 := cond_f h38 hb50
     refine Sq (Rg [0, 1, 2, 3] ?_)
     refine V 25 25 (ld 25 3 b1 0 true 3 (.agg (kSystem x0 a0_0 n0_0 a0_1 n0_1)) (hs30.pers _ _ ((le24.trans le31) _ _ hF17)) e35) ?_
     obtain ⟨r53, hr54, h55⟩ := bind_some h52
     refine Cl 26 57 103 #[(.tmp 25)] #[25] co_clocks_loopOf hs30 (c_clocks_loopOf N w29 F4 hs30.pers (x0) a0_0 n0_0 hb0_0 (SlA.mono hs0_0 (((le10.trans le16).trans le24).trans le31)) a0_1 n0_1 hb0_1 (SlA.mono hs0_1 (((le10.trans le16).trans le24).trans le31)) _ hr54) ?_
     intro v56 F6 w57 hs58 le59 hp60
     obtain ⟨ar53_0_0, nr53_0_0, rfl, hbr53_0_0, hsr53_0_0, nf61, fr62⟩ := hp60
     refine V 27 4 (run_nenil' (e := 103) (t := 57) (t' := 57) (x := (.tmp 26)) (y := (.const (.slice none 0 0))) hsr53_0_0 nf61 rfl rfl (by kernel_rfl)) ?_
     refine V 24 4 (ma 27 (.bool (!r53.isEmpty))) ?_
     refine Nt ?_
     refine CWP.cond (t := (!r53.isEmpty)) (by kernel_rfl) rfl (fun hb63 => ?_) (fun hb63 => ?_)
     ·have h64 := cond_t h55 hb63
      refine Sq (Rg [0] ?_)
      refine V 6 30 (mc (vi 31) (vi 31)) ?_
      refine Nt ?_
      refine CWP.ret (by kernel_rfl) ?_
      refine blockQ_ret ?_
      refine thenQ_ret ?_
      have hfin := some_inj h64
      subst hfin
      exact ⟨e33, (vi 31), res_of (l := [.tmp 6]) (by kernel_rfl) (vs := [(vi 31)]) ⟨rfl, trivial⟩, (vi 31), F6, rfl, hs58.clear, rfl⟩
     ·have h65 := cond_f h55 hb63
      refine Sq (Rg [0, 1, 2, 3, 4, 5, 6, 7] ?_)
      refine V 29 0 (fa 25 3 1 1 1 b1 0 1 e35) ?_
      refine V 30 23 (ld 23 29 b1 1 false 1 (.slice a0_1 x0.Ties.length n0_1) (hs58.pers _ _ (((le24.trans le31).trans le59) _ _ hF17))) ?_
      refine V 31 3 (ln 30 23 a0_1 x0.Ties.length n0_1 46 4 32) ?_
      refine V 32 23 (mv 1 (.slice a1_0 x1.length n1_0) e34) ?_
      refine V 33 3 (ln 32 23 a1_0 x1.length n1_0 46 4 32) ?_
      refine V 34 3 (run_add (t := 3) (t' := 3) (x := (.tmp 31)) (y := (.tmp 33)) (k := .i64) (a := (x0.Ties.length : Int)) (b := (x1.length : Int)) rfl rfl) ?_
      refine V 35 4 (run_gtr (t := 3) (t' := 3) (x := (.tmp 34)) (y := (.const (vi 400))) (k := .i64) (a := (W64 ((x0.Ties.length : Int) + (x1.length : Int)))) (b := 400) rfl rfl) ?_
      refine V 28 4 (ma 35 (.bool (decide ((W64 ((x0.Ties.length : Int) + (x1.length : Int))) > 400)))) ?_
      refine Nt ?_
      refine CWP.cond (t := (decide ((W64 ((x0.Ties.length : Int) + (x1.length : Int))) > 400))) (by kernel_rfl) rfl (fun hb66 => ?_) (fun hb66 => ?_)
      ·have h67 := cond_t h65 hb66
       refine Sq (Rg [0] ?_)
       refine V 6 30 (mc (vi 2) (vi 2)) ?_
       refine Nt ?_
       refine CWP.ret (by kernel_rfl) ?_
       refine blockQ_ret ?_
       refine thenQ_ret ?_
       have hfin := some_inj h67
       subst hfin
       exact ⟨e33, (vi 2), res_of (l := [.tmp 6]) (by kernel_rfl) (vs := [(vi 2)]) ⟨rfl, trivial⟩, (vi 2), F6, rfl, hs58.clear, rfl⟩
      ·have h68 := cond_f h65 hb66
       refine Sc ?_
       refine blockQ_nrm ?_
       refine thenQ_nrm ?_
       refine Sq (Rg [0] ?_)
       refine V 6 30 (mc (vi 0) (vi 0)) ?_
       refine Nt ?_
       refine CWP.ret (by kernel_rfl) ?_
       have hfin := some_inj h68
       subst hfin
       exact ⟨e33, (vi 0), res_of (l := [.tmp 6]) (by kernel_rfl) (vs := [(vi 0)]) ⟨rfl, trivial⟩, (vi 0), F6, rfl, hs58.clear, rfl⟩
end Go.Proofs.Ythbcnabeabcmlaa
namespace Go.Proofs.Ythbcnabeabcmlaa
open Go.Proofs
theorem co_clocks_added : CallOk Try.prog 87 := fun _ _ => by kernel_rfl
set_option maxRecDepth 100000 in
theorem c_clocks_added (w0 : World) (F0 : Mem) (hF : ∀ b o, F0 b = some o → w0.heap[b]? = some o) (x0 : System) (a0_0 : Option Addr) (n0_0 : Nat) (_ : LC x0.Tracks.length n0_0) (_ : SlA tTrack F0 a0_0 x0.Tracks) (a0_1 : Option Addr) (n0_1 : Nat) (_ : LC x0.Ties.length n0_1) (_ : SlA tTie F0 a0_1 x0.Ties) (x1 : List Tie) (a1_0 : Option Addr) (n1_0 : Nat) (_ : LC x1.length n1_0) (_ : SlA tTie F0 a1_0 x1) :
  Calls Try.prog 87 ([(.agg (kSystem x0 a0_0 n0_0 a0_1 n0_1)), (.slice a1_0 x1.length n1_0)] : List Value).toArray w0 (FRetO w0 F0 fun _ v L' => ∃ (b0 b1 : Nat), v = .func (.func 127) #[] #[.pointer (some ⟨b0, 0, none⟩), .pointer (some ⟨b1, 0, none⟩)] ∧ L' = [(some b1, .cells #[(.slice a1_0 x1.length n1_0)] 23 (0, 0)), (some b0, .cells (kSystem x0 a0_0 n0_0 a0_1 n0_1) 25 (0, 0))]) := by
 have hs0 := HS.start hF
 refine calls_of (n := 6) (c := bodyOf Try.f87) Try.func87 (by kernel_rfl) (by kernel_rfl) (by kernel_rfl) ?_
 refine CWP.seq (by kernel_rfl) ?_
 refine CWP.region (l := [0, 1, 2]) (by kernel_rfl) (by kernel_rfl) (by kernel_rfl) ?_
 refine RWP.box (dst := (some 2)) (ty := 0) (g := none) (by kernel_rfl) rfl (x := (.tmp 0)) (t := 25) (v := (.agg (kSystem x0 a0_0 n0_0 a0_1 n0_1))) rfl (C := (kSystem x0 a0_0 n0_0 a0_1 n0_1)) rfl hs0 (fun b0 w1 hs1 => ?_)
 refine RWP.box (dst := (some 3)) (ty := 0) (g := none) (by kernel_rfl) rfl (x := (.tmp 1)) (t := 23) (v := (.slice a1_0 x1.length n1_0)) rfl (C := #[(.slice a1_0 x1.length n1_0)]) rfl hs1 (fun b1 w2 hs2 => ?_)
 refine RWP.val (dst := (some 4)) (ty := 120) (g := none) (by kernel_rfl) rfl (run_assign (x := (.const .nilFunc)) (v := .nilFunc) rfl) ?_
 refine RWP.nil ?_
 refine thenQ_nrm ?_
 refine CWP.seq (by kernel_rfl) ?_
 refine CWP.region (l := [0, 1]) (by kernel_rfl) (by kernel_rfl) (by kernel_rfl) ?_
 refine RWP.val (dst := some 5) (ty := 119) (g := none) (by kernel_rfl) rfl (run_makeFunc (fn := .func 127) (first := #[]) (cap := #[.tmp 2, .tmp 3]) (fl := []) (cl := [.pointer (some ⟨b0, 0, none⟩), .pointer (some ⟨b1, 0, none⟩)]) rfl rfl) ?_
 refine RWP.val (dst := (some 4)) (ty := 120) (g := none) (by kernel_rfl) rfl (run_assign (x := (.tmp 5)) (v := .func (.func 127) #[] #[.pointer (some ⟨b0, 0, none⟩), .pointer (some ⟨b1, 0, none⟩)]) rfl) ?_
 refine RWP.nil ?_
 refine thenQ_nrm ?_
 refine CWP.ret (by kernel_rfl) ?_
 exact ⟨rfl, _, res_of (l := [.tmp 4]) (by kernel_rfl) (vs := [.func (.func 127) #[] #[.pointer (some ⟨b0, 0, none⟩), .pointer (some ⟨b1, 0, none⟩)]]) ⟨rfl, trivial⟩, _, F0, _, rfl, hs2, b0, b1, rfl, rfl⟩
end Go.Proofs.Ythbcnabeabcmlaa
namespace Go.Proofs.Ythbcnabeabcmlaa
open Go.Proofs
def clocks_Accept_L0 (N : Nat) (x0 : System) (x1 : (List Tie)) (r4 : Int) : (List Bool) → (Bool × (List Bound)) → Option (List Bool) := fun s33 ⟨y55, y56⟩ =>
 ((apnd s33 [y55]).bind fun r68 => some r68)
def clocks_Accept (N : Nat) (x0 : System) (x1 : (List Tie)) : Option ((List Bool) × Int) :=
 ((clocks_offered N x0 x1 true).bind fun r4 => (bif (r4 != 0) then some (([] : List Bool), r4) else ((clocks_added_1 N (fun st x => ((clocks_Accept_L0 N x0 x1 r4) st x).map fun t => (true, t)) x0 x1 ([] : List Bool)).bind fun r41 => some (r41, 0))))
theorem co_clocks_Accept : CallOk Try.prog 42 := fun _ _ => by kernel_rfl
set_option maxHeartbeats 4000000 in
set_option maxRecDepth 100000 in
theorem c_clocks_Accept (N : Nat) (w0 : World) (F0 : Mem) (hF : ∀ b o, F0 b = some o → w0.heap[b]? = some o) (x0 : System) (a0_0 : Option Addr) (n0_0 : Nat) (hb0_0 : LC x0.Tracks.length n0_0) (hs0_0 : SlA tTrack F0 a0_0 x0.Tracks) (a0_1 : Option Addr) (n0_1 : Nat) (hb0_1 : LC x0.Ties.length n0_1) (hs0_1 : SlA tTie F0 a0_1 x0.Ties) (x1 : (List Tie)) (a1_0 : Option Addr) (n1_0 : Nat) (hb1_0 : LC x1.length n1_0) (hs1_0 : SlA tTie F0 a1_0 x1) (r : ((List Bool) × Int)) (h : clocks_Accept N x0 x1 = some r) :
  Calls Try.prog 42 ([(.agg (kSystem x0 a0_0 n0_0 a0_1 n0_1)), (.slice a1_0 x1.length n1_0)] : List Value).toArray w0 (FRet w0 F0 fun F' v => ∃ (aq0_0 : Option Addr) (nq0_0 : Nat), v = (.tuple #[(.slice aq0_0 r.1.length nq0_0), (vi r.2)]) ∧ LC r.1.length nq0_0 ∧ SlA tBool F' aq0_0 r.1) := by
 have hs0 := HS.start hF
 refine calls_ofM (n := 25) (c := bodyOf Try.f42) Try.func42 (by kernel_rfl) (by kernel_rfl) (by kernel_rfl) ?_
 refine Sq (Rg [0, 1, 2] ?_)
 refine Bx 2 0 0 25 (kSystem x0 a0_0 n0_0 a0_1 n0_1) hs0 (fun b1 w2 (hs3 : HS w0 F0 w2 F0 [(sb b1 (kSystem x0 a0_0 n0_0 a0_1 n0_1) 25)]) => ?_)
 refine V 4 64 (mc (.slice none 0 0) (.slice none ([] : List Bool).length 0)) ?_
 refine V 5 30 (mc (vi 0) (vi 0)) ?_
 refine Nss ?_
 refine Sq (Rg [0, 1, 2, 3] ?_)
 refine V 9 25 (ld 25 2 b1 0 true 3 (.agg (kSystem x0 a0_0 n0_0 a0_1 n0_1)) (hs3.ownAt (k := 0) rfl)) ?_
 refine V 10 23 (mv 1 (.slice a1_0 x1.length n1_0)) ?_
 obtain ⟨r4, hr5, h6⟩ := bind_some h
 refine Cl 11 30 86 #[(.tmp 9), (.tmp 10), (.const (.bool true))] #[25, 23, 4] co_clocks_offered hs3 (c_clocks_offered N w2 F0 hs3.pers (x0) a0_0 n0_0 hb0_0 hs0_0 a0_1 n0_1 hb0_1 hs0_1 (x1) a1_0 n1_0 hb1_0 hs1_0 (true) _ hr5) ?_
 intro v7 F1 w8 hs9 le10 hp11
 obtain rfl := hp11
 refine V 6 30 (ma 11 (vi r4)) ?_
 refine Nss (Rg [0, 1] ?_)
 refine V 12 30 (mv 6 (vi r4)) ?_
 refine V 13 4 (run_neq (t := 30) (t' := 30) (x := (.tmp 12)) (y := (.const (vi 0))) (k := .i64) (a := r4) (b := 0) rfl rfl) ?_
 refine Nt ?_
 refine CWP.cond (t := (r4 != 0)) (by kernel_rfl) rfl (fun hb12 => ?_) (fun hb12 => ?_)
 ·have h13 := cond_t h6 hb12
  refine Sq (Rg [0, 1, 2] ?_)
  refine V 14 30 (mv 6 (vi r4)) ?_
  refine V 4 64 (mc (.slice none 0 0) (.slice none ([] : List Bool).length 0)) ?_
  refine V 5 30 (ma 14 (vi r4)) ?_
  refine Nt ?_
  refine CWP.ret (by kernel_rfl) ?_
  refine thenQ_ret ?_
  have hfin := some_inj h13
  subst hfin
  exact .inl ⟨rfl, (.tuple #[(.slice none ([] : List Bool).length 0), (vi r4)]), res_of (l := [.tmp 4, .tmp 5]) (by kernel_rfl) (vs := [(.slice none ([] : List Bool).length 0), (vi r4)]) ⟨rfl, ⟨rfl, trivial⟩⟩, (.tuple #[(.slice none ([] : List Bool).length 0), (vi r4)]), F1, rfl, hs9.clear, ⟨none, 0, rfl, LC.nil, (.inl rfl)⟩⟩
 ·have h14 := cond_f h6 hb12
  refine Sc ?_
  refine thenQ_nrm ?_
  refine Sq (Rg [0] ?_)
  refine RWP.alloc (dst := (some 7)) (ty := 0) (g := none) (by kernel_rfl) rfl (t := 64) (z := (.slice none ([] : List Bool).length 0)) (by kernel_rfl) (C := #[(.slice none ([] : List Bool).length 0)]) rfl hs9 (fun b15 w16 (hs17 : HS w0 F0 w16 F1 [(sb b15 #[(.slice none ([] : List Bool).length 0)] 64), (sb b1 (kSystem x0 a0_0 n0_0 a0_1 n0_1) 25)]) => ?_)
  refine Nss ?_
  refine Sq (Rg [0, 1, 2] ?_)
  refine V 15 25 (ld 25 2 b1 0 true 3 (.agg (kSystem x0 a0_0 n0_0 a0_1 n0_1)) (hs17.ownAt (k := 1) rfl)) ?_
  refine V 16 23 (mv 1 (.slice a1_0 x1.length n1_0)) ?_
  refine RWP.callO (dst := (some 17)) (ty := 120) (g := none) (by kernel_rfl) rfl (f0 := (.func 87)) (aos := #[(.tmp 15), (.tmp 16)]) (ats := #[25, 23]) (fid := 87) (first := #[]) (cap := #[]) (args := [(.agg (kSystem x0 a0_0 n0_0 a0_1 n0_1)), (.slice a1_0 x1.length n1_0)]) rfl co_clocks_added (rfl) hs17 (c_clocks_added w16 F1 hs17.pers (x0) a0_0 n0_0 hb0_0 (SlA.mono hs0_0 le10) a0_1 n0_1 hb0_1 (SlA.mono hs0_1 le10) (x1) a1_0 n1_0 hb1_0 (SlA.mono hs1_0 le10)) ?_
  rintro _ F2 w20 _ hs21 le22 ⟨b18, b19, rfl, rfl⟩
  have hs23 : HS w0 F0 w20 F2 [(sb b19 #[(.slice a1_0 x1.length n1_0)] 23), (sb b18 (kSystem x0 a0_0 n0_0 a0_1 n0_1) 25), (sb b15 #[(.slice none ([] : List Bool).length 0)] 64), (sb b1 (kSystem x0 a0_0 n0_0 a0_1 n0_1) 25)] := hs21
  refine Nt ?_
  refine Bk ?_
  obtain ⟨F3, hs24, le25, hF26⟩ : ∃ Fq, HS w0 F0 w20 Fq [(sb b18 (kSystem x0 a0_0 n0_0 a0_1 n0_1) 25), (sb b15 #[(.slice none ([] : List Bool).length 0)] 64), (sb b1 (kSystem x0 a0_0 n0_0 a0_1 n0_1) 25)] ∧ Mem.le F2 Fq ∧ Fq b19 = some (oc #[(.slice a1_0 x1.length n1_0)] 23) := HS.freezeC hs23 (k := 0) rfl
  have hs27 : HS w0 F0 w20 F3 [(sb b18 (kSystem x0 a0_0 n0_0 a0_1 n0_1) 25), (sb b15 #[(.slice none ([] : List Bool).length 0)] 64)] := hs24.drop 2
  have hs28 : HS w0 F0 w20 F3 [(none, .cells #[] 0 (0, 0)), (sb b18 (kSystem x0 a0_0 n0_0 a0_1 n0_1) 25), (sb b15 #[(.slice none ([] : List Bool).length 0)] 64)] := hs27.dummy _
  have hs30 : HS w0 F0 w20 F3 [(sb b15 #[(.slice none ([] : List Bool).length 0)] 64), (none, .cells #[] 0 (0, 0)), (sb b18 (kSystem x0 a0_0 n0_0 a0_1 n0_1) 25)] := hs28.pick (k := 2) rfl
  have hs31 : HS w0 F0 w20 F3 [(none, .cells #[] 0 (0, 0)), (sb b15 #[(.slice none ([] : List Bool).length 0)] 64), (sb b18 (kSystem x0 a0_0 n0_0 a0_1 n0_1) 25)] := hs30.pick (k := 1) rfl
  have hs32 : HS w0 F0 w20 F3 [(sb b18 (kSystem x0 a0_0 n0_0 a0_1 n0_1) 25), (none, .cells #[] 0 (0, 0)), (sb b15 #[(.slice none ([] : List Bool).length 0)] 64)] := hs31.pick (k := 2) rfl
  obtain ⟨r41, hr42, h43⟩ := bind_some h14
  refine CWP.rangeFunc (enc := enc155) (ok := ok155) (px := px155) (m := fun {_} y s => clocks_added_1 N y x0 x1 s) (L := [(none, .cells #[] 0 (0, 0)), (sb b15 #[(.slice none ([] : List Bool).length 0)] 64)]) (B := [(sb b18 (kSystem x0 a0_0 n0_0 a0_1 n0_1) 25)]) (ps := [18, 19]) (by kernel_rfl) (gf := 127) (cap := [(.pointer (some ⟨b18, 0, none⟩)), (.pointer (some ⟨b19, 0, none⟩))]) rfl co_clocks_added_1 rfl (by kernel_rfl) (by kernel_rfl) (by rintro ⟨_, _, _, _⟩; rfl) hs32 (c_clocks_added_1 N F3 x0 a0_0 n0_0 hb0_0 (SlA.mono hs0_0 ((le10.trans le22).trans le25)) a0_1 n0_1 hb0_1 (SlA.mono hs0_1 ((le10.trans le22).trans le25)) b18 x1 a1_0 n1_0 hb1_0 (SlA.mono hs1_0 ((le10.trans le22).trans le25)) b19 hF26) (fun st x => ((clocks_Accept_L0 N x0 x1 r4) st x).map fun t => (true, t)) (fun (s33 : (List Bool)) (F4 : Mem) (Lq : Own) => ∃ (as33_0 : Option Addr) (ns33_0 : Nat) (es33_0 : Option Nat × Obj), Lq = [es33_0, (sb b15 #[(.slice as33_0 s33.length ns33_0)] 64)] ∧ RowR tBool 4 F4 as33_0 ns33_0 s33 es33_0) ?_ (s := ([] : List Bool)) (r := r41) ?_ hr42 (fun _ _ _ h => (map_true h).1) ?_ ?_
  ·rintro s F F' L ⟨as33_0, ns33_0, es33_0, rfl, hrs33_0⟩ hl
   exact ⟨as33_0, ns33_0, es33_0, rfl, (hrs33_0.mono hl)⟩
  ·exact ⟨none, 0, (none, .cells #[] 0 (0, 0)), rfl, (RowR.nil tBool 4 F3 _)⟩
  ·rintro l44 s33 ⟨y55, y56, ay56_0, ny56_0⟩ w47 F4 _ Rf49 ⟨_, q50⟩ le51 ⟨hby56_0, hsy56_0⟩ ⟨as33_0, ns33_0, es33_0, rfl, hrs33_0⟩ hs53 hy54
   have h57 := (map_true hy54).2
   have hs58 : HS w0 F0 w47 F4 (es33_0 :: (sb b15 #[(.slice as33_0 s33.length ns33_0)] 64) :: Rf49) := hs53
   refine Rg [0] ?_
   refine V 8 4 (ma 18 (.bool y55)) ?_
   refine RWP.nil ?_
   refine ⟨rfl, F4, [es33_0, (sb b15 #[(.slice as33_0 s33.length ns33_0)] 64)], hs58, fun w59 Rf60 hs61 => ?_⟩
   have hs62 : HS w0 F0 w59 F4 (es33_0 :: (sb b15 #[(.slice as33_0 s33.length ns33_0)] 64) :: Rf60) := hs61
   refine Bk ?_
   refine Rg [0, 1, 2, 3, 4] ?_
   refine V 20 64 (ld 64 7 b15 0 false 1 (.slice as33_0 s33.length ns33_0) (hs62.ownAt (k := 1) rfl)) ?_
   refine V 21 4 (mv 8 (.bool y55)) ?_
   refine RWP.buildSlice (dst := (some 22)) (ty := 64) (g := none) (by kernel_rfl) rfl (t := 64) (len := 1) (parts := #[(0, (.tmp 21))]) (vs := [(0, (.bool y55))]) (rfl) (E := 4) (cs := [(.bool y55)]) (by kernel_rfl) hs62 (fun b63 w64 (hs65 : HS w0 F0 w64 F4 ((some b63, .cells ([(.bool y55)] : List Value).toArray 4 (0, 0)) :: es33_0 :: (sb b15 #[(.slice as33_0 s33.length ns33_0)] 64) :: Rf60)) => ?_)
   have hr67 : RowR tBool 4 F4 (some ⟨b63, 0, none⟩) 1 [y55] (some b63, .cells ([(.bool y55)] : List Value).toArray 4 (0, 0)) := RowR.lit ⟨rfl, rfl⟩ (by simp)
   obtain ⟨r68, hap69, h70⟩ := bind_some h57
   refine RWP.append (dst := (some 23)) (ty := 64) (g := none) (by kernel_rfl) rfl (x := (.tmp 20)) (y := (.tmp 22)) (t := 64) (t2 := 64) (by_ := 1) (z := (.bool false)) (a2 := (some ⟨b63, 0, none⟩)) (c2 := 1) (m := [y55]) (T := tBool) (E := 4) (a := as33_0) (cap := ns33_0) (l := s33) rfl rfl (by kernel_rfl) (by decide) (by kernel_rfl) (by kernel_rfl) rfl oBool hs65 (k := 1) rfl hrs33_0 (RowR.rd hs65 (k := 0) rfl hr67) (r := r68) hap69 (fun a71 n72 e73 w74 (hs75 : HS w0 F0 w74 F4 ((some b63, .cells ([(.bool y55)] : List Value).toArray 4 (0, 0)) :: e73 :: (sb b15 #[(.slice as33_0 s33.length ns33_0)] 64) :: Rf60)) hr76 => ?_)
   refine RWP.store (ty := 0) (g := none) (by kernel_rfl) rfl (x := (.tmp 7)) (y := (.tmp 23)) (t := 64) (gg := false) (s := 1) (v := (.slice a71 r68.length n72)) (b := b15) (o := 0) (C := #[(.slice as33_0 s33.length ns33_0)]) rfl rfl (by kernel_rfl) hs75 (k := 2) rfl rfl rfl rfl (C' := #[(.slice a71 r68.length n72)]) rfl (fun w77 (hs78 : HS w0 F0 w77 F4 ((some b63, .cells ([(.bool y55)] : List Value).toArray 4 (0, 0)) :: e73 :: (sb b15 #[(.slice a71 r68.length n72)] 64) :: Rf60)) => ?_)
   refine RWP.nil ?_
   refine blockQ_nrm ?_
   have hs79 : HS w0 F0 w77 F4 (e73 :: (sb b15 #[(.slice a71 r68.length n72)] 64) :: Rf60) := hs78.drop 0
   obtain rfl := some_inj h70
   exact ⟨rfl, F4, [e73, (sb b15 #[(.slice a71 r68.length n72)] 64)], hs79, (Mem.le.refl _), ⟨a71, n72, e73, rfl, hr76⟩⟩
  ·rintro D81 w82 F5 _ hs83 le84 ⟨as37_0, ns37_0, es37_0, rfl, hrs37_0⟩
   have hs85 : HS w0 F0 w82 F5 [(some D81, (.deferred (some []))), es37_0, (sb b15 #[(.slice as37_0 r41.length ns37_0)] 64)] := hs83
   refine blockQ_nrm ?_
   refine thenQ_nrm ?_
   refine Sq (Rg [0, 1, 2] ?_)
   refine V 24 64 (ld 64 7 b15 0 false 1 (.slice as37_0 r41.length ns37_0) (hs85.ownAt (k := 2) rfl)) ?_
   refine V 4 64 (ma 24 (.slice as37_0 r41.length ns37_0)) ?_
   refine V 5 30 (mc (vi 0) (vi 0)) ?_
   refine Nt ?_
   refine CWP.ret (by kernel_rfl) ?_
   have hb89 := RowR.bound hrs37_0
   obtain ⟨F6, hs86, le87, hs88⟩ : ∃ Fq, HS w0 F0 w82 Fq [(some D81, (.deferred (some []))), (sb b15 #[(.slice as37_0 r41.length ns37_0)] 64)] ∧ Mem.le F5 Fq ∧ SlA tBool Fq as37_0 r41 := HS.freezeRow hs85 (k := 1) rfl hrs37_0
   have hs90 := hs86.put (k := 0) rfl (.deferred none)
   have hs91 : HS w0 F0 (putB w82 D81 (.deferred none)) F6 [(sb b15 #[(.slice as37_0 r41.length ns37_0)] 64)] := hs90.drop 0
   have hfin := some_inj h43
   subst hfin
   exact .inr ⟨D81, rfl, hs86.ownAt (k := 0) rfl, (.tuple #[(.slice as37_0 r41.length ns37_0), (vi 0)]), res_of (l := [.tmp 4, .tmp 5]) (by kernel_rfl) (vs := [(.slice as37_0 r41.length ns37_0), (vi 0)]) ⟨rfl, ⟨rfl, trivial⟩⟩, (.tuple #[(.slice as37_0 r41.length ns37_0), (vi 0)]), F6, rfl, hs91.clear, ⟨as37_0, ns37_0, rfl, hb89, hs88⟩⟩
end Go.Proofs.Ythbcnabeabcmlaa
namespace Go.Proofs.Ythbcnabeabcmlaa
open Go.Proofs
def refY (i : Int) : Int × Option (List Bound) → Bool × List Bound → Option (Bool × (Int × Option (List Bound))) := fun s x =>
 bif s.2.isSome then none else bif (s.1 == i) && !x.1 then some (false, (s.1, some x.2)) else some (true, (W64 (s.1 + 1), none))
def refRes (q : Int × Option (List Bound)) : List Bound × Int := match q.2 with
 | some l => (l, 0)
 | none => ([], 3)
def clocks_Refusal (N : Nat) (x0 : System) (x1 : List Tie) (x2 : Int) : Option (List Bound × Int) :=
 ((clocks_within N x2 0 (W64 ((x1.length : Int) - 1))).bind fun r28 => ((clocks_offered N x0 x1 r28).bind fun r36 => some r36)).bind fun j18 => (bif (j18 != 0) then some (([] : List Bound), j18) else
  ((sub x1 0 (W64 (x2 + 1))).bind fun r58 => ((clocks_added_1 N (refY x2) x0 r58 ((0 : Int), (none : Option (List Bound)))).bind fun q => some (refRes q))))
section
variable {P : Program} {n : Nat} {R : Array Oper} {f : Fr} {w : World} {PQ : List PanicEntry → List Deferred → World → Prop} {Post : Fr → World → Prop} {z : Nat} {fuel : Nat} {l l' : List Bool} {zd : Bool} {i : Nat} {dst : Option Nat} {ty : TypeId} {g : Option (Nat × Bool)}
theorem DStep.callO {w0 : World} {F0 F Fs : Mem} {L Lc Lz : List (Option Nat × Obj)} {f0 : Operand} {aos : Array Operand} {ats : Array TypeId} {fid : FuncId} {first cap : Array Value} {args : List Value} {post : Mem → Value → Own → Prop}
  (hl : l.set i true = l') (hzd : l'.toArray.getD z true = zd) (hzd0 : l.toArray.getD z true = zd)
  (ho : opq R i = some (dst, .call { callee := .value f0, args := aos, argTypes := ats }, ty, g)) (hg : gd R f g = true) (hf : fev f f0 = .func (.func fid) first cap) (hok : CallOk P fid)
  (ha : first.toList ++ aos.toList.map (fev f) ++ cap.toList = args) (hs : HS w0 F0 w F L) (hc : Calls P fid args.toArray w (FRetO w F post))
  (k : ∀ v F1 w1 L', HS w0 F0 w1 F1 (L' ++ L) → Mem.le F F1 → post F1 v L' → DWP P n R PQ Post z (DZ Fs Lc Lz) fuel l' (updo f dst v) w1) : DStep P n R PQ Post z (DZ Fs Lc Lz) fuel l i f w := by
 intro hokR hns hS a haf
 obtain ⟨o, hR, hd, hop, hty, hgd⟩ := opq_spec ho
 unfold wpOpW wpOpIn
 simp only [hR]
 rw [haf.wanted R o, hgd, hg]
 simp only [if_true]
 refine ⟨about_wide, ?_⟩
 show o.uponIn (FW none) 0 P a _ _ ((execOp a.eval o).run P w)
 rw [execOp_eq, haf.evalF, hop, hty, run_call hf hok ha]
 simp only [Oper.uponIn]
 refine ⟨(fun h => by cases h), (calls_wide hc).mono ?_⟩
 rintro e w' ⟨r, F', L', rfl, h1, h2⟩
 simp only
 rw [hzd0] at hS
 have hS' : DZ Fs Lc Lz zd w' := hS.keep h1.keep
 rw [hl, hd, hzd]
 exact ⟨hS', k r F' w' L' (hs.callO h1) h1.le h2 hokR hns (by rw [hzd]; exact hS') _ (haf.put (by rw [← hd]; exact okR_dst hokR hR) r)⟩
end
theorem co_clocks_Refusal : CallOk Try.prog 44 := fun _ _ => by kernel_rfl
set_option maxHeartbeats 4000000 in
set_option maxRecDepth 100000 in
theorem c_clocks_Refusal (N : Nat) (w0 : World) (F0 : Mem) (hF : ∀ b o, F0 b = some o → w0.heap[b]? = some o) (x0 : System) (a0_0 : Option Addr) (n0_0 : Nat) (hb0_0 : LC x0.Tracks.length n0_0) (hs0_0 : SlA tTrack F0 a0_0 x0.Tracks) (a0_1 : Option Addr) (n0_1 : Nat) (hb0_1 : LC x0.Ties.length n0_1) (hs0_1 : SlA tTie F0 a0_1 x0.Ties) (x1 : List Tie) (a1_0 : Option Addr) (n1_0 : Nat) (hb1_0 : LC x1.length n1_0) (hs1_0 : SlA tTie F0 a1_0 x1) (x2 : Int) (r : List Bound × Int) (h : clocks_Refusal N x0 x1 x2 = some r) :
  Calls Try.prog 44 ([(.agg (kSystem x0 a0_0 n0_0 a0_1 n0_1)), (.slice a1_0 x1.length n1_0), (vi x2)] : List Value).toArray w0 (FRet w0 F0 fun F' v => ∃ (aq0_0 : Option Addr) (nq0_0 : Nat), v = (.tuple #[(.slice aq0_0 r.1.length nq0_0), (vi r.2)]) ∧ LC r.1.length nq0_0 ∧ SlA tBound F' aq0_0 r.1) := by
 have hs0 := HS.start hF
 refine calls_ofM (n := 41) (c := bodyOf Try.f44) Try.func44 (by kernel_rfl) (by kernel_rfl) (by kernel_rfl) ?_
 refine CWP.seq (by kernel_rfl) ?_
 refine CWP.region (l := [0, 1, 2, 3]) (by kernel_rfl) (by kernel_rfl) (by kernel_rfl) ?_
 refine RWP.box (dst := (some 3)) (ty := 0) (g := none) (by kernel_rfl) rfl (x := (.tmp 0)) (t := 25) (v := (.agg (kSystem x0 a0_0 n0_0 a0_1 n0_1))) rfl (C := (kSystem x0 a0_0 n0_0 a0_1 n0_1)) rfl hs0 (fun b1 w2 (hs3 : HS w0 F0 w2 F0 [(sb b1 (kSystem x0 a0_0 n0_0 a0_1 n0_1) 25)]) => ?_)
 refine RWP.box (dst := (some 5)) (ty := 0) (g := none) (by kernel_rfl) rfl (x := (.tmp 2)) (t := 3) (v := (vi x2)) rfl (C := #[(vi x2)]) rfl hs3 (fun b4 w5 (hs6 : HS w0 F0 w5 F0 [(sb b4 #[(vi x2)] 3), (sb b1 (kSystem x0 a0_0 n0_0 a0_1 n0_1) 25)]) => ?_)
 refine RWP.alloc (dst := (some 6)) (ty := 0) (g := none) (by kernel_rfl) rfl (t := 57) (z := (.slice none ([] : List Bound).length 0)) (by kernel_rfl) (C := #[(.slice none ([] : List Bound).length 0)]) rfl hs6 (fun b7 w8 (hs9 : HS w0 F0 w8 F0 [(sb b7 #[(.slice none ([] : List Bound).length 0)] 57), (sb b4 #[(vi x2)] 3), (sb b1 (kSystem x0 a0_0 n0_0 a0_1 n0_1) 25)]) => ?_)
 refine RWP.alloc (dst := (some 7)) (ty := 0) (g := none) (by kernel_rfl) rfl (t := 30) (z := (vi 0)) (by kernel_rfl) (C := #[(vi 0)]) rfl hs9 (fun b10 w11 (hs12 : HS w0 F0 w11 F0 [(sb b10 #[(vi 0)] 30), (sb b7 #[(.slice none ([] : List Bound).length 0)] 57), (sb b4 #[(vi x2)] 3), (sb b1 (kSystem x0 a0_0 n0_0 a0_1 n0_1) 25)]) => ?_)
 refine RWP.nil ?_
 refine thenQ_nrm ?_
 refine CWP.seq (by kernel_rfl) ?_
 refine CWP.seq (by kernel_rfl) ?_
 obtain ⟨j18, hj26, h27⟩ := bind_some h
 refine CWP.regionD (by kernel_rfl) (by kernel_rfl) (by kernel_rfl) (by kernel_rfl) (z := 9) (F := F0) (Lc := [(sb b10 #[(vi 0)] 30), (sb b7 #[(.slice none ([] : List Bound).length 0)] 57), (sb b4 #[(vi x2)] 3), (sb b1 (kSystem x0 a0_0 n0_0 a0_1 n0_1) 25)]) (Lz := []) (l := [false, false, false, false, false, false, false, false, false]) (fuel := 9) (by kernel_rfl) (by kernel_rfl) hs12 (by simp) (by simp) (fun f w => ∃ (F1 : Mem), HS w0 F0 w F1 [(sb b10 #[(vi 0)] 30), (sb b7 #[(.slice none ([] : List Bound).length 0)] 57), (sb b4 #[(vi x2)] 3), (sb b1 (kSystem x0 a0_0 n0_0 a0_1 n0_1) 25)] ∧ Mem.le F0 F1 ∧ f.d = [] ∧ f 1 = (.slice a1_0 x1.length n1_0) ∧ f 3 = (.pointer (some ⟨b1, 0, none⟩)) ∧ f 5 = (.pointer (some ⟨b4, 0, none⟩)) ∧ f 6 = (.pointer (some ⟨b7, 0, none⟩)) ∧ f 7 = (.pointer (some ⟨b10, 0, none⟩)) ∧ f 8 = (vi j18)) (fun wd13 hw14 => ?_) ?_
 ·
  refine DWP.take (i := 0) (v := (.agg (kSystem x0 a0_0 n0_0 a0_1 n0_1))) (zd := true) (dst := (some 12)) (ty := 25) (g := none) (by kernel_rfl) (by kernel_rfl) (by kernel_rfl) (by kernel_rfl) (by kernel_rfl) rfl (fun wq hq => (run_load' (t := 25) (x := (.tmp 3)) (b := b1) (o := 0) (g := true) (s := 3) (C := (kSystem x0 a0_0 n0_0 a0_1 n0_1)) (v := (.agg (kSystem x0 a0_0 n0_0 a0_1 n0_1))) rfl (by kernel_rfl) (hq.1.2 3 _ _ rfl) rfl rfl rfl)) (l' := [true, false, false, false, false, false, false, false, false]) (by kernel_rfl) ?_
  refine DWP.take (i := 1) (v := (.slice a1_0 x1.length n1_0)) (zd := true) (dst := (some 13)) (ty := 23) (g := none) (by kernel_rfl) (by kernel_rfl) (by kernel_rfl) (by kernel_rfl) (by kernel_rfl) rfl (fun wq hq => (run_move (x := (.tmp 1)) (v := (.slice a1_0 x1.length n1_0)) rfl)) (l' := [true, true, false, false, false, false, false, false, false]) (by kernel_rfl) ?_
  refine DWP.take (i := 2) (v := (vi x2)) (zd := true) (dst := (some 14)) (ty := 3) (g := none) (by kernel_rfl) (by kernel_rfl) (by kernel_rfl) (by kernel_rfl) (by kernel_rfl) rfl (fun wq hq => (run_load' (t := 3) (x := (.tmp 5)) (b := b4) (o := 0) (g := false) (s := 1) (C := #[(vi x2)]) (v := (vi x2)) rfl (by kernel_rfl) (hq.1.2 2 _ _ rfl) rfl rfl rfl)) (l' := [true, true, true, false, false, false, false, false, false]) (by kernel_rfl) ?_
  refine DWP.take (i := 3) (v := (.slice a1_0 x1.length n1_0)) (zd := true) (dst := (some 15)) (ty := 23) (g := none) (by kernel_rfl) (by kernel_rfl) (by kernel_rfl) (by kernel_rfl) (by kernel_rfl) rfl (fun wq hq => (run_move (x := (.tmp 1)) (v := (.slice a1_0 x1.length n1_0)) rfl)) (l' := [true, true, true, true, false, false, false, false, false]) (by kernel_rfl) ?_
  refine DWP.take (i := 4) (v := (vi (x1.length : Int))) (zd := true) (dst := (some 16)) (ty := 3) (g := none) (by kernel_rfl) (by kernel_rfl) (by kernel_rfl) (by kernel_rfl) (by kernel_rfl) rfl (fun wq hq => (run_len_slice' (x := (.tmp 15)) (ats := #[23]) (a := a1_0) (n := x1.length) (c := n1_0) (E := 46) (s := 4) (by_ := 32) rfl rfl (by kernel_rfl))) (l' := [true, true, true, true, true, false, false, false, false]) (by kernel_rfl) ?_
  refine DWP.take (i := 5) (v := (vi (W64 ((x1.length : Int) - 1)))) (zd := true) (dst := (some 17)) (ty := 3) (g := none) (by kernel_rfl) (by kernel_rfl) (by kernel_rfl) (by kernel_rfl) (by kernel_rfl) rfl (fun wq hq => (run_sub (t := 3) (t' := 3) (x := (.tmp 16)) (y := (.const (vi 1))) (k := .i64) (a := (x1.length : Int)) (b := 1) rfl rfl)) (l' := [true, true, true, true, true, true, false, false, false]) (by kernel_rfl) ?_
  refine DWP.one (i := 6) (by kernel_rfl) ?_
  obtain ⟨r28, hr29, h30⟩ := bind_some hj26
  refine DStep.call (l' := [true, true, true, true, true, true, true, false, false]) (zd := true) (by kernel_rfl) (by kernel_rfl) (by kernel_rfl) (dst := (some 18)) (ty := 4) (g := none) (by kernel_rfl) rfl (f0 := (.func 67)) (aos := #[(.tmp 14), (.const (vi 0)), (.tmp 17)]) (ats := #[3, 3, 3]) (fid := 67) (first := #[]) (cap := #[]) (args := [(vi x2), (vi 0), (vi (W64 ((x1.length : Int) - 1)))]) rfl co_clocks_within (rfl) hw14 (c_clocks_within N wd13 F0 hw14.pers (x2) (0) ((W64 ((x1.length : Int) - 1))) _ hr29) ?_
  intro v31 F2 w32 hs33 le34 hp35
  obtain rfl := hp35
  refine DWP.one (i := 7) (by kernel_rfl) ?_
  obtain ⟨r36, hr37, h38⟩ := bind_some h30
  refine DStep.call (l' := [true, true, true, true, true, true, true, true, false]) (zd := true) (by kernel_rfl) (by kernel_rfl) (by kernel_rfl) (dst := (some 19)) (ty := 30) (g := none) (by kernel_rfl) rfl (f0 := (.func 86)) (aos := #[(.tmp 12), (.tmp 13), (.tmp 18)]) (ats := #[25, 23, 4]) (fid := 86) (first := #[]) (cap := #[]) (args := [(.agg (kSystem x0 a0_0 n0_0 a0_1 n0_1)), (.slice a1_0 x1.length n1_0), (.bool r28)]) rfl co_clocks_offered (rfl) hs33 (c_clocks_offered N w32 F2 hs33.pers (x0) a0_0 n0_0 hb0_0 (SlA.mono hs0_0 le34) a0_1 n0_1 hb0_1 (SlA.mono hs0_1 le34) (x1) a1_0 n1_0 hb1_0 (SlA.mono hs1_0 le34) (r28) _ hr37) ?_
  intro v39 F3 w40 hs41 le42 hp43
  obtain rfl := hp43
  refine DWP.take (i := 8) (v := (vi r36)) (zd := true) (dst := (some 8)) (ty := 30) (g := none) (by kernel_rfl) (by kernel_rfl) (by kernel_rfl) (by kernel_rfl) (by kernel_rfl) rfl (fun wq hq => (run_assign (x := (.tmp 19)) (v := (vi r36)) rfl)) (l' := [true, true, true, true, true, true, true, true, true]) (by kernel_rfl) ?_
  obtain rfl := some_inj h38
  exact DWP.done (by kernel_rfl) ⟨F3, hs41, (le34.trans le42), rfl, rfl, rfl, rfl, rfl, rfl, rfl⟩
 ·
  rintro f w15 ⟨F1, hs16, le17, e19, e20, e21, e22, e23, e24, e25⟩
  refine thenQ_nrm ?_
  refine CWP.seq (by kernel_rfl) ?_
  refine CWP.region (l := [0, 1]) (by kernel_rfl) (by kernel_rfl) (by kernel_rfl) ?_
  refine RWP.val (dst := (some 20)) (ty := 30) (g := none) (by kernel_rfl) rfl (run_move (x := (.tmp 8)) (v := (vi j18)) e25) ?_
  refine RWP.val (dst := (some 21)) (ty := 4) (g := none) (by kernel_rfl) rfl (run_neq (t := 30) (t' := 30) (x := (.tmp 20)) (y := (.const (vi 0))) (k := .i64) (a := j18) (b := 0) rfl rfl) ?_
  refine RWP.nil ?_
  refine thenQ_nrm ?_
  refine CWP.cond (t := (j18 != 0)) (by kernel_rfl) rfl (fun hb44 => ?_) (fun hb44 => ?_)
  ·
   have h45 := cond_t h27 hb44
   refine CWP.seq (by kernel_rfl) ?_
   refine CWP.region (l := [0, 1, 2]) (by kernel_rfl) (by kernel_rfl) (by kernel_rfl) ?_
   refine RWP.val (dst := (some 22)) (ty := 30) (g := none) (by kernel_rfl) rfl (run_move (x := (.tmp 8)) (v := (vi j18)) e25) ?_
   refine RWP.store (ty := 0) (g := none) (by kernel_rfl) rfl (x := (.tmp 6)) (y := (.const (.slice none 0 0))) (t := 57) (gg := false) (s := 1) (v := (.slice none ([] : List Bound).length 0)) (b := b7) (o := 0) (C := #[(.slice none ([] : List Bound).length 0)]) e23 rfl (by kernel_rfl) hs16 (k := 1) rfl rfl rfl rfl (C' := #[(.slice none ([] : List Bound).length 0)]) rfl (fun w46 (hs47 : HS w0 F0 w46 F1 [(sb b10 #[(vi 0)] 30), (sb b7 #[(.slice none ([] : List Bound).length 0)] 57), (sb b4 #[(vi x2)] 3), (sb b1 (kSystem x0 a0_0 n0_0 a0_1 n0_1) 25)]) => ?_)
   refine RWP.store (ty := 0) (g := none) (by kernel_rfl) rfl (x := (.tmp 7)) (y := (.tmp 22)) (t := 30) (gg := false) (s := 1) (v := (vi j18)) (b := b10) (o := 0) (C := #[(vi 0)]) e24 rfl (by kernel_rfl) hs47 (k := 0) rfl rfl rfl rfl (C' := #[(vi j18)]) rfl (fun w48 (hs49 : HS w0 F0 w48 F1 [(sb b10 #[(vi j18)] 30), (sb b7 #[(.slice none ([] : List Bound).length 0)] 57), (sb b4 #[(vi x2)] 3), (sb b1 (kSystem x0 a0_0 n0_0 a0_1 n0_1) 25)]) => ?_)
   refine RWP.nil ?_
   refine thenQ_nrm ?_
   refine CWP.ret (by kernel_rfl) ?_
   refine thenQ_ret ?_
   have hfin := some_inj h45
   subst hfin
   exact .inl ⟨e19, (.tuple #[(.slice none ([] : List Bound).length 0), (vi j18)]), res_of (l := [.cell 6 57, .cell 7 30]) (by kernel_rfl) (vs := [(.slice none ([] : List Bound).length 0), (vi j18)]) ⟨b7, 0, e23, run_loadVar' (t := 57) (g := false) (s := 1) (by kernel_rfl) (hs49.ownAt (k := 1) rfl) rfl (by decide), ⟨b10, 0, e24, run_loadVar' (t := 30) (g := false) (s := 1) (by kernel_rfl) (hs49.ownAt (k := 0) rfl) rfl (by decide), trivial⟩⟩, (.tuple #[(.slice none ([] : List Bound).length 0), (vi j18)]), F1, rfl, hs49.clear, ⟨none, 0, rfl, LC.nil, (.inl rfl)⟩⟩
  ·
   have h50 := cond_f h27 hb44
   refine CWP.skip (by kernel_rfl) ?_
   refine thenQ_nrm ?_
   refine CWP.seq (by kernel_rfl) ?_
   refine CWP.region (l := [0, 1]) (by kernel_rfl) (by kernel_rfl) (by kernel_rfl) ?_
   refine RWP.alloc (dst := (some 9)) (ty := 0) (g := none) (by kernel_rfl) rfl (t := 3) (z := (vi 0)) (by kernel_rfl) (C := #[(vi 0)]) rfl hs16 (fun b51 w52 (hs53 : HS w0 F0 w52 F1 [(sb b51 #[(vi 0)] 3), (sb b10 #[(vi 0)] 30), (sb b7 #[(.slice none ([] : List Bound).length 0)] 57), (sb b4 #[(vi x2)] 3), (sb b1 (kSystem x0 a0_0 n0_0 a0_1 n0_1) 25)]) => ?_)
   refine RWP.store (ty := 0) (g := none) (by kernel_rfl) rfl (x := (.tmp 9)) (y := (.const (vi 0))) (t := 3) (gg := false) (s := 1) (v := (vi 0)) (b := b51) (o := 0) (C := #[(vi 0)]) rfl rfl (by kernel_rfl) hs53 (k := 0) rfl rfl rfl rfl (C' := #[(vi 0)]) rfl (fun w54 (hs55 : HS w0 F0 w54 F1 [(sb b51 #[(vi 0)] 3), (sb b10 #[(vi 0)] 30), (sb b7 #[(.slice none ([] : List Bound).length 0)] 57), (sb b4 #[(vi x2)] 3), (sb b1 (kSystem x0 a0_0 n0_0 a0_1 n0_1) 25)]) => ?_)
   refine RWP.nil ?_
   refine thenQ_nrm ?_
   refine CWP.seq (by kernel_rfl) ?_
   refine CWP.seq (by kernel_rfl) ?_
   obtain ⟨r58, hr59, h60⟩ := bind_some h50
   obtain ⟨a61, n62, hb63, hs64, hrun65⟩ := part_val (P := Try.prog) (T := tTie) (lo := none) (hi := (some (.tmp 26))) (mx := none) (t := 23) (E := 46) (by_ := 32) (c := n1_0) (a := a1_0) (l := x1) (r := r58) (il := 0) (ih := (W64 (x2 + 1))) (im := 0) (by kernel_rfl) (by kernel_rfl) hb1_0 (SlA.mono hs1_0 le17) (fun h => by first | rfl | cases h) hr59
   obtain ⟨r41, hr42, h43⟩ := bind_some h60
   refine CWP.regionD (by kernel_rfl) (by kernel_rfl) (by kernel_rfl) (by kernel_rfl) (z := 6) (F := F1) (Lc := [(sb b51 #[(vi 0)] 3), (sb b10 #[(vi 0)] 30), (sb b7 #[(.slice none ([] : List Bound).length 0)] 57), (sb b4 #[(vi x2)] 3), (sb b1 (kSystem x0 a0_0 n0_0 a0_1 n0_1) 25)]) (Lz := []) (l := [false, false, false, false, false, false]) (fuel := 6) (by kernel_rfl) (by kernel_rfl) hs55 (by simp) (by simp) (fun f w => ∃ (b66 b67 : Nat) (F4 : Mem), HS w0 F0 w F4 [(sb b67 #[(.slice a61 r58.length n62)] 23), (sb b66 (kSystem x0 a0_0 n0_0 a0_1 n0_1) 25), (sb b51 #[(vi 0)] 3), (sb b10 #[(vi 0)] 30), (sb b7 #[(.slice none ([] : List Bound).length 0)] 57), (sb b4 #[(vi x2)] 3), (sb b1 (kSystem x0 a0_0 n0_0 a0_1 n0_1) 25)] ∧ Mem.le F1 F4 ∧ f.d = [] ∧ f 5 = (.pointer (some ⟨b4, 0, none⟩)) ∧ f 6 = (.pointer (some ⟨b7, 0, none⟩)) ∧ f 7 = (.pointer (some ⟨b10, 0, none⟩)) ∧ f 9 = (.pointer (some ⟨b51, 0, none⟩)) ∧ f 28 = .func (.func 127) #[] #[.pointer (some ⟨b66, 0, none⟩), .pointer (some ⟨b67, 0, none⟩)]) ?_ ?_
   ·
    intro wd56 hw57
    refine Dt 0 23 25 (.agg (kSystem x0 a0_0 n0_0 a0_1 n0_1)) (fun _ hq => ld 25 3 b1 0 true 3 (.agg (kSystem x0 a0_0 n0_0 a0_1 n0_1)) (hq.1.2 4 _ _ rfl) e21) ?_
    refine Dt 1 24 23 (.slice a1_0 x1.length n1_0) (fun _ hq => mv 1 (.slice a1_0 x1.length n1_0) e20) ?_
    refine Dt 2 25 3 (vi x2) (fun _ hq => ld 3 5 b4 0 false 1 (vi x2) (hq.1.2 3 _ _ rfl) e22) ?_
    refine Dt 3 26 3 (vi (W64 (x2 + 1))) (fun _ hq => run_add (t := 3) (t' := 3) (x := (.tmp 25)) (y := (.const (vi 1))) (k := .i64) (a := x2) (b := 1) rfl rfl) ?_
    refine Dt 4 27 23 (.slice a61 r58.length n62) (fun _ hq => hrun65 (x := (.tmp 24)) rfl rfl rfl trivial) ?_
    refine DWP.one (i := 5) (by kernel_rfl) ?_
    refine DStep.callO (l' := [true, true, true, true, true, true]) (zd := true) (by kernel_rfl) (by kernel_rfl) (by kernel_rfl) (dst := (some 28)) (ty := 120) (g := none) (by kernel_rfl) rfl (f0 := (.func 87)) (aos := #[(.tmp 23), (.tmp 27)]) (ats := #[25, 23]) (fid := 87) (first := #[]) (cap := #[]) (args := [(.agg (kSystem x0 a0_0 n0_0 a0_1 n0_1)), (.slice a61 r58.length n62)]) rfl co_clocks_added (rfl) hw57 (c_clocks_added wd56 F1 hw57.pers (x0) a0_0 n0_0 hb0_0 (SlA.mono hs0_0 le17) a0_1 n0_1 hb0_1 (SlA.mono hs0_1 le17) (r58) a61 n62 hb63 hs64) ?_
    rintro _ F4 w68 _ hs69 le70 ⟨b66, b67, rfl, rfl⟩
    exact DWP.done (by kernel_rfl) ⟨b66, b67, F4, hs69, le70, e19, e22, e23, e24, rfl, rfl⟩
   ·
    rintro f w70 ⟨b66, b67, F4, hs71, le72, g1, g2, g3, g4, g5, g6⟩
    refine thenQ_nrm ?_
    refine CWP.block (by kernel_rfl) ?_
    obtain ⟨F5, hs73, le74, hF75⟩ : ∃ Fq, HS w0 F0 w70 Fq [(sb b66 (kSystem x0 a0_0 n0_0 a0_1 n0_1) 25), (sb b51 #[(vi 0)] 3), (sb b10 #[(vi 0)] 30), (sb b7 #[(.slice none ([] : List Bound).length 0)] 57), (sb b4 #[(vi x2)] 3), (sb b1 (kSystem x0 a0_0 n0_0 a0_1 n0_1) 25)] ∧ Mem.le F4 Fq ∧ Fq b67 = some (oc #[(.slice a61 r58.length n62)] 23) := HS.freezeC hs71 (k := 0) rfl
    have hs76 : HS w0 F0 w70 F5 [(sb b66 (kSystem x0 a0_0 n0_0 a0_1 n0_1) 25), (sb b51 #[(vi 0)] 3), (sb b10 #[(vi 0)] 30), (sb b7 #[(.slice none ([] : List Bound).length 0)] 57), (sb b4 #[(vi x2)] 3)] := hs73.drop 5
    have le77 := (le17.trans le72).trans le74
    refine CWP.rangeFunc2 (enc := enc155) (ok := ok155) (px := px155) (m := fun {_} y s => clocks_added_1 N y x0 r58 s) (L := [(sb b51 #[(vi 0)] 3), (sb b10 #[(vi 0)] 30), (sb b7 #[(.slice none ([] : List Bound).length 0)] 57), (sb b4 #[(vi x2)] 3)]) (B := [(sb b66 (kSystem x0 a0_0 n0_0 a0_1 n0_1) 25)]) (ps := [29, 30]) (by kernel_rfl) (gf := 127) (cap := [(.pointer (some ⟨b66, 0, none⟩)), (.pointer (some ⟨b67, 0, none⟩))]) g6 co_clocks_added_1 g1 (by kernel_rfl) (by kernel_rfl) (by rintro ⟨_, _, _, _⟩; rfl) hs76 (c_clocks_added_1 N F5 x0 a0_0 n0_0 hb0_0 (SlA.mono hs0_0 le77) a0_1 n0_1 hb0_1 (SlA.mono hs0_1 le77) b66 r58 a61 n62 hb63 (SlA.mono hs64 (le72.trans le74)) b67 hF75) (refY x2) (fun s => !s.2.isSome) (fun (s : Int × Option (List Bound)) (Fq : Mem) (Lq : Own) => ∃ (aa : Option Addr) (nn : Nat), Lq = [(sb b51 #[(vi s.1)] 3), (sb b10 #[(vi 0)] 30), (sb b7 #[(.slice aa (s.2.getD []).length nn)] 57), (sb b4 #[(vi x2)] 3)] ∧ LC (s.2.getD []).length nn ∧ SlA tBound Fq aa (s.2.getD [])) ?_ (s := ((0 : Int), (none : Option (List Bound)))) (r := r41) ?_ rfl hr42 ?_ ?_ ?_ ?_
    ·
     rintro s F F' L ⟨aa, nn, rfl, k1, k2⟩ hl
     exact ⟨aa, nn, rfl, k1, k2.mono hl⟩
    ·
     exact ⟨none, 0, rfl, LC.nil, .inl rfl⟩
    ·
     rintro ⟨s1, s2⟩ x q hq
     unfold refY at hq
     cases s2 with
     | some l => simp at hq
     | none =>
      refine ⟨rfl, ?_⟩
      simp only [Option.isSome_none, cond_false] at hq
      cases hc : ((s1 == x2) && !x.1) with
      | true => rw [hc] at hq; simp only [cond_true, Option.some.injEq] at hq; subst hq; rfl
      | false => rw [hc] at hq; simp only [cond_false, Option.some.injEq] at hq; subst hq; rfl
    ·
     rintro l44 ⟨s1, s2⟩ ⟨y55, y56, ay56_0, ny56_0⟩ w47 F6 _ Rf49 q le51 ⟨hby56_0, hsy56_0⟩ ⟨aa, nn, rfl, k1, k2⟩ hs53 hy54
     have hs2 : s2 = none := by
      cases s2 with
      | none => rfl
      | some l => unfold refY at hy54; simp at hy54
     subst hs2
     have hq : (bif (s1 == x2) && !y55 then some (false, (s1, some y56)) else some (true, (W64 (s1 + 1), none))) = some q := hy54
     have hs58 : HS w0 F0 w47 F6 ((sb b51 #[(vi s1)] 3) :: (sb b10 #[(vi 0)] 30) :: (sb b7 #[(.slice aa ([] : List Bound).length nn)] 57) :: (sb b4 #[(vi x2)] 3) :: Rf49) := hs53
     refine Sq (Rg [0] ?_)
     refine V 10 4 (ma 29 (.bool y55)) ?_
     refine Nt ?_
     refine Rg [0] ?_
     refine V 11 57 (ma 30 (.slice ay56_0 y56.length ny56_0)) ?_
     refine RWP.nil ?_
     refine ⟨rfl, F6, [(sb b51 #[(vi s1)] 3), (sb b10 #[(vi 0)] 30), (sb b7 #[(.slice aa ([] : List Bound).length nn)] 57), (sb b4 #[(vi x2)] 3)], hs58, fun w59 Rf60 hs61 => ?_⟩
     have hs62 : HS w0 F0 w59 F6 ((sb b51 #[(vi s1)] 3) :: (sb b10 #[(vi 0)] 30) :: (sb b7 #[(.slice aa ([] : List Bound).length nn)] 57) :: (sb b4 #[(vi x2)] 3) :: Rf60) := hs61
     refine Bk ?_
     refine Sq (Sq (Rg [0, 1, 2, 3, 4, 5, 6] ?_))
     refine V 31 3 (ld 3 9 b51 0 false 1 (vi s1) (hs62.ownAt (k := 0) rfl) g5) ?_
     refine V 32 3 (ld 3 5 b4 0 false 1 (vi x2) (hs62.ownAt (k := 3) rfl) g2) ?_
     refine V 33 4 (run_eql (t := 3) (t' := 3) (x := (.tmp 31)) (y := (.tmp 32)) (k := .i64) (a := s1) (b := x2) rfl rfl) ?_
     refine V 34 4 (mv 33 (.bool (s1 == x2))) ?_
     refine RWP.split (s1 == x2) (fun hb1 => ?_) (fun hb1 => ?_)
     ·
      refine Vg 35 4 3 true 34 hb1 (mv 10 (.bool y55)) ?_
      refine Vg 36 4 3 true 34 hb1 (run_not (t := 4) (x := (.tmp 35)) (a := y55) rfl) ?_
      refine V 37 4 (p1 34 (.tmp 36) (.const (.bool false)) (.bool (!y55)) hb1) ?_
      refine Nt ?_
      refine CWP.cond (t := !y55) (by kernel_rfl) rfl (fun hb2 => ?_) (fun hb2 => ?_)
      ·
       rw [hb1, hb2] at hq
       simp only [Bool.and_self, cond_true, Option.some.injEq] at hq
       subst hq
       refine Sq (Rg [0, 1, 2] ?_)
       refine V 38 57 (mv 11 (.slice ay56_0 y56.length ny56_0)) ?_
       refine RWP.store (ty := 0) (g := none) (by kernel_rfl) rfl (x := (.tmp 6)) (y := (.tmp 38)) (t := 57) (gg := false) (s := 1) (v := (.slice ay56_0 y56.length ny56_0)) (b := b7) (o := 0) (C := #[(.slice aa ([] : List Bound).length nn)]) g3 rfl (by kernel_rfl) hs62 (k := 2) rfl rfl rfl rfl (C' := #[(.slice ay56_0 y56.length ny56_0)]) rfl (fun w77 (hs78 : HS w0 F0 w77 F6 ((sb b51 #[(vi s1)] 3) :: (sb b10 #[(vi 0)] 30) :: (sb b7 #[(.slice ay56_0 y56.length ny56_0)] 57) :: (sb b4 #[(vi x2)] 3) :: Rf60)) => ?_)
       refine RWP.store (ty := 0) (g := none) (by kernel_rfl) rfl (x := (.tmp 7)) (y := (.const (vi 0))) (t := 30) (gg := false) (s := 1) (v := (vi 0)) (b := b10) (o := 0) (C := #[(vi 0)]) g4 rfl (by kernel_rfl) hs78 (k := 1) rfl rfl rfl rfl (C' := #[(vi 0)]) rfl (fun w79 (hs80 : HS w0 F0 w79 F6 ((sb b51 #[(vi s1)] 3) :: (sb b10 #[(vi 0)] 30) :: (sb b7 #[(.slice ay56_0 y56.length ny56_0)] 57) :: (sb b4 #[(vi x2)] 3) :: Rf60)) => ?_)
       refine Nt ?_
       refine CWP.ret (by kernel_rfl) ?_
       refine thenQ_ret ?_
       refine blockQ_ret ?_
       exact ⟨.inr ⟨rfl, rfl⟩, F6, [(sb b51 #[(vi s1)] 3), (sb b10 #[(vi 0)] 30), (sb b7 #[(.slice ay56_0 y56.length ny56_0)] 57), (sb b4 #[(vi x2)] 3)], hs80, (Mem.le.refl _), ay56_0, ny56_0, rfl, hby56_0, hsy56_0⟩
      ·
       rw [hb1, hb2] at hq
       simp only [Bool.and_false, cond_false, Option.some.injEq] at hq
       subst hq
       refine Sc ?_
       refine thenQ_nrm ?_
       refine Rg [0, 1, 2] ?_
       refine V 39 3 (ld 3 9 b51 0 false 1 (vi s1) (hs62.ownAt (k := 0) rfl) g5) ?_
       refine V 40 3 (run_add (t := 3) (t' := 3) (x := (.tmp 39)) (y := (.const (vi 1))) (k := .i64) (a := s1) (b := 1) rfl rfl) ?_
       refine RWP.store (ty := 0) (g := none) (by kernel_rfl) rfl (x := (.tmp 9)) (y := (.tmp 40)) (t := 3) (gg := false) (s := 1) (v := (vi (W64 (s1 + 1)))) (b := b51) (o := 0) (C := #[(vi s1)]) g5 rfl (by kernel_rfl) hs62 (k := 0) rfl rfl rfl rfl (C' := #[(vi (W64 (s1 + 1)))]) rfl (fun w79 (hs80 : HS w0 F0 w79 F6 ((sb b51 #[(vi (W64 (s1 + 1)))] 3) :: (sb b10 #[(vi 0)] 30) :: (sb b7 #[(.slice aa ([] : List Bound).length nn)] 57) :: (sb b4 #[(vi x2)] 3) :: Rf60)) => ?_)
       refine RWP.nil ?_
       refine blockQ_nrm ?_
       exact ⟨.inl ⟨rfl, rfl⟩, F6, [(sb b51 #[(vi (W64 (s1 + 1)))] 3), (sb b10 #[(vi 0)] 30), (sb b7 #[(.slice aa ([] : List Bound).length nn)] 57), (sb b4 #[(vi x2)] 3)], hs80, (Mem.le.refl _), aa, nn, rfl, k1, k2⟩
     ·
      refine Sk [35, 36] 3 true 34 hb1 ?_
      refine V 37 4 (p0 34 (.tmp 36) (.const (.bool false)) (.bool false) hb1) ?_
      refine Nt ?_
      rw [hb1] at hq
      simp only [Bool.false_and, cond_false, Option.some.injEq] at hq
      subst hq
      refine CWP.cond0 (t := false) (by kernel_rfl) rfl rfl ?_
      refine Sc ?_
      refine thenQ_nrm ?_
      refine Rg [0, 1, 2] ?_
      refine V 39 3 (ld 3 9 b51 0 false 1 (vi s1) (hs62.ownAt (k := 0) rfl) g5) ?_
      refine V 40 3 (run_add (t := 3) (t' := 3) (x := (.tmp 39)) (y := (.const (vi 1))) (k := .i64) (a := s1) (b := 1) rfl rfl) ?_
      refine RWP.store (ty := 0) (g := none) (by kernel_rfl) rfl (x := (.tmp 9)) (y := (.tmp 40)) (t := 3) (gg := false) (s := 1) (v := (vi (W64 (s1 + 1)))) (b := b51) (o := 0) (C := #[(vi s1)]) g5 rfl (by kernel_rfl) hs62 (k := 0) rfl rfl rfl rfl (C' := #[(vi (W64 (s1 + 1)))]) rfl (fun w79 (hs80 : HS w0 F0 w79 F6 ((sb b51 #[(vi (W64 (s1 + 1)))] 3) :: (sb b10 #[(vi 0)] 30) :: (sb b7 #[(.slice aa ([] : List Bound).length nn)] 57) :: (sb b4 #[(vi x2)] 3) :: Rf60)) => ?_)
      refine RWP.nil ?_
      refine blockQ_nrm ?_
      exact ⟨.inl ⟨rfl, rfl⟩, F6, [(sb b51 #[(vi (W64 (s1 + 1)))] 3), (sb b10 #[(vi 0)] 30), (sb b7 #[(.slice aa ([] : List Bound).length nn)] 57), (sb b4 #[(vi x2)] 3)], hs80, (Mem.le.refl _), aa, nn, rfl, k1, k2⟩
    ·
     rintro D81 w82 F7 _ hgo hs83 le84 ⟨aa, nn, rfl, k1, k2⟩
     obtain ⟨r1, r2⟩ := r41
     have hr2 : r2 = none := by cases r2 with | none => rfl | some l => cases hgo
     subst hr2
     have hs85 : HS w0 F0 w82 F7 [(some D81, (.deferred (some []))), (sb b51 #[(vi r1)] 3), (sb b10 #[(vi 0)] 30), (sb b7 #[(.slice aa ([] : List Bound).length nn)] 57), (sb b4 #[(vi x2)] 3)] := hs83
     refine blockQ_nrm ?_
     refine thenQ_nrm ?_
     refine Sq (Rg [0, 1] ?_)
     refine RWP.store (ty := 0) (g := none) (by kernel_rfl) rfl (x := (.tmp 6)) (y := (.const (.slice none 0 0))) (t := 57) (gg := false) (s := 1) (v := (.slice none ([] : List Bound).length 0)) (b := b7) (o := 0) (C := #[(.slice aa ([] : List Bound).length nn)]) g3 rfl (by kernel_rfl) hs85 (k := 3) rfl rfl rfl rfl (C' := #[(.slice none ([] : List Bound).length 0)]) rfl (fun w86 (hs87 : HS w0 F0 w86 F7 [(some D81, (.deferred (some []))), (sb b51 #[(vi r1)] 3), (sb b10 #[(vi 0)] 30), (sb b7 #[(.slice none ([] : List Bound).length 0)] 57), (sb b4 #[(vi x2)] 3)]) => ?_)
     refine RWP.store (ty := 0) (g := none) (by kernel_rfl) rfl (x := (.tmp 7)) (y := (.const (vi 3))) (t := 30) (gg := false) (s := 1) (v := (vi 3)) (b := b10) (o := 0) (C := #[(vi 0)]) g4 rfl (by kernel_rfl) hs87 (k := 2) rfl rfl rfl rfl (C' := #[(vi 3)]) rfl (fun w88 (hs89 : HS w0 F0 w88 F7 [(some D81, (.deferred (some []))), (sb b51 #[(vi r1)] 3), (sb b10 #[(vi 3)] 30), (sb b7 #[(.slice none ([] : List Bound).length 0)] 57), (sb b4 #[(vi x2)] 3)]) => ?_)
     refine Nt ?_
     refine CWP.ret (by kernel_rfl) ?_
     have hs90 := hs89.put (k := 0) rfl (.deferred none)
     have hs91 : HS w0 F0 (putB w88 D81 (.deferred none)) F7 [(sb b51 #[(vi r1)] 3), (sb b10 #[(vi 3)] 30), (sb b7 #[(.slice none ([] : List Bound).length 0)] 57), (sb b4 #[(vi x2)] 3)] := hs90.drop 0
     have hfin := some_inj h43
     subst hfin
     exact .inr ⟨D81, rfl, hs89.ownAt (k := 0) rfl, (.tuple #[(.slice none ([] : List Bound).length 0), (vi 3)]), res_of (l := [.cell 6 57, .cell 7 30]) (by kernel_rfl) (vs := [(.slice none ([] : List Bound).length 0), (vi 3)]) ⟨b7, 0, g3, run_loadVar' (t := 57) (g := false) (s := 1) (by kernel_rfl) (hs91.ownAt (k := 2) rfl) rfl (by decide), ⟨b10, 0, g4, run_loadVar' (t := 30) (g := false) (s := 1) (by kernel_rfl) (hs91.ownAt (k := 1) rfl) rfl (by decide), trivial⟩⟩, (.tuple #[(.slice none ([] : List Bound).length 0), (vi 3)]), F7, rfl, hs91.clear, ⟨none, 0, rfl, LC.nil, (.inl rfl)⟩⟩
    ·
     rintro D81 w82 F7 _ hgo hs83 le84 ⟨aa, nn, rfl, k1, k2⟩
     obtain ⟨r1, r2⟩ := r41
     obtain ⟨rl, rfl⟩ : ∃ rl, r2 = some rl := by cases r2 with | none => cases hgo | some l => exact ⟨l, rfl⟩
     have hs85 : HS w0 F0 w82 F7 [(some D81, (.deferred (some []))), (sb b51 #[(vi r1)] 3), (sb b10 #[(vi 0)] 30), (sb b7 #[(.slice aa rl.length nn)] 57), (sb b4 #[(vi x2)] 3)] := hs83
     have hs90 := hs85.put (k := 0) rfl (.deferred none)
     have hs91 : HS w0 F0 (putB w82 D81 (.deferred none)) F7 [(sb b51 #[(vi r1)] 3), (sb b10 #[(vi 0)] 30), (sb b7 #[(.slice aa rl.length nn)] 57), (sb b4 #[(vi x2)] 3)] := hs90.drop 0
     have hfin := some_inj h43
     subst hfin
     exact .inr ⟨D81, rfl, hs85.ownAt (k := 0) rfl, (.tuple #[(.slice aa rl.length nn), (vi 0)]), res_of (l := [.cell 6 57, .cell 7 30]) (by kernel_rfl) (vs := [(.slice aa rl.length nn), (vi 0)]) ⟨b7, 0, g3, run_loadVar' (t := 57) (g := false) (s := 1) (by kernel_rfl) (hs91.ownAt (k := 2) rfl) rfl (by decide), ⟨b10, 0, g4, run_loadVar' (t := 30) (g := false) (s := 1) (by kernel_rfl) (hs91.ownAt (k := 1) rfl) rfl (by decide), trivial⟩⟩, (.tuple #[(.slice aa rl.length nn), (vi 0)]), F7, rfl, hs91.clear, ⟨aa, nn, rfl, k1, k2⟩⟩
end Go.Proofs.Ythbcnabeabcmlaa
namespace Go.Proofs.Ythbcnabeabcmlaa
open BF
def sysT (s : System) (T : List Tie) : System := { Tracks := s.Tracks, Ties := T, Window := s.Window }
theorem sub_take {α : Type} {l : List α} {k : Nat} (h : k ≤ l.length) : sub l 0 (k : Int) = some (l.take k) := by
 unfold sub
 rw [if_pos (by omega)]
 simp
open Classical in
noncomputable def vOff (s : System) (l : List Tie) (right : Bool) : Int :=
 if vCheck s ≠ 0 then vCheck s else if l.all (fun t => vHas s t.A && vHas s t.B) = false then 3 else if (right && l.all (vTie s)) = false then 1 else if Cls s then (if s.Ties.length + l.length > 400 then 2 else 0) else 31
theorem off_zero {s : System} {l : List Tie} {right : Bool} (h : vOff s l right = 0) : vCheck s = 0 ∧ right = true ∧ (∀ t, t ∈ l → vTie s t = true) ∧ Cls s ∧ s.Ties.length + l.length ≤ 400 := by
 unfold vOff at h
 split at h
 ·contradiction
 ·rename_i h0
  split at h
  ·cases h
  ·split at h
   ·cases h
   ·rename_i h1
    split at h
    ·rename_i h2
     split at h
     ·cases h
     ·have h1 : (right && l.all (vTie s)) = true := by simpa using h1
      rw [Bool.and_eq_true, List.all_eq_true] at h1
      exact ⟨by omega, h1.1, h1.2, h2, by omega⟩
    ·cases h
theorem off_of {s : System} {l : List Tie} (h : vCheck s = 0) (ht : ∀ t, t ∈ l → vTie s t = true) (hc : Cls s) (hl : s.Ties.length + l.length ≤ 400) : vOff s l true = 0 := by
 unfold vOff
 have e1 : l.all (fun t => vHas s t.A && vHas s t.B) = true := List.all_eq_true.2 fun t hm => by
  have := ht t hm
  unfold vTie at this
  simp only [Bool.and_eq_true] at this ⊢
  exact ⟨this.1, this.2.1⟩
 rw [if_neg (by omega), if_neg (by rw [e1]; simp), if_neg (by rw [List.all_eq_true.2 ht]; simp), if_pos hc, if_neg (by omega)]
section
variable {N : Nat} {s : System}
theorem offered_c (hN : 1000000 ≤ N) (hf : FitS N s) {l : List Tie} (hl : Fit N l.length) (hsm : l.length ≤ 1000000) (right : Bool) : clocks_offered N s l right = some (vOff s l right) := by
 unfold clocks_offered vOff
 rw [check_c hf, Option.bind_some]
 by_cases h : vCheck s = 0
 ·have e : (vCheck s != 0) = false := by simp [h]
  rw [if_neg (by omega), e, cond_false]
  have h1 : slices_ContainsFunc_api_Tie_api_Tie N l (fun y0 => clocks_offered_1 N y0 s) = some (l.any fun t => !(vHas s t.A && vHas s t.B)) :=
   contains_aux hl (fun t _ => by unfold clocks_offered_1; rw [has_c hf, has_c hf]; cases vHas s t.A <;> cases vHas s t.B <;> rfl) rfl
  have h2 : slices_ContainsFunc_api_Tie_api_Tie N l (fun y0 => clocks_offered_2 N y0 s) = some (l.any fun t => !vTie s t) :=
   contains_aux hl (fun t _ => by unfold clocks_offered_2; rw [tied_c hf]; rfl) rfl
  rw [h1, any_not, Option.bind_some]
  cases l.all (fun t => vHas s t.A && vHas s t.B) with
  | false => rfl
  | true =>
   simp only [Bool.not_true, cond_false, h2, any_not, Option.bind_some]
   have hT := (check_ok h).2.1
   have hlim : decide (W64 ((s.Ties.length : Int) + (l.length : Int)) > 400) = decide (s.Ties.length + l.length > 400) := by
    rw [W64_id (by omega) (by omega), decide_eq_decide]; omega
   have hfin : (bif !right then some true else some (!l.all (vTie s))) = some (!(right && l.all (vTie s))) := by cases right <;> rfl
   rw [hfin, Option.bind_some]
   cases right && l.all (vTie s) with
   | false => rfl
   | true =>
    simp only [Bool.not_true, cond_false]
    rcases loopOf_eq hN hf h with ⟨h2, h3⟩ | ⟨h2, c, h3, h4, _⟩
    ·rw [h3, if_neg (by simp), if_neg (by simp), if_pos h2, Option.bind_some, hlim]
     by_cases h5 : s.Ties.length + l.length > 400
     ·simp [h5]
     ·simp [h5]
    ·rw [h3, if_neg (by simp), if_neg (by simp), if_neg h2, Option.bind_some]
     have : c.isEmpty = false := by
      cases c with
      | nil => exact absurd rfl h4.1
      | cons _ _ => rfl
     simp [this]
 ·have e : (vCheck s != 0) = true := by simpa using h
  rw [if_pos h, e]; rfl
open Classical in
noncomputable def accStep (s : System) (q : List Tie × List Bool) (t : Tie) : List Tie × List Bool := if Cls (sysT s (q.1 ++ [t])) then (q.1 ++ [t], q.2 ++ [true]) else (q.1, q.2 ++ [false])
noncomputable def accF (s : System) (l : List Tie) : List Tie × List Bool := l.foldl (accStep s) (s.Ties, [])
theorem accF_take (s : System) {l : List Tie} {i : Nat} (hi : i < l.length) : accF s (l.take (i + 1)) = accStep s (accF s (l.take i)) l[i] := by
 unfold accF
 rw [List.take_succ_eq_append_getElem hi, List.foldl_append]; rfl
theorem accF_len (s : System) (l : List Tie) : (accF s l).2.length = l.length := by
 have : ∀ i, i ≤ l.length → (accF s (l.take i)).2.length = i := by
  intro i
  induction i with
  | zero => intro _; rfl
  | succ i ih =>
   intro hi
   rw [accF_take s (show i < l.length by omega)]
   unfold accStep
   split <;> simp [ih (by omega)]
 have h := this l.length (Nat.le_refl _)
 rwa [List.take_length] at h
theorem accF_bools (s : System) (l : List Tie) (i : Nat) (hi : i ≤ l.length) : (accF s (l.take i)).2 = (accF s l).2.take i := by
 have : ∀ d i, i + d = l.length → (accF s (l.take i)).2 = (accF s l).2.take i := by
  intro d
  induction d with
  | zero =>
   intro i hi
   have : i = l.length := by omega
   subst this
   rw [List.take_length, List.take_of_length_le (by rw [accF_len]; exact Nat.le_refl _)]
  | succ d ih =>
   intro i hi
   have hlt : i < l.length := by omega
   have h1 := ih (i + 1) (by omega)
   rw [accF_take s hlt] at h1
   have hlen : (accF s (l.take i)).2.length = i := by rw [accF_len]; simp; omega
   have h2 : ∃ b, (accStep s (accF s (l.take i)) l[i]).2 = (accF s (l.take i)).2 ++ [b] := by unfold accStep; split <;> exact ⟨_, rfl⟩
   obtain ⟨b, hb⟩ := h2
   rw [hb] at h1
   have h3 := congrArg (fun z => z.take i) h1
   simp only [List.take_take, Nat.min_eq_left (Nat.le_succ i)] at h3
   rw [List.take_left' hlen] at h3
   exact h3
 exact this (l.length - i) i (by omega)
open Classical in
theorem accF_at (s : System) {l : List Tie} {i : Nat} (hi : i < l.length) : (accF s l).2[i]? = some (decide (Cls (sysT s ((accF s (l.take i)).1 ++ [l[i]])))) := by
 have h1 := accF_bools s l (i + 1) (by omega)
 have hlen : (accF s (l.take i)).2.length = i := by rw [accF_len]; simp; omega
 rw [accF_take s hi] at h1
 have h2 : (accF s l).2[i]? = ((accF s l).2.take (i + 1))[i]? := by rw [List.getElem?_take, if_pos (by omega)]
 rw [h2, ← h1]
 unfold accStep
 by_cases hc : Cls (sysT s ((accF s (l.take i)).1 ++ [l[i]]))
 ·rw [if_pos hc, List.getElem?_append_right (by omega), hlen]; simp [hc]
 ·rw [if_neg hc, List.getElem?_append_right (by omega), hlen]; simp [hc]
structure Good (s : System) (T : List Tie) (i : Nat) : Prop where
 len : T.length ≤ s.Ties.length + i
 tie : ∀ t, t ∈ T → vTie s t = true
 cls : Cls (sysT s T)
theorem sysT_valid (h : vCheck s = 0) {T : List Tie} (hT : T.length ≤ 400) (ht : ∀ t, t ∈ T → vTie s t = true) : vCheck (sysT s T) = 0 := by
 obtain ⟨k1, k2, k3, k4, k5, k6⟩ := check_ok h
 unfold vCheck
 have e1 : (decide (((sysT s T).Tracks.length : Int) > 64) || decide (((sysT s T).Ties.length : Int) > 400)) = false := by simp [sysT]; omega
 have e2 : (sysT s T).Tracks.all vTrack = true := List.all_eq_true.2 k3
 have e3 : inr (sysT s T).Window 0 120 = true := by unfold inr sysT; simp; omega
 have e4 : (sysT s T).Ties.all (vTie (sysT s T)) = true := List.all_eq_true.2 fun t hm => ht t hm
 rw [e1, e2, e3, e4]; rfl
theorem sysT_fit (hf : FitS N s) {T : List Tie} (hT : T.length ≤ 400) (hN : 1000000 ≤ N) : FitS N (sysT s T) := ⟨hf.n, hf.t, by simp [sysT]; omega, by simp [sysT]; omega⟩
theorem good_start (h : vCheck s = 0) (hc : Cls s) : Good s s.Ties 0 := ⟨by omega, (check_ok h).2.2.2.2.2, hc⟩
theorem good_acc (h : vCheck s = 0) (hc : Cls s) {l : List Tie} (hl : ∀ t, t ∈ l → vTie s t = true) : ∀ i, i ≤ l.length → Good s (accF s (l.take i)).1 i := by
 intro i
 induction i with
 | zero => intro _; exact good_start h hc
 | succ i ih =>
  intro hi
  have g := ih (by omega)
  rw [accF_take s (show i < l.length by omega)]
  unfold accStep
  split
  ·rename_i hcl
   refine ⟨by simp; have := g.len; omega, fun t ht => ?_, hcl⟩
   rw [List.mem_append, List.mem_singleton] at ht
   rcases ht with ht | rfl
   ·exact g.tie t ht
   ·exact hl _ (List.getElem_mem _)
  ·exact ⟨by have := g.len; simp only; omega, g.tie, g.cls⟩
theorem Good.snoc {T : List Tie} {i : Nat} (g : Good s T i) (h : vCheck s = 0) {t : Tie} (ht : vTie s t = true) (hl : s.Ties.length + i < 400) : vCheck (sysT s (T ++ [t])) = 0 :=
 sysT_valid h (by have := g.len; simp; omega) fun x hx => by
  rw [List.mem_append, List.mem_singleton] at hx
  rcases hx with hx | rfl
  ·exact g.tie x hx
  ·exact ht
theorem added_round {σ : Type} (hN : 1000000 ≤ N) (hf : FitS N s) (h : vCheck s = 0) {l : List Tie} {i : Nat} (hi : i < l.length) (hl1 : l.length ≤ 400) {T : List Tie} (g : Good s T i) (ht : vTie s l[i] = true) (hl : s.Ties.length + i < 400) (y : σ → Bool × List Bound → Option (Bool × σ)) (st s0 : σ) (r1 : List Tie) :
  (Cls (sysT s (T ++ [l[i]])) ∧ clocks_added_1_L0 N y s l s0 r1 ((i : Int), T, st) = (y st (true, [])).bind fun q => bif !q.1 then some (.ret q.2) else some (.next (((i + 1 : Nat) : Int), T ++ [l[i]], q.2))) ∨
  (¬ Cls (sysT s (T ++ [l[i]])) ∧ ∃ c, BadLoop (bnds (sysT s (T ++ [l[i]]))) c ∧ c.length ≤ 25601 ∧ clocks_added_1_L0 N y s l s0 r1 ((i : Int), T, st) = (y st (false, c)).bind fun q => bif !q.1 then some (.ret q.2) else some (.next (((i + 1 : Nat) : Int), T, q.2))) := by
 have hv := g.snoc h ht hl
 have hlen := g.len
 have hfT : FitS N (sysT s (T ++ [l[i]])) := sysT_fit hf (by simp; omega) hN
 unfold clocks_added_1_L0
 simp only
 rw [lt_t hi, cond_true, idx_nat hi, Option.bind_some, apnd_ok (by simp; omega), Option.bind_some, W64_succ (by omega)]
 rw [show ({ Tracks := s.Tracks, Ties := T ++ [l[i]], Window := s.Window } : System) = sysT s (T ++ [l[i]]) from rfl]
 rcases loopOf_eq hN hfT hv with ⟨h1, h2⟩ | ⟨h1, c, h2, h3, h4⟩
 ·refine .inl ⟨h1, ?_⟩
  rw [h2]
  simp only [Option.bind_some, List.isEmpty_nil, Bool.not_true, cond_false]
 ·refine .inr ⟨h1, c, h3, Nat.le_trans h4 (nodes_len hv), ?_⟩
  have he : c.isEmpty = false := by
   cases c with
   | nil => exact absurd rfl h3.1
   | cons _ _ => rfl
  have hsub : sub (T ++ [l[i]]) 0 (W64 (((T ++ [l[i]]).length : Int) - 1)) = some T := by
   rw [W64_id (by rw [List.length_append, List.length_singleton]; omega) (by rw [List.length_append, List.length_singleton]; omega)]
   have : (((T ++ [l[i]]).length : Int) - 1) = ((T.length : Nat) : Int) := by simp
   rw [this, sub_take (by simp)]
   simp
  rw [h2]
  simp only [Option.bind_some, he, Bool.not_false, cond_true, hsub]
theorem Accept_c (hN : 1000000 ≤ N) (hf : FitS N s) {l : List Tie} (hl : Fit N l.length) (hsm : l.length ≤ 1000000) : clocks_Accept N s l = some (if vOff s l true ≠ 0 then ([], vOff s l true) else ((accF s l).2, 0)) := by
 unfold clocks_Accept
 rw [offered_c hN hf hl hsm, Option.bind_some]
 by_cases h0 : vOff s l true = 0
 ·obtain ⟨h, _, ht, hc, hlen⟩ := off_zero h0
  have e : (vOff s l true != 0) = false := by simp [h0]
  rw [e, cond_false, if_neg (by omega)]
  unfold clocks_added_1 slices_Clone_api_Tie_api_Tie
  rw [apnd_ok (by simp; omega), Option.bind_some, List.nil_append]
  obtain ⟨o, ho, j, T, rfl⟩ := iter_ex (body := clocks_added_1_L0 N (fun st x => ((clocks_Accept_L0 N s l (vOff s l true)) st x).map fun t => (true, t)) s l ([] : List Bool) s.Ties) l.length
   (fun i q => q = ((i : Int), (accF s (l.take i)).1, (accF s (l.take i)).2)) (fun o => ∃ j T, o = .done (j, T, (accF s l).2)) (by
   rintro i q hi rfl
   by_cases hlt : i < l.length
   ·left
    have g := good_acc h hc ht i (by omega)
    have hal : (accF s (l.take i)).2.length = i := by rw [accF_len]; simp; omega
    rcases added_round hN hf h hlt (by omega) g (ht _ (List.getElem_mem hlt)) (by omega) (fun st x => ((clocks_Accept_L0 N s l (vOff s l true)) st x).map fun t => (true, t)) (accF s (l.take i)).2 [] s.Ties with ⟨h1, h2⟩ | ⟨h1, c, _, _, h2⟩
    ·rw [h2]
     unfold clocks_Accept_L0
     simp only
     rw [apnd_ok (by rw [hal]; simp; omega)]
     refine ⟨_, rfl, ?_, hlt⟩
     rw [accF_take s hlt]
     unfold accStep
     rw [if_pos h1]
    ·rw [h2]
     unfold clocks_Accept_L0
     simp only
     rw [apnd_ok (by rw [hal]; simp; omega)]
     refine ⟨_, rfl, ?_, hlt⟩
     rw [accF_take s hlt]
     unfold accStep
     rw [if_neg h1]
   ·have : i = l.length := by omega
    subst this
    right
    unfold clocks_added_1_L0
    simp only
    rw [lt_f, cond_false]
    refine ⟨_, rfl, (fun _ h => by cases h), (l.length : Int), (accF s l).1, ?_⟩
    rw [List.take_length]) l.length N 0 (0, s.Ties, []) (by omega) rfl hl.2
  rw [ho]; rfl
 ·have e : (vOff s l true != 0) = true := by simpa using h0
  rw [e, if_pos h0]; rfl
theorem inr_of {i : Int} {n : Nat} (h : n ≤ 1000000) (hi : inr i 0 (W64 ((n : Int) - 1)) = true) : ∃ k : Nat, i = (k : Int) ∧ k < n := by
 rw [W64_id (by omega) (by omega)] at hi
 unfold inr at hi
 simp only [Bool.and_eq_true, decide_eq_true_eq] at hi
 exact ⟨i.toNat, by omega, by omega⟩
theorem Refusal_c (hN : 1000000 ≤ N) (hf : FitS N s) {l : List Tie} (hl : Fit N l.length) (hsm : l.length ≤ 1000000) (i : Int) :
  (vOff s l (inr i 0 (W64 ((l.length : Int) - 1))) ≠ 0 ∧ clocks_Refusal N s l i = some ([], vOff s l (inr i 0 (W64 ((l.length : Int) - 1))))) ∨
  (vOff s l (inr i 0 (W64 ((l.length : Int) - 1))) = 0 ∧ ∃ k : Nat, i = (k : Int) ∧ ∃ hk : k < l.length,
   (Cls (sysT s ((accF s (l.take k)).1 ++ [l[k]])) ∧ clocks_Refusal N s l i = some ([], 3)) ∨
   (¬ Cls (sysT s ((accF s (l.take k)).1 ++ [l[k]])) ∧ ∃ c, clocks_Refusal N s l i = some (c, 0) ∧ BadLoop (bnds (sysT s ((accF s (l.take k)).1 ++ [l[k]]))) c ∧ c.length ≤ 25601)) := by
 unfold clocks_Refusal
 rw [within_c, Option.bind_some, offered_c hN hf hl hsm, Option.bind_some, Option.bind_some]
 by_cases h0 : vOff s l (inr i 0 (W64 ((l.length : Int) - 1))) = 0
 ·right
  refine ⟨h0, ?_⟩
  obtain ⟨h, hr, ht, hc, hlen⟩ := off_zero h0
  obtain ⟨k, rfl, hk⟩ := inr_of hsm hr
  refine ⟨k, rfl, hk, ?_⟩
  have e : (vOff s l (inr (k : Int) 0 (W64 ((l.length : Int) - 1))) != 0) = false := by simp [h0]
  rw [e, cond_false, W64_succ (by omega), sub_take (by omega), Option.bind_some]
  generalize hp : l.take (k + 1) = p
  have hpl : p.length = k + 1 := by subst hp; simp; omega
  have hpt : ∀ j, j ≤ k → p.take j = l.take j := fun j hj => by subst hp; rw [List.take_take, Nat.min_eq_left (by omega)]
  have hpa : ∀ j (hj : j < p.length), p[j] = l[j]'(by omega) := fun j hj => by subst hp; simp
  have htp : ∀ t, t ∈ p → vTie s t = true := fun t hm => ht t (by subst hp; exact List.mem_of_mem_take hm)
  unfold clocks_added_1 slices_Clone_api_Tie_api_Tie
  rw [apnd_ok (by simp; omega), Option.bind_some, List.nil_append]
  have hkp : k < p.length := by omega
  obtain ⟨o, ho, hR⟩ := iter_ex (body := clocks_added_1_L0 N (refY (k : Int)) s p ((0 : Int), (none : Option (List Bound))) s.Ties) p.length
   (fun j q => q = ((j : Int), (accF s (p.take j)).1, ((j : Int), (none : Option (List Bound)))) ∧ (j = k + 1 → Cls (sysT s ((accF s (l.take k)).1 ++ [l[k]]))))
   (fun o => (Cls (sysT s ((accF s (l.take k)).1 ++ [l[k]])) ∧ ∃ a b c, o = .done (a, b, (c, none))) ∨ (¬ Cls (sysT s ((accF s (l.take k)).1 ++ [l[k]])) ∧ ∃ a c, o = .ret (a, some c) ∧ BadLoop (bnds (sysT s ((accF s (l.take k)).1 ++ [l[k]]))) c ∧ c.length ≤ 25601)) (by
   rintro j q hj ⟨rfl, hjk⟩
   by_cases hlt : j < p.length
   ·have g := good_acc h hc htp j (by omega)
    have hmem := htp _ (List.getElem_mem hlt)
    have hTj : (accF s (p.take j)).1 = (accF s (l.take j)).1 := by rw [hpt j (by omega)]
    by_cases hjeq : j = k
    ·subst hjeq
     have hlj : p[j] = l[j] := hpa j hlt
     rcases added_round hN hf h hlt (by omega) g hmem (by omega) (refY (j : Int)) ((j : Int), (none : Option (List Bound))) ((0 : Int), (none : Option (List Bound))) s.Ties with ⟨h1, h2⟩ | ⟨h1, c, h3, h4, h2⟩
     ·left
      rw [h2]
      rw [hTj, hlj] at h1
      unfold refY
      simp only [Option.isSome_none, cond_false, beq_self_eq_true, Bool.not_true, Bool.and_false, Option.bind_some]
      refine ⟨_, rfl, ⟨?_, fun _ => h1⟩, hlt⟩
      rw [W64_succ (by omega), accF_take s hlt]
      unfold accStep
      rw [hTj, hlj, if_pos h1]
     ·right
      rw [h2]
      rw [hTj, hlj] at h1 h3
      unfold refY
      simp only [Option.isSome_none, cond_false, beq_self_eq_true, Bool.not_false, Bool.and_self, cond_true, Option.bind_some]
      exact ⟨_, rfl, (fun _ h => by cases h), .inr ⟨h1, _, c, rfl, h3, h4⟩⟩
    ·have hne : ((j : Int) == (k : Int)) = false := by simp; omega
     left
     rcases added_round hN hf h hlt (by omega) g hmem (by omega) (refY (k : Int)) ((j : Int), (none : Option (List Bound))) ((0 : Int), (none : Option (List Bound))) s.Ties with ⟨h1, h2⟩ | ⟨h1, c, _, _, h2⟩
     ·rw [h2]
      unfold refY
      simp only [Option.isSome_none, cond_false, hne, Bool.false_and, Option.bind_some, Bool.not_true]
      refine ⟨_, rfl, ⟨?_, fun hh => by omega⟩, hlt⟩
      rw [W64_succ (by omega), accF_take s hlt]
      unfold accStep
      rw [if_pos h1]
     ·rw [h2]
      unfold refY
      simp only [Option.isSome_none, cond_false, hne, Bool.false_and, Option.bind_some, Bool.not_true]
      refine ⟨_, rfl, ⟨?_, fun hh => by omega⟩, hlt⟩
      rw [W64_succ (by omega), accF_take s hlt]
      unfold accStep
      rw [if_neg h1]
   ·have hje : j = p.length := by omega
    subst hje
    right
    unfold clocks_added_1_L0
    simp only
    rw [lt_f, cond_false]
    exact ⟨_, rfl, (fun _ h => by cases h), .inl ⟨hjk hpl, _, _, _, rfl⟩⟩) p.length N 0 (0, s.Ties, ((0 : Int), (none : Option (List Bound)))) (by omega) ⟨rfl, fun hh => by omega⟩ (by omega)
  rw [ho]
  rcases hR with ⟨h1, a, b, c, rfl⟩ | ⟨h1, a, c, rfl, h3, h4⟩
  ·exact .inl ⟨h1, rfl⟩
  ·exact .inr ⟨h1, c, rfl, h3, h4⟩
 ·left
  have e : (vOff s l (inr i 0 (W64 ((l.length : Int) - 1))) != 0) = true := by simpa using h0
  rw [e]; exact ⟨h0, rfl⟩
end
end Go.Proofs.Ythbcnabeabcmlaa
namespace Go.Proofs.Ythbcnabeabcmlaa
open Go.Proofs
def ref03_within (N : Nat) (x0 : Int) (x1 : Int) (x2 : Int) : Option Bool :=
 some ((decide (x1 ≤ x0)) && (decide (x0 ≤ x2)))
theorem co_ref03_within : CallOk Try.prog 83 := fun _ _ => by kernel_rfl
set_option maxHeartbeats 4000000 in
set_option maxRecDepth 100000 in
theorem c_ref03_within (N : Nat) (w0 : World) (F0 : Mem) (hF : ∀ b o, F0 b = some o → w0.heap[b]? = some o) (x0 : Int) (x1 : Int) (x2 : Int) (r : Bool) (h : ref03_within N x0 x1 x2 = some r) :
  Calls Try.prog 83 ([(vi x0), (vi x1), (vi x2)] : List Value).toArray w0 (FRet w0 F0 fun F' v => v = (.bool r)) := by
 have hs0 := HS.start hF
 refine calls_of (n := 15) (c := bodyOf Try.f83) Try.func83 (by kernel_rfl) (by kernel_rfl) (by kernel_rfl) ?_
 refine Sq (Rg [0] ?_)
 refine V 6 4 (mc (.bool false) (.bool false)) ?_
 refine Nss (Rg [0, 1, 2, 3, 4, 5, 6, 7, 8] ?_)
 refine RWP.cut (fun f w => ∃ (F1 : Mem), HS w0 F0 w F1 [] ∧ Mem.le F0 F1 ∧ f.d = [] ∧ f 6 = (.bool ((decide (x1 ≤ x0)) && (decide (x0 ≤ x2))))) ?_ ?_
 ·refine V 7 3 (mv 1 (vi x1)) ?_
  refine V 8 3 (mv 0 (vi x0)) ?_
  refine V 9 4 (run_leq (t := 3) (t' := 3) (x := (.tmp 7)) (y := (.tmp 8)) (k := .i64) (a := x1) (b := x0) rfl rfl) ?_
  refine V 10 4 (mv 9 (.bool (decide (x1 ≤ x0)))) ?_
  refine RWP.split (decide (x1 ≤ x0)) (fun hb6 => ?_) (fun hb6 => ?_)
  ·refine Vg 11 3 3 true 10 hb6 (mv 0 (vi x0)) ?_
   refine Vg 12 3 3 true 10 hb6 (mv 2 (vi x2)) ?_
   refine Vg 13 4 3 true 10 hb6 (run_leq (t := 3) (t' := 3) (x := (.tmp 11)) (y := (.tmp 12)) (k := .i64) (a := x0) (b := x2) rfl rfl) ?_
   refine V 14 4 (p1 10 (.tmp 13) (.const (.bool false)) (.bool (decide (x0 ≤ x2))) hb6) ?_
   refine V 6 4 (ma 14 (.bool (decide (x0 ≤ x2)))) ?_
   exact RWP.nil ⟨rfl, F0, hs0, (Mem.le.refl _), rfl, (congrArg Value.bool (and_t hb6 (rfl)))⟩
  ·refine Sk [11, 12, 13] 3 true 10 hb6 ?_
   refine V 14 4 (p0 10 (.tmp 13) (.const (.bool false)) (.bool false) hb6) ?_
   refine V 6 4 (ma 14 (.bool false)) ?_
   exact RWP.nil ⟨rfl, F0, hs0, (Mem.le.refl _), rfl, (congrArg Value.bool (and_f hb6 (rfl)))⟩
 ·rintro f w1 ⟨F1, hs2, le3, e4, e5⟩
  refine thenQ_nrm ?_
  refine CWP.ret (by kernel_rfl) ?_
  have hfin := some_inj h
  subst hfin
  exact ⟨e4, (.bool ((decide (x1 ≤ x0)) && (decide (x0 ≤ x2)))), res_of (l := [.tmp 6]) (by kernel_rfl) (vs := [(.bool ((decide (x1 ≤ x0)) && (decide (x0 ≤ x2))))]) ⟨e5, trivial⟩, (.bool ((decide (x1 ≤ x0)) && (decide (x0 ≤ x2)))), F1, rfl, hs2.clear, rfl⟩
end Go.Proofs.Ythbcnabeabcmlaa
namespace Go.Proofs.Ythbcnabeabcmlaa
open Go.Proofs
def ref03_ValidClock_L0 (N : Nat) (x0 : Clock) (j7 : (Bool)) : Int → Option (Flow Bool Int) := fun s41 =>
 (bif (decide (s41 < (x0.Jumps.length : Int))) then (((idx x0.Jumps s41).bind fun x73 => ((ref03_within N x73 0 20000).bind fun r87 => (bif (!r87) then some true else (bif (decide (s41 > 0)) then ((idx x0.Jumps s41).bind fun x100 => ((idx x0.Jumps (W64 (s41 - 1))).bind fun x106 => some (decide (x100 ≤ x106)))) else some false)))).bind fun j66 => (bif j66 then some (.ret false) else some (.next (W64 (s41 + 1))))) else some (.done s41))
def ref03_ValidClock (N : Nat) (x0 : Clock) : Option Bool :=
 (((ref03_within N x0.Slip 0 1440).bind fun r13 => (bif (!r13) then some true else ((ref03_within N x0.Drift 0 100).bind fun r24 => (bif (!r24) then some true else some (decide ((x0.Jumps.length : Int) > 16)))))).bind fun j7 => (bif j7 then some false else ((iter (ref03_ValidClock_L0 N x0 j7) N 0).bind fun o => o.k (fun r => some r) (fun s48 => some true))))
theorem co_ref03_ValidClock : CallOk Try.prog 37 := fun _ _ => by kernel_rfl
set_option maxHeartbeats 4000000 in
set_option maxRecDepth 100000 in
theorem c_ref03_ValidClock (N : Nat) (w0 : World) (F0 : Mem) (hF : ∀ b o, F0 b = some o → w0.heap[b]? = some o) (x0 : Clock) (a0_2 : Option Addr) (n0_2 : Nat) (hb0_2 : LC x0.Jumps.length n0_2) (hs0_2 : SlA tInt F0 a0_2 x0.Jumps) (r : Bool) (h : ref03_ValidClock N x0 = some r) :
  Calls Try.prog 37 ([(.agg (kClock x0 a0_2 n0_2))] : List Value).toArray w0 (FRet w0 F0 fun F' v => v = (.bool r)) := by
 have hs0 := HS.start hF
 refine calls_of (n := 52) (c := bodyOf Try.f37) Try.func37 (by kernel_rfl) (by kernel_rfl) (by kernel_rfl) ?_
 refine Sq (Rg [0, 1] ?_)
 refine Bx 1 0 0 52 (kClock x0 a0_2 n0_2) hs0 (fun b1 w2 (hs3 : HS w0 F0 w2 F0 [(sb b1 (kClock x0 a0_2 n0_2) 52)]) => ?_)
 refine V 2 4 (mc (.bool false) (.bool false)) ?_
 refine Nss ?_
 refine Sq (Rg [0, 1, 2, 3, 4, 5, 6, 7, 8, 9, 10, 11, 12, 13, 14, 15] ?_)
 obtain ⟨j7, hj11, h12⟩ := bind_some h
 refine RWP.cut (fun f w => ∃ (F1 : Mem), HS w0 F0 w F1 [(sb b1 (kClock x0 a0_2 n0_2) 52)] ∧ Mem.le F0 F1 ∧ f.d = [] ∧ f 1 = (.pointer (some ⟨b1, 0, none⟩)) ∧ f 19 = (.bool j7)) ?_ ?_
 ·refine V 4 0 (fa 52 1 0 0 1 b1 0 0) ?_
  refine V 5 3 (ld 3 4 b1 0 false 1 (vi x0.Slip) (hs3.ownAt (k := 0) rfl)) ?_
  obtain ⟨r13, hr14, h15⟩ := bind_some hj11
  refine Cl 6 4 83 #[(.tmp 5), (.const (vi 0)), (.const (vi 1440))] #[3, 3, 3] co_ref03_within hs3 (c_ref03_within N w2 F0 hs3.pers (x0.Slip) (0) (1440) _ hr14) ?_
  intro v16 F2 w17 hs18 le19 hp20
  obtain rfl := hp20
  refine V 7 4 (run_not (t := 4) (x := (.tmp 6)) (a := r13) rfl) ?_
  refine V 8 4 (mv 7 (.bool (!r13))) ?_
  refine RWP.split (!r13) (fun hb21 => ?_) (fun hb21 => ?_)
  ·have h22 := cond_t h15 hb21
   refine Sk [9, 10, 11, 12] 4 false 8 hb21 ?_
   refine V 13 4 (p1 8 (.const (.bool true)) (.tmp 12) (.bool true) hb21) ?_
   refine V 14 4 (mv 13 (.bool true)) ?_
   refine Sk [15, 16, 17, 18] 10 false 14 rfl ?_
   refine V 19 4 (p1 14 (.const (.bool true)) (.tmp 18) (.bool true) rfl) ?_
   obtain rfl := some_inj h22
   exact RWP.nil ⟨rfl, F2, hs18, le19, rfl, rfl, rfl⟩
  ·have h23 := cond_f h15 hb21
   refine Vg 9 0 4 false 8 hb21 (fa 52 1 1 1 1 b1 0 1) ?_
   refine Vg 10 3 4 false 8 hb21 (ld 3 9 b1 1 false 1 (vi x0.Drift) (hs18.ownAt (k := 0) rfl)) ?_
   obtain ⟨r24, hr25, h26⟩ := bind_some h23
   refine RWP.call (dst := (some 11)) (ty := 4) (g := (some (4, false))) (by kernel_rfl) (gd_y (d := 8) (by kernel_rfl) rfl hb21) (f0 := (.func 83)) (aos := #[(.tmp 10), (.const (vi 0)), (.const (vi 100))]) (ats := #[3, 3, 3]) (fid := 83) (first := #[]) (cap := #[]) (args := [(vi x0.Drift), (vi 0), (vi 100)]) rfl co_ref03_within (rfl) hs18 (c_ref03_within N w17 F2 hs18.pers (x0.Drift) (0) (100) _ hr25) ?_
   intro v27 F3 w28 hs29 le30 hp31
   obtain rfl := hp31
   refine Vg 12 4 4 false 8 hb21 (run_not (t := 4) (x := (.tmp 11)) (a := r24) rfl) ?_
   refine V 13 4 (p0 8 (.const (.bool true)) (.tmp 12) (.bool (!r24)) hb21) ?_
   refine V 14 4 (mv 13 (.bool (!r24))) ?_
   refine RWP.split (!r24) (fun hb32 => ?_) (fun hb32 => ?_)
   ·have h33 := cond_t h26 hb32
    refine Sk [15, 16, 17, 18] 10 false 14 hb32 ?_
    refine V 19 4 (p1 14 (.const (.bool true)) (.tmp 18) (.bool true) hb32) ?_
    obtain rfl := some_inj h33
    exact RWP.nil ⟨rfl, F3, hs29, (le19.trans le30), rfl, rfl, rfl⟩
   ·have h34 := cond_f h26 hb32
    refine Vg 15 0 10 false 14 hb32 (fa 52 1 2 2 1 b1 0 2) ?_
    refine Vg 16 50 10 false 14 hb32 (ld 50 15 b1 2 false 1 (.slice a0_2 x0.Jumps.length n0_2) (hs29.ownAt (k := 0) rfl)) ?_
    refine Vg 17 3 10 false 14 hb32 (ln 16 50 a0_2 x0.Jumps.length n0_2 3 1 8) ?_
    refine Vg 18 4 10 false 14 hb32 (run_gtr (t := 3) (t' := 3) (x := (.tmp 17)) (y := (.const (vi 16))) (k := .i64) (a := (x0.Jumps.length : Int)) (b := 16) rfl rfl) ?_
    refine V 19 4 (p0 14 (.const (.bool true)) (.tmp 18) (.bool (decide ((x0.Jumps.length : Int) > 16))) hb32) ?_
    obtain rfl := some_inj h34
    exact RWP.nil ⟨rfl, F3, hs29, (le19.trans le30), rfl, rfl, rfl⟩
 ·rintro f w4 ⟨F1, hs5, le6, e8, e9, e10⟩
  refine thenQ_nrm ?_
  refine CWP.cond (t := j7) (by kernel_rfl) e10 (fun hb35 => ?_) (fun hb35 => ?_)
  ·have h36 := cond_t h12 hb35
   refine Sq (Rg [0] ?_)
   refine V 2 4 (mc (.bool false) (.bool false)) ?_
   refine Nt ?_
   refine CWP.ret (by kernel_rfl) ?_
   refine thenQ_ret ?_
   have hfin := some_inj h36
   subst hfin
   exact ⟨e8, (.bool false), res_of (l := [.tmp 2]) (by kernel_rfl) (vs := [(.bool false)]) ⟨rfl, trivial⟩, (.bool false), F1, rfl, hs5.clear, rfl⟩
  ·have h37 := cond_f h12 hb35
   refine Sc ?_
   refine thenQ_nrm ?_
   refine Sq ?_
   refine Sq (Rg [0] ?_)
   refine V 3 3 (mc (vi 0) (vi 0)) ?_
   refine Nt ?_
   obtain ⟨o38, ho39, h40⟩ := bind_some h37
   refine CWP.cut (fun f w => ∃ (s48 : Int) (F5 : Mem), o38 = .done s48 ∧ HS w0 F0 w F5 [] ∧ Mem.le F1 F5 ∧ f.d = []) ?_ ?_
   ·refine Bk ?_
    refine CWP.loop (by kernel_rfl) (fun m f w => ∃ (s41 : Int) (F4 : Mem), iter (ref03_ValidClock_L0 N x0 j7) m s41 = some o38 ∧ HS w0 F0 w F4 [(sb b1 (kClock x0 a0_2 n0_2) 52)] ∧ Mem.le F1 F4 ∧ f.d = [] ∧ f 1 = (.pointer (some ⟨b1, 0, none⟩)) ∧ f 3 = (vi s41)) N ⟨0, F1, ho39, hs5, (Mem.le.refl _), e8, e9, rfl⟩ ?_
    rintro m53 f w42 ⟨s41, F4, hit54, hs43, le44, e45, e46, e47⟩
    obtain ⟨m55, fl56, rfl, hb57, hnx58⟩ := iter_step hit54
    refine Sq ?_
    refine Sq (Rg [0, 1, 2, 3, 4] ?_)
    refine V 20 3 (mv 3 (vi s41) e47) ?_
    refine V 21 0 (fa 52 1 2 2 1 b1 0 2 e46) ?_
    refine V 22 50 (ld 50 21 b1 2 false 1 (.slice a0_2 x0.Jumps.length n0_2) (hs43.ownAt (k := 0) rfl)) ?_
    refine V 23 3 (ln 22 50 a0_2 x0.Jumps.length n0_2 3 1 8) ?_
    refine V 24 4 (run_lss (t := 3) (t' := 3) (x := (.tmp 20)) (y := (.tmp 23)) (k := .i64) (a := s41) (b := (x0.Jumps.length : Int)) rfl rfl) ?_
    refine Nt ?_
    refine CWP.cond (t := (decide (s41 < (x0.Jumps.length : Int)))) (by kernel_rfl) rfl (fun hb59 => ?_) (fun hb59 => ?_)
    ·have h60 := cond_t hb57 hb59
     refine Sc ?_
     refine thenQ_nrm ?_
     refine Sq ?_
     refine Bk ?_
     refine Sq ?_
     obtain ⟨j66, hj71, h72⟩ := bind_some h60
     refine CWP.regionD (by kernel_rfl) (by kernel_rfl) (by kernel_rfl) (by kernel_rfl) (z := 25) (F := F4) (Lc := [(sb b1 (kClock x0 a0_2 n0_2) 52)]) (Lz := []) (l := [false, false, false, false, false, false, false, false, false, false, false, false, false, false, false, false, false, false, false, false, false, false, false, false, false]) (fuel := 25) (by kernel_rfl) (by kernel_rfl) hs43 (by simp) (by simp) (fun f w => ∃ (F6 : Mem), HS w0 F0 w F6 [(sb b1 (kClock x0 a0_2 n0_2) 52)] ∧ Mem.le F4 F6 ∧ f.d = [] ∧ f 1 = (.pointer (some ⟨b1, 0, none⟩)) ∧ f 3 = (vi s41) ∧ f 51 = (.bool j66)) (fun wd61 hw62 => ?_) ?_
     ·refine Dtl 0 27 0 (.pointer (some ⟨b1, 2, none⟩)) [tt, ff, ff, ff, ff, ff, ff, ff, ff, ff, ff, ff, ff, ff, ff, ff, ff, ff, ff, ff, ff, ff, ff, ff, ff] (fun _ hq => fa 52 1 2 2 1 b1 0 2 e46) ?_
      refine Dtl 1 28 50 _ [tt, tt, ff, ff, ff, ff, ff, ff, ff, ff, ff, ff, ff, ff, ff, ff, ff, ff, ff, ff, ff, ff, ff, ff, ff] (fun _ hq => ld 50 27 b1 2 false 1 (.slice a0_2 x0.Jumps.length n0_2) (hq.1.2 0 _ _ rfl)) ?_
      refine Dtl 2 29 3 _ [tt, tt, tt, ff, ff, ff, ff, ff, ff, ff, ff, ff, ff, ff, ff, ff, ff, ff, ff, ff, ff, ff, ff, ff, ff] (fun _ hq => mv 3 (vi s41) e47) ?_
      obtain ⟨x73, hx74, h76⟩ := bind_some hj71
      obtain ⟨hi75, hx74'⟩ := idx_spec hx74
      obtain ⟨b77, o78, C79, E80, fz81, rfl, hF83, hE84⟩ := SlA.open (SlA.mono hs0_2 (le6.trans le44)) hx74'
      have hc86 := hE84 _ _ hx74'
      refine Dtl 3 30 0 (.pointer (some ⟨b77, (o78 + (s41 : Int).toNat * 1), none⟩)) [tt, tt, tt, tt, ff, ff, ff, ff, ff, ff, ff, ff, ff, ff, ff, ff, ff, ff, ff, ff, ff, ff, ff, ff, ff] (fun _ hq => ix 50 28 29 b77 o78 3 1 8 hi75) ?_
      refine Dtl 4 31 3 _ [tt, tt, tt, tt, tt, ff, ff, ff, ff, ff, ff, ff, ff, ff, ff, ff, ff, ff, ff, ff, ff, ff, ff, ff, ff] (fun _ hq => lx 3 30 0 1 false 1 (vi x73) (hq.1.1 _ _ hF83) hc86) ?_
      refine DWP.one (i := 5) (by kernel_rfl) ?_
      obtain ⟨r87, hr88, h89⟩ := bind_some h76
      refine DStep.call (l' := [true, true, true, true, true, true, false, false, false, false, false, false, false, false, false, false, false, false, false, false, false, false, false, false, false]) (zd := true) (by kernel_rfl) (by kernel_rfl) (by kernel_rfl) (dst := (some 32)) (ty := 4) (g := none) (by kernel_rfl) rfl (f0 := (.func 83)) (aos := #[(.tmp 31), (.const (vi 0)), (.const (vi 20000))]) (ats := #[3, 3, 3]) (fid := 83) (first := #[]) (cap := #[]) (args := [(vi x73), (vi 0), (vi 20000)]) rfl co_ref03_within (rfl) hw62 (c_ref03_within N wd61 F4 hw62.pers (x73) (0) (20000) _ hr88) ?_
      intro v90 F7 w91 hs92 le93 hp94
      obtain rfl := hp94
      refine Dtl 6 33 4 (.bool (!r87)) [tt, tt, tt, tt, tt, tt, tt, ff, ff, ff, ff, ff, ff, ff, ff, ff, ff, ff, ff, ff, ff, ff, ff, ff, ff] (fun _ hq => run_not (t := 4) (x := (.tmp 32)) (a := r87) rfl) ?_
      refine Dtl 7 34 4 _ [tt, tt, tt, tt, tt, tt, tt, tt, ff, ff, ff, ff, ff, ff, ff, ff, ff, ff, ff, ff, ff, ff, ff, ff, ff] (fun _ hq => mv 33 (.bool (!r87))) ?_
      refine DWP.split (!r87) (fun hb95 => ?_) (fun hb95 => ?_)
      ·have h96 := cond_t h89 hb95
       refine Dkl [(8, 35), (9, 36), (10, 37)] 7 false 34 hb95 [tt, tt, tt, tt, tt, tt, tt, tt, tt, tt, tt, ff, ff, ff, ff, ff, ff, ff, ff, ff, ff, ff, ff, ff, ff] ?_
       refine Dul [(11, 38), (12, 39), (13, 40), (14, 41), (15, 42), (16, 43)] 10 true 37 [tt, tt, tt, tt, tt, tt, tt, tt, tt, tt, tt, tt, tt, tt, tt, tt, tt, ff, ff, ff, ff, ff, ff, ff, ff] ?_
       refine Dul [(17, 44), (18, 45), (19, 46), (20, 47), (21, 48), (22, 49)] 10 true 37 [tt, tt, tt, tt, tt, tt, tt, tt, tt, tt, tt, tt, tt, tt, tt, tt, tt, tt, tt, tt, tt, tt, tt, ff, ff] ?_
       refine Dkl [(23, 50)] 7 false 34 hb95 [tt, tt, tt, tt, tt, tt, tt, tt, tt, tt, tt, tt, tt, tt, tt, tt, tt, tt, tt, tt, tt, tt, tt, tt, ff] ?_
       refine Dtl 24 51 4 _ [tt, tt, tt, tt, tt, tt, tt, tt, tt, tt, tt, tt, tt, tt, tt, tt, tt, tt, tt, tt, tt, tt, tt, tt, tt] (fun _ hq => p1 34 (.const (.bool true)) (.tmp 50) (.bool true) hb95) ?_
       obtain rfl := some_inj h96
       exact DWP.done (by kernel_rfl) ⟨F7, hs92, le93, e45, e46, e47, rfl⟩
      ·have h97 := cond_f h89 hb95
       refine Dgl 8 35 3 _ [tt, tt, tt, tt, tt, tt, tt, tt, tt, ff, ff, ff, ff, ff, ff, ff, ff, ff, ff, ff, ff, ff, ff, ff, ff] 7 false 34 hb95 (fun _ hq => mv 3 (vi s41) e47) ?_
       refine Dgl 9 36 4 (.bool (decide (s41 > 0))) [tt, tt, tt, tt, tt, tt, tt, tt, tt, tt, ff, ff, ff, ff, ff, ff, ff, ff, ff, ff, ff, ff, ff, ff, ff] 7 false 34 hb95 (fun _ hq => run_gtr (t := 3) (t' := 3) (x := (.tmp 35)) (y := (.const (vi 0))) (k := .i64) (a := s41) (b := 0) rfl rfl) ?_
       refine Dgl 10 37 4 _ [tt, tt, tt, tt, tt, tt, tt, tt, tt, tt, tt, ff, ff, ff, ff, ff, ff, ff, ff, ff, ff, ff, ff, ff, ff] 7 false 34 hb95 (fun _ hq => mv 36 (.bool (decide (s41 > 0)))) ?_
       refine DWP.split (decide (s41 > 0)) (fun hb98 => ?_) (fun hb98 => ?_)
       ·have h99 := cond_t h97 hb98
        refine Dgl 11 38 0 (.pointer (some ⟨b1, 2, none⟩)) [tt, tt, tt, tt, tt, tt, tt, tt, tt, tt, tt, tt, ff, ff, ff, ff, ff, ff, ff, ff, ff, ff, ff, ff, ff] 10 true 37 hb98 (fun _ hq => fa 52 1 2 2 1 b1 0 2 e46) ?_
        refine Dgl 12 39 50 _ [tt, tt, tt, tt, tt, tt, tt, tt, tt, tt, tt, tt, tt, ff, ff, ff, ff, ff, ff, ff, ff, ff, ff, ff, ff] 10 true 37 hb98 (fun _ hq => ld 50 38 b1 2 false 1 (.slice (some ⟨b77, o78, none⟩) x0.Jumps.length n0_2) (hq.1.2 0 _ _ rfl)) ?_
        refine Dgl 13 40 3 _ [tt, tt, tt, tt, tt, tt, tt, tt, tt, tt, tt, tt, tt, tt, ff, ff, ff, ff, ff, ff, ff, ff, ff, ff, ff] 10 true 37 hb98 (fun _ hq => mv 3 (vi s41) e47) ?_
        obtain ⟨x100, hx101, h103⟩ := bind_some h99
        obtain ⟨hi102, hx101'⟩ := idx_spec hx101
        have hc105 := hE84 _ _ hx101'
        refine Dgl 14 41 0 (.pointer (some ⟨b77, (o78 + (s41 : Int).toNat * 1), none⟩)) [tt, tt, tt, tt, tt, tt, tt, tt, tt, tt, tt, tt, tt, tt, tt, ff, ff, ff, ff, ff, ff, ff, ff, ff, ff] 10 true 37 hb98 (fun _ hq => ix 50 39 40 b77 o78 3 1 8 hi102) ?_
        refine Dgl 15 42 3 _ [tt, tt, tt, tt, tt, tt, tt, tt, tt, tt, tt, tt, tt, tt, tt, tt, ff, ff, ff, ff, ff, ff, ff, ff, ff] 10 true 37 hb98 (fun _ hq => lx 3 41 0 1 false 1 (vi x100) (hq.1.1 _ _ hF83) hc105) ?_
        refine Dgl 16 43 0 (.pointer (some ⟨b1, 2, none⟩)) [tt, tt, tt, tt, tt, tt, tt, tt, tt, tt, tt, tt, tt, tt, tt, tt, tt, ff, ff, ff, ff, ff, ff, ff, ff] 10 true 37 hb98 (fun _ hq => fa 52 1 2 2 1 b1 0 2 e46) ?_
        refine Dgl 17 44 50 _ [tt, tt, tt, tt, tt, tt, tt, tt, tt, tt, tt, tt, tt, tt, tt, tt, tt, tt, ff, ff, ff, ff, ff, ff, ff] 10 true 37 hb98 (fun _ hq => ld 50 43 b1 2 false 1 (.slice (some ⟨b77, o78, none⟩) x0.Jumps.length n0_2) (hq.1.2 0 _ _ rfl)) ?_
        refine Dgl 18 45 3 _ [tt, tt, tt, tt, tt, tt, tt, tt, tt, tt, tt, tt, tt, tt, tt, tt, tt, tt, tt, ff, ff, ff, ff, ff, ff] 10 true 37 hb98 (fun _ hq => mv 3 (vi s41) e47) ?_
        refine Dgl 19 46 3 (vi (W64 (s41 - 1))) [tt, tt, tt, tt, tt, tt, tt, tt, tt, tt, tt, tt, tt, tt, tt, tt, tt, tt, tt, tt, ff, ff, ff, ff, ff] 10 true 37 hb98 (fun _ hq => run_sub (t := 3) (t' := 3) (x := (.tmp 45)) (y := (.const (vi 1))) (k := .i64) (a := s41) (b := 1) rfl rfl) ?_
        obtain ⟨x106, hx107, h109⟩ := bind_some h103
        obtain ⟨hi108, hx107'⟩ := idx_spec hx107
        have hc111 := hE84 _ _ hx107'
        refine Dgl 20 47 0 (.pointer (some ⟨b77, (o78 + ((W64 (s41 - 1)) : Int).toNat * 1), none⟩)) [tt, tt, tt, tt, tt, tt, tt, tt, tt, tt, tt, tt, tt, tt, tt, tt, tt, tt, tt, tt, tt, ff, ff, ff, ff] 10 true 37 hb98 (fun _ hq => ix 50 44 46 b77 o78 3 1 8 hi108) ?_
        refine Dgl 21 48 3 _ [tt, tt, tt, tt, tt, tt, tt, tt, tt, tt, tt, tt, tt, tt, tt, tt, tt, tt, tt, tt, tt, tt, ff, ff, ff] 10 true 37 hb98 (fun _ hq => lx 3 47 0 1 false 1 (vi x106) (hq.1.1 _ _ hF83) hc111) ?_
        refine Dgl 22 49 4 (.bool (decide (x100 ≤ x106))) [tt, tt, tt, tt, tt, tt, tt, tt, tt, tt, tt, tt, tt, tt, tt, tt, tt, tt, tt, tt, tt, tt, tt, ff, ff] 10 true 37 hb98 (fun _ hq => run_leq (t := 3) (t' := 3) (x := (.tmp 42)) (y := (.tmp 48)) (k := .i64) (a := x100) (b := x106) rfl rfl) ?_
        refine Dgl 23 50 4 _ [tt, tt, tt, tt, tt, tt, tt, tt, tt, tt, tt, tt, tt, tt, tt, tt, tt, tt, tt, tt, tt, tt, tt, tt, ff] 7 false 34 hb95 (fun _ hq => p1 37 (.tmp 49) (.const (.bool false)) (.bool (decide (x100 ≤ x106))) hb98) ?_
        refine Dtl 24 51 4 _ [tt, tt, tt, tt, tt, tt, tt, tt, tt, tt, tt, tt, tt, tt, tt, tt, tt, tt, tt, tt, tt, tt, tt, tt, tt] (fun _ hq => p0 34 (.const (.bool true)) (.tmp 50) (.bool (decide (x100 ≤ x106))) hb95) ?_
        obtain rfl := some_inj h109
        exact DWP.done (by kernel_rfl) ⟨F7, hs92, le93, e45, e46, e47, rfl⟩
       ·have h112 := cond_f h97 hb98
        refine Dkl [(11, 38), (12, 39), (13, 40), (14, 41), (15, 42), (16, 43)] 10 true 37 hb98 [tt, tt, tt, tt, tt, tt, tt, tt, tt, tt, tt, tt, tt, tt, tt, tt, tt, ff, ff, ff, ff, ff, ff, ff, ff] ?_
        refine Dkl [(17, 44), (18, 45), (19, 46), (20, 47), (21, 48), (22, 49)] 10 true 37 hb98 [tt, tt, tt, tt, tt, tt, tt, tt, tt, tt, tt, tt, tt, tt, tt, tt, tt, tt, tt, tt, tt, tt, tt, ff, ff] ?_
        refine Dgl 23 50 4 _ [tt, tt, tt, tt, tt, tt, tt, tt, tt, tt, tt, tt, tt, tt, tt, tt, tt, tt, tt, tt, tt, tt, tt, tt, ff] 7 false 34 hb95 (fun _ hq => p0 37 (.tmp 49) (.const (.bool false)) (.bool false) hb98) ?_
        refine Dtl 24 51 4 _ [tt, tt, tt, tt, tt, tt, tt, tt, tt, tt, tt, tt, tt, tt, tt, tt, tt, tt, tt, tt, tt, tt, tt, tt, tt] (fun _ hq => p0 34 (.const (.bool true)) (.tmp 50) (.bool false) hb95) ?_
        obtain rfl := some_inj h112
        exact DWP.done (by kernel_rfl) ⟨F7, hs92, le93, e45, e46, e47, rfl⟩
     ·rintro f w63 ⟨F6, hs64, le65, e67, e68, e69, e70⟩
      refine thenQ_nrm ?_
      refine CWP.cond (t := j66) (by kernel_rfl) e70 (fun hb113 => ?_) (fun hb113 => ?_)
      ·have h114 := cond_t h72 hb113
       refine Sq (Rg [0] ?_)
       refine V 2 4 (mc (.bool false) (.bool false)) ?_
       refine Nt ?_
       refine CWP.ret (by kernel_rfl) ?_
       refine blockQ_ret ?_
       refine thenQ_ret ?_
       refine thenQ_ret ?_
       refine blockQ_ret ?_
       have hret := iter_ret h114 hnx58
       subst hret
       refine .inr ?_
       refine thenQ_ret ?_
       have hfin := some_inj h40
       subst hfin
       exact ⟨e67, (.bool false), res_of (l := [.tmp 2]) (by kernel_rfl) (vs := [(.bool false)]) ⟨rfl, trivial⟩, (.bool false), F6, rfl, hs64.clear, rfl⟩
      ·have h115 := cond_f h72 hb113
       refine Sc ?_
       refine blockQ_nrm ?_
       refine thenQ_nrm ?_
       refine Rg [0, 1, 2] ?_
       refine V 25 3 (mv 3 (vi s41) e69) ?_
       refine V 26 3 (run_add (t := 3) (t' := 3) (x := (.tmp 25)) (y := (.const (vi 1))) (k := .i64) (a := s41) (b := 1) rfl rfl) ?_
       refine V 3 3 (ma 26 (vi (W64 (s41 + 1)))) ?_
       refine RWP.nil ?_
       have hn116 := iter_next h115 hnx58
       exact ⟨m55, Nat.lt_succ_self _, (W64 (s41 + 1)), F6, hn116, hs64, (le44.trans le65), e67, e68, rfl⟩
    ·have h117 := cond_f hb57 hb59
     refine CWP.exit (by kernel_rfl) ?_
     refine thenQ_ex ?_
     refine thenQ_ex ?_
     refine blockQ_hit rfl ?_
     have hs118 : HS w0 F0 w42 F4 [] := hs43.drop 0
     have ho119 := iter_done h117 hnx58
     exact .inl ⟨rfl, s41, F4, ho119, hs118, le44, e45⟩
   ·rintro f w49 ⟨s48, F5, rfl, hs50, le51, e52⟩
    have h120 := k_done h40
    refine thenQ_nrm ?_
    refine Sq (Rg [0] ?_)
    refine V 2 4 (mc (.bool true) (.bool true)) ?_
    refine Nt ?_
    refine CWP.ret (by kernel_rfl) ?_
    have hfin := some_inj h120
    subst hfin
    exact ⟨e52, (.bool true), res_of (l := [.tmp 2]) (by kernel_rfl) (vs := [(.bool true)]) ⟨rfl, trivial⟩, (.bool true), F5, rfl, hs50.clear, rfl⟩
end Go.Proofs.Ythbcnabeabcmlaa
namespace Go.Proofs.Ythbcnabeabcmlaa
open Go.Proofs
def ref03_ValidTrack_L0 (N : Nat) (x0 : Track) (j7 : (Bool)) : Int → Option (Flow Bool Int) := fun s30 =>
 (bif (decide (s30 < (x0.Times.length : Int))) then (((idx x0.Times s30).bind fun x62 => ((ref03_within N x62 0 20000).bind fun r76 => (bif (!r76) then some true else (bif (decide (s30 > 0)) then ((idx x0.Times s30).bind fun x89 => ((idx x0.Times (W64 (s30 - 1))).bind fun x95 => some (decide (x89 < x95)))) else some false)))).bind fun j55 => (bif j55 then some (.ret false) else some (.next (W64 (s30 + 1))))) else some (.done s30))
def ref03_ValidTrack (N : Nat) (x0 : Track) : Option Bool :=
 (((ref03_ValidClock N x0.Clock).bind fun r13 => (bif (!r13) then some true else some (decide ((x0.Times.length : Int) > 400)))).bind fun j7 => (bif j7 then some false else ((iter (ref03_ValidTrack_L0 N x0 j7) N 0).bind fun o => o.k (fun r => some r) (fun s37 => some true))))
theorem co_ref03_ValidTrack : CallOk Try.prog 39 := fun _ _ => by kernel_rfl
set_option maxHeartbeats 4000000 in
set_option maxRecDepth 100000 in
theorem c_ref03_ValidTrack (N : Nat) (w0 : World) (F0 : Mem) (hF : ∀ b o, F0 b = some o → w0.heap[b]? = some o) (x0 : Track) (a0_2 : Option Addr) (n0_2 : Nat) (hb0_2 : LC x0.Clock.Jumps.length n0_2) (hs0_2 : SlA tInt F0 a0_2 x0.Clock.Jumps) (a0_3 : Option Addr) (n0_3 : Nat) (hb0_3 : LC x0.Times.length n0_3) (hs0_3 : SlA tInt F0 a0_3 x0.Times) (r : Bool) (h : ref03_ValidTrack N x0 = some r) :
  Calls Try.prog 39 ([(.agg (kTrack x0 a0_2 n0_2 a0_3 n0_3))] : List Value).toArray w0 (FRet w0 F0 fun F' v => v = (.bool r)) := by
 have hs0 := HS.start hF
 refine calls_of (n := 46) (c := bodyOf Try.f39) Try.func39 (by kernel_rfl) (by kernel_rfl) (by kernel_rfl) ?_
 refine Sq (Rg [0, 1] ?_)
 refine Bx 1 0 0 54 (kTrack x0 a0_2 n0_2 a0_3 n0_3) hs0 (fun b1 w2 (hs3 : HS w0 F0 w2 F0 [(sb b1 (kTrack x0 a0_2 n0_2 a0_3 n0_3) 54)]) => ?_)
 refine V 2 4 (mc (.bool false) (.bool false)) ?_
 refine Nss ?_
 refine Sq (Rg [0, 1, 2, 3, 4, 5, 6, 7, 8, 9] ?_)
 obtain ⟨j7, hj11, h12⟩ := bind_some h
 refine RWP.cut (fun f w => ∃ (F1 : Mem), HS w0 F0 w F1 [(sb b1 (kTrack x0 a0_2 n0_2 a0_3 n0_3) 54)] ∧ Mem.le F0 F1 ∧ f.d = [] ∧ f 1 = (.pointer (some ⟨b1, 0, none⟩)) ∧ f 13 = (.bool j7)) ?_ ?_
 ·refine V 4 0 (fa 54 1 0 0 3 b1 0 0) ?_
  refine V 5 52 (ld 52 4 b1 0 true 3 (.agg (kClock x0.Clock a0_2 n0_2)) (hs3.ownAt (k := 0) rfl)) ?_
  obtain ⟨r13, hr14, h15⟩ := bind_some hj11
  refine Cl 6 4 37 #[(.tmp 5)] #[52] co_ref03_ValidClock hs3 (c_ref03_ValidClock N w2 F0 hs3.pers (x0.Clock) a0_2 n0_2 hb0_2 hs0_2 _ hr14) ?_
  intro v16 F2 w17 hs18 le19 hp20
  obtain rfl := hp20
  refine V 7 4 (run_not (t := 4) (x := (.tmp 6)) (a := r13) rfl) ?_
  refine V 8 4 (mv 7 (.bool (!r13))) ?_
  refine RWP.split (!r13) (fun hb21 => ?_) (fun hb21 => ?_)
  ·have h22 := cond_t h15 hb21
   refine Sk [9, 10, 11, 12] 4 false 8 hb21 ?_
   refine V 13 4 (p1 8 (.const (.bool true)) (.tmp 12) (.bool true) hb21) ?_
   obtain rfl := some_inj h22
   exact RWP.nil ⟨rfl, F2, hs18, le19, rfl, rfl, rfl⟩
  ·have h23 := cond_f h15 hb21
   refine Vg 9 0 4 false 8 hb21 (fa 54 1 1 3 1 b1 0 3) ?_
   refine Vg 10 50 4 false 8 hb21 (ld 50 9 b1 3 false 1 (.slice a0_3 x0.Times.length n0_3) (hs18.ownAt (k := 0) rfl)) ?_
   refine Vg 11 3 4 false 8 hb21 (ln 10 50 a0_3 x0.Times.length n0_3 3 1 8) ?_
   refine Vg 12 4 4 false 8 hb21 (run_gtr (t := 3) (t' := 3) (x := (.tmp 11)) (y := (.const (vi 400))) (k := .i64) (a := (x0.Times.length : Int)) (b := 400) rfl rfl) ?_
   refine V 13 4 (p0 8 (.const (.bool true)) (.tmp 12) (.bool (decide ((x0.Times.length : Int) > 400))) hb21) ?_
   obtain rfl := some_inj h23
   exact RWP.nil ⟨rfl, F2, hs18, le19, rfl, rfl, rfl⟩
 ·rintro f w4 ⟨F1, hs5, le6, e8, e9, e10⟩
  refine thenQ_nrm ?_
  refine CWP.cond (t := j7) (by kernel_rfl) e10 (fun hb24 => ?_) (fun hb24 => ?_)
  ·have h25 := cond_t h12 hb24
   refine Sq (Rg [0] ?_)
   refine V 2 4 (mc (.bool false) (.bool false)) ?_
   refine Nt ?_
   refine CWP.ret (by kernel_rfl) ?_
   refine thenQ_ret ?_
   have hfin := some_inj h25
   subst hfin
   exact ⟨e8, (.bool false), res_of (l := [.tmp 2]) (by kernel_rfl) (vs := [(.bool false)]) ⟨rfl, trivial⟩, (.bool false), F1, rfl, hs5.clear, rfl⟩
  ·have h26 := cond_f h12 hb24
   refine Sc ?_
   refine thenQ_nrm ?_
   refine Sq ?_
   refine Sq (Rg [0] ?_)
   refine V 3 3 (mc (vi 0) (vi 0)) ?_
   refine Nt ?_
   obtain ⟨o27, ho28, h29⟩ := bind_some h26
   refine CWP.cut (fun f w => ∃ (s37 : Int) (F4 : Mem), o27 = .done s37 ∧ HS w0 F0 w F4 [] ∧ Mem.le F1 F4 ∧ f.d = []) ?_ ?_
   ·refine Bk ?_
    refine CWP.loop (by kernel_rfl) (fun m f w => ∃ (s30 : Int) (F3 : Mem), iter (ref03_ValidTrack_L0 N x0 j7) m s30 = some o27 ∧ HS w0 F0 w F3 [(sb b1 (kTrack x0 a0_2 n0_2 a0_3 n0_3) 54)] ∧ Mem.le F1 F3 ∧ f.d = [] ∧ f 1 = (.pointer (some ⟨b1, 0, none⟩)) ∧ f 3 = (vi s30)) N ⟨0, F1, ho28, hs5, (Mem.le.refl _), e8, e9, rfl⟩ ?_
    rintro m42 f w31 ⟨s30, F3, hit43, hs32, le33, e34, e35, e36⟩
    obtain ⟨m44, fl45, rfl, hb46, hnx47⟩ := iter_step hit43
    refine Sq ?_
    refine Sq (Rg [0, 1, 2, 3, 4] ?_)
    refine V 14 3 (mv 3 (vi s30) e36) ?_
    refine V 15 0 (fa 54 1 1 3 1 b1 0 3 e35) ?_
    refine V 16 50 (ld 50 15 b1 3 false 1 (.slice a0_3 x0.Times.length n0_3) (hs32.ownAt (k := 0) rfl)) ?_
    refine V 17 3 (ln 16 50 a0_3 x0.Times.length n0_3 3 1 8) ?_
    refine V 18 4 (run_lss (t := 3) (t' := 3) (x := (.tmp 14)) (y := (.tmp 17)) (k := .i64) (a := s30) (b := (x0.Times.length : Int)) rfl rfl) ?_
    refine Nt ?_
    refine CWP.cond (t := (decide (s30 < (x0.Times.length : Int)))) (by kernel_rfl) rfl (fun hb48 => ?_) (fun hb48 => ?_)
    ·have h49 := cond_t hb46 hb48
     refine Sc ?_
     refine thenQ_nrm ?_
     refine Sq ?_
     refine Bk ?_
     refine Sq ?_
     obtain ⟨j55, hj60, h61⟩ := bind_some h49
     refine CWP.regionD (by kernel_rfl) (by kernel_rfl) (by kernel_rfl) (by kernel_rfl) (z := 25) (F := F3) (Lc := [(sb b1 (kTrack x0 a0_2 n0_2 a0_3 n0_3) 54)]) (Lz := []) (l := [false, false, false, false, false, false, false, false, false, false, false, false, false, false, false, false, false, false, false, false, false, false, false, false, false]) (fuel := 25) (by kernel_rfl) (by kernel_rfl) hs32 (by simp) (by simp) (fun f w => ∃ (F5 : Mem), HS w0 F0 w F5 [(sb b1 (kTrack x0 a0_2 n0_2 a0_3 n0_3) 54)] ∧ Mem.le F3 F5 ∧ f.d = [] ∧ f 1 = (.pointer (some ⟨b1, 0, none⟩)) ∧ f 3 = (vi s30) ∧ f 45 = (.bool j55)) (fun wd50 hw51 => ?_) ?_
     ·refine Dtl 0 21 0 (.pointer (some ⟨b1, 3, none⟩)) [tt, ff, ff, ff, ff, ff, ff, ff, ff, ff, ff, ff, ff, ff, ff, ff, ff, ff, ff, ff, ff, ff, ff, ff, ff] (fun _ hq => fa 54 1 1 3 1 b1 0 3 e35) ?_
      refine Dtl 1 22 50 _ [tt, tt, ff, ff, ff, ff, ff, ff, ff, ff, ff, ff, ff, ff, ff, ff, ff, ff, ff, ff, ff, ff, ff, ff, ff] (fun _ hq => ld 50 21 b1 3 false 1 (.slice a0_3 x0.Times.length n0_3) (hq.1.2 0 _ _ rfl)) ?_
      refine Dtl 2 23 3 _ [tt, tt, tt, ff, ff, ff, ff, ff, ff, ff, ff, ff, ff, ff, ff, ff, ff, ff, ff, ff, ff, ff, ff, ff, ff] (fun _ hq => mv 3 (vi s30) e36) ?_
      obtain ⟨x62, hx63, h65⟩ := bind_some hj60
      obtain ⟨hi64, hx63'⟩ := idx_spec hx63
      obtain ⟨b66, o67, C68, E69, fz70, rfl, hF72, hE73⟩ := SlA.open (SlA.mono hs0_3 (le6.trans le33)) hx63'
      have hc75 := hE73 _ _ hx63'
      refine Dtl 3 24 0 (.pointer (some ⟨b66, (o67 + (s30 : Int).toNat * 1), none⟩)) [tt, tt, tt, tt, ff, ff, ff, ff, ff, ff, ff, ff, ff, ff, ff, ff, ff, ff, ff, ff, ff, ff, ff, ff, ff] (fun _ hq => ix 50 22 23 b66 o67 3 1 8 hi64) ?_
      refine Dtl 4 25 3 _ [tt, tt, tt, tt, tt, ff, ff, ff, ff, ff, ff, ff, ff, ff, ff, ff, ff, ff, ff, ff, ff, ff, ff, ff, ff] (fun _ hq => lx 3 24 0 1 false 1 (vi x62) (hq.1.1 _ _ hF72) hc75) ?_
      refine DWP.one (i := 5) (by kernel_rfl) ?_
      obtain ⟨r76, hr77, h78⟩ := bind_some h65
      refine DStep.call (l' := [true, true, true, true, true, true, false, false, false, false, false, false, false, false, false, false, false, false, false, false, false, false, false, false, false]) (zd := true) (by kernel_rfl) (by kernel_rfl) (by kernel_rfl) (dst := (some 26)) (ty := 4) (g := none) (by kernel_rfl) rfl (f0 := (.func 83)) (aos := #[(.tmp 25), (.const (vi 0)), (.const (vi 20000))]) (ats := #[3, 3, 3]) (fid := 83) (first := #[]) (cap := #[]) (args := [(vi x62), (vi 0), (vi 20000)]) rfl co_ref03_within (rfl) hw51 (c_ref03_within N wd50 F3 hw51.pers (x62) (0) (20000) _ hr77) ?_
      intro v79 F6 w80 hs81 le82 hp83
      obtain rfl := hp83
      refine Dtl 6 27 4 (.bool (!r76)) [tt, tt, tt, tt, tt, tt, tt, ff, ff, ff, ff, ff, ff, ff, ff, ff, ff, ff, ff, ff, ff, ff, ff, ff, ff] (fun _ hq => run_not (t := 4) (x := (.tmp 26)) (a := r76) rfl) ?_
      refine Dtl 7 28 4 _ [tt, tt, tt, tt, tt, tt, tt, tt, ff, ff, ff, ff, ff, ff, ff, ff, ff, ff, ff, ff, ff, ff, ff, ff, ff] (fun _ hq => mv 27 (.bool (!r76))) ?_
      refine DWP.split (!r76) (fun hb84 => ?_) (fun hb84 => ?_)
      ·have h85 := cond_t h78 hb84
       refine Dkl [(8, 29), (9, 30), (10, 31)] 7 false 28 hb84 [tt, tt, tt, tt, tt, tt, tt, tt, tt, tt, tt, ff, ff, ff, ff, ff, ff, ff, ff, ff, ff, ff, ff, ff, ff] ?_
       refine Dul [(11, 32), (12, 33), (13, 34), (14, 35), (15, 36), (16, 37)] 10 true 31 [tt, tt, tt, tt, tt, tt, tt, tt, tt, tt, tt, tt, tt, tt, tt, tt, tt, ff, ff, ff, ff, ff, ff, ff, ff] ?_
       refine Dul [(17, 38), (18, 39), (19, 40), (20, 41), (21, 42), (22, 43)] 10 true 31 [tt, tt, tt, tt, tt, tt, tt, tt, tt, tt, tt, tt, tt, tt, tt, tt, tt, tt, tt, tt, tt, tt, tt, ff, ff] ?_
       refine Dkl [(23, 44)] 7 false 28 hb84 [tt, tt, tt, tt, tt, tt, tt, tt, tt, tt, tt, tt, tt, tt, tt, tt, tt, tt, tt, tt, tt, tt, tt, tt, ff] ?_
       refine Dtl 24 45 4 _ [tt, tt, tt, tt, tt, tt, tt, tt, tt, tt, tt, tt, tt, tt, tt, tt, tt, tt, tt, tt, tt, tt, tt, tt, tt] (fun _ hq => p1 28 (.const (.bool true)) (.tmp 44) (.bool true) hb84) ?_
       obtain rfl := some_inj h85
       exact DWP.done (by kernel_rfl) ⟨F6, hs81, le82, e34, e35, e36, rfl⟩
      ·have h86 := cond_f h78 hb84
       refine Dgl 8 29 3 _ [tt, tt, tt, tt, tt, tt, tt, tt, tt, ff, ff, ff, ff, ff, ff, ff, ff, ff, ff, ff, ff, ff, ff, ff, ff] 7 false 28 hb84 (fun _ hq => mv 3 (vi s30) e36) ?_
       refine Dgl 9 30 4 (.bool (decide (s30 > 0))) [tt, tt, tt, tt, tt, tt, tt, tt, tt, tt, ff, ff, ff, ff, ff, ff, ff, ff, ff, ff, ff, ff, ff, ff, ff] 7 false 28 hb84 (fun _ hq => run_gtr (t := 3) (t' := 3) (x := (.tmp 29)) (y := (.const (vi 0))) (k := .i64) (a := s30) (b := 0) rfl rfl) ?_
       refine Dgl 10 31 4 _ [tt, tt, tt, tt, tt, tt, tt, tt, tt, tt, tt, ff, ff, ff, ff, ff, ff, ff, ff, ff, ff, ff, ff, ff, ff] 7 false 28 hb84 (fun _ hq => mv 30 (.bool (decide (s30 > 0)))) ?_
       refine DWP.split (decide (s30 > 0)) (fun hb87 => ?_) (fun hb87 => ?_)
       ·have h88 := cond_t h86 hb87
        refine Dgl 11 32 0 (.pointer (some ⟨b1, 3, none⟩)) [tt, tt, tt, tt, tt, tt, tt, tt, tt, tt, tt, tt, ff, ff, ff, ff, ff, ff, ff, ff, ff, ff, ff, ff, ff] 10 true 31 hb87 (fun _ hq => fa 54 1 1 3 1 b1 0 3 e35) ?_
        refine Dgl 12 33 50 _ [tt, tt, tt, tt, tt, tt, tt, tt, tt, tt, tt, tt, tt, ff, ff, ff, ff, ff, ff, ff, ff, ff, ff, ff, ff] 10 true 31 hb87 (fun _ hq => ld 50 32 b1 3 false 1 (.slice (some ⟨b66, o67, none⟩) x0.Times.length n0_3) (hq.1.2 0 _ _ rfl)) ?_
        refine Dgl 13 34 3 _ [tt, tt, tt, tt, tt, tt, tt, tt, tt, tt, tt, tt, tt, tt, ff, ff, ff, ff, ff, ff, ff, ff, ff, ff, ff] 10 true 31 hb87 (fun _ hq => mv 3 (vi s30) e36) ?_
        obtain ⟨x89, hx90, h92⟩ := bind_some h88
        obtain ⟨hi91, hx90'⟩ := idx_spec hx90
        have hc94 := hE73 _ _ hx90'
        refine Dgl 14 35 0 (.pointer (some ⟨b66, (o67 + (s30 : Int).toNat * 1), none⟩)) [tt, tt, tt, tt, tt, tt, tt, tt, tt, tt, tt, tt, tt, tt, tt, ff, ff, ff, ff, ff, ff, ff, ff, ff, ff] 10 true 31 hb87 (fun _ hq => ix 50 33 34 b66 o67 3 1 8 hi91) ?_
        refine Dgl 15 36 3 _ [tt, tt, tt, tt, tt, tt, tt, tt, tt, tt, tt, tt, tt, tt, tt, tt, ff, ff, ff, ff, ff, ff, ff, ff, ff] 10 true 31 hb87 (fun _ hq => lx 3 35 0 1 false 1 (vi x89) (hq.1.1 _ _ hF72) hc94) ?_
        refine Dgl 16 37 0 (.pointer (some ⟨b1, 3, none⟩)) [tt, tt, tt, tt, tt, tt, tt, tt, tt, tt, tt, tt, tt, tt, tt, tt, tt, ff, ff, ff, ff, ff, ff, ff, ff] 10 true 31 hb87 (fun _ hq => fa 54 1 1 3 1 b1 0 3 e35) ?_
        refine Dgl 17 38 50 _ [tt, tt, tt, tt, tt, tt, tt, tt, tt, tt, tt, tt, tt, tt, tt, tt, tt, tt, ff, ff, ff, ff, ff, ff, ff] 10 true 31 hb87 (fun _ hq => ld 50 37 b1 3 false 1 (.slice (some ⟨b66, o67, none⟩) x0.Times.length n0_3) (hq.1.2 0 _ _ rfl)) ?_
        refine Dgl 18 39 3 _ [tt, tt, tt, tt, tt, tt, tt, tt, tt, tt, tt, tt, tt, tt, tt, tt, tt, tt, tt, ff, ff, ff, ff, ff, ff] 10 true 31 hb87 (fun _ hq => mv 3 (vi s30) e36) ?_
        refine Dgl 19 40 3 (vi (W64 (s30 - 1))) [tt, tt, tt, tt, tt, tt, tt, tt, tt, tt, tt, tt, tt, tt, tt, tt, tt, tt, tt, tt, ff, ff, ff, ff, ff] 10 true 31 hb87 (fun _ hq => run_sub (t := 3) (t' := 3) (x := (.tmp 39)) (y := (.const (vi 1))) (k := .i64) (a := s30) (b := 1) rfl rfl) ?_
        obtain ⟨x95, hx96, h98⟩ := bind_some h92
        obtain ⟨hi97, hx96'⟩ := idx_spec hx96
        have hc100 := hE73 _ _ hx96'
        refine Dgl 20 41 0 (.pointer (some ⟨b66, (o67 + ((W64 (s30 - 1)) : Int).toNat * 1), none⟩)) [tt, tt, tt, tt, tt, tt, tt, tt, tt, tt, tt, tt, tt, tt, tt, tt, tt, tt, tt, tt, tt, ff, ff, ff, ff] 10 true 31 hb87 (fun _ hq => ix 50 38 40 b66 o67 3 1 8 hi97) ?_
        refine Dgl 21 42 3 _ [tt, tt, tt, tt, tt, tt, tt, tt, tt, tt, tt, tt, tt, tt, tt, tt, tt, tt, tt, tt, tt, tt, ff, ff, ff] 10 true 31 hb87 (fun _ hq => lx 3 41 0 1 false 1 (vi x95) (hq.1.1 _ _ hF72) hc100) ?_
        refine Dgl 22 43 4 (.bool (decide (x89 < x95))) [tt, tt, tt, tt, tt, tt, tt, tt, tt, tt, tt, tt, tt, tt, tt, tt, tt, tt, tt, tt, tt, tt, tt, ff, ff] 10 true 31 hb87 (fun _ hq => run_lss (t := 3) (t' := 3) (x := (.tmp 36)) (y := (.tmp 42)) (k := .i64) (a := x89) (b := x95) rfl rfl) ?_
        refine Dgl 23 44 4 _ [tt, tt, tt, tt, tt, tt, tt, tt, tt, tt, tt, tt, tt, tt, tt, tt, tt, tt, tt, tt, tt, tt, tt, tt, ff] 7 false 28 hb84 (fun _ hq => p1 31 (.tmp 43) (.const (.bool false)) (.bool (decide (x89 < x95))) hb87) ?_
        refine Dtl 24 45 4 _ [tt, tt, tt, tt, tt, tt, tt, tt, tt, tt, tt, tt, tt, tt, tt, tt, tt, tt, tt, tt, tt, tt, tt, tt, tt] (fun _ hq => p0 28 (.const (.bool true)) (.tmp 44) (.bool (decide (x89 < x95))) hb84) ?_
        obtain rfl := some_inj h98
        exact DWP.done (by kernel_rfl) ⟨F6, hs81, le82, e34, e35, e36, rfl⟩
       ·have h101 := cond_f h86 hb87
        refine Dkl [(11, 32), (12, 33), (13, 34), (14, 35), (15, 36), (16, 37)] 10 true 31 hb87 [tt, tt, tt, tt, tt, tt, tt, tt, tt, tt, tt, tt, tt, tt, tt, tt, tt, ff, ff, ff, ff, ff, ff, ff, ff] ?_
        refine Dkl [(17, 38), (18, 39), (19, 40), (20, 41), (21, 42), (22, 43)] 10 true 31 hb87 [tt, tt, tt, tt, tt, tt, tt, tt, tt, tt, tt, tt, tt, tt, tt, tt, tt, tt, tt, tt, tt, tt, tt, ff, ff] ?_
        refine Dgl 23 44 4 _ [tt, tt, tt, tt, tt, tt, tt, tt, tt, tt, tt, tt, tt, tt, tt, tt, tt, tt, tt, tt, tt, tt, tt, tt, ff] 7 false 28 hb84 (fun _ hq => p0 31 (.tmp 43) (.const (.bool false)) (.bool false) hb87) ?_
        refine Dtl 24 45 4 _ [tt, tt, tt, tt, tt, tt, tt, tt, tt, tt, tt, tt, tt, tt, tt, tt, tt, tt, tt, tt, tt, tt, tt, tt, tt] (fun _ hq => p0 28 (.const (.bool true)) (.tmp 44) (.bool false) hb84) ?_
        obtain rfl := some_inj h101
        exact DWP.done (by kernel_rfl) ⟨F6, hs81, le82, e34, e35, e36, rfl⟩
     ·rintro f w52 ⟨F5, hs53, le54, e56, e57, e58, e59⟩
      refine thenQ_nrm ?_
      refine CWP.cond (t := j55) (by kernel_rfl) e59 (fun hb102 => ?_) (fun hb102 => ?_)
      ·have h103 := cond_t h61 hb102
       refine Sq (Rg [0] ?_)
       refine V 2 4 (mc (.bool false) (.bool false)) ?_
       refine Nt ?_
       refine CWP.ret (by kernel_rfl) ?_
       refine blockQ_ret ?_
       refine thenQ_ret ?_
       refine thenQ_ret ?_
       refine blockQ_ret ?_
       have hret := iter_ret h103 hnx47
       subst hret
       refine .inr ?_
       refine thenQ_ret ?_
       have hfin := some_inj h29
       subst hfin
       exact ⟨e56, (.bool false), res_of (l := [.tmp 2]) (by kernel_rfl) (vs := [(.bool false)]) ⟨rfl, trivial⟩, (.bool false), F5, rfl, hs53.clear, rfl⟩
      ·have h104 := cond_f h61 hb102
       refine Sc ?_
       refine blockQ_nrm ?_
       refine thenQ_nrm ?_
       refine Rg [0, 1, 2] ?_
       refine V 19 3 (mv 3 (vi s30) e58) ?_
       refine V 20 3 (run_add (t := 3) (t' := 3) (x := (.tmp 19)) (y := (.const (vi 1))) (k := .i64) (a := s30) (b := 1) rfl rfl) ?_
       refine V 3 3 (ma 20 (vi (W64 (s30 + 1)))) ?_
       refine RWP.nil ?_
       have hn105 := iter_next h104 hnx47
       exact ⟨m44, Nat.lt_succ_self _, (W64 (s30 + 1)), F5, hn105, hs53, (le33.trans le54), e56, e57, rfl⟩
    ·have h106 := cond_f hb46 hb48
     refine CWP.exit (by kernel_rfl) ?_
     refine thenQ_ex ?_
     refine thenQ_ex ?_
     refine blockQ_hit rfl ?_
     have hs107 : HS w0 F0 w31 F3 [] := hs32.drop 0
     have ho108 := iter_done h106 hnx47
     exact .inl ⟨rfl, s30, F3, ho108, hs107, le33, e34⟩
   ·rintro f w38 ⟨s37, F4, rfl, hs39, le40, e41⟩
    have h109 := k_done h29
    refine thenQ_nrm ?_
    refine Sq (Rg [0] ?_)
    refine V 2 4 (mc (.bool true) (.bool true)) ?_
    refine Nt ?_
    refine CWP.ret (by kernel_rfl) ?_
    have hfin := some_inj h109
    subst hfin
    exact ⟨e41, (.bool true), res_of (l := [.tmp 2]) (by kernel_rfl) (vs := [(.bool true)]) ⟨rfl, trivial⟩, (.bool true), F4, rfl, hs39.clear, rfl⟩
end Go.Proofs.Ythbcnabeabcmlaa
namespace Go.Proofs.Ythbcnabeabcmlaa
open Go.Proofs
def ref03_Has (N : Nat) (x0 : System) (x1 : Ref) : Option Bool :=
 (((ref03_within N x1.Log 0 (W64 ((x0.Tracks.length : Int) - 1))).bind fun r17 => (bif r17 then ((idx x0.Tracks x1.Log).bind fun x27 => ((ref03_within N x1.Line 0 (W64 ((x27.Times.length : Int) - 1))).bind fun r41 => some r41)) else some false)).bind fun j12 => some j12)
theorem co_ref03_Has : CallOk Try.prog 85 := fun _ _ => by kernel_rfl
set_option maxHeartbeats 4000000 in
set_option maxRecDepth 100000 in
theorem c_ref03_Has (N : Nat) (w0 : World) (F0 : Mem) (hF : ∀ b o, F0 b = some o → w0.heap[b]? = some o) (x0 : System) (a0_0 : Option Addr) (n0_0 : Nat) (hb0_0 : LC x0.Tracks.length n0_0) (hs0_0 : SlA tTrack F0 a0_0 x0.Tracks) (a0_1 : Option Addr) (n0_1 : Nat) (hb0_1 : LC x0.Ties.length n0_1) (hs0_1 : SlA tTie F0 a0_1 x0.Ties) (x1 : Ref) (r : Bool) (h : ref03_Has N x0 x1 = some r) :
  Calls Try.prog 85 ([(.agg (kSystem x0 a0_0 n0_0 a0_1 n0_1)), (.agg (kRef x1))] : List Value).toArray w0 (FRet w0 F0 fun F' v => v = (.bool r)) := by
 have hs0 := HS.start hF
 refine calls_of (n := 26) (c := bodyOf Try.f85) Try.func85 (by kernel_rfl) (by kernel_rfl) (by kernel_rfl) ?_
 refine Sq (Rg [0, 1, 2] ?_)
 refine Bx 2 0 0 25 (kSystem x0 a0_0 n0_0 a0_1 n0_1) hs0 (fun b1 w2 (hs3 : HS w0 F0 w2 F0 [(sb b1 (kSystem x0 a0_0 n0_0 a0_1 n0_1) 25)]) => ?_)
 refine Bx 3 0 1 27 (kRef x1) hs3 (fun b4 w5 (hs6 : HS w0 F0 w5 F0 [(sb b4 (kRef x1) 27), (sb b1 (kSystem x0 a0_0 n0_0 a0_1 n0_1) 25)]) => ?_)
 refine V 4 4 (mc (.bool false) (.bool false)) ?_
 refine Nss ?_
 obtain ⟨j12, hj15, h16⟩ := bind_some h
 refine CWP.regionD (by kernel_rfl) (by kernel_rfl) (by kernel_rfl) (by kernel_rfl) (z := 22) (F := F0) (Lc := [(sb b4 (kRef x1) 27), (sb b1 (kSystem x0 a0_0 n0_0 a0_1 n0_1) 25)]) (Lz := []) (l := [false, false, false, false, false, false, false, false, false, false, false, false, false, false, false, false, false, false, false, false, false, false]) (fuel := 22) (by kernel_rfl) (by kernel_rfl) hs6 (by simp) (by simp) (fun f w => ∃ (F1 : Mem), HS w0 F0 w F1 [] ∧ Mem.le F0 F1 ∧ f.d = [] ∧ f 4 = (.bool j12)) (fun wd7 hw8 => ?_) ?_
 ·refine Dtl 0 5 0 (.pointer (some ⟨b4, 0, none⟩)) [tt, ff, ff, ff, ff, ff, ff, ff, ff, ff, ff, ff, ff, ff, ff, ff, ff, ff, ff, ff, ff, ff] (fun _ hq => fa 27 3 0 0 1 b4 0 0) ?_
  refine Dtl 1 6 3 _ [tt, tt, ff, ff, ff, ff, ff, ff, ff, ff, ff, ff, ff, ff, ff, ff, ff, ff, ff, ff, ff, ff] (fun _ hq => ld 3 5 b4 0 false 1 (vi x1.Log) (hq.1.2 0 _ _ rfl)) ?_
  refine Dtl 2 7 0 (.pointer (some ⟨b1, 0, none⟩)) [tt, tt, tt, ff, ff, ff, ff, ff, ff, ff, ff, ff, ff, ff, ff, ff, ff, ff, ff, ff, ff, ff] (fun _ hq => fa 25 2 0 0 1 b1 0 0) ?_
  refine Dtl 3 8 22 _ [tt, tt, tt, tt, ff, ff, ff, ff, ff, ff, ff, ff, ff, ff, ff, ff, ff, ff, ff, ff, ff, ff] (fun _ hq => ld 22 7 b1 0 false 1 (.slice a0_0 x0.Tracks.length n0_0) (hq.1.2 1 _ _ rfl)) ?_
  refine Dtl 4 9 3 (vi (x0.Tracks.length : Int)) [tt, tt, tt, tt, tt, ff, ff, ff, ff, ff, ff, ff, ff, ff, ff, ff, ff, ff, ff, ff, ff, ff] (fun _ hq => ln 8 22 a0_0 x0.Tracks.length n0_0 54 4 64) ?_
  refine Dtl 5 10 3 (vi (W64 ((x0.Tracks.length : Int) - 1))) [tt, tt, tt, tt, tt, tt, ff, ff, ff, ff, ff, ff, ff, ff, ff, ff, ff, ff, ff, ff, ff, ff] (fun _ hq => run_sub (t := 3) (t' := 3) (x := (.tmp 9)) (y := (.const (vi 1))) (k := .i64) (a := (x0.Tracks.length : Int)) (b := 1) rfl rfl) ?_
  refine DWP.one (i := 6) (by kernel_rfl) ?_
  obtain ⟨r17, hr18, h19⟩ := bind_some hj15
  refine DStep.call (l' := [true, true, true, true, true, true, true, false, false, false, false, false, false, false, false, false, false, false, false, false, false, false]) (zd := true) (by kernel_rfl) (by kernel_rfl) (by kernel_rfl) (dst := (some 11)) (ty := 4) (g := none) (by kernel_rfl) rfl (f0 := (.func 83)) (aos := #[(.tmp 6), (.const (vi 0)), (.tmp 10)]) (ats := #[3, 3, 3]) (fid := 83) (first := #[]) (cap := #[]) (args := [(vi x1.Log), (vi 0), (vi (W64 ((x0.Tracks.length : Int) - 1)))]) rfl co_ref03_within (rfl) hw8 (c_ref03_within N wd7 F0 hw8.pers (x1.Log) (0) ((W64 ((x0.Tracks.length : Int) - 1))) _ hr18) ?_
  intro v20 F2 w21 hs22 le23 hp24
  obtain rfl := hp24
  refine Dtl 7 12 4 _ [tt, tt, tt, tt, tt, tt, tt, tt, ff, ff, ff, ff, ff, ff, ff, ff, ff, ff, ff, ff, ff, ff] (fun _ hq => mv 11 (.bool r17)) ?_
  refine DWP.split r17 (fun hb25 => ?_) (fun hb25 => ?_)
  ·have h26 := cond_t h19 hb25
   refine Dgl 8 13 0 (.pointer (some ⟨b4, 1, none⟩)) [tt, tt, tt, tt, tt, tt, tt, tt, tt, ff, ff, ff, ff, ff, ff, ff, ff, ff, ff, ff, ff, ff] 7 true 12 hb25 (fun _ hq => fa 27 3 1 1 1 b4 0 1) ?_
   refine Dgl 9 14 3 _ [tt, tt, tt, tt, tt, tt, tt, tt, tt, tt, ff, ff, ff, ff, ff, ff, ff, ff, ff, ff, ff, ff] 7 true 12 hb25 (fun _ hq => ld 3 13 b4 1 false 1 (vi x1.Line) (hq.1.2 0 _ _ rfl)) ?_
   refine Dgl 10 15 0 (.pointer (some ⟨b1, 0, none⟩)) [tt, tt, tt, tt, tt, tt, tt, tt, tt, tt, tt, ff, ff, ff, ff, ff, ff, ff, ff, ff, ff, ff] 7 true 12 hb25 (fun _ hq => fa 25 2 0 0 1 b1 0 0) ?_
   refine Dgl 11 16 22 _ [tt, tt, tt, tt, tt, tt, tt, tt, tt, tt, tt, tt, ff, ff, ff, ff, ff, ff, ff, ff, ff, ff] 7 true 12 hb25 (fun _ hq => ld 22 15 b1 0 false 1 (.slice a0_0 x0.Tracks.length n0_0) (hq.1.2 1 _ _ rfl)) ?_
   refine Dgl 12 17 0 (.pointer (some ⟨b4, 0, none⟩)) [tt, tt, tt, tt, tt, tt, tt, tt, tt, tt, tt, tt, tt, ff, ff, ff, ff, ff, ff, ff, ff, ff] 7 true 12 hb25 (fun _ hq => fa 27 3 0 0 1 b4 0 0) ?_
   refine Dgl 13 18 3 _ [tt, tt, tt, tt, tt, tt, tt, tt, tt, tt, tt, tt, tt, tt, ff, ff, ff, ff, ff, ff, ff, ff] 7 true 12 hb25 (fun _ hq => ld 3 17 b4 0 false 1 (vi x1.Log) (hq.1.2 0 _ _ rfl)) ?_
   obtain ⟨x27, hx28, h30⟩ := bind_some h26
   obtain ⟨hi29, hx28'⟩ := idx_spec hx28
   obtain ⟨b31, o32, C33, E34, fz35, rfl, hF37, hE38⟩ := SlA.open hs0_0 hx28'
   obtain ⟨ae39_2, ne39_2, ae39_3, ne39_3, hc40, hbe39_2, hse39_2, hbe39_3, hse39_3⟩ := hE38 _ _ hx28'
   refine Dgl 14 19 0 (.pointer (some ⟨b31, (o32 + (x1.Log : Int).toNat * 4), none⟩)) [tt, tt, tt, tt, tt, tt, tt, tt, tt, tt, tt, tt, tt, tt, tt, ff, ff, ff, ff, ff, ff, ff] 7 true 12 hb25 (fun _ hq => ix 22 16 18 b31 o32 54 4 64 hi29) ?_
   refine Dgl 15 20 0 (.pointer (some ⟨b31, ((o32 + (x1.Log : Int).toNat * 4) + 3), none⟩)) [tt, tt, tt, tt, tt, tt, tt, tt, tt, tt, tt, tt, tt, tt, tt, tt, ff, ff, ff, ff, ff, ff] 7 true 12 hb25 (fun _ hq => fa 54 19 1 3 1 b31 (o32 + (x1.Log : Int).toNat * 4) ((o32 + (x1.Log : Int).toNat * 4) + 3)) ?_
   refine Dgl 16 21 50 _ [tt, tt, tt, tt, tt, tt, tt, tt, tt, tt, tt, tt, tt, tt, tt, tt, tt, ff, ff, ff, ff, ff] 7 true 12 hb25 (fun _ hq => lx 50 20 3 4 false 1 (.slice ae39_3 x27.Times.length ne39_3) (hq.1.1 _ _ hF37) hc40) ?_
   refine Dgl 17 22 3 (vi (x27.Times.length : Int)) [tt, tt, tt, tt, tt, tt, tt, tt, tt, tt, tt, tt, tt, tt, tt, tt, tt, tt, ff, ff, ff, ff] 7 true 12 hb25 (fun _ hq => ln 21 50 ae39_3 x27.Times.length ne39_3 3 1 8) ?_
   refine Dgl 18 23 3 (vi (W64 ((x27.Times.length : Int) - 1))) [tt, tt, tt, tt, tt, tt, tt, tt, tt, tt, tt, tt, tt, tt, tt, tt, tt, tt, tt, ff, ff, ff] 7 true 12 hb25 (fun _ hq => run_sub (t := 3) (t' := 3) (x := (.tmp 22)) (y := (.const (vi 1))) (k := .i64) (a := (x27.Times.length : Int)) (b := 1) rfl rfl) ?_
   refine DWP.one (i := 19) (by kernel_rfl) ?_
   obtain ⟨r41, hr42, h43⟩ := bind_some h30
   refine DStep.call (l' := [true, true, true, true, true, true, true, true, true, true, true, true, true, true, true, true, true, true, true, true, false, false]) (zd := true) (by kernel_rfl) (by kernel_rfl) (by kernel_rfl) (dst := (some 24)) (ty := 4) (g := (some (7, true))) (by kernel_rfl) (gd_y (d := 12) (by kernel_rfl) rfl hb25) (f0 := (.func 83)) (aos := #[(.tmp 14), (.const (vi 0)), (.tmp 23)]) (ats := #[3, 3, 3]) (fid := 83) (first := #[]) (cap := #[]) (args := [(vi x1.Line), (vi 0), (vi (W64 ((x27.Times.length : Int) - 1)))]) rfl co_ref03_within (rfl) hs22 (c_ref03_within N w21 F2 hs22.pers (x1.Line) (0) ((W64 ((x27.Times.length : Int) - 1))) _ hr42) ?_
   intro v44 F3 w45 hs46 le47 hp48
   obtain rfl := hp48
   refine Dtl 20 25 4 _ [tt, tt, tt, tt, tt, tt, tt, tt, tt, tt, tt, tt, tt, tt, tt, tt, tt, tt, tt, tt, tt, ff] (fun _ hq => p1 12 (.tmp 24) (.const (.bool false)) (.bool r41) hb25) ?_
   refine Dtl 21 4 4 _ [tt, tt, tt, tt, tt, tt, tt, tt, tt, tt, tt, tt, tt, tt, tt, tt, tt, tt, tt, tt, tt, tt] (fun _ hq => ma 25 (.bool r41)) ?_
   obtain rfl := some_inj h43
   have hs49 : HS w0 F0 w45 F3 [(sb b1 (kSystem x0 (some ⟨b31, o32, none⟩) n0_0 a0_1 n0_1) 25)] := hs46.drop 0
   have hs50 : HS w0 F0 w45 F3 [] := hs49.drop 0
   exact DWP.done (by kernel_rfl) ⟨F3, hs50, (le23.trans le47), rfl, rfl⟩
  ·have h51 := cond_f h19 hb25
   refine Dkl [(8, 13), (9, 14), (10, 15), (11, 16), (12, 17), (13, 18)] 7 true 12 hb25 [tt, tt, tt, tt, tt, tt, tt, tt, tt, tt, tt, tt, tt, tt, ff, ff, ff, ff, ff, ff, ff, ff] ?_
   refine Dkl [(14, 19), (15, 20), (16, 21), (17, 22), (18, 23), (19, 24)] 7 true 12 hb25 [tt, tt, tt, tt, tt, tt, tt, tt, tt, tt, tt, tt, tt, tt, tt, tt, tt, tt, tt, tt, ff, ff] ?_
   refine Dtl 20 25 4 _ [tt, tt, tt, tt, tt, tt, tt, tt, tt, tt, tt, tt, tt, tt, tt, tt, tt, tt, tt, tt, tt, ff] (fun _ hq => p0 12 (.tmp 24) (.const (.bool false)) (.bool false) hb25) ?_
   refine Dtl 21 4 4 _ [tt, tt, tt, tt, tt, tt, tt, tt, tt, tt, tt, tt, tt, tt, tt, tt, tt, tt, tt, tt, tt, tt] (fun _ hq => ma 25 (.bool false)) ?_
   obtain rfl := some_inj h51
   have hs52 : HS w0 F0 w21 F2 [(sb b1 (kSystem x0 a0_0 n0_0 a0_1 n0_1) 25)] := hs22.drop 0
   have hs53 : HS w0 F0 w21 F2 [] := hs52.drop 0
   exact DWP.done (by kernel_rfl) ⟨F2, hs53, le23, rfl, rfl⟩
 ·rintro f w9 ⟨F1, hs10, le11, e13, e14⟩
  refine thenQ_nrm ?_
  refine CWP.ret (by kernel_rfl) ?_
  have hfin := some_inj h16
  subst hfin
  exact ⟨e13, (.bool j12), res_of (l := [.tmp 4]) (by kernel_rfl) (vs := [(.bool j12)]) ⟨e14, trivial⟩, (.bool j12), F1, rfl, hs10.clear, rfl⟩
end Go.Proofs.Ythbcnabeabcmlaa
namespace Go.Proofs.Ythbcnabeabcmlaa
open Go.Proofs
def ref03_Check_L0 (N : Nat) (x0 : System) : Int → Option (Flow Int Int) := fun s17 =>
 (bif (decide (s17 < (x0.Tracks.length : Int))) then ((idx x0.Tracks s17).bind fun x38 => ((ref03_ValidTrack N x38).bind fun r52 => (bif (!r52) then some (.ret 30) else some (.next (W64 (s17 + 1)))))) else some (.done s17))
def ref03_Check_L1 (N : Nat) (x0 : System) (s24 : Int) : Int → Option (Flow Int Int) := fun s70 =>
 (bif (decide (s70 < (x0.Ties.length : Int))) then ((idx x0.Ties s70).bind fun x91 => (((ref03_Has N x0 x91.A).bind fun r120 => (bif (!r120) then some true else ((ref03_Has N x0 x91.B).bind fun r132 => (bif (!r132) then some true else some (x91.A.Log == x91.B.Log))))).bind fun j113 => (bif j113 then some (.ret 30) else some (.next (W64 (s70 + 1)))))) else some (.done s70))
def ref03_Check (N : Nat) (x0 : System) : Option Int :=
 (bif ((decide ((x0.Tracks.length : Int) > 64)) || (decide ((x0.Ties.length : Int) > 400))) then some 2 else ((iter (ref03_Check_L0 N x0) N 0).bind fun o => o.k (fun r => some r) (fun s24 => ((iter (ref03_Check_L1 N x0 s24) N 0).bind fun o => o.k (fun r => some r) (fun s77 => ((ref03_within N x0.Window 0 120).bind fun r152 => (bif (!r152) then some 30 else some 0)))))))
theorem co_ref03_Check : CallOk Try.prog 40 := fun _ _ => by kernel_rfl
set_option maxHeartbeats 4000000 in
set_option maxRecDepth 100000 in
theorem c_ref03_Check (N : Nat) (w0 : World) (F0 : Mem) (hF : ∀ b o, F0 b = some o → w0.heap[b]? = some o) (x0 : System) (a0_0 : Option Addr) (n0_0 : Nat) (hb0_0 : LC x0.Tracks.length n0_0) (hs0_0 : SlA tTrack F0 a0_0 x0.Tracks) (a0_1 : Option Addr) (n0_1 : Nat) (hb0_1 : LC x0.Ties.length n0_1) (hs0_1 : SlA tTie F0 a0_1 x0.Ties) (r : Int) (h : ref03_Check N x0 = some r) :
  Calls Try.prog 40 ([(.agg (kSystem x0 a0_0 n0_0 a0_1 n0_1))] : List Value).toArray w0 (FRet w0 F0 fun F' v => v = (vi r)) := by
 have hs0 := HS.start hF
 refine calls_of (n := 67) (c := bodyOf Try.f40) Try.func40 (by kernel_rfl) (by kernel_rfl) (by kernel_rfl) ?_
 refine Sq (Rg [0, 1] ?_)
 refine Bx 1 0 0 25 (kSystem x0 a0_0 n0_0 a0_1 n0_1) hs0 (fun b1 w2 (hs3 : HS w0 F0 w2 F0 [(sb b1 (kSystem x0 a0_0 n0_0 a0_1 n0_1) 25)]) => ?_)
 refine V 2 30 (mc (vi 0) (vi 0)) ?_
 refine Nss ?_
 refine Sq (Rg [0, 1, 2, 3, 4, 5, 6, 7, 8, 9] ?_)
 refine RWP.cut (fun f w => ∃ (F1 : Mem), HS w0 F0 w F1 [(sb b1 (kSystem x0 a0_0 n0_0 a0_1 n0_1) 25)] ∧ Mem.le F0 F1 ∧ f.d = [] ∧ f 1 = (.pointer (some ⟨b1, 0, none⟩)) ∧ f 15 = (.bool ((decide ((x0.Tracks.length : Int) > 64)) || (decide ((x0.Ties.length : Int) > 400))))) ?_ ?_
 ·refine V 6 0 (fa 25 1 0 0 1 b1 0 0) ?_
  refine V 7 22 (ld 22 6 b1 0 false 1 (.slice a0_0 x0.Tracks.length n0_0) (hs3.ownAt (k := 0) rfl)) ?_
  refine V 8 3 (ln 7 22 a0_0 x0.Tracks.length n0_0 54 4 64) ?_
  refine V 9 4 (run_gtr (t := 3) (t' := 3) (x := (.tmp 8)) (y := (.const (vi 64))) (k := .i64) (a := (x0.Tracks.length : Int)) (b := 64) rfl rfl) ?_
  refine V 10 4 (mv 9 (.bool (decide ((x0.Tracks.length : Int) > 64)))) ?_
  refine RWP.split (decide ((x0.Tracks.length : Int) > 64)) (fun hb10 => ?_) (fun hb10 => ?_)
  ·refine Sk [11, 12, 13, 14] 4 false 10 hb10 ?_
   refine V 15 4 (p1 10 (.const (.bool true)) (.tmp 14) (.bool true) hb10) ?_
   exact RWP.nil ⟨rfl, F0, hs3, (Mem.le.refl _), rfl, rfl, (congrArg Value.bool (or_t hb10 (rfl)))⟩
  ·refine Vg 11 0 4 false 10 hb10 (fa 25 1 1 1 1 b1 0 1) ?_
   refine Vg 12 23 4 false 10 hb10 (ld 23 11 b1 1 false 1 (.slice a0_1 x0.Ties.length n0_1) (hs3.ownAt (k := 0) rfl)) ?_
   refine Vg 13 3 4 false 10 hb10 (ln 12 23 a0_1 x0.Ties.length n0_1 46 4 32) ?_
   refine Vg 14 4 4 false 10 hb10 (run_gtr (t := 3) (t' := 3) (x := (.tmp 13)) (y := (.const (vi 400))) (k := .i64) (a := (x0.Ties.length : Int)) (b := 400) rfl rfl) ?_
   refine V 15 4 (p0 10 (.const (.bool true)) (.tmp 14) (.bool (decide ((x0.Ties.length : Int) > 400))) hb10) ?_
   exact RWP.nil ⟨rfl, F0, hs3, (Mem.le.refl _), rfl, rfl, (congrArg Value.bool (or_f hb10 (rfl)))⟩
 ·rintro f w4 ⟨F1, hs5, le6, e7, e8, e9⟩
  refine thenQ_nrm ?_
  refine CWP.cond (t := ((decide ((x0.Tracks.length : Int) > 64)) || (decide ((x0.Ties.length : Int) > 400)))) (by kernel_rfl) e9 (fun hb11 => ?_) (fun hb11 => ?_)
  ·have h12 := cond_t h hb11
   refine Sq (Rg [0] ?_)
   refine V 2 30 (mc (vi 2) (vi 2)) ?_
   refine Nt ?_
   refine CWP.ret (by kernel_rfl) ?_
   refine thenQ_ret ?_
   have hfin := some_inj h12
   subst hfin
   exact ⟨e7, (vi 2), res_of (l := [.tmp 2]) (by kernel_rfl) (vs := [(vi 2)]) ⟨rfl, trivial⟩, (vi 2), F1, rfl, hs5.clear, rfl⟩
  ·have h13 := cond_f h hb11
   refine Sc ?_
   refine thenQ_nrm ?_
   refine Sq ?_
   refine Sq (Rg [0] ?_)
   refine V 3 3 (mc (vi 0) (vi 0)) ?_
   refine Nt ?_
   obtain ⟨o14, ho15, h16⟩ := bind_some h13
   refine CWP.cut (fun f w => ∃ (s24 : Int) (F3 : Mem), o14 = .done s24 ∧ HS w0 F0 w F3 [(sb b1 (kSystem x0 a0_0 n0_0 a0_1 n0_1) 25)] ∧ Mem.le F1 F3 ∧ f.d = [] ∧ f 1 = (.pointer (some ⟨b1, 0, none⟩))) ?_ ?_
   ·refine Bk ?_
    refine CWP.loop (by kernel_rfl) (fun m f w => ∃ (s17 : Int) (F2 : Mem), iter (ref03_Check_L0 N x0) m s17 = some o14 ∧ HS w0 F0 w F2 [(sb b1 (kSystem x0 a0_0 n0_0 a0_1 n0_1) 25)] ∧ Mem.le F1 F2 ∧ f.d = [] ∧ f 1 = (.pointer (some ⟨b1, 0, none⟩)) ∧ f 3 = (vi s17)) N ⟨0, F1, ho15, hs5, (Mem.le.refl _), e7, e8, rfl⟩ ?_
    rintro m30 f w18 ⟨s17, F2, hit31, hs19, le20, e21, e22, e23⟩
    obtain ⟨m32, fl33, rfl, hb34, hnx35⟩ := iter_step hit31
    refine Sq ?_
    refine Sq (Rg [0, 1, 2, 3, 4] ?_)
    refine V 16 3 (mv 3 (vi s17) e23) ?_
    refine V 17 0 (fa 25 1 0 0 1 b1 0 0 e22) ?_
    refine V 18 22 (ld 22 17 b1 0 false 1 (.slice a0_0 x0.Tracks.length n0_0) (hs19.ownAt (k := 0) rfl)) ?_
    refine V 19 3 (ln 18 22 a0_0 x0.Tracks.length n0_0 54 4 64) ?_
    refine V 20 4 (run_lss (t := 3) (t' := 3) (x := (.tmp 16)) (y := (.tmp 19)) (k := .i64) (a := s17) (b := (x0.Tracks.length : Int)) rfl rfl) ?_
    refine Nt ?_
    refine CWP.cond (t := (decide (s17 < (x0.Tracks.length : Int)))) (by kernel_rfl) rfl (fun hb36 => ?_) (fun hb36 => ?_)
    ·have h37 := cond_t hb34 hb36
     refine Sc ?_
     refine thenQ_nrm ?_
     refine Sq ?_
     refine Bk ?_
     refine Sq (Rg [0, 1, 2, 3, 4, 5, 6] ?_)
     refine V 23 0 (fa 25 1 0 0 1 b1 0 0 e22) ?_
     refine V 24 22 (ld 22 23 b1 0 false 1 (.slice a0_0 x0.Tracks.length n0_0) (hs19.ownAt (k := 0) rfl)) ?_
     refine V 25 3 (mv 3 (vi s17) e23) ?_
     obtain ⟨x38, hx39, h41⟩ := bind_some h37
     obtain ⟨hi40, hx39'⟩ := idx_spec hx39
     obtain ⟨b42, o43, C44, E45, fz46, rfl, hF48, hE49⟩ := SlA.open (SlA.mono hs0_0 (le6.trans le20)) hx39'
     obtain ⟨ae50_2, ne50_2, ae50_3, ne50_3, hc51, hbe50_2, hse50_2, hbe50_3, hse50_3⟩ := hE49 _ _ hx39'
     refine V 26 0 (ix 22 24 25 b42 o43 54 4 64 hi40) ?_
     refine V 27 54 (lx 54 26 0 4 true 4 (.agg (kTrack x38 ae50_2 ne50_2 ae50_3 ne50_3)) (hs19.pers _ _ hF48) hc51) ?_
     obtain ⟨r52, hr53, h54⟩ := bind_some h41
     refine Cl 28 4 39 #[(.tmp 27)] #[54] co_ref03_ValidTrack hs19 (c_ref03_ValidTrack N w18 F2 hs19.pers (x38) ae50_2 ne50_2 hbe50_2 hse50_2 ae50_3 ne50_3 hbe50_3 hse50_3 _ hr53) ?_
     intro v55 F4 w56 hs57 le58 hp59
     obtain rfl := hp59
     refine V 29 4 (run_not (t := 4) (x := (.tmp 28)) (a := r52) rfl) ?_
     refine Nt ?_
     refine CWP.cond (t := (!r52)) (by kernel_rfl) rfl (fun hb60 => ?_) (fun hb60 => ?_)
     ·have h61 := cond_t h54 hb60
      refine Sq (Rg [0] ?_)
      refine V 2 30 (mc (vi 30) (vi 30)) ?_
      refine Nt ?_
      refine CWP.ret (by kernel_rfl) ?_
      refine blockQ_ret ?_
      refine thenQ_ret ?_
      refine thenQ_ret ?_
      refine blockQ_ret ?_
      have hret := iter_ret h61 hnx35
      subst hret
      refine .inr ?_
      refine thenQ_ret ?_
      have hfin := some_inj h16
      subst hfin
      exact ⟨e21, (vi 30), res_of (l := [.tmp 2]) (by kernel_rfl) (vs := [(vi 30)]) ⟨rfl, trivial⟩, (vi 30), F4, rfl, hs57.clear, rfl⟩
     ·have h62 := cond_f h54 hb60
      refine Sc ?_
      refine blockQ_nrm ?_
      refine thenQ_nrm ?_
      refine Rg [0, 1, 2] ?_
      refine V 21 3 (mv 3 (vi s17) e23) ?_
      refine V 22 3 (run_add (t := 3) (t' := 3) (x := (.tmp 21)) (y := (.const (vi 1))) (k := .i64) (a := s17) (b := 1) rfl rfl) ?_
      refine V 3 3 (ma 22 (vi (W64 (s17 + 1)))) ?_
      refine RWP.nil ?_
      have hn63 := iter_next h62 hnx35
      exact ⟨m32, Nat.lt_succ_self _, (W64 (s17 + 1)), F4, hn63, hs57, (le20.trans le58), e21, e22, rfl⟩
    ·have h64 := cond_f hb34 hb36
     refine CWP.exit (by kernel_rfl) ?_
     refine thenQ_ex ?_
     refine thenQ_ex ?_
     refine blockQ_hit rfl ?_
     have ho65 := iter_done h64 hnx35
     exact .inl ⟨rfl, s17, F2, ho65, hs19, le20, e21, e22⟩
   ·rintro f w25 ⟨s24, F3, rfl, hs26, le27, e28, e29⟩
    have h66 := k_done h16
    refine thenQ_nrm ?_
    refine Sq ?_
    refine Sq (Rg [0] ?_)
    refine V 4 3 (mc (vi 0) (vi 0)) ?_
    refine Nt ?_
    obtain ⟨o67, ho68, h69⟩ := bind_some h66
    refine CWP.cut (fun f w => ∃ (s77 : Int) (F6 : Mem), o67 = .done s77 ∧ HS w0 F0 w F6 [(sb b1 (kSystem x0 a0_0 n0_0 a0_1 n0_1) 25)] ∧ Mem.le F3 F6 ∧ f.d = [] ∧ f 1 = (.pointer (some ⟨b1, 0, none⟩))) ?_ ?_
    ·refine Bk ?_
     refine CWP.loop (by kernel_rfl) (fun m f w => ∃ (s70 : Int) (F5 : Mem), iter (ref03_Check_L1 N x0 s24) m s70 = some o67 ∧ HS w0 F0 w F5 [(sb b1 (kSystem x0 a0_0 n0_0 a0_1 n0_1) 25)] ∧ Mem.le F3 F5 ∧ f.d = [] ∧ f 1 = (.pointer (some ⟨b1, 0, none⟩)) ∧ f 4 = (vi s70)) N ⟨0, F3, ho68, hs26, (Mem.le.refl _), e28, e29, rfl⟩ ?_
     rintro m83 f w71 ⟨s70, F5, hit84, hs72, le73, e74, e75, e76⟩
     obtain ⟨m85, fl86, rfl, hb87, hnx88⟩ := iter_step hit84
     refine Sq ?_
     refine Sq (Rg [0, 1, 2, 3, 4] ?_)
     refine V 30 3 (mv 4 (vi s70) e76) ?_
     refine V 31 0 (fa 25 1 1 1 1 b1 0 1 e75) ?_
     refine V 32 23 (ld 23 31 b1 1 false 1 (.slice a0_1 x0.Ties.length n0_1) (hs72.ownAt (k := 0) rfl)) ?_
     refine V 33 3 (ln 32 23 a0_1 x0.Ties.length n0_1 46 4 32) ?_
     refine V 34 4 (run_lss (t := 3) (t' := 3) (x := (.tmp 30)) (y := (.tmp 33)) (k := .i64) (a := s70) (b := (x0.Ties.length : Int)) rfl rfl) ?_
     refine Nt ?_
     refine CWP.cond (t := (decide (s70 < (x0.Ties.length : Int)))) (by kernel_rfl) rfl (fun hb89 => ?_) (fun hb89 => ?_)
     ·have h90 := cond_t hb87 hb89
      refine Sc ?_
      refine thenQ_nrm ?_
      refine Sq ?_
      refine Bk ?_
      refine Sq (Rg [0, 1, 2, 3, 4, 5, 6] ?_)
      refine V 37 0 (fa 25 1 1 1 1 b1 0 1 e75) ?_
      refine V 38 23 (ld 23 37 b1 1 false 1 (.slice a0_1 x0.Ties.length n0_1) (hs72.ownAt (k := 0) rfl)) ?_
      refine V 39 3 (mv 4 (vi s70) e76) ?_
      obtain ⟨x91, hx92, h94⟩ := bind_some h90
      obtain ⟨hi93, hx92'⟩ := idx_spec hx92
      obtain ⟨b95, o96, C97, E98, fz99, rfl, hF101, hE102⟩ := SlA.open (SlA.mono hs0_1 ((le6.trans le27).trans le73)) hx92'
      have hc104 := hE102 _ _ hx92'
      refine V 40 0 (ix 23 38 39 b95 o96 46 4 32 hi93) ?_
      refine V 41 46 (lx 46 40 0 4 true 4 (.agg (kTie x91)) (hs72.pers _ _ hF101) hc104) ?_
      refine Al 5 0 46 #[(vi 0), (vi 0), (vi 0), (vi 0)] hs72 (fun b105 w106 (hs107 : HS w0 F0 w106 F5 [(sb b105 #[(vi 0), (vi 0), (vi 0), (vi 0)] 46), (sb b1 (kSystem x0 a0_0 n0_0 (some ⟨b95, o96, none⟩) n0_1) 25)]) => ?_)
      refine RWP.store (ty := 0) (g := none) (by kernel_rfl) rfl (x := (.tmp 5)) (y := (.tmp 41)) (t := 46) (gg := true) (s := 4) (v := (.agg (kTie x91))) (b := b105) (o := 0) (C := #[(vi 0), (vi 0), (vi 0), (vi 0)]) rfl rfl (by kernel_rfl) hs107 (k := 0) rfl rfl rfl rfl (C' := (kTie x91)) rfl (fun w108 (hs109 : HS w0 F0 w108 F5 [(sb b105 (kTie x91) 46), (sb b1 (kSystem x0 a0_0 n0_0 (some ⟨b95, o96, none⟩) n0_1) 25)]) => ?_)
      refine Nss (Rg [0, 1, 2, 3, 4, 5, 6, 7, 8, 9, 10, 11, 12, 13, 14, 15, 16, 17, 18, 19, 20] ?_)
      obtain ⟨j113, hj118, h119⟩ := bind_some h94
      refine RWP.cut (fun f w => ∃ (F7 : Mem), HS w0 F0 w F7 [(sb b1 (kSystem x0 a0_0 n0_0 (some ⟨b95, o96, none⟩) n0_1) 25)] ∧ Mem.le F5 F7 ∧ f.d = [] ∧ f 1 = (.pointer (some ⟨b1, 0, none⟩)) ∧ f 4 = (vi s70) ∧ f 62 = (.bool j113)) ?_ ?_
      ·refine V 42 25 (ld 25 1 b1 0 true 3 (.agg (kSystem x0 a0_0 n0_0 (some ⟨b95, o96, none⟩) n0_1)) (hs109.ownAt (k := 1) rfl) e75) ?_
       refine V 43 0 (fa 46 5 0 0 2 b105 0 0) ?_
       refine V 44 27 (ld 27 43 b105 0 true 2 (.agg (kRef x91.A)) (hs109.ownAt (k := 0) rfl)) ?_
       obtain ⟨r120, hr121, h122⟩ := bind_some hj118
       refine Cl 45 4 85 #[(.tmp 42), (.tmp 44)] #[25, 27] co_ref03_Has hs109 (c_ref03_Has N w108 F5 hs109.pers (x0) a0_0 n0_0 hb0_0 (SlA.mono hs0_0 ((le6.trans le27).trans le73)) (some ⟨b95, o96, none⟩) n0_1 hb0_1 (SlA.mono hs0_1 ((le6.trans le27).trans le73)) (x91.A) _ hr121) ?_
       intro v123 F8 w124 hs125 le126 hp127
       obtain rfl := hp127
       refine V 46 4 (run_not (t := 4) (x := (.tmp 45)) (a := r120) rfl) ?_
       refine V 47 4 (mv 46 (.bool (!r120))) ?_
       refine RWP.split (!r120) (fun hb128 => ?_) (fun hb128 => ?_)
       ·have h129 := cond_t h122 hb128
        refine Sk [48, 49, 50, 51, 52] 5 false 47 hb128 ?_
        refine V 53 4 (p1 47 (.const (.bool true)) (.tmp 52) (.bool true) hb128) ?_
        refine V 54 4 (mv 53 (.bool true)) ?_
        refine Sk [55, 56, 57, 58, 59, 60, 61] 12 false 54 rfl ?_
        refine V 62 4 (p1 54 (.const (.bool true)) (.tmp 61) (.bool true) rfl) ?_
        obtain rfl := some_inj h129
        have hs130 : HS w0 F0 w124 F8 [(sb b1 (kSystem x0 a0_0 n0_0 (some ⟨b95, o96, none⟩) n0_1) 25)] := hs125.drop 0
        exact RWP.nil ⟨rfl, F8, hs130, le126, e74, e75, e76, rfl⟩
       ·have h131 := cond_f h122 hb128
        refine Vg 48 25 5 false 47 hb128 (ld 25 1 b1 0 true 3 (.agg (kSystem x0 a0_0 n0_0 (some ⟨b95, o96, none⟩) n0_1)) (hs125.ownAt (k := 1) rfl) e75) ?_
        refine Vg 49 0 5 false 47 hb128 (fa 46 5 1 2 2 b105 0 2) ?_
        refine Vg 50 27 5 false 47 hb128 (ld 27 49 b105 2 true 2 (.agg (kRef x91.B)) (hs125.ownAt (k := 0) rfl)) ?_
        obtain ⟨r132, hr133, h134⟩ := bind_some h131
        refine RWP.call (dst := (some 51)) (ty := 4) (g := (some (5, false))) (by kernel_rfl) (gd_y (d := 47) (by kernel_rfl) rfl hb128) (f0 := (.func 85)) (aos := #[(.tmp 48), (.tmp 50)]) (ats := #[25, 27]) (fid := 85) (first := #[]) (cap := #[]) (args := [(.agg (kSystem x0 a0_0 n0_0 (some ⟨b95, o96, none⟩) n0_1)), (.agg (kRef x91.B))]) rfl co_ref03_Has (rfl) hs125 (c_ref03_Has N w124 F8 hs125.pers (x0) a0_0 n0_0 hb0_0 (SlA.mono hs0_0 (((le6.trans le27).trans le73).trans le126)) (some ⟨b95, o96, none⟩) n0_1 hb0_1 (SlA.mono hs0_1 (((le6.trans le27).trans le73).trans le126)) (x91.B) _ hr133) ?_
        intro v135 F9 w136 hs137 le138 hp139
        obtain rfl := hp139
        refine Vg 52 4 5 false 47 hb128 (run_not (t := 4) (x := (.tmp 51)) (a := r132) rfl) ?_
        refine V 53 4 (p0 47 (.const (.bool true)) (.tmp 52) (.bool (!r132)) hb128) ?_
        refine V 54 4 (mv 53 (.bool (!r132))) ?_
        refine RWP.split (!r132) (fun hb140 => ?_) (fun hb140 => ?_)
        ·have h141 := cond_t h134 hb140
         refine Sk [55, 56, 57, 58, 59, 60, 61] 12 false 54 hb140 ?_
         refine V 62 4 (p1 54 (.const (.bool true)) (.tmp 61) (.bool true) hb140) ?_
         obtain rfl := some_inj h141
         have hs142 : HS w0 F0 w136 F9 [(sb b1 (kSystem x0 a0_0 n0_0 (some ⟨b95, o96, none⟩) n0_1) 25)] := hs137.drop 0
         exact RWP.nil ⟨rfl, F9, hs142, (le126.trans le138), e74, e75, e76, rfl⟩
        ·have h143 := cond_f h134 hb140
         refine Vg 55 0 12 false 54 hb140 (fa 46 5 0 0 2 b105 0 0) ?_
         refine Vg 56 0 12 false 54 hb140 (fa 27 55 0 0 1 b105 0 0) ?_
         refine Vg 57 3 12 false 54 hb140 (ld 3 56 b105 0 false 1 (vi x91.A.Log) (hs137.ownAt (k := 0) rfl)) ?_
         refine Vg 58 0 12 false 54 hb140 (fa 46 5 1 2 2 b105 0 2) ?_
         refine Vg 59 0 12 false 54 hb140 (fa 27 58 0 0 1 b105 2 2) ?_
         refine Vg 60 3 12 false 54 hb140 (ld 3 59 b105 2 false 1 (vi x91.B.Log) (hs137.ownAt (k := 0) rfl)) ?_
         refine Vg 61 4 12 false 54 hb140 (run_eql (t := 3) (t' := 3) (x := (.tmp 57)) (y := (.tmp 60)) (k := .i64) (a := x91.A.Log) (b := x91.B.Log) rfl rfl) ?_
         refine V 62 4 (p0 54 (.const (.bool true)) (.tmp 61) (.bool (x91.A.Log == x91.B.Log)) hb140) ?_
         obtain rfl := some_inj h143
         have hs144 : HS w0 F0 w136 F9 [(sb b1 (kSystem x0 a0_0 n0_0 (some ⟨b95, o96, none⟩) n0_1) 25)] := hs137.drop 0
         exact RWP.nil ⟨rfl, F9, hs144, (le126.trans le138), e74, e75, e76, rfl⟩
      ·rintro f w110 ⟨F7, hs111, le112, e114, e115, e116, e117⟩
       refine thenQ_nrm ?_
       refine CWP.cond (t := j113) (by kernel_rfl) e117 (fun hb145 => ?_) (fun hb145 => ?_)
       ·have h146 := cond_t h119 hb145
        refine Sq (Rg [0] ?_)
        refine V 2 30 (mc (vi 30) (vi 30)) ?_
        refine Nt ?_
        refine CWP.ret (by kernel_rfl) ?_
        refine blockQ_ret ?_
        refine thenQ_ret ?_
        refine thenQ_ret ?_
        refine blockQ_ret ?_
        have hret := iter_ret h146 hnx88
        subst hret
        refine .inr ?_
        refine thenQ_ret ?_
        have hfin := some_inj h69
        subst hfin
        exact ⟨e114, (vi 30), res_of (l := [.tmp 2]) (by kernel_rfl) (vs := [(vi 30)]) ⟨rfl, trivial⟩, (vi 30), F7, rfl, hs111.clear, rfl⟩
       ·have h147 := cond_f h119 hb145
        refine Sc ?_
        refine blockQ_nrm ?_
        refine thenQ_nrm ?_
        refine Rg [0, 1, 2] ?_
        refine V 35 3 (mv 4 (vi s70) e116) ?_
        refine V 36 3 (run_add (t := 3) (t' := 3) (x := (.tmp 35)) (y := (.const (vi 1))) (k := .i64) (a := s70) (b := 1) rfl rfl) ?_
        refine V 4 3 (ma 36 (vi (W64 (s70 + 1)))) ?_
        refine RWP.nil ?_
        have hn148 := iter_next h147 hnx88
        exact ⟨m85, Nat.lt_succ_self _, (W64 (s70 + 1)), F7, hn148, hs111, (le73.trans le112), e114, e115, rfl⟩
     ·have h149 := cond_f hb87 hb89
      refine CWP.exit (by kernel_rfl) ?_
      refine thenQ_ex ?_
      refine thenQ_ex ?_
      refine blockQ_hit rfl ?_
      have ho150 := iter_done h149 hnx88
      exact .inl ⟨rfl, s70, F5, ho150, hs72, le73, e74, e75⟩
    ·rintro f w78 ⟨s77, F6, rfl, hs79, le80, e81, e82⟩
     have h151 := k_done h69
     refine thenQ_nrm ?_
     refine Sq ?_
     refine Sq (Rg [0, 1, 2, 3] ?_)
     refine V 63 0 (fa 25 1 2 2 1 b1 0 2 e82) ?_
     refine V 64 3 (ld 3 63 b1 2 false 1 (vi x0.Window) (hs79.ownAt (k := 0) rfl)) ?_
     obtain ⟨r152, hr153, h154⟩ := bind_some h151
     refine Cl 65 4 83 #[(.tmp 64), (.const (vi 0)), (.const (vi 120))] #[3, 3, 3] co_ref03_within hs79 (c_ref03_within N w78 F6 hs79.pers (x0.Window) (0) (120) _ hr153) ?_
     intro v155 F10 w156 hs157 le158 hp159
     obtain rfl := hp159
     refine V 66 4 (run_not (t := 4) (x := (.tmp 65)) (a := r152) rfl) ?_
     refine Nt ?_
     refine CWP.cond (t := (!r152)) (by kernel_rfl) rfl (fun hb160 => ?_) (fun hb160 => ?_)
     ·have h161 := cond_t h154 hb160
      refine Sq (Rg [0] ?_)
      refine V 2 30 (mc (vi 30) (vi 30)) ?_
      refine Nt ?_
      refine CWP.ret (by kernel_rfl) ?_
      refine thenQ_ret ?_
      have hfin := some_inj h161
      subst hfin
      exact ⟨e81, (vi 30), res_of (l := [.tmp 2]) (by kernel_rfl) (vs := [(vi 30)]) ⟨rfl, trivial⟩, (vi 30), F10, rfl, hs157.clear, rfl⟩
     ·have h162 := cond_f h154 hb160
      refine Sc ?_
      refine thenQ_nrm ?_
      refine Sq (Rg [0] ?_)
      refine V 2 30 (mc (vi 0) (vi 0)) ?_
      refine Nt ?_
      refine CWP.ret (by kernel_rfl) ?_
      have hfin := some_inj h162
      subst hfin
      exact ⟨e81, (vi 0), res_of (l := [.tmp 2]) (by kernel_rfl) (vs := [(vi 0)]) ⟨rfl, trivial⟩, (vi 0), F10, rfl, hs157.clear, rfl⟩
end Go.Proofs.Ythbcnabeabcmlaa
namespace Go.Proofs.Ythbcnabeabcmlaa
theorem within_r (N : Nat) (a b c : Int) : ref03_within N a b c = some (inr a b c) := rfl
theorem loopCr {N : Nat} {c : Clock} (j : Bool) (h : Fit N c.Jumps.length) {i : Nat} (hi : i < c.Jumps.length) : ref03_ValidClock_L0 N c j (i : Int) = some (bif okO ltS c.Jumps i then .next ((i + 1 : Nat) : Int) else .ret false) := by
 unfold ref03_ValidClock_L0
 have h1 := h.1
 rw [lt_t hi, cond_true, idx_nat hi, Option.bind_some, within_r, Option.bind_some, W64_succ (by omega)]
 cases i with
 | zero =>
  simp only [okO, getD_at hi]
  cases inr c.Jumps[0] 0 20000 <;> simp
 | succ k =>
  have hk : k < c.Jumps.length := by omega
  simp only [okO, getD_at hi, getD_at hk]
  have hp : decide (((k + 1 : Nat) : Int) > 0) = true := by simp
  rw [hp, cond_true, pred_nat (by omega), idx_nat hk, Option.bind_some, Option.bind_some]
  cases inr c.Jumps[k + 1] 0 20000 <;> simp [ltS]
  by_cases hlt : c.Jumps[k + 1] ≤ c.Jumps[k]
  ·simp [hlt, Int.not_lt.2 hlt]
  ·simp [hlt, Int.not_le.1 hlt]
theorem validClock_r {N : Nat} {c : Clock} (h : Fit N c.Jumps.length) : ref03_ValidClock N c = some (vClock c) := by
 unfold ref03_ValidClock vClock
 rw [within_r, within_r]
 simp only [Option.bind_some]
 have hL : ∀ j, ((iter (ref03_ValidClock_L0 N c j) N 0).bind fun o => o.k (fun r => some r) (fun s48 => some true)) = some (allB c.Jumps.length (okO ltS c.Jumps)) := by
  intro j
  rw [iter_check' (okO ltS c.Jumps) false (fun i hi => loopCr j h hi) (by unfold ref03_ValidClock_L0; rw [lt_f]; rfl) h.2]
  cases allB c.Jumps.length (okO ltS c.Jumps) <;> rfl
 cases inr c.Slip 0 1440 with
 | false => simp
 | true =>
  cases inr c.Drift 0 100 with
  | false => simp
  | true =>
   by_cases h16 : (c.Jumps.length : Int) > 16
   ·simp [h16]
   ·simp only [h16, Bool.not_true, cond_false, Option.bind_some, decide_false, hL, Bool.true_and]
    have : decide ((c.Jumps.length : Int) ≤ 16) = true := by simp; omega
    rw [this]; simp
theorem loopTr {N : Nat} {t : Track} (j : Bool) (h : Fit N t.Times.length) {i : Nat} (hi : i < t.Times.length) : ref03_ValidTrack_L0 N t j (i : Int) = some (bif okO ltE t.Times i then .next ((i + 1 : Nat) : Int) else .ret false) := by
 unfold ref03_ValidTrack_L0
 have h1 := h.1
 rw [lt_t hi, cond_true, idx_nat hi, Option.bind_some, within_r, Option.bind_some, W64_succ (by omega)]
 cases i with
 | zero =>
  simp only [okO, getD_at hi]
  cases inr t.Times[0] 0 20000 <;> simp
 | succ k =>
  have hk : k < t.Times.length := by omega
  simp only [okO, getD_at hi, getD_at hk]
  have hp : decide (((k + 1 : Nat) : Int) > 0) = true := by simp
  rw [hp, cond_true, pred_nat (by omega), idx_nat hk, Option.bind_some, Option.bind_some]
  cases inr t.Times[k + 1] 0 20000 <;> simp [ltE]
  by_cases hlt : t.Times[k + 1] < t.Times[k]
  ·simp [hlt, Int.not_le.2 hlt]
  ·simp [hlt, Int.not_lt.1 hlt]
theorem validTrack_r {N : Nat} {t : Track} (h : FitT N t) : ref03_ValidTrack N t = some (vTrack t) := by
 unfold ref03_ValidTrack vTrack
 rw [validClock_r h.j]
 simp only [Option.bind_some]
 have hL : ∀ j, ((iter (ref03_ValidTrack_L0 N t j) N 0).bind fun o => o.k (fun r => some r) (fun s48 => some true)) = some (allB t.Times.length (okO ltE t.Times)) := by
  intro j
  rw [iter_check' (okO ltE t.Times) false (fun i hi => loopTr j h.t hi) (by unfold ref03_ValidTrack_L0; rw [lt_f]; rfl) h.t.2]
  cases allB t.Times.length (okO ltE t.Times) <;> rfl
 cases vClock t.Clock with
 | false => simp
 | true =>
  by_cases h16 : (t.Times.length : Int) > 400
  ·simp [h16]
  ·simp only [h16, Bool.not_true, cond_false, Option.bind_some, decide_false, hL, Bool.true_and]
   have : decide ((t.Times.length : Int) ≤ 400) = true := by simp; omega
   rw [this]; simp
theorem has_r {N : Nat} {s : System} (h : FitS N s) (r : Ref) : ref03_Has N s r = some (vHas s r) := has_aux h r _ (within_r N)
theorem check_r {N : Nat} {s : System} (h : FitS N s) : ref03_Check N s = some (vCheck s) := by
 unfold ref03_Check vCheck
 have hn := h.n.1
 have he := h.e.1
 cases (decide ((s.Tracks.length : Int) > 64) || decide ((s.Ties.length : Int) > 400)) with
 | true => rfl
 | false =>
  simp only [cond_false]
  rw [iter_check' (n := s.Tracks.length) (atB s.Tracks vTrack) 30 (fun i hi => by
   unfold ref03_Check_L0
   rw [lt_t hi, cond_true, idx_nat hi, Option.bind_some, validTrack_r (h.t _ (List.getElem_mem hi)), Option.bind_some, W64_succ (by omega), atB_at hi]
   cases vTrack s.Tracks[i] <;> rfl) (by unfold ref03_Check_L0; rw [lt_f]; rfl) h.n.2, ← all_allB]
  cases s.Tracks.all vTrack with
  | false => rfl
  | true =>
   simp only [cond_true]
   rw [iter_check' (n := s.Ties.length) (atB s.Ties (vTie s)) 30 (fun i hi => by
    unfold ref03_Check_L1
    rw [lt_t hi, cond_true, idx_nat hi, Option.bind_some, has_r h, has_r h, W64_succ (by omega), atB_at hi]
    simp only [Option.bind_some, vTie]
    cases vHas s s.Ties[i].A with
    | false => rfl
    | true =>
     cases vHas s s.Ties[i].B with
     | false => rfl
     | true =>
      simp only [Bool.not_true, cond_false, Option.bind_some, Bool.true_and, bne]
      cases (s.Ties[i].A.Log == s.Ties[i].B.Log) <;> rfl) (by unfold ref03_Check_L1; rw [lt_f]; rfl) h.e.2, ← all_allB]
   rw [within_r]
   cases s.Ties.all (vTie s) with
   | false => simp
   | true =>
    simp only [cond_true, Option.bind_some]
    cases inr s.Window 0 120 <;> simp
end Go.Proofs.Ythbcnabeabcmlaa
namespace Go.Proofs.Ythbcnabeabcmlaa
open Go.Proofs
end Go.Proofs.Ythbcnabeabcmlaa
namespace Go.Proofs.Ythbcnabeabcmlaa
open Go.Proofs
end Go.Proofs.Ythbcnabeabcmlaa
namespace Go.Proofs.Ythbcnabeabcmlaa
open Go.Proofs
end Go.Proofs.Ythbcnabeabcmlaa
namespace Go.Proofs.Ythbcnabeabcmlaa
open Go.Proofs
def ref03_Beginning (N : Nat)  : Option Ref :=
 some ({ Log := (-1), Line := 0 } : Ref)
theorem co_ref03_Beginning : CallOk Try.prog 109 := fun _ _ => by kernel_rfl
set_option maxHeartbeats 4000000 in
set_option maxRecDepth 100000 in
theorem c_ref03_Beginning (N : Nat) (w0 : World) (F0 : Mem) (hF : ∀ b o, F0 b = some o → w0.heap[b]? = some o)  (r : Ref) (h : ref03_Beginning N  = some r) :
  Calls Try.prog 109 ([] : List Value).toArray w0 (FRet w0 F0 fun F' v => v = (.agg (kRef r))) := by
 have hs0 := HS.start hF
 refine calls_of (n := 2) (c := bodyOf Try.f109) Try.func109 (by kernel_rfl) (by kernel_rfl) (by kernel_rfl) ?_
 refine Sq (Rg [0] ?_)
 refine Al 0 0 27 #[(vi 0), (vi 0)] hs0 (fun b1 w2 (hs3 : HS w0 F0 w2 F0 [(sb b1 #[(vi 0), (vi 0)] 27)]) => ?_)
 refine Nss (Rg [0, 1] ?_)
 refine V 1 27 (run_build2 (t := 27) (parts := #[(0, (.const (vi (-1)))), (1, (.const (vi 0)))]) (vs := [(0, (vi (-1))), (1, (vi 0))]) (rfl) (cs := [(vi (-1)), (vi 0)]) (by kernel_rfl)) ?_
 refine RWP.store (ty := 0) (g := none) (by kernel_rfl) rfl (x := (.tmp 0)) (y := (.tmp 1)) (t := 27) (gg := true) (s := 2) (v := (.agg #[(vi (-1)), (vi 0)])) (b := b1) (o := 0) (C := #[(vi 0), (vi 0)]) rfl rfl (by kernel_rfl) hs3 (k := 0) rfl rfl rfl rfl (C' := #[(vi (-1)), (vi 0)]) rfl (fun w4 (hs5 : HS w0 F0 w4 F0 [(sb b1 #[(vi (-1)), (vi 0)] 27)]) => ?_)
 refine Nt ?_
 refine CWP.ret (by kernel_rfl) ?_
 have hfin := some_inj h
 subst hfin
 exact ⟨rfl, (.agg #[(vi (-1)), (vi 0)]), res_of (l := [.cell 0 27]) (by kernel_rfl) (vs := [(.agg #[(vi (-1)), (vi 0)])]) ⟨b1, 0, rfl, run_loadVar' (t := 27) (g := true) (s := 2) (by kernel_rfl) (hs5.ownAt (k := 0) rfl) rfl (by decide), trivial⟩, (.agg #[(vi (-1)), (vi 0)]), F0, rfl, hs5.clear, rfl⟩
end Go.Proofs.Ythbcnabeabcmlaa
namespace Go.Proofs.Ythbcnabeabcmlaa
open Go.Proofs
def ref03_jumped_L0 (N : Nat) (x0 : Clock) (x1 : Int) (x2 : Int) : Int → Option (Flow Bool Int) := fun s7 =>
 (bif (decide (s7 < (x0.Jumps.length : Int))) then (((idx x0.Jumps s7).bind fun x41 => (bif (decide (x1 < x41)) then ((idx x0.Jumps s7).bind fun x57 => some (decide (x57 ≤ x2))) else some false)).bind fun j32 => (bif j32 then some (.ret true) else some (.next (W64 (s7 + 1))))) else some (.done s7))
def ref03_jumped (N : Nat) (x0 : Clock) (x1 : Int) (x2 : Int) : Option Bool :=
 ((iter (ref03_jumped_L0 N x0 x1 x2) N 0).bind fun o => o.k (fun r => some r) (fun s16 => some false))
theorem co_ref03_jumped : CallOk Try.prog 124 := fun _ _ => by kernel_rfl
set_option maxHeartbeats 4000000 in
set_option maxRecDepth 100000 in
theorem c_ref03_jumped (N : Nat) (w0 : World) (F0 : Mem) (hF : ∀ b o, F0 b = some o → w0.heap[b]? = some o) (x0 : Clock) (a0_2 : Option Addr) (n0_2 : Nat) (hb0_2 : LC x0.Jumps.length n0_2) (hs0_2 : SlA tInt F0 a0_2 x0.Jumps) (x1 : Int) (x2 : Int) (r : Bool) (h : ref03_jumped N x0 x1 x2 = some r) :
  Calls Try.prog 124 ([(.agg (kClock x0 a0_2 n0_2)), (vi x1), (vi x2)] : List Value).toArray w0 (FRet w0 F0 fun F' v => v = (.bool r)) := by
 have hs0 := HS.start hF
 refine calls_of (n := 31) (c := bodyOf Try.f124) Try.func124 (by kernel_rfl) (by kernel_rfl) (by kernel_rfl) ?_
 refine Sq (Rg [0, 1] ?_)
 refine Bx 3 0 0 52 (kClock x0 a0_2 n0_2) hs0 (fun b1 w2 (hs3 : HS w0 F0 w2 F0 [(sb b1 (kClock x0 a0_2 n0_2) 52)]) => ?_)
 refine V 6 4 (mc (.bool false) (.bool false)) ?_
 refine Nss ?_
 refine Sq (Rg [0] ?_)
 refine V 7 3 (mc (vi 0) (vi 0)) ?_
 refine Nt ?_
 obtain ⟨o4, ho5, h6⟩ := bind_some h
 refine CWP.cut (fun f w => ∃ (s16 : Int) (F2 : Mem), o4 = .done s16 ∧ HS w0 F0 w F2 [] ∧ Mem.le F0 F2 ∧ f.d = []) ?_ ?_
 ·refine Bk ?_
  refine CWP.loop (by kernel_rfl) (fun m f w => ∃ (s7 : Int) (F1 : Mem), iter (ref03_jumped_L0 N x0 x1 x2) m s7 = some o4 ∧ HS w0 F0 w F1 [(sb b1 (kClock x0 a0_2 n0_2) 52)] ∧ Mem.le F0 F1 ∧ f.d = [] ∧ f 1 = (vi x1) ∧ f 2 = (vi x2) ∧ f 3 = (.pointer (some ⟨b1, 0, none⟩)) ∧ f 7 = (vi s7)) N ⟨0, F0, ho5, hs3, (Mem.le.refl _), rfl, rfl, rfl, rfl, rfl⟩ ?_
  rintro m21 f w8 ⟨s7, F1, hit22, hs9, le10, e11, e12, e13, e14, e15⟩
  obtain ⟨m23, fl24, rfl, hb25, hnx26⟩ := iter_step hit22
  refine Sq ?_
  refine Sq (Rg [0, 1, 2, 3, 4] ?_)
  refine V 8 3 (mv 7 (vi s7) e15) ?_
  refine V 9 0 (fa 52 3 2 2 1 b1 0 2 e14) ?_
  refine V 10 50 (ld 50 9 b1 2 false 1 (.slice a0_2 x0.Jumps.length n0_2) (hs9.ownAt (k := 0) rfl)) ?_
  refine V 11 3 (ln 10 50 a0_2 x0.Jumps.length n0_2 3 1 8) ?_
  refine V 12 4 (run_lss (t := 3) (t' := 3) (x := (.tmp 8)) (y := (.tmp 11)) (k := .i64) (a := s7) (b := (x0.Jumps.length : Int)) rfl rfl) ?_
  refine Nt ?_
  refine CWP.cond (t := (decide (s7 < (x0.Jumps.length : Int)))) (by kernel_rfl) rfl (fun hb27 => ?_) (fun hb27 => ?_)
  ·have h28 := cond_t hb25 hb27
   refine Sc ?_
   refine thenQ_nrm ?_
   refine Sq ?_
   refine Bk ?_
   refine Sq (Rg [0, 1, 2, 3, 4, 5, 6, 7, 8, 9, 10, 11, 12, 13, 14, 15] ?_)
   obtain ⟨j32, hj39, h40⟩ := bind_some h28
   refine RWP.cut (fun f w => ∃ (F3 : Mem), HS w0 F0 w F3 [(sb b1 (kClock x0 a0_2 n0_2) 52)] ∧ Mem.le F1 F3 ∧ f.d = [] ∧ f 1 = (vi x1) ∧ f 2 = (vi x2) ∧ f 3 = (.pointer (some ⟨b1, 0, none⟩)) ∧ f 7 = (vi s7) ∧ f 30 = (.bool j32)) ?_ ?_
   ·refine V 15 3 (mv 1 (vi x1) e12) ?_
    refine V 16 0 (fa 52 3 2 2 1 b1 0 2 e14) ?_
    refine V 17 50 (ld 50 16 b1 2 false 1 (.slice a0_2 x0.Jumps.length n0_2) (hs9.ownAt (k := 0) rfl)) ?_
    refine V 18 3 (mv 7 (vi s7) e15) ?_
    obtain ⟨x41, hx42, h44⟩ := bind_some hj39
    obtain ⟨hi43, hx42'⟩ := idx_spec hx42
    obtain ⟨b45, o46, C47, E48, fz49, rfl, hF51, hE52⟩ := SlA.open (SlA.mono hs0_2 le10) hx42'
    have hc54 := hE52 _ _ hx42'
    refine V 19 0 (ix 50 17 18 b45 o46 3 1 8 hi43) ?_
    refine V 20 3 (lx 3 19 0 1 false 1 (vi x41) (hs9.pers _ _ hF51) hc54) ?_
    refine V 21 4 (run_lss (t := 3) (t' := 3) (x := (.tmp 15)) (y := (.tmp 20)) (k := .i64) (a := x1) (b := x41) rfl rfl) ?_
    refine V 22 4 (mv 21 (.bool (decide (x1 < x41)))) ?_
    refine RWP.split (decide (x1 < x41)) (fun hb55 => ?_) (fun hb55 => ?_)
    ·have h56 := cond_t h44 hb55
     refine Vg 23 0 7 true 22 hb55 (fa 52 3 2 2 1 b1 0 2 e14) ?_
     refine Vg 24 50 7 true 22 hb55 (ld 50 23 b1 2 false 1 (.slice (some ⟨b45, o46, none⟩) x0.Jumps.length n0_2) (hs9.ownAt (k := 0) rfl)) ?_
     refine Vg 25 3 7 true 22 hb55 (mv 7 (vi s7) e15) ?_
     obtain ⟨x57, hx58, h60⟩ := bind_some h56
     obtain ⟨hi59, hx58'⟩ := idx_spec hx58
     have hc62 := hE52 _ _ hx58'
     refine Vg 26 0 7 true 22 hb55 (ix 50 24 25 b45 o46 3 1 8 hi59) ?_
     refine Vg 27 3 7 true 22 hb55 (lx 3 26 0 1 false 1 (vi x57) (hs9.pers _ _ hF51) hc62) ?_
     refine Vg 28 3 7 true 22 hb55 (mv 2 (vi x2) e13) ?_
     refine Vg 29 4 7 true 22 hb55 (run_leq (t := 3) (t' := 3) (x := (.tmp 27)) (y := (.tmp 28)) (k := .i64) (a := x57) (b := x2) rfl rfl) ?_
     refine V 30 4 (p1 22 (.tmp 29) (.const (.bool false)) (.bool (decide (x57 ≤ x2))) hb55) ?_
     obtain rfl := some_inj h60
     exact RWP.nil ⟨rfl, F1, hs9, (Mem.le.refl _), e11, e12, e13, e14, e15, rfl⟩
    ·have h63 := cond_f h44 hb55
     refine Sk [23, 24, 25, 26, 27, 28, 29] 7 true 22 hb55 ?_
     refine V 30 4 (p0 22 (.tmp 29) (.const (.bool false)) (.bool false) hb55) ?_
     obtain rfl := some_inj h63
     exact RWP.nil ⟨rfl, F1, hs9, (Mem.le.refl _), e11, e12, e13, e14, e15, rfl⟩
   ·rintro f w29 ⟨F3, hs30, le31, e33, e34, e35, e36, e37, e38⟩
    refine thenQ_nrm ?_
    refine CWP.cond (t := j32) (by kernel_rfl) e38 (fun hb64 => ?_) (fun hb64 => ?_)
    ·have h65 := cond_t h40 hb64
     refine Sq (Rg [0] ?_)
     refine V 6 4 (mc (.bool true) (.bool true)) ?_
     refine Nt ?_
     refine CWP.ret (by kernel_rfl) ?_
     refine blockQ_ret ?_
     refine thenQ_ret ?_
     refine thenQ_ret ?_
     refine blockQ_ret ?_
     have hret := iter_ret h65 hnx26
     subst hret
     refine .inr ?_
     refine thenQ_ret ?_
     have hfin := some_inj h6
     subst hfin
     exact ⟨e33, (.bool true), res_of (l := [.tmp 6]) (by kernel_rfl) (vs := [(.bool true)]) ⟨rfl, trivial⟩, (.bool true), F3, rfl, hs30.clear, rfl⟩
    ·have h66 := cond_f h40 hb64
     refine Sc ?_
     refine blockQ_nrm ?_
     refine thenQ_nrm ?_
     refine Rg [0, 1, 2] ?_
     refine V 13 3 (mv 7 (vi s7) e37) ?_
     refine V 14 3 (run_add (t := 3) (t' := 3) (x := (.tmp 13)) (y := (.const (vi 1))) (k := .i64) (a := s7) (b := 1) rfl rfl) ?_
     refine V 7 3 (ma 14 (vi (W64 (s7 + 1)))) ?_
     refine RWP.nil ?_
     have hn67 := iter_next h66 hnx26
     exact ⟨m23, Nat.lt_succ_self _, (W64 (s7 + 1)), F3, hn67, hs30, (le10.trans le31), e33, e34, e35, e36, rfl⟩
  ·have h68 := cond_f hb25 hb27
   refine CWP.exit (by kernel_rfl) ?_
   refine thenQ_ex ?_
   refine thenQ_ex ?_
   refine blockQ_hit rfl ?_
   have hs69 : HS w0 F0 w8 F1 [] := hs9.drop 0
   have ho70 := iter_done h68 hnx26
   exact .inl ⟨rfl, s7, F1, ho70, hs69, le10, e11⟩
 ·rintro f w17 ⟨s16, F2, rfl, hs18, le19, e20⟩
  have h71 := k_done h6
  refine thenQ_nrm ?_
  refine Sq (Rg [0] ?_)
  refine V 6 4 (mc (.bool false) (.bool false)) ?_
  refine Nt ?_
  refine CWP.ret (by kernel_rfl) ?_
  have hfin := some_inj h71
  subst hfin
  exact ⟨e20, (.bool false), res_of (l := [.tmp 6]) (by kernel_rfl) (vs := [(.bool false)]) ⟨rfl, trivial⟩, (.bool false), F2, rfl, hs18.clear, rfl⟩
end Go.Proofs.Ythbcnabeabcmlaa
namespace Go.Proofs.Ythbcnabeabcmlaa
open Go.Proofs
def ref03_bounds_L1 (N : Nat) (x0 : System) (s9 : (List Bound × Int)) (x32 : Track) : (List Bound × Int) → Option (Flow (List Bound) (List Bound × Int)) := fun s54 =>
 (bif (decide (s54.2 < (x32.Times.length : Int))) then (((idx x32.Times s54.2).bind fun x100 => ((ref03_Beginning N ).bind fun r114 => ((apnd s54.1 [({ From := r114, To := ({ Log := s9.2, Line := s54.2 } : Ref), Most := (W64 (x100 + x32.Clock.Slip)), Kind := 1, ID := s54.2 } : Bound)]).bind fun r127 => some r127))).bind fun j90 => (((idx x32.Times s54.2).bind fun x151 => ((ref03_Beginning N ).bind fun r165 => ((apnd j90 [({ From := ({ Log := s9.2, Line := s54.2 } : Ref), To := r165, Most := (W64 (x32.Clock.Slip - x151)), Kind := 1, ID := s54.2 } : Bound)]).bind fun r178 => some r178))).bind fun j142 => some (.next (j142, (W64 (s54.2 + 1)))))) else some (.done (s54.1, s54.2)))
def ref03_bounds_L0 (N : Nat) (x0 : System) : (List Bound × Int) → Option (Flow (List Bound) (List Bound × Int)) := fun s9 =>
 (bif (decide (s9.2 < (x0.Tracks.length : Int))) then ((idx x0.Tracks s9.2).bind fun x32 => ((iter (ref03_bounds_L1 N x0 s9 x32) N (s9.1, 0)).bind fun o => o.k (fun r => some (.ret r)) (fun s64 => some (.next (s64.1, (W64 (s9.2 + 1))))))) else some (.done (s9.1, s9.2)))
def ref03_bounds_L3 (N : Nat) (x0 : System) (s17 : (List Bound × Int)) (s201 : (List Bound × Int)) (x224 : Track) : (List Bound × Int) → Option (Flow (List Bound) (List Bound × Int)) := fun s246 =>
 (bif (decide ((W64 (s246.2 + 1)) < (x224.Times.length : Int))) then ((apnd s246.1 [({ From := ({ Log := s201.2, Line := (W64 (s246.2 + 1)) } : Ref), To := ({ Log := s201.2, Line := s246.2 } : Ref), Most := 0, Kind := 2, ID := s246.2 } : Bound)]).bind fun r287 => (((idx x224.Times s246.2).bind fun x313 => ((idx x224.Times (W64 (s246.2 + 1))).bind fun x327 => ((ref03_jumped N x224.Clock x313 x327).bind fun r333 => some r333))).bind fun j301 => (bif j301 then some (.next (r287, (W64 (s246.2 + 1)))) else (((idx x224.Times (W64 (s246.2 + 1))).bind fun x365 => ((idx x224.Times s246.2).bind fun x379 => some (W64 (x365 - x379)))).bind fun j353 => ((apnd r287 [({ From := ({ Log := s201.2, Line := s246.2 } : Ref), To := ({ Log := s201.2, Line := (W64 (s246.2 + 1)) } : Ref), Most := (W64 (j353 + (W64 (1 + (W64 (Int.tdiv (W64 ((W64 (x224.Clock.Drift * j353)) + 999)) 1000)))))), Kind := 3, ID := s246.2 } : Bound)]).bind fun r390 => ((apnd r390 [({ From := ({ Log := s201.2, Line := (W64 (s246.2 + 1)) } : Ref), To := ({ Log := s201.2, Line := s246.2 } : Ref), Most := (W64 ((W64 (1 + (W64 (Int.tdiv (W64 ((W64 (x224.Clock.Drift * j353)) + 999)) 1000)))) - j353)), Kind := 3, ID := s246.2 } : Bound)]).bind fun r404 => some (.next (r404, (W64 (s246.2 + 1)))))))))) else some (.done (s246.1, s246.2)))
def ref03_bounds_L2 (N : Nat) (x0 : System) (s17 : (List Bound × Int)) : (List Bound × Int) → Option (Flow (List Bound) (List Bound × Int)) := fun s201 =>
 (bif (decide (s201.2 < (x0.Tracks.length : Int))) then ((idx x0.Tracks s201.2).bind fun x224 => ((iter (ref03_bounds_L3 N x0 s17 s201 x224) N (s201.1, 0)).bind fun o => o.k (fun r => some (.ret r)) (fun s256 => some (.next (s256.1, (W64 (s201.2 + 1))))))) else some (.done (s201.1, s201.2)))
def ref03_bounds_L4 (N : Nat) (x0 : System) (s17 : (List Bound × Int)) (s209 : (List Bound × Int)) : (List Bound × Int) → Option (Flow (List Bound) (List Bound × Int)) := fun s429 =>
 (bif (decide (s429.2 < (x0.Ties.length : Int))) then ((idx x0.Ties s429.2).bind fun x451 => ((apnd s429.1 [({ From := x451.A, To := x451.B, Most := x0.Window, Kind := 4, ID := s429.2 } : Bound)]).bind fun r475 => ((apnd r475 [({ From := x451.B, To := x451.A, Most := x0.Window, Kind := 4, ID := s429.2 } : Bound)]).bind fun r489 => some (.next (r489, (W64 (s429.2 + 1))))))) else some (.done (s429.1, s429.2)))
def ref03_bounds (N : Nat) (x0 : System) : Option (List Bound) :=
 ((iter (ref03_bounds_L0 N x0) N (([] : List Bound), 0)).bind fun o => o.k (fun r => some r) (fun s17 => ((iter (ref03_bounds_L2 N x0 s17) N (s17.1, 0)).bind fun o => o.k (fun r => some r) (fun s209 => ((iter (ref03_bounds_L4 N x0 s17 s209) N (s209.1, 0)).bind fun o => o.k (fun r => some r) (fun s437 => some s437.1))))))
theorem co_ref03_bounds : CallOk Try.prog 84 := fun _ _ => by kernel_rfl
set_option maxHeartbeats 4000000 in
set_option maxRecDepth 100000 in
theorem c_ref03_bounds (N : Nat) (w0 : World) (F0 : Mem) (hF : ∀ b o, F0 b = some o → w0.heap[b]? = some o) (x0 : System) (a0_0 : Option Addr) (n0_0 : Nat) (hb0_0 : LC x0.Tracks.length n0_0) (hs0_0 : SlA tTrack F0 a0_0 x0.Tracks) (a0_1 : Option Addr) (n0_1 : Nat) (hb0_1 : LC x0.Ties.length n0_1) (hs0_1 : SlA tTie F0 a0_1 x0.Ties) (r : (List Bound)) (h : ref03_bounds N x0 = some r) :
  Calls Try.prog 84 ([(.agg (kSystem x0 a0_0 n0_0 a0_1 n0_1))] : List Value).toArray w0 (FRet w0 F0 fun F' v => ∃ (aq0_0 : Option Addr) (nq0_0 : Nat), v = (.slice aq0_0 r.length nq0_0) ∧ LC r.length nq0_0 ∧ SlA tBound F' aq0_0 r) := by
 have hs0 := HS.start hF
 refine calls_of (n := 194) (c := bodyOf Try.f84) Try.func84 (by kernel_rfl) (by kernel_rfl) (by kernel_rfl) ?_
 refine Sq (Rg [0, 1] ?_)
 refine Bx 1 0 0 25 (kSystem x0 a0_0 n0_0 a0_1 n0_1) hs0 (fun b1 w2 (hs3 : HS w0 F0 w2 F0 [(sb b1 (kSystem x0 a0_0 n0_0 a0_1 n0_1) 25)]) => ?_)
 refine V 2 57 (mc (.slice none 0 0) (.slice none ([] : List Bound).length 0)) ?_
 refine Nss (Rg [0] ?_)
 refine V 3 57 (mc (.slice none 0 0) (.slice none ([] : List Bound).length 0)) ?_
 refine Nss ?_
 refine Sq (Rg [0] ?_)
 refine V 4 3 (mc (vi 0) (vi 0)) ?_
 refine Nt ?_
 have hs4 : HS w0 F0 w2 F0 [(none, .cells #[] 0 (0, 0)), (sb b1 (kSystem x0 a0_0 n0_0 a0_1 n0_1) 25)] := hs3.dummy _
 obtain ⟨o6, ho7, h8⟩ := bind_some h
 refine CWP.cut (fun f w => ∃ (s17 : (List Bound × Int)) (F2 : Mem) (as17_0 : Option Addr) (ns17_0 : Nat) (es17_0 : Option Nat × Obj), o6 = .done s17 ∧ HS w0 F0 w F2 [es17_0, (sb b1 (kSystem x0 a0_0 n0_0 a0_1 n0_1) 25)] ∧ Mem.le F0 F2 ∧ f.d = [] ∧ f 1 = (.pointer (some ⟨b1, 0, none⟩)) ∧ f 3 = (.slice as17_0 s17.1.length ns17_0) ∧ RowR tBound 103 F2 as17_0 ns17_0 s17.1 es17_0) ?_ ?_
 ·refine Bk ?_
  refine CWP.loop (by kernel_rfl) (fun m f w => ∃ (s9 : (List Bound × Int)) (F1 : Mem) (as9_0 : Option Addr) (ns9_0 : Nat) (es9_0 : Option Nat × Obj), iter (ref03_bounds_L0 N x0) m s9 = some o6 ∧ HS w0 F0 w F1 [es9_0, (sb b1 (kSystem x0 a0_0 n0_0 a0_1 n0_1) 25)] ∧ Mem.le F0 F1 ∧ f.d = [] ∧ f 1 = (.pointer (some ⟨b1, 0, none⟩)) ∧ f 3 = (.slice as9_0 s9.1.length ns9_0) ∧ f 4 = (vi s9.2) ∧ RowR tBound 103 F1 as9_0 ns9_0 s9.1 es9_0) N ⟨(([] : List Bound), 0), F0, none, 0, (none, .cells #[] 0 (0, 0)), ho7, hs4, (Mem.le.refl _), rfl, rfl, rfl, rfl, (RowR.nil tBound 103 F0 _)⟩ ?_
  rintro m24 f w10 ⟨s9, F1, as9_0, ns9_0, es9_0, hit25, hs11, le12, e13, e14, e15, e16, hrs9_0⟩
  obtain ⟨m26, fl27, rfl, hb28, hnx29⟩ := iter_step hit25
  refine Sq ?_
  refine Sq (Rg [0, 1, 2, 3, 4] ?_)
  refine V 17 3 (mv 4 (vi s9.2) e16) ?_
  refine V 18 0 (fa 25 1 0 0 1 b1 0 0 e14) ?_
  refine V 19 22 (ld 22 18 b1 0 false 1 (.slice a0_0 x0.Tracks.length n0_0) (hs11.ownAt (k := 1) rfl)) ?_
  refine V 20 3 (ln 19 22 a0_0 x0.Tracks.length n0_0 54 4 64) ?_
  refine V 21 4 (run_lss (t := 3) (t' := 3) (x := (.tmp 17)) (y := (.tmp 20)) (k := .i64) (a := s9.2) (b := (x0.Tracks.length : Int)) rfl rfl) ?_
  refine Nt ?_
  refine CWP.cond (t := (decide (s9.2 < (x0.Tracks.length : Int)))) (by kernel_rfl) rfl (fun hb30 => ?_) (fun hb30 => ?_)
  ·have h31 := cond_t hb28 hb30
   refine Sc ?_
   refine thenQ_nrm ?_
   refine Sq ?_
   refine Bk ?_
   refine Sq (Rg [0, 1, 2, 3, 4, 5, 6] ?_)
   refine V 24 0 (fa 25 1 0 0 1 b1 0 0 e14) ?_
   refine V 25 22 (ld 22 24 b1 0 false 1 (.slice a0_0 x0.Tracks.length n0_0) (hs11.ownAt (k := 1) rfl)) ?_
   refine V 26 3 (mv 4 (vi s9.2) e16) ?_
   obtain ⟨x32, hx33, h35⟩ := bind_some h31
   obtain ⟨hi34, hx33'⟩ := idx_spec hx33
   obtain ⟨b36, o37, C38, E39, fz40, rfl, hF42, hE43⟩ := SlA.open (SlA.mono hs0_0 le12) hx33'
   obtain ⟨ae44_2, ne44_2, ae44_3, ne44_3, hc45, hbe44_2, hse44_2, hbe44_3, hse44_3⟩ := hE43 _ _ hx33'
   refine V 27 0 (ix 22 25 26 b36 o37 54 4 64 hi34) ?_
   refine V 28 54 (lx 54 27 0 4 true 4 (.agg (kTrack x32 ae44_2 ne44_2 ae44_3 ne44_3)) (hs11.pers _ _ hF42) hc45) ?_
   refine Al 5 0 54 #[(vi 0), (vi 0), (.slice none ([] : List Int).length 0), (.slice none ([] : List Int).length 0)] hs11 (fun b46 w47 (hs48 : HS w0 F0 w47 F1 [(sb b46 #[(vi 0), (vi 0), (.slice none ([] : List Int).length 0), (.slice none ([] : List Int).length 0)] 54), es9_0, (sb b1 (kSystem x0 (some ⟨b36, o37, none⟩) n0_0 a0_1 n0_1) 25)]) => ?_)
   refine RWP.store (ty := 0) (g := none) (by kernel_rfl) rfl (x := (.tmp 5)) (y := (.tmp 28)) (t := 54) (gg := true) (s := 4) (v := (.agg (kTrack x32 ae44_2 ne44_2 ae44_3 ne44_3))) (b := b46) (o := 0) (C := #[(vi 0), (vi 0), (.slice none ([] : List Int).length 0), (.slice none ([] : List Int).length 0)]) rfl rfl (by kernel_rfl) hs48 (k := 0) rfl rfl rfl rfl (C' := (kTrack x32 ae44_2 ne44_2 ae44_3 ne44_3)) rfl (fun w49 (hs50 : HS w0 F0 w49 F1 [(sb b46 (kTrack x32 ae44_2 ne44_2 ae44_3 ne44_3) 54), es9_0, (sb b1 (kSystem x0 (some ⟨b36, o37, none⟩) n0_0 a0_1 n0_1) 25)]) => ?_)
   refine Nss (Rg [0] ?_)
   refine V 6 3 (mc (vi 0) (vi 0)) ?_
   refine Nt ?_
   obtain ⟨o51, ho52, h53⟩ := bind_some h35
   refine CWP.cut (fun f w => ∃ (s64 : (List Bound × Int)) (F4 : Mem) (as64_0 : Option Addr) (ns64_0 : Nat) (es64_0 : Option Nat × Obj), o51 = .done s64 ∧ HS w0 F0 w F4 [es64_0, (sb b1 (kSystem x0 (some ⟨b36, o37, none⟩) n0_0 a0_1 n0_1) 25)] ∧ Mem.le F1 F4 ∧ f.d = [] ∧ f 1 = (.pointer (some ⟨b1, 0, none⟩)) ∧ f 3 = (.slice as64_0 s64.1.length ns64_0) ∧ f 4 = (vi s9.2) ∧ RowR tBound 103 F4 as64_0 ns64_0 s64.1 es64_0) ?_ ?_
   ·refine Bk ?_
    refine CWP.loop (by kernel_rfl) (fun m f w => ∃ (s54 : (List Bound × Int)) (F3 : Mem) (as54_0 : Option Addr) (ns54_0 : Nat) (es54_0 : Option Nat × Obj), iter (ref03_bounds_L1 N x0 s9 x32) m s54 = some o51 ∧ HS w0 F0 w F3 [(sb b46 (kTrack x32 ae44_2 ne44_2 ae44_3 ne44_3) 54), es54_0, (sb b1 (kSystem x0 (some ⟨b36, o37, none⟩) n0_0 a0_1 n0_1) 25)] ∧ Mem.le F1 F3 ∧ f.d = [] ∧ f 1 = (.pointer (some ⟨b1, 0, none⟩)) ∧ f 3 = (.slice as54_0 s54.1.length ns54_0) ∧ f 4 = (vi s9.2) ∧ f 5 = (.pointer (some ⟨b46, 0, none⟩)) ∧ f 6 = (vi s54.2) ∧ RowR tBound 103 F3 as54_0 ns54_0 s54.1 es54_0) N ⟨(s9.1, 0), F1, as9_0, ns9_0, es9_0, ho52, hs50, (Mem.le.refl _), e13, e14, e15, e16, rfl, rfl, hrs9_0⟩ ?_
    rintro m72 f w55 ⟨s54, F3, as54_0, ns54_0, es54_0, hit73, hs56, le57, e58, e59, e60, e61, e62, e63, hrs54_0⟩
    obtain ⟨m74, fl75, rfl, hb76, hnx77⟩ := iter_step hit73
    refine Sq ?_
    refine Sq (Rg [0, 1, 2, 3, 4] ?_)
    refine V 29 3 (mv 6 (vi s54.2) e63) ?_
    refine V 30 0 (fa 54 5 1 3 1 b46 0 3 e62) ?_
    refine V 31 50 (ld 50 30 b46 3 false 1 (.slice ae44_3 x32.Times.length ne44_3) (hs56.ownAt (k := 0) rfl)) ?_
    refine V 32 3 (ln 31 50 ae44_3 x32.Times.length ne44_3 3 1 8) ?_
    refine V 33 4 (run_lss (t := 3) (t' := 3) (x := (.tmp 29)) (y := (.tmp 32)) (k := .i64) (a := s54.2) (b := (x32.Times.length : Int)) rfl rfl) ?_
    refine Nt ?_
    refine CWP.cond (t := (decide (s54.2 < (x32.Times.length : Int)))) (by kernel_rfl) rfl (fun hb78 => ?_) (fun hb78 => ?_)
    ·have h79 := cond_t hb76 hb78
     refine Sc ?_
     refine thenQ_nrm ?_
     refine Sq ?_
     refine Bk ?_
     refine Sq (Rg [0, 1, 2, 3, 4] ?_)
     refine V 36 3 (mv 4 (vi s9.2) e61) ?_
     refine V 37 3 (mv 6 (vi s54.2) e63) ?_
     refine V 38 27 (run_build2 (t := 27) (parts := #[(0, (.tmp 36)), (1, (.tmp 37))]) (vs := [(0, (vi s9.2)), (1, (vi s54.2))]) (rfl) (cs := [(vi s9.2), (vi s54.2)]) (by kernel_rfl)) ?_
     refine Al 7 0 27 #[(vi 0), (vi 0)] hs56 (fun b80 w81 (hs82 : HS w0 F0 w81 F3 [(sb b80 #[(vi 0), (vi 0)] 27), (sb b46 (kTrack x32 ae44_2 ne44_2 ae44_3 ne44_3) 54), es54_0, (sb b1 (kSystem x0 (some ⟨b36, o37, none⟩) n0_0 a0_1 n0_1) 25)]) => ?_)
     refine RWP.store (ty := 0) (g := none) (by kernel_rfl) rfl (x := (.tmp 7)) (y := (.tmp 38)) (t := 27) (gg := true) (s := 2) (v := (.agg #[(vi s9.2), (vi s54.2)])) (b := b80) (o := 0) (C := #[(vi 0), (vi 0)]) rfl rfl (by kernel_rfl) hs82 (k := 0) rfl rfl rfl rfl (C' := #[(vi s9.2), (vi s54.2)]) rfl (fun w83 (hs84 : HS w0 F0 w83 F3 [(sb b80 #[(vi s9.2), (vi s54.2)] 27), (sb b46 (kTrack x32 ae44_2 ne44_2 ae44_3 ne44_3) 54), es54_0, (sb b1 (kSystem x0 (some ⟨b36, o37, none⟩) n0_0 a0_1 n0_1) 25)]) => ?_)
     refine Nss ?_
     obtain ⟨j90, hj98, h99⟩ := bind_some h79
     refine CWP.regionD (by kernel_rfl) (by kernel_rfl) (by kernel_rfl) (by kernel_rfl) (z := 17) (F := F3) (Lc := [(sb b80 #[(vi s9.2), (vi s54.2)] 27), (sb b46 (kTrack x32 ae44_2 ne44_2 ae44_3 ne44_3) 54), (sb b1 (kSystem x0 (some ⟨b36, o37, none⟩) n0_0 a0_1 n0_1) 25)]) (Lz := []) (l := [false, false, false, false, false, false, false, false, false, false, false, false, false, false, false, false, false]) (fuel := 17) (by kernel_rfl) (by kernel_rfl) hs84 (by simp) (by simp) (fun f w => ∃ (F5 : Mem) (aj90_0 : Option Addr) (nj90_0 : Nat) (ej90_0 : Option Nat × Obj), HS w0 F0 w F5 [(sb b80 #[(vi s9.2), (vi s54.2)] 27), (sb b46 (kTrack x32 ae44_2 ne44_2 ae44_3 ne44_3) 54), ej90_0, (sb b1 (kSystem x0 (some ⟨b36, o37, none⟩) n0_0 a0_1 n0_1) 25)] ∧ Mem.le F3 F5 ∧ f.d = [] ∧ f 1 = (.pointer (some ⟨b1, 0, none⟩)) ∧ f 3 = (.slice aj90_0 j90.length nj90_0) ∧ f 4 = (vi s9.2) ∧ f 5 = (.pointer (some ⟨b46, 0, none⟩)) ∧ f 6 = (vi s54.2) ∧ f 7 = (.pointer (some ⟨b80, 0, none⟩)) ∧ RowR tBound 103 F5 aj90_0 nj90_0 j90 ej90_0) (fun wd85 hw86 => ?_) ?_
     ·refine Dt 0 39 57 _ (fun _ hq => mv 3 (.slice as54_0 s54.1.length ns54_0) e60) ?_
      refine Dt 2 41 27 _ (fun _ hq => ld 27 7 b80 0 true 2 (.agg #[(vi s9.2), (vi s54.2)]) (hq.1.2 0 _ _ rfl)) ?_
      refine Dt 3 42 0 (.pointer (some ⟨b46, 3, none⟩)) (fun _ hq => fa 54 5 1 3 1 b46 0 3 e62) ?_
      refine Dt 4 43 50 _ (fun _ hq => ld 50 42 b46 3 false 1 (.slice ae44_3 x32.Times.length ne44_3) (hq.1.2 1 _ _ rfl)) ?_
      refine Dt 5 44 3 _ (fun _ hq => mv 6 (vi s54.2) e63) ?_
      obtain ⟨x100, hx101, h103⟩ := bind_some hj98
      obtain ⟨hi102, hx101'⟩ := idx_spec hx101
      obtain ⟨b104, o105, C106, E107, fz108, rfl, hF110, hE111⟩ := SlA.open (SlA.mono hse44_3 le57) hx101'
      have hc113 := hE111 _ _ hx101'
      refine Dt 6 45 0 (.pointer (some ⟨b104, (o105 + (s54.2 : Int).toNat * 1), none⟩)) (fun _ hq => ix 50 43 44 b104 o105 3 1 8 hi102) ?_
      refine Dt 7 46 3 _ (fun _ hq => lx 3 45 0 1 false 1 (vi x100) (hq.1.1 _ _ hF110) hc113) ?_
      refine Dt 8 47 0 (.pointer (some ⟨b46, 0, none⟩)) (fun _ hq => fa 54 5 0 0 3 b46 0 0 e62) ?_
      refine Dt 9 48 0 (.pointer (some ⟨b46, 0, none⟩)) (fun _ hq => fa 52 47 0 0 1 b46 0 0) ?_
      refine Dt 10 49 3 _ (fun _ hq => ld 3 48 b46 0 false 1 (vi x32.Clock.Slip) (hq.1.2 1 _ _ rfl)) ?_
      refine Dt 11 50 3 (vi (W64 (x100 + x32.Clock.Slip))) (fun _ hq => run_add (t := 3) (t' := 3) (x := (.tmp 46)) (y := (.tmp 49)) (k := .i64) (a := x100) (b := x32.Clock.Slip) rfl rfl) ?_
      refine Dt 12 51 3 _ (fun _ hq => mv 6 (vi s54.2) e63) ?_
      refine DWP.one (i := 1) (by kernel_rfl) ?_
      obtain ⟨r114, hr115, h116⟩ := bind_some h103
      refine DStep.call (l' := [true, true, true, true, true, true, true, true, true, true, true, true, true, false, false, false, false]) (zd := true) (by kernel_rfl) (by kernel_rfl) (by kernel_rfl) (dst := (some 40)) (ty := 27) (g := none) (by kernel_rfl) rfl (f0 := (.func 109)) (aos := #[]) (ats := #[]) (fid := 109) (first := #[]) (cap := #[]) (args := []) rfl co_ref03_Beginning (rfl) hw86 (c_ref03_Beginning N wd85 F3 hw86.pers  _ hr115) ?_
      intro v117 F6 w118 hs119 le120 hp121
      obtain rfl := hp121
      refine Dt 13 52 103 (.agg #[(vi r114.Log), (vi r114.Line), (vi s9.2), (vi s54.2), (vi (W64 (x100 + x32.Clock.Slip))), (vi 1), (vi s54.2)]) (fun _ hq => run_build2 (t := 103) (parts := #[(0, (.tmp 40)), (1, (.tmp 41)), (2, (.tmp 50)), (3, (.const (vi 1))), (4, (.tmp 51))]) (vs := [(0, (.agg (kRef r114))), (1, (.agg #[(vi s9.2), (vi s54.2)])), (2, (vi (W64 (x100 + x32.Clock.Slip)))), (3, (vi 1)), (4, (vi s54.2))]) (rfl) (cs := [(vi r114.Log), (vi r114.Line), (vi s9.2), (vi s54.2), (vi (W64 (x100 + x32.Clock.Slip))), (vi 1), (vi s54.2)]) (by kernel_rfl)) ?_
      refine DWP.one (i := 14) (by kernel_rfl) ?_
      refine DStep.buildSlice (l' := [true, true, true, true, true, true, true, true, true, true, true, true, true, true, true, false, false]) (zd := true) (by kernel_rfl) (by kernel_rfl) (dst := (some 53)) (ty := 57) (g := none) (by kernel_rfl) rfl (t := 57) (len := 1) (parts := #[(0, (.tmp 52))]) (vs := [(0, (.agg #[(vi r114.Log), (vi r114.Line), (vi s9.2), (vi s54.2), (vi (W64 (x100 + x32.Clock.Slip))), (vi 1), (vi s54.2)]))]) (rfl) (E := 103) (cs := [(vi r114.Log), (vi r114.Line), (vi s9.2), (vi s54.2), (vi (W64 (x100 + x32.Clock.Slip))), (vi 1), (vi s54.2)]) (by kernel_rfl) hs119 le120 (by simp) (fun e => by cases e) (fun b122 w123 (hs124 : HS w0 F0 w123 F6 [(some b122, .cells ([(vi r114.Log), (vi r114.Line), (vi s9.2), (vi s54.2), (vi (W64 (x100 + x32.Clock.Slip))), (vi 1), (vi s54.2)] : List Value).toArray 103 (0, 0)), (sb b80 #[(vi s9.2), (vi s54.2)] 27), (sb b46 (kTrack x32 ae44_2 ne44_2 (some ⟨b104, o105, none⟩) ne44_3) 54), es54_0, (sb b1 (kSystem x0 (some ⟨b36, o37, none⟩) n0_0 a0_1 n0_1) 25)]) => ?_)
      have hr126 : RowR tBound 103 F6 (some ⟨b122, 0, none⟩) 1 [({ From := r114, To := ({ Log := s9.2, Line := s54.2 } : Ref), Most := (W64 (x100 + x32.Clock.Slip)), Kind := 1, ID := s54.2 } : Bound)] (some b122, .cells ([(vi r114.Log), (vi r114.Line), (vi s9.2), (vi s54.2), (vi (W64 (x100 + x32.Clock.Slip))), (vi 1), (vi s54.2)] : List Value).toArray 103 (0, 0)) := RowR.lit ⟨rfl, rfl⟩ (by simp)
      refine DWP.one (i := 15) (by kernel_rfl) ?_
      obtain ⟨r127, hap128, h129⟩ := bind_some h116
      refine DStep.append (l' := [true, true, true, true, true, true, true, true, true, true, true, true, true, true, true, true, false]) (zd := true) (by kernel_rfl) (by kernel_rfl) (dst := (some 54)) (ty := 57) (g := none) (by kernel_rfl) rfl (x := (.tmp 39)) (y := (.tmp 53)) (t := 57) (t2 := 57) (by_ := 56) (z := (.agg #[(vi 0), (vi 0), (vi 0), (vi 0), (vi 0), (vi 0), (vi 0)])) (a2 := (some ⟨b122, 0, none⟩)) (c2 := 1) (m := [({ From := r114, To := ({ Log := s9.2, Line := s54.2 } : Ref), Most := (W64 (x100 + x32.Clock.Slip)), Kind := 1, ID := s54.2 } : Bound)]) (T := tBound) (E := 103) (a := as54_0) (cap := ns54_0) (l := s54.1) rfl rfl (by kernel_rfl) (by decide) (by kernel_rfl) (by kernel_rfl) rfl oBound hs124 (k := 3) rfl (hrs54_0.mono le120) (RowR.rd hs124 (k := 0) rfl hr126) (r := r127) hap128 le120 (fun _ => by simp) (fun e => by cases e) (fun a130 n131 e132 w133 (hs134 : HS w0 F0 w133 F6 [(some b122, .cells ([(vi r114.Log), (vi r114.Line), (vi s9.2), (vi s54.2), (vi (W64 (x100 + x32.Clock.Slip))), (vi 1), (vi s54.2)] : List Value).toArray 103 (0, 0)), (sb b80 #[(vi s9.2), (vi s54.2)] 27), (sb b46 (kTrack x32 ae44_2 ne44_2 (some ⟨b104, o105, none⟩) ne44_3) 54), e132, (sb b1 (kSystem x0 (some ⟨b36, o37, none⟩) n0_0 a0_1 n0_1) 25)]) hr135 => ?_)
      refine Dt 16 3 57 _ (fun _ hq => ma 54 (.slice a130 r127.length n131)) ?_
      obtain rfl := some_inj h129
      have hs136 : HS w0 F0 w133 F6 [(sb b80 #[(vi s9.2), (vi s54.2)] 27), (sb b46 (kTrack x32 ae44_2 ne44_2 (some ⟨b104, o105, none⟩) ne44_3) 54), e132, (sb b1 (kSystem x0 (some ⟨b36, o37, none⟩) n0_0 a0_1 n0_1) 25)] := hs134.drop 0
      exact DWP.done (by kernel_rfl) ⟨F6, a130, n131, e132, hs136, le120, e58, e59, rfl, e61, e62, e63, rfl, hr135⟩
     ·rintro f w87 ⟨F5, aj90_0, nj90_0, ej90_0, hs88, le89, e91, e92, e93, e94, e95, e96, e97, hrj90_0⟩
      refine thenQ_nrm ?_
      obtain ⟨j142, hj149, h150⟩ := bind_some h99
      refine CWP.regionD (by kernel_rfl) (by kernel_rfl) (by kernel_rfl) (by kernel_rfl) (z := 17) (F := F5) (Lc := [(sb b80 #[(vi s9.2), (vi s54.2)] 27), (sb b46 (kTrack x32 ae44_2 ne44_2 ae44_3 ne44_3) 54), (sb b1 (kSystem x0 (some ⟨b36, o37, none⟩) n0_0 a0_1 n0_1) 25)]) (Lz := []) (l := [false, false, false, false, false, false, false, false, false, false, false, false, false, false, false, false, false]) (fuel := 17) (by kernel_rfl) (by kernel_rfl) hs88 (by simp) (by simp) (fun f w => ∃ (F7 : Mem) (aj142_0 : Option Addr) (nj142_0 : Nat) (ej142_0 : Option Nat × Obj), HS w0 F0 w F7 [(sb b46 (kTrack x32 ae44_2 ne44_2 ae44_3 ne44_3) 54), ej142_0, (sb b1 (kSystem x0 (some ⟨b36, o37, none⟩) n0_0 a0_1 n0_1) 25)] ∧ Mem.le F5 F7 ∧ f.d = [] ∧ f 1 = (.pointer (some ⟨b1, 0, none⟩)) ∧ f 3 = (.slice aj142_0 j142.length nj142_0) ∧ f 4 = (vi s9.2) ∧ f 5 = (.pointer (some ⟨b46, 0, none⟩)) ∧ f 6 = (vi s54.2) ∧ RowR tBound 103 F7 aj142_0 nj142_0 j142 ej142_0) (fun wd137 hw138 => ?_) ?_
      ·refine Dt 0 55 57 _ (fun _ hq => mv 3 (.slice aj90_0 j90.length nj90_0) e93) ?_
       refine Dt 1 56 27 _ (fun _ hq => ld 27 7 b80 0 true 2 (.agg #[(vi s9.2), (vi s54.2)]) (hq.1.2 0 _ _ rfl) e97) ?_
       refine Dt 3 58 0 (.pointer (some ⟨b46, 0, none⟩)) (fun _ hq => fa 54 5 0 0 3 b46 0 0 e95) ?_
       refine Dt 4 59 0 (.pointer (some ⟨b46, 0, none⟩)) (fun _ hq => fa 52 58 0 0 1 b46 0 0) ?_
       refine Dt 5 60 3 _ (fun _ hq => ld 3 59 b46 0 false 1 (vi x32.Clock.Slip) (hq.1.2 1 _ _ rfl)) ?_
       refine Dt 6 61 0 (.pointer (some ⟨b46, 3, none⟩)) (fun _ hq => fa 54 5 1 3 1 b46 0 3 e95) ?_
       refine Dt 7 62 50 _ (fun _ hq => ld 50 61 b46 3 false 1 (.slice ae44_3 x32.Times.length ne44_3) (hq.1.2 1 _ _ rfl)) ?_
       refine Dt 8 63 3 _ (fun _ hq => mv 6 (vi s54.2) e96) ?_
       obtain ⟨x151, hx152, h154⟩ := bind_some hj149
       obtain ⟨hi153, hx152'⟩ := idx_spec hx152
       obtain ⟨b155, o156, C157, E158, fz159, rfl, hF161, hE162⟩ := SlA.open (SlA.mono hse44_3 (le57.trans le89)) hx152'
       have hc164 := hE162 _ _ hx152'
       refine Dt 9 64 0 (.pointer (some ⟨b155, (o156 + (s54.2 : Int).toNat * 1), none⟩)) (fun _ hq => ix 50 62 63 b155 o156 3 1 8 hi153) ?_
       refine Dt 10 65 3 _ (fun _ hq => lx 3 64 0 1 false 1 (vi x151) (hq.1.1 _ _ hF161) hc164) ?_
       refine Dt 11 66 3 (vi (W64 (x32.Clock.Slip - x151))) (fun _ hq => run_sub (t := 3) (t' := 3) (x := (.tmp 60)) (y := (.tmp 65)) (k := .i64) (a := x32.Clock.Slip) (b := x151) rfl rfl) ?_
       refine Dt 12 67 3 _ (fun _ hq => mv 6 (vi s54.2) e96) ?_
       refine DWP.one (i := 2) (by kernel_rfl) ?_
       obtain ⟨r165, hr166, h167⟩ := bind_some h154
       refine DStep.call (l' := [true, true, true, true, true, true, true, true, true, true, true, true, true, false, false, false, false]) (zd := true) (by kernel_rfl) (by kernel_rfl) (by kernel_rfl) (dst := (some 57)) (ty := 27) (g := none) (by kernel_rfl) rfl (f0 := (.func 109)) (aos := #[]) (ats := #[]) (fid := 109) (first := #[]) (cap := #[]) (args := []) rfl co_ref03_Beginning (rfl) hw138 (c_ref03_Beginning N wd137 F5 hw138.pers  _ hr166) ?_
       intro v168 F8 w169 hs170 le171 hp172
       obtain rfl := hp172
       refine Dt 13 68 103 (.agg #[(vi s9.2), (vi s54.2), (vi r165.Log), (vi r165.Line), (vi (W64 (x32.Clock.Slip - x151))), (vi 1), (vi s54.2)]) (fun _ hq => run_build2 (t := 103) (parts := #[(0, (.tmp 56)), (1, (.tmp 57)), (2, (.tmp 66)), (3, (.const (vi 1))), (4, (.tmp 67))]) (vs := [(0, (.agg #[(vi s9.2), (vi s54.2)])), (1, (.agg (kRef r165))), (2, (vi (W64 (x32.Clock.Slip - x151)))), (3, (vi 1)), (4, (vi s54.2))]) (rfl) (cs := [(vi s9.2), (vi s54.2), (vi r165.Log), (vi r165.Line), (vi (W64 (x32.Clock.Slip - x151))), (vi 1), (vi s54.2)]) (by kernel_rfl)) ?_
       refine DWP.one (i := 14) (by kernel_rfl) ?_
       refine DStep.buildSlice (l' := [true, true, true, true, true, true, true, true, true, true, true, true, true, true, true, false, false]) (zd := true) (by kernel_rfl) (by kernel_rfl) (dst := (some 69)) (ty := 57) (g := none) (by kernel_rfl) rfl (t := 57) (len := 1) (parts := #[(0, (.tmp 68))]) (vs := [(0, (.agg #[(vi s9.2), (vi s54.2), (vi r165.Log), (vi r165.Line), (vi (W64 (x32.Clock.Slip - x151))), (vi 1), (vi s54.2)]))]) (rfl) (E := 103) (cs := [(vi s9.2), (vi s54.2), (vi r165.Log), (vi r165.Line), (vi (W64 (x32.Clock.Slip - x151))), (vi 1), (vi s54.2)]) (by kernel_rfl) hs170 le171 (by simp) (fun e => by cases e) (fun b173 w174 (hs175 : HS w0 F0 w174 F8 [(some b173, .cells ([(vi s9.2), (vi s54.2), (vi r165.Log), (vi r165.Line), (vi (W64 (x32.Clock.Slip - x151))), (vi 1), (vi s54.2)] : List Value).toArray 103 (0, 0)), (sb b80 #[(vi s9.2), (vi s54.2)] 27), (sb b46 (kTrack x32 ae44_2 ne44_2 (some ⟨b155, o156, none⟩) ne44_3) 54), ej90_0, (sb b1 (kSystem x0 (some ⟨b36, o37, none⟩) n0_0 a0_1 n0_1) 25)]) => ?_)
       have hr177 : RowR tBound 103 F8 (some ⟨b173, 0, none⟩) 1 [({ From := ({ Log := s9.2, Line := s54.2 } : Ref), To := r165, Most := (W64 (x32.Clock.Slip - x151)), Kind := 1, ID := s54.2 } : Bound)] (some b173, .cells ([(vi s9.2), (vi s54.2), (vi r165.Log), (vi r165.Line), (vi (W64 (x32.Clock.Slip - x151))), (vi 1), (vi s54.2)] : List Value).toArray 103 (0, 0)) := RowR.lit ⟨rfl, rfl⟩ (by simp)
       refine DWP.one (i := 15) (by kernel_rfl) ?_
       obtain ⟨r178, hap179, h180⟩ := bind_some h167
       refine DStep.append (l' := [true, true, true, true, true, true, true, true, true, true, true, true, true, true, true, true, false]) (zd := true) (by kernel_rfl) (by kernel_rfl) (dst := (some 70)) (ty := 57) (g := none) (by kernel_rfl) rfl (x := (.tmp 55)) (y := (.tmp 69)) (t := 57) (t2 := 57) (by_ := 56) (z := (.agg #[(vi 0), (vi 0), (vi 0), (vi 0), (vi 0), (vi 0), (vi 0)])) (a2 := (some ⟨b173, 0, none⟩)) (c2 := 1) (m := [({ From := ({ Log := s9.2, Line := s54.2 } : Ref), To := r165, Most := (W64 (x32.Clock.Slip - x151)), Kind := 1, ID := s54.2 } : Bound)]) (T := tBound) (E := 103) (a := aj90_0) (cap := nj90_0) (l := j90) rfl rfl (by kernel_rfl) (by decide) (by kernel_rfl) (by kernel_rfl) rfl oBound hs175 (k := 3) rfl (hrj90_0.mono le171) (RowR.rd hs175 (k := 0) rfl hr177) (r := r178) hap179 le171 (fun _ => by simp) (fun e => by cases e) (fun a181 n182 e183 w184 (hs185 : HS w0 F0 w184 F8 [(some b173, .cells ([(vi s9.2), (vi s54.2), (vi r165.Log), (vi r165.Line), (vi (W64 (x32.Clock.Slip - x151))), (vi 1), (vi s54.2)] : List Value).toArray 103 (0, 0)), (sb b80 #[(vi s9.2), (vi s54.2)] 27), (sb b46 (kTrack x32 ae44_2 ne44_2 (some ⟨b155, o156, none⟩) ne44_3) 54), e183, (sb b1 (kSystem x0 (some ⟨b36, o37, none⟩) n0_0 a0_1 n0_1) 25)]) hr186 => ?_)
       refine Dt 16 3 57 _ (fun _ hq => ma 70 (.slice a181 r178.length n182)) ?_
       obtain rfl := some_inj h180
       have hs187 : HS w0 F0 w184 F8 [(sb b80 #[(vi s9.2), (vi s54.2)] 27), (sb b46 (kTrack x32 ae44_2 ne44_2 (some ⟨b155, o156, none⟩) ne44_3) 54), e183, (sb b1 (kSystem x0 (some ⟨b36, o37, none⟩) n0_0 a0_1 n0_1) 25)] := hs185.drop 0
       have hs188 : HS w0 F0 w184 F8 [(sb b46 (kTrack x32 ae44_2 ne44_2 (some ⟨b155, o156, none⟩) ne44_3) 54), e183, (sb b1 (kSystem x0 (some ⟨b36, o37, none⟩) n0_0 a0_1 n0_1) 25)] := hs187.drop 0
       exact DWP.done (by kernel_rfl) ⟨F8, a181, n182, e183, hs188, le171, e91, e92, rfl, e94, e95, e96, hr186⟩
      ·rintro f w139 ⟨F7, aj142_0, nj142_0, ej142_0, hs140, le141, e143, e144, e145, e146, e147, e148, hrj142_0⟩
       refine blockQ_nrm ?_
       refine thenQ_nrm ?_
       refine Rg [0, 1, 2] ?_
       refine V 34 3 (mv 6 (vi s54.2) e148) ?_
       refine V 35 3 (run_add (t := 3) (t' := 3) (x := (.tmp 34)) (y := (.const (vi 1))) (k := .i64) (a := s54.2) (b := 1) rfl rfl) ?_
       refine V 6 3 (ma 35 (vi (W64 (s54.2 + 1)))) ?_
       refine RWP.nil ?_
       have hn189 := iter_next h150 hnx77
       exact ⟨m74, Nat.lt_succ_self _, (j142, (W64 (s54.2 + 1))), F7, aj142_0, nj142_0, ej142_0, hn189, hs140, ((le57.trans le89).trans le141), e143, e144, e145, e146, e147, rfl, hrj142_0⟩
    ·have h190 := cond_f hb76 hb78
     refine CWP.exit (by kernel_rfl) ?_
     refine thenQ_ex ?_
     refine thenQ_ex ?_
     refine blockQ_hit rfl ?_
     have hs191 : HS w0 F0 w55 F3 [es54_0, (sb b1 (kSystem x0 (some ⟨b36, o37, none⟩) n0_0 a0_1 n0_1) 25)] := hs56.drop 0
     have ho192 := iter_done h190 hnx77
     exact .inl ⟨rfl, (s54.1, s54.2), F3, as54_0, ns54_0, es54_0, ho192, hs191, le57, e58, e59, e60, e61, hrs54_0⟩
   ·rintro f w65 ⟨s64, F4, as64_0, ns64_0, es64_0, rfl, hs66, le67, e68, e69, e70, e71, hrs64_0⟩
    have h193 := k_done h53
    refine blockQ_nrm ?_
    refine thenQ_nrm ?_
    refine Rg [0, 1, 2] ?_
    refine V 22 3 (mv 4 (vi s9.2) e71) ?_
    refine V 23 3 (run_add (t := 3) (t' := 3) (x := (.tmp 22)) (y := (.const (vi 1))) (k := .i64) (a := s9.2) (b := 1) rfl rfl) ?_
    refine V 4 3 (ma 23 (vi (W64 (s9.2 + 1)))) ?_
    refine RWP.nil ?_
    have hn194 := iter_next h193 hnx29
    exact ⟨m26, Nat.lt_succ_self _, (s64.1, (W64 (s9.2 + 1))), F4, as64_0, ns64_0, es64_0, hn194, hs66, (le12.trans le67), e68, e69, e70, rfl, hrs64_0⟩
  ·have h195 := cond_f hb28 hb30
   refine CWP.exit (by kernel_rfl) ?_
   refine thenQ_ex ?_
   refine thenQ_ex ?_
   refine blockQ_hit rfl ?_
   have ho196 := iter_done h195 hnx29
   exact .inl ⟨rfl, (s9.1, s9.2), F1, as9_0, ns9_0, es9_0, ho196, hs11, le12, e13, e14, e15, hrs9_0⟩
 ·rintro f w18 ⟨s17, F2, as17_0, ns17_0, es17_0, rfl, hs19, le20, e21, e22, e23, hrs17_0⟩
  have h197 := k_done h8
  refine thenQ_nrm ?_
  refine Sq ?_
  refine Sq (Rg [0] ?_)
  refine V 8 3 (mc (vi 0) (vi 0)) ?_
  refine Nt ?_
  obtain ⟨o198, ho199, h200⟩ := bind_some h197
  refine CWP.cut (fun f w => ∃ (s209 : (List Bound × Int)) (F10 : Mem) (as209_0 : Option Addr) (ns209_0 : Nat) (es209_0 : Option Nat × Obj), o198 = .done s209 ∧ HS w0 F0 w F10 [es209_0, (sb b1 (kSystem x0 a0_0 n0_0 a0_1 n0_1) 25)] ∧ Mem.le F2 F10 ∧ f.d = [] ∧ f 1 = (.pointer (some ⟨b1, 0, none⟩)) ∧ f 3 = (.slice as209_0 s209.1.length ns209_0) ∧ RowR tBound 103 F10 as209_0 ns209_0 s209.1 es209_0) ?_ ?_
  ·refine Bk ?_
   refine CWP.loop (by kernel_rfl) (fun m f w => ∃ (s201 : (List Bound × Int)) (F9 : Mem) (as201_0 : Option Addr) (ns201_0 : Nat) (es201_0 : Option Nat × Obj), iter (ref03_bounds_L2 N x0 s17) m s201 = some o198 ∧ HS w0 F0 w F9 [es201_0, (sb b1 (kSystem x0 a0_0 n0_0 a0_1 n0_1) 25)] ∧ Mem.le F2 F9 ∧ f.d = [] ∧ f 1 = (.pointer (some ⟨b1, 0, none⟩)) ∧ f 3 = (.slice as201_0 s201.1.length ns201_0) ∧ f 8 = (vi s201.2) ∧ RowR tBound 103 F9 as201_0 ns201_0 s201.1 es201_0) N ⟨(s17.1, 0), F2, as17_0, ns17_0, es17_0, ho199, hs19, (Mem.le.refl _), e21, e22, e23, rfl, hrs17_0⟩ ?_
   rintro m216 f w202 ⟨s201, F9, as201_0, ns201_0, es201_0, hit217, hs203, le204, e205, e206, e207, e208, hrs201_0⟩
   obtain ⟨m218, fl219, rfl, hb220, hnx221⟩ := iter_step hit217
   refine Sq ?_
   refine Sq (Rg [0, 1, 2, 3, 4] ?_)
   refine V 71 3 (mv 8 (vi s201.2) e208) ?_
   refine V 72 0 (fa 25 1 0 0 1 b1 0 0 e206) ?_
   refine V 73 22 (ld 22 72 b1 0 false 1 (.slice a0_0 x0.Tracks.length n0_0) (hs203.ownAt (k := 1) rfl)) ?_
   refine V 74 3 (ln 73 22 a0_0 x0.Tracks.length n0_0 54 4 64) ?_
   refine V 75 4 (run_lss (t := 3) (t' := 3) (x := (.tmp 71)) (y := (.tmp 74)) (k := .i64) (a := s201.2) (b := (x0.Tracks.length : Int)) rfl rfl) ?_
   refine Nt ?_
   refine CWP.cond (t := (decide (s201.2 < (x0.Tracks.length : Int)))) (by kernel_rfl) rfl (fun hb222 => ?_) (fun hb222 => ?_)
   ·have h223 := cond_t hb220 hb222
    refine Sc ?_
    refine thenQ_nrm ?_
    refine Sq ?_
    refine Bk ?_
    refine Sq (Rg [0, 1, 2, 3, 4, 5, 6] ?_)
    refine V 78 0 (fa 25 1 0 0 1 b1 0 0 e206) ?_
    refine V 79 22 (ld 22 78 b1 0 false 1 (.slice a0_0 x0.Tracks.length n0_0) (hs203.ownAt (k := 1) rfl)) ?_
    refine V 80 3 (mv 8 (vi s201.2) e208) ?_
    obtain ⟨x224, hx225, h227⟩ := bind_some h223
    obtain ⟨hi226, hx225'⟩ := idx_spec hx225
    obtain ⟨b228, o229, C230, E231, fz232, rfl, hF234, hE235⟩ := SlA.open (SlA.mono hs0_0 (le20.trans le204)) hx225'
    obtain ⟨ae236_2, ne236_2, ae236_3, ne236_3, hc237, hbe236_2, hse236_2, hbe236_3, hse236_3⟩ := hE235 _ _ hx225'
    refine V 81 0 (ix 22 79 80 b228 o229 54 4 64 hi226) ?_
    refine V 82 54 (lx 54 81 0 4 true 4 (.agg (kTrack x224 ae236_2 ne236_2 ae236_3 ne236_3)) (hs203.pers _ _ hF234) hc237) ?_
    refine Al 9 0 54 #[(vi 0), (vi 0), (.slice none ([] : List Int).length 0), (.slice none ([] : List Int).length 0)] hs203 (fun b238 w239 (hs240 : HS w0 F0 w239 F9 [(sb b238 #[(vi 0), (vi 0), (.slice none ([] : List Int).length 0), (.slice none ([] : List Int).length 0)] 54), es201_0, (sb b1 (kSystem x0 (some ⟨b228, o229, none⟩) n0_0 a0_1 n0_1) 25)]) => ?_)
    refine RWP.store (ty := 0) (g := none) (by kernel_rfl) rfl (x := (.tmp 9)) (y := (.tmp 82)) (t := 54) (gg := true) (s := 4) (v := (.agg (kTrack x224 ae236_2 ne236_2 ae236_3 ne236_3))) (b := b238) (o := 0) (C := #[(vi 0), (vi 0), (.slice none ([] : List Int).length 0), (.slice none ([] : List Int).length 0)]) rfl rfl (by kernel_rfl) hs240 (k := 0) rfl rfl rfl rfl (C' := (kTrack x224 ae236_2 ne236_2 ae236_3 ne236_3)) rfl (fun w241 (hs242 : HS w0 F0 w241 F9 [(sb b238 (kTrack x224 ae236_2 ne236_2 ae236_3 ne236_3) 54), es201_0, (sb b1 (kSystem x0 (some ⟨b228, o229, none⟩) n0_0 a0_1 n0_1) 25)]) => ?_)
    refine Nss (Rg [0] ?_)
    refine V 10 3 (mc (vi 0) (vi 0)) ?_
    refine Nt ?_
    obtain ⟨o243, ho244, h245⟩ := bind_some h227
    refine CWP.cut (fun f w => ∃ (s256 : (List Bound × Int)) (F12 : Mem) (as256_0 : Option Addr) (ns256_0 : Nat) (es256_0 : Option Nat × Obj), o243 = .done s256 ∧ HS w0 F0 w F12 [es256_0, (sb b1 (kSystem x0 (some ⟨b228, o229, none⟩) n0_0 a0_1 n0_1) 25)] ∧ Mem.le F9 F12 ∧ f.d = [] ∧ f 1 = (.pointer (some ⟨b1, 0, none⟩)) ∧ f 3 = (.slice as256_0 s256.1.length ns256_0) ∧ f 8 = (vi s201.2) ∧ RowR tBound 103 F12 as256_0 ns256_0 s256.1 es256_0) ?_ ?_
    ·refine Bk ?_
     refine CWP.loop (by kernel_rfl) (fun m f w => ∃ (s246 : (List Bound × Int)) (F11 : Mem) (as246_0 : Option Addr) (ns246_0 : Nat) (es246_0 : Option Nat × Obj), iter (ref03_bounds_L3 N x0 s17 s201 x224) m s246 = some o243 ∧ HS w0 F0 w F11 [(sb b238 (kTrack x224 ae236_2 ne236_2 ae236_3 ne236_3) 54), es246_0, (sb b1 (kSystem x0 (some ⟨b228, o229, none⟩) n0_0 a0_1 n0_1) 25)] ∧ Mem.le F9 F11 ∧ f.d = [] ∧ f 1 = (.pointer (some ⟨b1, 0, none⟩)) ∧ f 3 = (.slice as246_0 s246.1.length ns246_0) ∧ f 8 = (vi s201.2) ∧ f 9 = (.pointer (some ⟨b238, 0, none⟩)) ∧ f 10 = (vi s246.2) ∧ RowR tBound 103 F11 as246_0 ns246_0 s246.1 es246_0) N ⟨(s201.1, 0), F9, as201_0, ns201_0, es201_0, ho244, hs242, (Mem.le.refl _), e205, e206, e207, e208, rfl, rfl, hrs201_0⟩ ?_
     rintro m264 f w247 ⟨s246, F11, as246_0, ns246_0, es246_0, hit265, hs248, le249, e250, e251, e252, e253, e254, e255, hrs246_0⟩
     obtain ⟨m266, fl267, rfl, hb268, hnx269⟩ := iter_step hit265
     refine Sq ?_
     refine Sq (Rg [0, 1, 2, 3, 4, 5] ?_)
     refine V 83 3 (mv 10 (vi s246.2) e255) ?_
     refine V 84 3 (run_add (t := 3) (t' := 3) (x := (.tmp 83)) (y := (.const (vi 1))) (k := .i64) (a := s246.2) (b := 1) rfl rfl) ?_
     refine V 85 0 (fa 54 9 1 3 1 b238 0 3 e254) ?_
     refine V 86 50 (ld 50 85 b238 3 false 1 (.slice ae236_3 x224.Times.length ne236_3) (hs248.ownAt (k := 0) rfl)) ?_
     refine V 87 3 (ln 86 50 ae236_3 x224.Times.length ne236_3 3 1 8) ?_
     refine V 88 4 (run_lss (t := 3) (t' := 3) (x := (.tmp 84)) (y := (.tmp 87)) (k := .i64) (a := (W64 (s246.2 + 1))) (b := (x224.Times.length : Int)) rfl rfl) ?_
     refine Nt ?_
     refine CWP.cond (t := (decide ((W64 (s246.2 + 1)) < (x224.Times.length : Int)))) (by kernel_rfl) rfl (fun hb270 => ?_) (fun hb270 => ?_)
     ·have h271 := cond_t hb268 hb270
      refine Sc ?_
      refine thenQ_nrm ?_
      refine Sq ?_
      refine Bk ?_
      refine Sq (Rg [0, 1, 2, 3, 4] ?_)
      refine V 91 3 (mv 8 (vi s201.2) e253) ?_
      refine V 92 3 (mv 10 (vi s246.2) e255) ?_
      refine V 93 27 (run_build2 (t := 27) (parts := #[(0, (.tmp 91)), (1, (.tmp 92))]) (vs := [(0, (vi s201.2)), (1, (vi s246.2))]) (rfl) (cs := [(vi s201.2), (vi s246.2)]) (by kernel_rfl)) ?_
      refine Al 11 0 27 #[(vi 0), (vi 0)] hs248 (fun b272 w273 (hs274 : HS w0 F0 w273 F11 [(sb b272 #[(vi 0), (vi 0)] 27), (sb b238 (kTrack x224 ae236_2 ne236_2 ae236_3 ne236_3) 54), es246_0, (sb b1 (kSystem x0 (some ⟨b228, o229, none⟩) n0_0 a0_1 n0_1) 25)]) => ?_)
      refine RWP.store (ty := 0) (g := none) (by kernel_rfl) rfl (x := (.tmp 11)) (y := (.tmp 93)) (t := 27) (gg := true) (s := 2) (v := (.agg #[(vi s201.2), (vi s246.2)])) (b := b272) (o := 0) (C := #[(vi 0), (vi 0)]) rfl rfl (by kernel_rfl) hs274 (k := 0) rfl rfl rfl rfl (C' := #[(vi s201.2), (vi s246.2)]) rfl (fun w275 (hs276 : HS w0 F0 w275 F11 [(sb b272 #[(vi s201.2), (vi s246.2)] 27), (sb b238 (kTrack x224 ae236_2 ne236_2 ae236_3 ne236_3) 54), es246_0, (sb b1 (kSystem x0 (some ⟨b228, o229, none⟩) n0_0 a0_1 n0_1) 25)]) => ?_)
      refine Nss (Rg [0, 1, 2, 3, 4, 5] ?_)
      refine V 94 3 (mv 8 (vi s201.2) e253) ?_
      refine V 95 3 (mv 10 (vi s246.2) e255) ?_
      refine V 96 3 (run_add (t := 3) (t' := 3) (x := (.tmp 95)) (y := (.const (vi 1))) (k := .i64) (a := s246.2) (b := 1) rfl rfl) ?_
      refine V 97 27 (run_build2 (t := 27) (parts := #[(0, (.tmp 94)), (1, (.tmp 96))]) (vs := [(0, (vi s201.2)), (1, (vi (W64 (s246.2 + 1))))]) (rfl) (cs := [(vi s201.2), (vi (W64 (s246.2 + 1)))]) (by kernel_rfl)) ?_
      refine Al 12 0 27 #[(vi 0), (vi 0)] hs276 (fun b277 w278 (hs279 : HS w0 F0 w278 F11 [(sb b277 #[(vi 0), (vi 0)] 27), (sb b272 #[(vi s201.2), (vi s246.2)] 27), (sb b238 (kTrack x224 ae236_2 ne236_2 ae236_3 ne236_3) 54), es246_0, (sb b1 (kSystem x0 (some ⟨b228, o229, none⟩) n0_0 a0_1 n0_1) 25)]) => ?_)
      refine RWP.store (ty := 0) (g := none) (by kernel_rfl) rfl (x := (.tmp 12)) (y := (.tmp 97)) (t := 27) (gg := true) (s := 2) (v := (.agg #[(vi s201.2), (vi (W64 (s246.2 + 1)))])) (b := b277) (o := 0) (C := #[(vi 0), (vi 0)]) rfl rfl (by kernel_rfl) hs279 (k := 0) rfl rfl rfl rfl (C' := #[(vi s201.2), (vi (W64 (s246.2 + 1)))]) rfl (fun w280 (hs281 : HS w0 F0 w280 F11 [(sb b277 #[(vi s201.2), (vi (W64 (s246.2 + 1)))] 27), (sb b272 #[(vi s201.2), (vi s246.2)] 27), (sb b238 (kTrack x224 ae236_2 ne236_2 ae236_3 ne236_3) 54), es246_0, (sb b1 (kSystem x0 (some ⟨b228, o229, none⟩) n0_0 a0_1 n0_1) 25)]) => ?_)
      refine Nss (Rg [0, 1, 2, 3, 4, 5, 6, 7] ?_)
      refine V 98 57 (mv 3 (.slice as246_0 s246.1.length ns246_0) e252) ?_
      refine V 99 27 (ld 27 12 b277 0 true 2 (.agg #[(vi s201.2), (vi (W64 (s246.2 + 1)))]) (hs281.ownAt (k := 0) rfl)) ?_
      refine V 100 27 (ld 27 11 b272 0 true 2 (.agg #[(vi s201.2), (vi s246.2)]) (hs281.ownAt (k := 1) rfl)) ?_
      refine V 101 3 (mv 10 (vi s246.2) e255) ?_
      refine V 102 103 (run_build2 (t := 103) (parts := #[(0, (.tmp 99)), (1, (.tmp 100)), (2, (.const (vi 0))), (3, (.const (vi 2))), (4, (.tmp 101))]) (vs := [(0, (.agg #[(vi s201.2), (vi (W64 (s246.2 + 1)))])), (1, (.agg #[(vi s201.2), (vi s246.2)])), (2, (vi 0)), (3, (vi 2)), (4, (vi s246.2))]) (rfl) (cs := [(vi s201.2), (vi (W64 (s246.2 + 1))), (vi s201.2), (vi s246.2), (vi 0), (vi 2), (vi s246.2)]) (by kernel_rfl)) ?_
      refine RWP.buildSlice (dst := (some 103)) (ty := 57) (g := none) (by kernel_rfl) rfl (t := 57) (len := 1) (parts := #[(0, (.tmp 102))]) (vs := [(0, (.agg #[(vi s201.2), (vi (W64 (s246.2 + 1))), (vi s201.2), (vi s246.2), (vi 0), (vi 2), (vi s246.2)]))]) (rfl) (E := 103) (cs := [(vi s201.2), (vi (W64 (s246.2 + 1))), (vi s201.2), (vi s246.2), (vi 0), (vi 2), (vi s246.2)]) (by kernel_rfl) hs281 (fun b282 w283 (hs284 : HS w0 F0 w283 F11 [(some b282, .cells ([(vi s201.2), (vi (W64 (s246.2 + 1))), (vi s201.2), (vi s246.2), (vi 0), (vi 2), (vi s246.2)] : List Value).toArray 103 (0, 0)), (sb b277 #[(vi s201.2), (vi (W64 (s246.2 + 1)))] 27), (sb b272 #[(vi s201.2), (vi s246.2)] 27), (sb b238 (kTrack x224 ae236_2 ne236_2 ae236_3 ne236_3) 54), es246_0, (sb b1 (kSystem x0 (some ⟨b228, o229, none⟩) n0_0 a0_1 n0_1) 25)]) => ?_)
      have hr286 : RowR tBound 103 F11 (some ⟨b282, 0, none⟩) 1 [({ From := ({ Log := s201.2, Line := (W64 (s246.2 + 1)) } : Ref), To := ({ Log := s201.2, Line := s246.2 } : Ref), Most := 0, Kind := 2, ID := s246.2 } : Bound)] (some b282, .cells ([(vi s201.2), (vi (W64 (s246.2 + 1))), (vi s201.2), (vi s246.2), (vi 0), (vi 2), (vi s246.2)] : List Value).toArray 103 (0, 0)) := RowR.lit ⟨rfl, rfl⟩ (by simp)
      obtain ⟨r287, hap288, h289⟩ := bind_some h271
      refine RWP.append (dst := (some 104)) (ty := 57) (g := none) (by kernel_rfl) rfl (x := (.tmp 98)) (y := (.tmp 103)) (t := 57) (t2 := 57) (by_ := 56) (z := (.agg #[(vi 0), (vi 0), (vi 0), (vi 0), (vi 0), (vi 0), (vi 0)])) (a2 := (some ⟨b282, 0, none⟩)) (c2 := 1) (m := [({ From := ({ Log := s201.2, Line := (W64 (s246.2 + 1)) } : Ref), To := ({ Log := s201.2, Line := s246.2 } : Ref), Most := 0, Kind := 2, ID := s246.2 } : Bound)]) (T := tBound) (E := 103) (a := as246_0) (cap := ns246_0) (l := s246.1) rfl rfl (by kernel_rfl) (by decide) (by kernel_rfl) (by kernel_rfl) rfl oBound hs284 (k := 4) rfl hrs246_0 (RowR.rd hs284 (k := 0) rfl hr286) (r := r287) hap288 (fun a290 n291 e292 w293 (hs294 : HS w0 F0 w293 F11 [(some b282, .cells ([(vi s201.2), (vi (W64 (s246.2 + 1))), (vi s201.2), (vi s246.2), (vi 0), (vi 2), (vi s246.2)] : List Value).toArray 103 (0, 0)), (sb b277 #[(vi s201.2), (vi (W64 (s246.2 + 1)))] 27), (sb b272 #[(vi s201.2), (vi s246.2)] 27), (sb b238 (kTrack x224 ae236_2 ne236_2 ae236_3 ne236_3) 54), e292, (sb b1 (kSystem x0 (some ⟨b228, o229, none⟩) n0_0 a0_1 n0_1) 25)]) hr295 => ?_)
      refine V 3 57 (ma 104 (.slice a290 r287.length n291)) ?_
      refine Nss ?_
      refine Sq ?_
      obtain ⟨j301, hj311, h312⟩ := bind_some h289
      refine CWP.regionD (by kernel_rfl) (by kernel_rfl) (by kernel_rfl) (by kernel_rfl) (z := 14) (F := F11) (Lc := [(some b282, .cells ([(vi s201.2), (vi (W64 (s246.2 + 1))), (vi s201.2), (vi s246.2), (vi 0), (vi 2), (vi s246.2)] : List Value).toArray 103 (0, 0)), (sb b277 #[(vi s201.2), (vi (W64 (s246.2 + 1)))] 27), (sb b272 #[(vi s201.2), (vi s246.2)] 27), (sb b238 (kTrack x224 ae236_2 ne236_2 ae236_3 ne236_3) 54), e292, (sb b1 (kSystem x0 (some ⟨b228, o229, none⟩) n0_0 a0_1 n0_1) 25)]) (Lz := []) (l := [false, false, false, false, false, false, false, false, false, false, false, false, false, false]) (fuel := 14) (by kernel_rfl) (by kernel_rfl) hs294 (by simp) (by simp) (fun f w => ∃ (F13 : Mem), HS w0 F0 w F13 [(sb b277 #[(vi s201.2), (vi (W64 (s246.2 + 1)))] 27), (sb b272 #[(vi s201.2), (vi s246.2)] 27), (sb b238 (kTrack x224 ae236_2 ne236_2 ae236_3 ne236_3) 54), e292, (sb b1 (kSystem x0 (some ⟨b228, o229, none⟩) n0_0 a0_1 n0_1) 25)] ∧ Mem.le F11 F13 ∧ f.d = [] ∧ f 1 = (.pointer (some ⟨b1, 0, none⟩)) ∧ f 3 = (.slice a290 r287.length n291) ∧ f 8 = (vi s201.2) ∧ f 9 = (.pointer (some ⟨b238, 0, none⟩)) ∧ f 10 = (vi s246.2) ∧ f 11 = (.pointer (some ⟨b272, 0, none⟩)) ∧ f 12 = (.pointer (some ⟨b277, 0, none⟩)) ∧ f 118 = (.bool j301)) (fun wd296 hw297 => ?_) ?_
      ·refine Dt 0 105 0 (.pointer (some ⟨b238, 0, none⟩)) (fun _ hq => fa 54 9 0 0 3 b238 0 0 e254) ?_
       refine Dt 1 106 52 _ (fun _ hq => ld 52 105 b238 0 true 3 (.agg (kClock x224.Clock ae236_2 ne236_2)) (hq.1.2 3 _ _ rfl)) ?_
       refine Dt 2 107 0 (.pointer (some ⟨b238, 3, none⟩)) (fun _ hq => fa 54 9 1 3 1 b238 0 3 e254) ?_
       refine Dt 3 108 50 _ (fun _ hq => ld 50 107 b238 3 false 1 (.slice ae236_3 x224.Times.length ne236_3) (hq.1.2 3 _ _ rfl)) ?_
       refine Dt 4 109 3 _ (fun _ hq => mv 10 (vi s246.2) e255) ?_
       obtain ⟨x313, hx314, h316⟩ := bind_some hj311
       obtain ⟨hi315, hx314'⟩ := idx_spec hx314
       obtain ⟨b317, o318, C319, E320, fz321, rfl, hF323, hE324⟩ := SlA.open (SlA.mono hse236_3 le249) hx314'
       have hc326 := hE324 _ _ hx314'
       refine Dt 5 110 0 (.pointer (some ⟨b317, (o318 + (s246.2 : Int).toNat * 1), none⟩)) (fun _ hq => ix 50 108 109 b317 o318 3 1 8 hi315) ?_
       refine Dt 6 111 3 _ (fun _ hq => lx 3 110 0 1 false 1 (vi x313) (hq.1.1 _ _ hF323) hc326) ?_
       refine Dt 7 112 0 (.pointer (some ⟨b238, 3, none⟩)) (fun _ hq => fa 54 9 1 3 1 b238 0 3 e254) ?_
       refine Dt 8 113 50 _ (fun _ hq => ld 50 112 b238 3 false 1 (.slice (some ⟨b317, o318, none⟩) x224.Times.length ne236_3) (hq.1.2 3 _ _ rfl)) ?_
       refine Dt 9 114 3 _ (fun _ hq => mv 10 (vi s246.2) e255) ?_
       refine Dt 10 115 3 (vi (W64 (s246.2 + 1))) (fun _ hq => run_add (t := 3) (t' := 3) (x := (.tmp 114)) (y := (.const (vi 1))) (k := .i64) (a := s246.2) (b := 1) rfl rfl) ?_
       obtain ⟨x327, hx328, h330⟩ := bind_some h316
       obtain ⟨hi329, hx328'⟩ := idx_spec hx328
       have hc332 := hE324 _ _ hx328'
       refine Dt 11 116 0 (.pointer (some ⟨b317, (o318 + ((W64 (s246.2 + 1)) : Int).toNat * 1), none⟩)) (fun _ hq => ix 50 113 115 b317 o318 3 1 8 hi329) ?_
       refine Dt 12 117 3 _ (fun _ hq => lx 3 116 0 1 false 1 (vi x327) (hq.1.1 _ _ hF323) hc332) ?_
       refine DWP.one (i := 13) (by kernel_rfl) ?_
       obtain ⟨r333, hr334, h335⟩ := bind_some h330
       refine DStep.call (l' := [true, true, true, true, true, true, true, true, true, true, true, true, true, true]) (zd := true) (by kernel_rfl) (by kernel_rfl) (by kernel_rfl) (dst := (some 118)) (ty := 4) (g := none) (by kernel_rfl) rfl (f0 := (.func 124)) (aos := #[(.tmp 106), (.tmp 111), (.tmp 117)]) (ats := #[52, 3, 3]) (fid := 124) (first := #[]) (cap := #[]) (args := [(.agg (kClock x224.Clock ae236_2 ne236_2)), (vi x313), (vi x327)]) rfl co_ref03_jumped (rfl) hw297 (c_ref03_jumped N wd296 F11 hw297.pers (x224.Clock) ae236_2 ne236_2 hbe236_2 (SlA.mono hse236_2 le249) (x313) (x327) _ hr334) ?_
       intro v336 F14 w337 hs338 le339 hp340
       obtain rfl := hp340
       obtain rfl := some_inj h335
       have hs341 : HS w0 F0 w337 F14 [(sb b277 #[(vi s201.2), (vi (W64 (s246.2 + 1)))] 27), (sb b272 #[(vi s201.2), (vi s246.2)] 27), (sb b238 (kTrack x224 ae236_2 ne236_2 (some ⟨b317, o318, none⟩) ne236_3) 54), e292, (sb b1 (kSystem x0 (some ⟨b228, o229, none⟩) n0_0 a0_1 n0_1) 25)] := hs338.drop 0
       exact DWP.done (by kernel_rfl) ⟨F14, hs341, le339, e250, e251, rfl, e253, e254, e255, rfl, rfl, rfl⟩
      ·rintro f w298 ⟨F13, hs299, le300, e302, e303, e304, e305, e306, e307, e308, e309, e310⟩
       refine thenQ_nrm ?_
       refine CWP.cond (t := j301) (by kernel_rfl) e310 (fun hb342 => ?_) (fun hb342 => ?_)
       ·have h343 := cond_t h312 hb342
        refine CWP.exit (by kernel_rfl) ?_
        refine thenQ_ex ?_
        refine blockQ_hit rfl ?_
        refine thenQ_nrm ?_
        refine Rg [0, 1, 2] ?_
        refine V 89 3 (mv 10 (vi s246.2) e307) ?_
        refine V 90 3 (run_add (t := 3) (t' := 3) (x := (.tmp 89)) (y := (.const (vi 1))) (k := .i64) (a := s246.2) (b := 1) rfl rfl) ?_
        refine V 10 3 (ma 90 (vi (W64 (s246.2 + 1)))) ?_
        refine RWP.nil ?_
        have hs344 : HS w0 F0 w298 F13 [(sb b272 #[(vi s201.2), (vi s246.2)] 27), (sb b238 (kTrack x224 ae236_2 ne236_2 ae236_3 ne236_3) 54), e292, (sb b1 (kSystem x0 (some ⟨b228, o229, none⟩) n0_0 a0_1 n0_1) 25)] := hs299.drop 0
        have hs345 : HS w0 F0 w298 F13 [(sb b238 (kTrack x224 ae236_2 ne236_2 ae236_3 ne236_3) 54), e292, (sb b1 (kSystem x0 (some ⟨b228, o229, none⟩) n0_0 a0_1 n0_1) 25)] := hs344.drop 0
        have hn346 := iter_next h343 hnx269
        exact ⟨m266, Nat.lt_succ_self _, (r287, (W64 (s246.2 + 1))), F13, a290, n291, e292, hn346, hs345, (le249.trans le300), e302, e303, e304, e305, e306, rfl, (hr295.mono le300)⟩
       ·have h347 := cond_f h312 hb342
        refine Sc ?_
        refine thenQ_nrm ?_
        refine Sq ?_
        obtain ⟨j353, hj363, h364⟩ := bind_some h347
        refine CWP.regionD (by kernel_rfl) (by kernel_rfl) (by kernel_rfl) (by kernel_rfl) (z := 13) (F := F13) (Lc := [(sb b277 #[(vi s201.2), (vi (W64 (s246.2 + 1)))] 27), (sb b272 #[(vi s201.2), (vi s246.2)] 27), (sb b238 (kTrack x224 ae236_2 ne236_2 ae236_3 ne236_3) 54), e292, (sb b1 (kSystem x0 (some ⟨b228, o229, none⟩) n0_0 a0_1 n0_1) 25)]) (Lz := []) (l := [false, false, false, false, false, false, false, false, false, false, false, false, false]) (fuel := 13) (by kernel_rfl) (by kernel_rfl) hs299 (by simp) (by simp) (fun f w => ∃ (F15 : Mem), HS w0 F0 w F15 [(sb b277 #[(vi s201.2), (vi (W64 (s246.2 + 1)))] 27), (sb b272 #[(vi s201.2), (vi s246.2)] 27), (sb b238 (kTrack x224 ae236_2 ne236_2 ae236_3 ne236_3) 54), e292, (sb b1 (kSystem x0 (some ⟨b228, o229, none⟩) n0_0 a0_1 n0_1) 25)] ∧ Mem.le F13 F15 ∧ f.d = [] ∧ f 1 = (.pointer (some ⟨b1, 0, none⟩)) ∧ f 3 = (.slice a290 r287.length n291) ∧ f 8 = (vi s201.2) ∧ f 9 = (.pointer (some ⟨b238, 0, none⟩)) ∧ f 10 = (vi s246.2) ∧ f 11 = (.pointer (some ⟨b272, 0, none⟩)) ∧ f 12 = (.pointer (some ⟨b277, 0, none⟩)) ∧ f 13 = (vi j353)) (fun wd348 hw349 => ?_) ?_
        ·refine Dt 0 119 0 (.pointer (some ⟨b238, 3, none⟩)) (fun _ hq => fa 54 9 1 3 1 b238 0 3 e306) ?_
         refine Dt 1 120 50 _ (fun _ hq => ld 50 119 b238 3 false 1 (.slice ae236_3 x224.Times.length ne236_3) (hq.1.2 2 _ _ rfl)) ?_
         refine Dt 2 121 3 _ (fun _ hq => mv 10 (vi s246.2) e307) ?_
         refine Dt 3 122 3 (vi (W64 (s246.2 + 1))) (fun _ hq => run_add (t := 3) (t' := 3) (x := (.tmp 121)) (y := (.const (vi 1))) (k := .i64) (a := s246.2) (b := 1) rfl rfl) ?_
         obtain ⟨x365, hx366, h368⟩ := bind_some hj363
         obtain ⟨hi367, hx366'⟩ := idx_spec hx366
         obtain ⟨b369, o370, C371, E372, fz373, rfl, hF375, hE376⟩ := SlA.open (SlA.mono hse236_3 (le249.trans le300)) hx366'
         have hc378 := hE376 _ _ hx366'
         refine Dt 4 123 0 (.pointer (some ⟨b369, (o370 + ((W64 (s246.2 + 1)) : Int).toNat * 1), none⟩)) (fun _ hq => ix 50 120 122 b369 o370 3 1 8 hi367) ?_
         refine Dt 5 124 3 _ (fun _ hq => lx 3 123 0 1 false 1 (vi x365) (hq.1.1 _ _ hF375) hc378) ?_
         refine Dt 6 125 0 (.pointer (some ⟨b238, 3, none⟩)) (fun _ hq => fa 54 9 1 3 1 b238 0 3 e306) ?_
         refine Dt 7 126 50 _ (fun _ hq => ld 50 125 b238 3 false 1 (.slice (some ⟨b369, o370, none⟩) x224.Times.length ne236_3) (hq.1.2 2 _ _ rfl)) ?_
         refine Dt 8 127 3 _ (fun _ hq => mv 10 (vi s246.2) e307) ?_
         obtain ⟨x379, hx380, h382⟩ := bind_some h368
         obtain ⟨hi381, hx380'⟩ := idx_spec hx380
         have hc384 := hE376 _ _ hx380'
         refine Dt 9 128 0 (.pointer (some ⟨b369, (o370 + (s246.2 : Int).toNat * 1), none⟩)) (fun _ hq => ix 50 126 127 b369 o370 3 1 8 hi381) ?_
         refine Dt 10 129 3 _ (fun _ hq => lx 3 128 0 1 false 1 (vi x379) (hq.1.1 _ _ hF375) hc384) ?_
         refine Dt 11 130 3 (vi (W64 (x365 - x379))) (fun _ hq => run_sub (t := 3) (t' := 3) (x := (.tmp 124)) (y := (.tmp 129)) (k := .i64) (a := x365) (b := x379) rfl rfl) ?_
         refine Dt 12 13 3 _ (fun _ hq => ma 130 (vi (W64 (x365 - x379)))) ?_
         obtain rfl := some_inj h382
         exact DWP.done (by kernel_rfl) ⟨F13, hw349, (Mem.le.refl _), e302, e303, e304, e305, e306, e307, e308, e309, rfl⟩
        ·rintro f w350 ⟨F15, hs351, le352, e354, e355, e356, e357, e358, e359, e360, e361, e362⟩
         refine thenQ_nrm ?_
         refine Sq (Rg [0, 1, 2, 3, 4, 5, 6, 7, 8] ?_)
         refine V 131 0 (fa 54 9 0 0 3 b238 0 0 e358) ?_
         refine V 132 0 (fa 52 131 1 1 1 b238 0 1) ?_
         refine V 133 3 (ld 3 132 b238 1 false 1 (vi x224.Clock.Drift) (hs351.ownAt (k := 2) rfl)) ?_
         refine V 134 3 (mv 13 (vi j353) e362) ?_
         refine V 135 3 (run_mul (t := 3) (t' := 3) (x := (.tmp 133)) (y := (.tmp 134)) (k := .i64) (a := x224.Clock.Drift) (b := j353) rfl rfl) ?_
         refine V 136 3 (run_add (t := 3) (t' := 3) (x := (.tmp 135)) (y := (.const (vi 999))) (k := .i64) (a := (W64 (x224.Clock.Drift * j353))) (b := 999) rfl rfl) ?_
         refine V 137 3 (run_quo (t := 3) (t' := 3) (x := (.tmp 136)) (y := (.const (vi 1000))) (k := .i64) (a := (W64 ((W64 (x224.Clock.Drift * j353)) + 999))) (b := 1000) rfl rfl (by decide)) ?_
         refine V 138 3 (run_add (t := 3) (t' := 3) (x := (.const (vi 1))) (y := (.tmp 137)) (k := .i64) (a := 1) (b := (W64 (Int.tdiv (W64 ((W64 (x224.Clock.Drift * j353)) + 999)) 1000))) rfl rfl) ?_
         refine V 14 3 (ma 138 (vi (W64 (1 + (W64 (Int.tdiv (W64 ((W64 (x224.Clock.Drift * j353)) + 999)) 1000)))))) ?_
         refine Nss (Rg [0, 1, 2, 3, 4, 5, 6, 7, 8, 9, 10] ?_)
         refine V 139 57 (mv 3 (.slice a290 r287.length n291) e356) ?_
         refine V 140 27 (ld 27 11 b272 0 true 2 (.agg #[(vi s201.2), (vi s246.2)]) (hs351.ownAt (k := 1) rfl) e360) ?_
         refine V 141 27 (ld 27 12 b277 0 true 2 (.agg #[(vi s201.2), (vi (W64 (s246.2 + 1)))]) (hs351.ownAt (k := 0) rfl) e361) ?_
         refine V 142 3 (mv 13 (vi j353) e362) ?_
         refine V 143 3 (mv 14 (vi (W64 (1 + (W64 (Int.tdiv (W64 ((W64 (x224.Clock.Drift * j353)) + 999)) 1000)))))) ?_
         refine V 144 3 (run_add (t := 3) (t' := 3) (x := (.tmp 142)) (y := (.tmp 143)) (k := .i64) (a := j353) (b := (W64 (1 + (W64 (Int.tdiv (W64 ((W64 (x224.Clock.Drift * j353)) + 999)) 1000))))) rfl rfl) ?_
         refine V 145 3 (mv 10 (vi s246.2) e359) ?_
         refine V 146 103 (run_build2 (t := 103) (parts := #[(0, (.tmp 140)), (1, (.tmp 141)), (2, (.tmp 144)), (3, (.const (vi 3))), (4, (.tmp 145))]) (vs := [(0, (.agg #[(vi s201.2), (vi s246.2)])), (1, (.agg #[(vi s201.2), (vi (W64 (s246.2 + 1)))])), (2, (vi (W64 (j353 + (W64 (1 + (W64 (Int.tdiv (W64 ((W64 (x224.Clock.Drift * j353)) + 999)) 1000)))))))), (3, (vi 3)), (4, (vi s246.2))]) (rfl) (cs := [(vi s201.2), (vi s246.2), (vi s201.2), (vi (W64 (s246.2 + 1))), (vi (W64 (j353 + (W64 (1 + (W64 (Int.tdiv (W64 ((W64 (x224.Clock.Drift * j353)) + 999)) 1000))))))), (vi 3), (vi s246.2)]) (by kernel_rfl)) ?_
         refine RWP.buildSlice (dst := (some 147)) (ty := 57) (g := none) (by kernel_rfl) rfl (t := 57) (len := 1) (parts := #[(0, (.tmp 146))]) (vs := [(0, (.agg #[(vi s201.2), (vi s246.2), (vi s201.2), (vi (W64 (s246.2 + 1))), (vi (W64 (j353 + (W64 (1 + (W64 (Int.tdiv (W64 ((W64 (x224.Clock.Drift * j353)) + 999)) 1000))))))), (vi 3), (vi s246.2)]))]) (rfl) (E := 103) (cs := [(vi s201.2), (vi s246.2), (vi s201.2), (vi (W64 (s246.2 + 1))), (vi (W64 (j353 + (W64 (1 + (W64 (Int.tdiv (W64 ((W64 (x224.Clock.Drift * j353)) + 999)) 1000))))))), (vi 3), (vi s246.2)]) (by kernel_rfl) hs351 (fun b385 w386 (hs387 : HS w0 F0 w386 F15 [(some b385, .cells ([(vi s201.2), (vi s246.2), (vi s201.2), (vi (W64 (s246.2 + 1))), (vi (W64 (j353 + (W64 (1 + (W64 (Int.tdiv (W64 ((W64 (x224.Clock.Drift * j353)) + 999)) 1000))))))), (vi 3), (vi s246.2)] : List Value).toArray 103 (0, 0)), (sb b277 #[(vi s201.2), (vi (W64 (s246.2 + 1)))] 27), (sb b272 #[(vi s201.2), (vi s246.2)] 27), (sb b238 (kTrack x224 ae236_2 ne236_2 ae236_3 ne236_3) 54), e292, (sb b1 (kSystem x0 (some ⟨b228, o229, none⟩) n0_0 a0_1 n0_1) 25)]) => ?_)
         have hr389 : RowR tBound 103 F15 (some ⟨b385, 0, none⟩) 1 [({ From := ({ Log := s201.2, Line := s246.2 } : Ref), To := ({ Log := s201.2, Line := (W64 (s246.2 + 1)) } : Ref), Most := (W64 (j353 + (W64 (1 + (W64 (Int.tdiv (W64 ((W64 (x224.Clock.Drift * j353)) + 999)) 1000)))))), Kind := 3, ID := s246.2 } : Bound)] (some b385, .cells ([(vi s201.2), (vi s246.2), (vi s201.2), (vi (W64 (s246.2 + 1))), (vi (W64 (j353 + (W64 (1 + (W64 (Int.tdiv (W64 ((W64 (x224.Clock.Drift * j353)) + 999)) 1000))))))), (vi 3), (vi s246.2)] : List Value).toArray 103 (0, 0)) := RowR.lit ⟨rfl, rfl⟩ (by simp)
         obtain ⟨r390, hap391, h392⟩ := bind_some h364
         refine RWP.append (dst := (some 148)) (ty := 57) (g := none) (by kernel_rfl) rfl (x := (.tmp 139)) (y := (.tmp 147)) (t := 57) (t2 := 57) (by_ := 56) (z := (.agg #[(vi 0), (vi 0), (vi 0), (vi 0), (vi 0), (vi 0), (vi 0)])) (a2 := (some ⟨b385, 0, none⟩)) (c2 := 1) (m := [({ From := ({ Log := s201.2, Line := s246.2 } : Ref), To := ({ Log := s201.2, Line := (W64 (s246.2 + 1)) } : Ref), Most := (W64 (j353 + (W64 (1 + (W64 (Int.tdiv (W64 ((W64 (x224.Clock.Drift * j353)) + 999)) 1000)))))), Kind := 3, ID := s246.2 } : Bound)]) (T := tBound) (E := 103) (a := a290) (cap := n291) (l := r287) rfl rfl (by kernel_rfl) (by decide) (by kernel_rfl) (by kernel_rfl) rfl oBound hs387 (k := 4) rfl (hr295.mono (le300.trans le352)) (RowR.rd hs387 (k := 0) rfl hr389) (r := r390) hap391 (fun a393 n394 e395 w396 (hs397 : HS w0 F0 w396 F15 [(some b385, .cells ([(vi s201.2), (vi s246.2), (vi s201.2), (vi (W64 (s246.2 + 1))), (vi (W64 (j353 + (W64 (1 + (W64 (Int.tdiv (W64 ((W64 (x224.Clock.Drift * j353)) + 999)) 1000))))))), (vi 3), (vi s246.2)] : List Value).toArray 103 (0, 0)), (sb b277 #[(vi s201.2), (vi (W64 (s246.2 + 1)))] 27), (sb b272 #[(vi s201.2), (vi s246.2)] 27), (sb b238 (kTrack x224 ae236_2 ne236_2 ae236_3 ne236_3) 54), e395, (sb b1 (kSystem x0 (some ⟨b228, o229, none⟩) n0_0 a0_1 n0_1) 25)]) hr398 => ?_)
         refine V 3 57 (ma 148 (.slice a393 r390.length n394)) ?_
         refine Nt ?_
         refine Rg [0, 1, 2, 3, 4, 5, 6, 7, 8, 9, 10] ?_
         refine V 149 57 (mv 3 (.slice a393 r390.length n394)) ?_
         refine V 150 27 (ld 27 12 b277 0 true 2 (.agg #[(vi s201.2), (vi (W64 (s246.2 + 1)))]) (hs397.ownAt (k := 1) rfl) e361) ?_
         refine V 151 27 (ld 27 11 b272 0 true 2 (.agg #[(vi s201.2), (vi s246.2)]) (hs397.ownAt (k := 2) rfl) e360) ?_
         refine V 152 3 (mv 14 (vi (W64 (1 + (W64 (Int.tdiv (W64 ((W64 (x224.Clock.Drift * j353)) + 999)) 1000)))))) ?_
         refine V 153 3 (mv 13 (vi j353) e362) ?_
         refine V 154 3 (run_sub (t := 3) (t' := 3) (x := (.tmp 152)) (y := (.tmp 153)) (k := .i64) (a := (W64 (1 + (W64 (Int.tdiv (W64 ((W64 (x224.Clock.Drift * j353)) + 999)) 1000))))) (b := j353) rfl rfl) ?_
         refine V 155 3 (mv 10 (vi s246.2) e359) ?_
         refine V 156 103 (run_build2 (t := 103) (parts := #[(0, (.tmp 150)), (1, (.tmp 151)), (2, (.tmp 154)), (3, (.const (vi 3))), (4, (.tmp 155))]) (vs := [(0, (.agg #[(vi s201.2), (vi (W64 (s246.2 + 1)))])), (1, (.agg #[(vi s201.2), (vi s246.2)])), (2, (vi (W64 ((W64 (1 + (W64 (Int.tdiv (W64 ((W64 (x224.Clock.Drift * j353)) + 999)) 1000)))) - j353)))), (3, (vi 3)), (4, (vi s246.2))]) (rfl) (cs := [(vi s201.2), (vi (W64 (s246.2 + 1))), (vi s201.2), (vi s246.2), (vi (W64 ((W64 (1 + (W64 (Int.tdiv (W64 ((W64 (x224.Clock.Drift * j353)) + 999)) 1000)))) - j353))), (vi 3), (vi s246.2)]) (by kernel_rfl)) ?_
         refine RWP.buildSlice (dst := (some 157)) (ty := 57) (g := none) (by kernel_rfl) rfl (t := 57) (len := 1) (parts := #[(0, (.tmp 156))]) (vs := [(0, (.agg #[(vi s201.2), (vi (W64 (s246.2 + 1))), (vi s201.2), (vi s246.2), (vi (W64 ((W64 (1 + (W64 (Int.tdiv (W64 ((W64 (x224.Clock.Drift * j353)) + 999)) 1000)))) - j353))), (vi 3), (vi s246.2)]))]) (rfl) (E := 103) (cs := [(vi s201.2), (vi (W64 (s246.2 + 1))), (vi s201.2), (vi s246.2), (vi (W64 ((W64 (1 + (W64 (Int.tdiv (W64 ((W64 (x224.Clock.Drift * j353)) + 999)) 1000)))) - j353))), (vi 3), (vi s246.2)]) (by kernel_rfl) hs397 (fun b399 w400 (hs401 : HS w0 F0 w400 F15 [(some b399, .cells ([(vi s201.2), (vi (W64 (s246.2 + 1))), (vi s201.2), (vi s246.2), (vi (W64 ((W64 (1 + (W64 (Int.tdiv (W64 ((W64 (x224.Clock.Drift * j353)) + 999)) 1000)))) - j353))), (vi 3), (vi s246.2)] : List Value).toArray 103 (0, 0)), (some b385, .cells ([(vi s201.2), (vi s246.2), (vi s201.2), (vi (W64 (s246.2 + 1))), (vi (W64 (j353 + (W64 (1 + (W64 (Int.tdiv (W64 ((W64 (x224.Clock.Drift * j353)) + 999)) 1000))))))), (vi 3), (vi s246.2)] : List Value).toArray 103 (0, 0)), (sb b277 #[(vi s201.2), (vi (W64 (s246.2 + 1)))] 27), (sb b272 #[(vi s201.2), (vi s246.2)] 27), (sb b238 (kTrack x224 ae236_2 ne236_2 ae236_3 ne236_3) 54), e395, (sb b1 (kSystem x0 (some ⟨b228, o229, none⟩) n0_0 a0_1 n0_1) 25)]) => ?_)
         have hr403 : RowR tBound 103 F15 (some ⟨b399, 0, none⟩) 1 [({ From := ({ Log := s201.2, Line := (W64 (s246.2 + 1)) } : Ref), To := ({ Log := s201.2, Line := s246.2 } : Ref), Most := (W64 ((W64 (1 + (W64 (Int.tdiv (W64 ((W64 (x224.Clock.Drift * j353)) + 999)) 1000)))) - j353)), Kind := 3, ID := s246.2 } : Bound)] (some b399, .cells ([(vi s201.2), (vi (W64 (s246.2 + 1))), (vi s201.2), (vi s246.2), (vi (W64 ((W64 (1 + (W64 (Int.tdiv (W64 ((W64 (x224.Clock.Drift * j353)) + 999)) 1000)))) - j353))), (vi 3), (vi s246.2)] : List Value).toArray 103 (0, 0)) := RowR.lit ⟨rfl, rfl⟩ (by simp)
         obtain ⟨r404, hap405, h406⟩ := bind_some h392
         refine RWP.append (dst := (some 158)) (ty := 57) (g := none) (by kernel_rfl) rfl (x := (.tmp 149)) (y := (.tmp 157)) (t := 57) (t2 := 57) (by_ := 56) (z := (.agg #[(vi 0), (vi 0), (vi 0), (vi 0), (vi 0), (vi 0), (vi 0)])) (a2 := (some ⟨b399, 0, none⟩)) (c2 := 1) (m := [({ From := ({ Log := s201.2, Line := (W64 (s246.2 + 1)) } : Ref), To := ({ Log := s201.2, Line := s246.2 } : Ref), Most := (W64 ((W64 (1 + (W64 (Int.tdiv (W64 ((W64 (x224.Clock.Drift * j353)) + 999)) 1000)))) - j353)), Kind := 3, ID := s246.2 } : Bound)]) (T := tBound) (E := 103) (a := a393) (cap := n394) (l := r390) rfl rfl (by kernel_rfl) (by decide) (by kernel_rfl) (by kernel_rfl) rfl oBound hs401 (k := 5) rfl hr398 (RowR.rd hs401 (k := 0) rfl hr403) (r := r404) hap405 (fun a407 n408 e409 w410 (hs411 : HS w0 F0 w410 F15 [(some b399, .cells ([(vi s201.2), (vi (W64 (s246.2 + 1))), (vi s201.2), (vi s246.2), (vi (W64 ((W64 (1 + (W64 (Int.tdiv (W64 ((W64 (x224.Clock.Drift * j353)) + 999)) 1000)))) - j353))), (vi 3), (vi s246.2)] : List Value).toArray 103 (0, 0)), (some b385, .cells ([(vi s201.2), (vi s246.2), (vi s201.2), (vi (W64 (s246.2 + 1))), (vi (W64 (j353 + (W64 (1 + (W64 (Int.tdiv (W64 ((W64 (x224.Clock.Drift * j353)) + 999)) 1000))))))), (vi 3), (vi s246.2)] : List Value).toArray 103 (0, 0)), (sb b277 #[(vi s201.2), (vi (W64 (s246.2 + 1)))] 27), (sb b272 #[(vi s201.2), (vi s246.2)] 27), (sb b238 (kTrack x224 ae236_2 ne236_2 ae236_3 ne236_3) 54), e409, (sb b1 (kSystem x0 (some ⟨b228, o229, none⟩) n0_0 a0_1 n0_1) 25)]) hr412 => ?_)
         refine V 3 57 (ma 158 (.slice a407 r404.length n408)) ?_
         refine RWP.nil ?_
         refine blockQ_nrm ?_
         refine thenQ_nrm ?_
         refine Rg [0, 1, 2] ?_
         refine V 89 3 (mv 10 (vi s246.2) e359) ?_
         refine V 90 3 (run_add (t := 3) (t' := 3) (x := (.tmp 89)) (y := (.const (vi 1))) (k := .i64) (a := s246.2) (b := 1) rfl rfl) ?_
         refine V 10 3 (ma 90 (vi (W64 (s246.2 + 1)))) ?_
         refine RWP.nil ?_
         have hs413 : HS w0 F0 w410 F15 [(some b385, .cells ([(vi s201.2), (vi s246.2), (vi s201.2), (vi (W64 (s246.2 + 1))), (vi (W64 (j353 + (W64 (1 + (W64 (Int.tdiv (W64 ((W64 (x224.Clock.Drift * j353)) + 999)) 1000))))))), (vi 3), (vi s246.2)] : List Value).toArray 103 (0, 0)), (sb b277 #[(vi s201.2), (vi (W64 (s246.2 + 1)))] 27), (sb b272 #[(vi s201.2), (vi s246.2)] 27), (sb b238 (kTrack x224 ae236_2 ne236_2 ae236_3 ne236_3) 54), e409, (sb b1 (kSystem x0 (some ⟨b228, o229, none⟩) n0_0 a0_1 n0_1) 25)] := hs411.drop 0
         have hs414 : HS w0 F0 w410 F15 [(sb b277 #[(vi s201.2), (vi (W64 (s246.2 + 1)))] 27), (sb b272 #[(vi s201.2), (vi s246.2)] 27), (sb b238 (kTrack x224 ae236_2 ne236_2 ae236_3 ne236_3) 54), e409, (sb b1 (kSystem x0 (some ⟨b228, o229, none⟩) n0_0 a0_1 n0_1) 25)] := hs413.drop 0
         have hs415 : HS w0 F0 w410 F15 [(sb b272 #[(vi s201.2), (vi s246.2)] 27), (sb b238 (kTrack x224 ae236_2 ne236_2 ae236_3 ne236_3) 54), e409, (sb b1 (kSystem x0 (some ⟨b228, o229, none⟩) n0_0 a0_1 n0_1) 25)] := hs414.drop 0
         have hs416 : HS w0 F0 w410 F15 [(sb b238 (kTrack x224 ae236_2 ne236_2 ae236_3 ne236_3) 54), e409, (sb b1 (kSystem x0 (some ⟨b228, o229, none⟩) n0_0 a0_1 n0_1) 25)] := hs415.drop 0
         have hn417 := iter_next h406 hnx269
         exact ⟨m266, Nat.lt_succ_self _, (r404, (W64 (s246.2 + 1))), F15, a407, n408, e409, hn417, hs416, ((le249.trans le300).trans le352), e354, e355, rfl, e357, e358, rfl, hr412⟩
     ·have h418 := cond_f hb268 hb270
      refine CWP.exit (by kernel_rfl) ?_
      refine thenQ_ex ?_
      refine thenQ_ex ?_
      refine blockQ_hit rfl ?_
      have hs419 : HS w0 F0 w247 F11 [es246_0, (sb b1 (kSystem x0 (some ⟨b228, o229, none⟩) n0_0 a0_1 n0_1) 25)] := hs248.drop 0
      have ho420 := iter_done h418 hnx269
      exact .inl ⟨rfl, (s246.1, s246.2), F11, as246_0, ns246_0, es246_0, ho420, hs419, le249, e250, e251, e252, e253, hrs246_0⟩
    ·rintro f w257 ⟨s256, F12, as256_0, ns256_0, es256_0, rfl, hs258, le259, e260, e261, e262, e263, hrs256_0⟩
     have h421 := k_done h245
     refine blockQ_nrm ?_
     refine thenQ_nrm ?_
     refine Rg [0, 1, 2] ?_
     refine V 76 3 (mv 8 (vi s201.2) e263) ?_
     refine V 77 3 (run_add (t := 3) (t' := 3) (x := (.tmp 76)) (y := (.const (vi 1))) (k := .i64) (a := s201.2) (b := 1) rfl rfl) ?_
     refine V 8 3 (ma 77 (vi (W64 (s201.2 + 1)))) ?_
     refine RWP.nil ?_
     have hn422 := iter_next h421 hnx221
     exact ⟨m218, Nat.lt_succ_self _, (s256.1, (W64 (s201.2 + 1))), F12, as256_0, ns256_0, es256_0, hn422, hs258, (le204.trans le259), e260, e261, e262, rfl, hrs256_0⟩
   ·have h423 := cond_f hb220 hb222
    refine CWP.exit (by kernel_rfl) ?_
    refine thenQ_ex ?_
    refine thenQ_ex ?_
    refine blockQ_hit rfl ?_
    have ho424 := iter_done h423 hnx221
    exact .inl ⟨rfl, (s201.1, s201.2), F9, as201_0, ns201_0, es201_0, ho424, hs203, le204, e205, e206, e207, hrs201_0⟩
  ·rintro f w210 ⟨s209, F10, as209_0, ns209_0, es209_0, rfl, hs211, le212, e213, e214, e215, hrs209_0⟩
   have h425 := k_done h200
   refine thenQ_nrm ?_
   refine Sq ?_
   refine Sq (Rg [0] ?_)
   refine V 15 3 (mc (vi 0) (vi 0)) ?_
   refine Nt ?_
   obtain ⟨o426, ho427, h428⟩ := bind_some h425
   refine CWP.cut (fun f w => ∃ (s437 : (List Bound × Int)) (F17 : Mem) (as437_0 : Option Addr) (ns437_0 : Nat) (es437_0 : Option Nat × Obj), o426 = .done s437 ∧ HS w0 F0 w F17 [es437_0] ∧ Mem.le F10 F17 ∧ f.d = [] ∧ f 3 = (.slice as437_0 s437.1.length ns437_0) ∧ RowR tBound 103 F17 as437_0 ns437_0 s437.1 es437_0) ?_ ?_
   ·refine Bk ?_
    refine CWP.loop (by kernel_rfl) (fun m f w => ∃ (s429 : (List Bound × Int)) (F16 : Mem) (as429_0 : Option Addr) (ns429_0 : Nat) (es429_0 : Option Nat × Obj), iter (ref03_bounds_L4 N x0 s17 s209) m s429 = some o426 ∧ HS w0 F0 w F16 [es429_0, (sb b1 (kSystem x0 a0_0 n0_0 a0_1 n0_1) 25)] ∧ Mem.le F10 F16 ∧ f.d = [] ∧ f 1 = (.pointer (some ⟨b1, 0, none⟩)) ∧ f 3 = (.slice as429_0 s429.1.length ns429_0) ∧ f 15 = (vi s429.2) ∧ RowR tBound 103 F16 as429_0 ns429_0 s429.1 es429_0) N ⟨(s209.1, 0), F10, as209_0, ns209_0, es209_0, ho427, hs211, (Mem.le.refl _), e213, e214, e215, rfl, hrs209_0⟩ ?_
    rintro m443 f w430 ⟨s429, F16, as429_0, ns429_0, es429_0, hit444, hs431, le432, e433, e434, e435, e436, hrs429_0⟩
    obtain ⟨m445, fl446, rfl, hb447, hnx448⟩ := iter_step hit444
    refine Sq ?_
    refine Sq (Rg [0, 1, 2, 3, 4] ?_)
    refine V 159 3 (mv 15 (vi s429.2) e436) ?_
    refine V 160 0 (fa 25 1 1 1 1 b1 0 1 e434) ?_
    refine V 161 23 (ld 23 160 b1 1 false 1 (.slice a0_1 x0.Ties.length n0_1) (hs431.ownAt (k := 1) rfl)) ?_
    refine V 162 3 (ln 161 23 a0_1 x0.Ties.length n0_1 46 4 32) ?_
    refine V 163 4 (run_lss (t := 3) (t' := 3) (x := (.tmp 159)) (y := (.tmp 162)) (k := .i64) (a := s429.2) (b := (x0.Ties.length : Int)) rfl rfl) ?_
    refine Nt ?_
    refine CWP.cond (t := (decide (s429.2 < (x0.Ties.length : Int)))) (by kernel_rfl) rfl (fun hb449 => ?_) (fun hb449 => ?_)
    ·have h450 := cond_t hb447 hb449
     refine Sc ?_
     refine thenQ_nrm ?_
     refine Sq ?_
     refine Bk ?_
     refine Sq (Rg [0, 1, 2, 3, 4, 5, 6] ?_)
     refine V 166 0 (fa 25 1 1 1 1 b1 0 1 e434) ?_
     refine V 167 23 (ld 23 166 b1 1 false 1 (.slice a0_1 x0.Ties.length n0_1) (hs431.ownAt (k := 1) rfl)) ?_
     refine V 168 3 (mv 15 (vi s429.2) e436) ?_
     obtain ⟨x451, hx452, h454⟩ := bind_some h450
     obtain ⟨hi453, hx452'⟩ := idx_spec hx452
     obtain ⟨b455, o456, C457, E458, fz459, rfl, hF461, hE462⟩ := SlA.open (SlA.mono hs0_1 ((le20.trans le212).trans le432)) hx452'
     have hc464 := hE462 _ _ hx452'
     refine V 169 0 (ix 23 167 168 b455 o456 46 4 32 hi453) ?_
     refine V 170 46 (lx 46 169 0 4 true 4 (.agg (kTie x451)) (hs431.pers _ _ hF461) hc464) ?_
     refine Al 16 0 46 #[(vi 0), (vi 0), (vi 0), (vi 0)] hs431 (fun b465 w466 (hs467 : HS w0 F0 w466 F16 [(sb b465 #[(vi 0), (vi 0), (vi 0), (vi 0)] 46), es429_0, (sb b1 (kSystem x0 a0_0 n0_0 (some ⟨b455, o456, none⟩) n0_1) 25)]) => ?_)
     refine RWP.store (ty := 0) (g := none) (by kernel_rfl) rfl (x := (.tmp 16)) (y := (.tmp 170)) (t := 46) (gg := true) (s := 4) (v := (.agg (kTie x451))) (b := b465) (o := 0) (C := #[(vi 0), (vi 0), (vi 0), (vi 0)]) rfl rfl (by kernel_rfl) hs467 (k := 0) rfl rfl rfl rfl (C' := (kTie x451)) rfl (fun w468 (hs469 : HS w0 F0 w468 F16 [(sb b465 (kTie x451) 46), es429_0, (sb b1 (kSystem x0 a0_0 n0_0 (some ⟨b455, o456, none⟩) n0_1) 25)]) => ?_)
     refine Nss (Rg [0, 1, 2, 3, 4, 5, 6, 7, 8, 9, 10, 11] ?_)
     refine V 171 57 (mv 3 (.slice as429_0 s429.1.length ns429_0) e435) ?_
     refine V 172 0 (fa 46 16 0 0 2 b465 0 0) ?_
     refine V 173 27 (ld 27 172 b465 0 true 2 (.agg (kRef x451.A)) (hs469.ownAt (k := 0) rfl)) ?_
     refine V 174 0 (fa 46 16 1 2 2 b465 0 2) ?_
     refine V 175 27 (ld 27 174 b465 2 true 2 (.agg (kRef x451.B)) (hs469.ownAt (k := 0) rfl)) ?_
     refine V 176 0 (fa 25 1 2 2 1 b1 0 2 e434) ?_
     refine V 177 3 (ld 3 176 b1 2 false 1 (vi x0.Window) (hs469.ownAt (k := 2) rfl)) ?_
     refine V 178 3 (mv 15 (vi s429.2) e436) ?_
     refine V 179 103 (run_build2 (t := 103) (parts := #[(0, (.tmp 173)), (1, (.tmp 175)), (2, (.tmp 177)), (3, (.const (vi 4))), (4, (.tmp 178))]) (vs := [(0, (.agg (kRef x451.A))), (1, (.agg (kRef x451.B))), (2, (vi x0.Window)), (3, (vi 4)), (4, (vi s429.2))]) (rfl) (cs := [(vi x451.A.Log), (vi x451.A.Line), (vi x451.B.Log), (vi x451.B.Line), (vi x0.Window), (vi 4), (vi s429.2)]) (by kernel_rfl)) ?_
     refine RWP.buildSlice (dst := (some 180)) (ty := 57) (g := none) (by kernel_rfl) rfl (t := 57) (len := 1) (parts := #[(0, (.tmp 179))]) (vs := [(0, (.agg #[(vi x451.A.Log), (vi x451.A.Line), (vi x451.B.Log), (vi x451.B.Line), (vi x0.Window), (vi 4), (vi s429.2)]))]) (rfl) (E := 103) (cs := [(vi x451.A.Log), (vi x451.A.Line), (vi x451.B.Log), (vi x451.B.Line), (vi x0.Window), (vi 4), (vi s429.2)]) (by kernel_rfl) hs469 (fun b470 w471 (hs472 : HS w0 F0 w471 F16 [(some b470, .cells ([(vi x451.A.Log), (vi x451.A.Line), (vi x451.B.Log), (vi x451.B.Line), (vi x0.Window), (vi 4), (vi s429.2)] : List Value).toArray 103 (0, 0)), (sb b465 (kTie x451) 46), es429_0, (sb b1 (kSystem x0 a0_0 n0_0 (some ⟨b455, o456, none⟩) n0_1) 25)]) => ?_)
     have hr474 : RowR tBound 103 F16 (some ⟨b470, 0, none⟩) 1 [({ From := x451.A, To := x451.B, Most := x0.Window, Kind := 4, ID := s429.2 } : Bound)] (some b470, .cells ([(vi x451.A.Log), (vi x451.A.Line), (vi x451.B.Log), (vi x451.B.Line), (vi x0.Window), (vi 4), (vi s429.2)] : List Value).toArray 103 (0, 0)) := RowR.lit ⟨rfl, rfl⟩ (by simp)
     obtain ⟨r475, hap476, h477⟩ := bind_some h454
     refine RWP.append (dst := (some 181)) (ty := 57) (g := none) (by kernel_rfl) rfl (x := (.tmp 171)) (y := (.tmp 180)) (t := 57) (t2 := 57) (by_ := 56) (z := (.agg #[(vi 0), (vi 0), (vi 0), (vi 0), (vi 0), (vi 0), (vi 0)])) (a2 := (some ⟨b470, 0, none⟩)) (c2 := 1) (m := [({ From := x451.A, To := x451.B, Most := x0.Window, Kind := 4, ID := s429.2 } : Bound)]) (T := tBound) (E := 103) (a := as429_0) (cap := ns429_0) (l := s429.1) rfl rfl (by kernel_rfl) (by decide) (by kernel_rfl) (by kernel_rfl) rfl oBound hs472 (k := 2) rfl hrs429_0 (RowR.rd hs472 (k := 0) rfl hr474) (r := r475) hap476 (fun a478 n479 e480 w481 (hs482 : HS w0 F0 w481 F16 [(some b470, .cells ([(vi x451.A.Log), (vi x451.A.Line), (vi x451.B.Log), (vi x451.B.Line), (vi x0.Window), (vi 4), (vi s429.2)] : List Value).toArray 103 (0, 0)), (sb b465 (kTie x451) 46), e480, (sb b1 (kSystem x0 a0_0 n0_0 (some ⟨b455, o456, none⟩) n0_1) 25)]) hr483 => ?_)
     refine V 3 57 (ma 181 (.slice a478 r475.length n479)) ?_
     refine Nt ?_
     refine Rg [0, 1, 2, 3, 4, 5, 6, 7, 8, 9, 10, 11] ?_
     refine V 182 57 (mv 3 (.slice a478 r475.length n479)) ?_
     refine V 183 0 (fa 46 16 1 2 2 b465 0 2) ?_
     refine V 184 27 (ld 27 183 b465 2 true 2 (.agg (kRef x451.B)) (hs482.ownAt (k := 1) rfl)) ?_
     refine V 185 0 (fa 46 16 0 0 2 b465 0 0) ?_
     refine V 186 27 (ld 27 185 b465 0 true 2 (.agg (kRef x451.A)) (hs482.ownAt (k := 1) rfl)) ?_
     refine V 187 0 (fa 25 1 2 2 1 b1 0 2 e434) ?_
     refine V 188 3 (ld 3 187 b1 2 false 1 (vi x0.Window) (hs482.ownAt (k := 3) rfl)) ?_
     refine V 189 3 (mv 15 (vi s429.2) e436) ?_
     refine V 190 103 (run_build2 (t := 103) (parts := #[(0, (.tmp 184)), (1, (.tmp 186)), (2, (.tmp 188)), (3, (.const (vi 4))), (4, (.tmp 189))]) (vs := [(0, (.agg (kRef x451.B))), (1, (.agg (kRef x451.A))), (2, (vi x0.Window)), (3, (vi 4)), (4, (vi s429.2))]) (rfl) (cs := [(vi x451.B.Log), (vi x451.B.Line), (vi x451.A.Log), (vi x451.A.Line), (vi x0.Window), (vi 4), (vi s429.2)]) (by kernel_rfl)) ?_
     refine RWP.buildSlice (dst := (some 191)) (ty := 57) (g := none) (by kernel_rfl) rfl (t := 57) (len := 1) (parts := #[(0, (.tmp 190))]) (vs := [(0, (.agg #[(vi x451.B.Log), (vi x451.B.Line), (vi x451.A.Log), (vi x451.A.Line), (vi x0.Window), (vi 4), (vi s429.2)]))]) (rfl) (E := 103) (cs := [(vi x451.B.Log), (vi x451.B.Line), (vi x451.A.Log), (vi x451.A.Line), (vi x0.Window), (vi 4), (vi s429.2)]) (by kernel_rfl) hs482 (fun b484 w485 (hs486 : HS w0 F0 w485 F16 [(some b484, .cells ([(vi x451.B.Log), (vi x451.B.Line), (vi x451.A.Log), (vi x451.A.Line), (vi x0.Window), (vi 4), (vi s429.2)] : List Value).toArray 103 (0, 0)), (some b470, .cells ([(vi x451.A.Log), (vi x451.A.Line), (vi x451.B.Log), (vi x451.B.Line), (vi x0.Window), (vi 4), (vi s429.2)] : List Value).toArray 103 (0, 0)), (sb b465 (kTie x451) 46), e480, (sb b1 (kSystem x0 a0_0 n0_0 (some ⟨b455, o456, none⟩) n0_1) 25)]) => ?_)
     have hr488 : RowR tBound 103 F16 (some ⟨b484, 0, none⟩) 1 [({ From := x451.B, To := x451.A, Most := x0.Window, Kind := 4, ID := s429.2 } : Bound)] (some b484, .cells ([(vi x451.B.Log), (vi x451.B.Line), (vi x451.A.Log), (vi x451.A.Line), (vi x0.Window), (vi 4), (vi s429.2)] : List Value).toArray 103 (0, 0)) := RowR.lit ⟨rfl, rfl⟩ (by simp)
     obtain ⟨r489, hap490, h491⟩ := bind_some h477
     refine RWP.append (dst := (some 192)) (ty := 57) (g := none) (by kernel_rfl) rfl (x := (.tmp 182)) (y := (.tmp 191)) (t := 57) (t2 := 57) (by_ := 56) (z := (.agg #[(vi 0), (vi 0), (vi 0), (vi 0), (vi 0), (vi 0), (vi 0)])) (a2 := (some ⟨b484, 0, none⟩)) (c2 := 1) (m := [({ From := x451.B, To := x451.A, Most := x0.Window, Kind := 4, ID := s429.2 } : Bound)]) (T := tBound) (E := 103) (a := a478) (cap := n479) (l := r475) rfl rfl (by kernel_rfl) (by decide) (by kernel_rfl) (by kernel_rfl) rfl oBound hs486 (k := 3) rfl hr483 (RowR.rd hs486 (k := 0) rfl hr488) (r := r489) hap490 (fun a492 n493 e494 w495 (hs496 : HS w0 F0 w495 F16 [(some b484, .cells ([(vi x451.B.Log), (vi x451.B.Line), (vi x451.A.Log), (vi x451.A.Line), (vi x0.Window), (vi 4), (vi s429.2)] : List Value).toArray 103 (0, 0)), (some b470, .cells ([(vi x451.A.Log), (vi x451.A.Line), (vi x451.B.Log), (vi x451.B.Line), (vi x0.Window), (vi 4), (vi s429.2)] : List Value).toArray 103 (0, 0)), (sb b465 (kTie x451) 46), e494, (sb b1 (kSystem x0 a0_0 n0_0 (some ⟨b455, o456, none⟩) n0_1) 25)]) hr497 => ?_)
     refine V 3 57 (ma 192 (.slice a492 r489.length n493)) ?_
     refine RWP.nil ?_
     refine blockQ_nrm ?_
     refine thenQ_nrm ?_
     refine Rg [0, 1, 2] ?_
     refine V 164 3 (mv 15 (vi s429.2) e436) ?_
     refine V 165 3 (run_add (t := 3) (t' := 3) (x := (.tmp 164)) (y := (.const (vi 1))) (k := .i64) (a := s429.2) (b := 1) rfl rfl) ?_
     refine V 15 3 (ma 165 (vi (W64 (s429.2 + 1)))) ?_
     refine RWP.nil ?_
     have hs498 : HS w0 F0 w495 F16 [(some b470, .cells ([(vi x451.A.Log), (vi x451.A.Line), (vi x451.B.Log), (vi x451.B.Line), (vi x0.Window), (vi 4), (vi s429.2)] : List Value).toArray 103 (0, 0)), (sb b465 (kTie x451) 46), e494, (sb b1 (kSystem x0 a0_0 n0_0 (some ⟨b455, o456, none⟩) n0_1) 25)] := hs496.drop 0
     have hs499 : HS w0 F0 w495 F16 [(sb b465 (kTie x451) 46), e494, (sb b1 (kSystem x0 a0_0 n0_0 (some ⟨b455, o456, none⟩) n0_1) 25)] := hs498.drop 0
     have hs500 : HS w0 F0 w495 F16 [e494, (sb b1 (kSystem x0 a0_0 n0_0 (some ⟨b455, o456, none⟩) n0_1) 25)] := hs499.drop 0
     have hn501 := iter_next h491 hnx448
     exact ⟨m445, Nat.lt_succ_self _, (r489, (W64 (s429.2 + 1))), F16, a492, n493, e494, hn501, hs500, le432, e433, e434, rfl, rfl, hr497⟩
    ·have h502 := cond_f hb447 hb449
     refine CWP.exit (by kernel_rfl) ?_
     refine thenQ_ex ?_
     refine thenQ_ex ?_
     refine blockQ_hit rfl ?_
     have hs503 : HS w0 F0 w430 F16 [es429_0] := hs431.drop 1
     have ho504 := iter_done h502 hnx448
     exact .inl ⟨rfl, (s429.1, s429.2), F16, as429_0, ns429_0, es429_0, ho504, hs503, le432, e433, e435, hrs429_0⟩
   ·rintro f w438 ⟨s437, F17, as437_0, ns437_0, es437_0, rfl, hs439, le440, e441, e442, hrs437_0⟩
    have h505 := k_done h428
    refine thenQ_nrm ?_
    refine Sq (Rg [0, 1] ?_)
    refine V 193 57 (mv 3 (.slice as437_0 s437.1.length ns437_0) e442) ?_
    refine V 2 57 (ma 193 (.slice as437_0 s437.1.length ns437_0)) ?_
    refine Nt ?_
    refine CWP.ret (by kernel_rfl) ?_
    have hb509 := RowR.bound hrs437_0
    obtain ⟨F18, hs506, le507, hs508⟩ : ∃ Fq, HS w0 F0 w438 Fq [] ∧ Mem.le F17 Fq ∧ SlA tBound Fq as437_0 s437.1 := HS.freezeRow hs439 (k := 0) rfl hrs437_0
    have hfin := some_inj h505
    subst hfin
    exact ⟨e441, (.slice as437_0 s437.1.length ns437_0), res_of (l := [.tmp 2]) (by kernel_rfl) (vs := [(.slice as437_0 s437.1.length ns437_0)]) ⟨rfl, trivial⟩, (.slice as437_0 s437.1.length ns437_0), F18, rfl, hs506.clear, ⟨as437_0, ns437_0, rfl, hb509, hs508⟩⟩
end Go.Proofs.Ythbcnabeabcmlaa
namespace Go.Proofs.Ythbcnabeabcmlaa
open Go.Proofs
end Go.Proofs.Ythbcnabeabcmlaa
namespace Go.Proofs.Ythbcnabeabcmlaa
theorem jumped_r {N : Nat} {c : Clock} (h : Fit N c.Jumps.length) (a b : Int) : ref03_jumped N c a b = some (jmp c.Jumps a b) := by
 unfold ref03_jumped
 have h1 := h.1
 rw [iter_check' (n := c.Jumps.length) (atB c.Jumps fun x => !(decide (a < x) && decide (x ≤ b))) true (fun i hi => by
  unfold ref03_jumped_L0
  rw [lt_t hi, cond_true, idx_nat hi, Option.bind_some, atB_at hi, W64_succ (by omega)]
  cases decide (a < c.Jumps[i]) with
  | false => rfl
  | true => simp only [cond_true, Option.bind_some, Bool.true_and]; cases decide (c.Jumps[i] ≤ b) <;> rfl) (by unfold ref03_jumped_L0; rw [lt_f]; rfl) h.2, ← all_allB]
 unfold jmp
 have : (c.Jumps.all fun x => !(decide (a < x) && decide (x ≤ b))) = !(c.Jumps.any fun x => decide (a < x) && decide (x ≤ b)) := by
  generalize c.Jumps = J
  induction J with
  | nil => rfl
  | cons x J ih => rw [List.all_cons, List.any_cons, ih, Bool.not_or]
 rw [this]
 cases (c.Jumps.any fun x => decide (a < x) && decide (x ≤ b)) <;> rfl
section
variable {N : Nat} {s : System}
theorem bounds_r (hf : FitS N s) (h : vCheck s = 0) : ref03_bounds N s = some (bnds s) := by
 obtain ⟨k1, k2, k3, k4, k5, k6⟩ := check_ok h
 unfold ref03_bounds
 have hn := hf.n.2
 rw [iter_cat' (body := ref03_bounds_L0 N s) (n := s.Tracks.length) 800 (slips s) (fun i hi => slips_len h hi) (fun i st hi hst => by
  unfold ref03_bounds_L0
  have ht := hf.t _ (List.getElem_mem hi)
  have h400 := (track_facts (k3 _ (List.getElem_mem hi))).2.2
  simp only [lt_t hi, cond_true, idx_nat hi, Option.bind_some]
  rw [iter_cat' (body := ref03_bounds_L1 N s (st, (i : Int)) s.Tracks[i]) (n := s.Tracks[i].Times.length) 2 (slipB (i : Int) s.Tracks[i]) (fun _ _ => Nat.le_refl _) (fun j st2 hj hst2 => by
   unfold ref03_bounds_L1
   simp only [lt_t hj, cond_true, idx_nat hj, Option.bind_some, ref03_Beginning]
   simp only [List.length_nil] at hst
   rw [apnd_ok (by simp; omega)]
   simp only [Option.bind_some]
   rw [apnd_ok (by simp; omega)]
   simp only [Option.bind_some]
   rw [W64_succ (by omega)]
   simp [slipB, hj, beg]) (fun st2 => by unfold ref03_bounds_L1; simp only [lt_f]; rfl) ht.t.2]
  simp only [Option.bind_some, Flow.k]
  rw [W64_succ (by omega)]
  simp [slips, hi]) (fun st => by unfold ref03_bounds_L0; simp only [lt_f]; rfl) hn]
 simp only [Option.bind_some, Flow.k, List.nil_append]
 have hl1 := cat_le (n := s.Tracks.length) (K := 800) (f := slips s) (fun i hi => slips_len h hi)
 generalize hA : cat s.Tracks.length (slips s) = A at *
 rw [iter_cat' (body := ref03_bounds_L2 N s (A, (s.Tracks.length : Int))) (n := s.Tracks.length) 1200 (ords s) (fun i hi => ords_len h hi) (fun i st hi hst => by
  unfold ref03_bounds_L2
  have ht := hf.t _ (List.getElem_mem hi)
  have hv := k3 _ (List.getElem_mem hi)
  have h400 := (track_facts hv).2.2
  simp only [lt_t hi, cond_true, idx_nat hi, Option.bind_some]
  have ht2 := ht.t.2
  rw [iter_cat' (body := ref03_bounds_L3 N s (A, (s.Tracks.length : Int)) (st, (i : Int)) s.Tracks[i]) (n := s.Tracks[i].Times.length - 1) 3 (ordB (i : Int) s.Tracks[i]) (fun j _ => ordB_len _ _ j) (fun j st2 hj hst2 => by
   unfold ref03_bounds_L3
   have hj1 : j + 1 < s.Tracks[i].Times.length := by omega
   have hj0 : j < s.Tracks[i].Times.length := by omega
   simp only
   rw [W64_succ (by omega)]
   simp only [lt_t hj1, cond_true, idx_nat hj1, idx_nat hj0, Option.bind_some, jumped_r ht.j]
   rw [apnd_ok (by simp; omega)]
   simp only [Option.bind_some]
   cases hjm : jmp s.Tracks[i].Clock.Jumps s.Tracks[i].Times[j] s.Tracks[i].Times[j + 1] with
   | true => simp [ordB, hj0, hj1, hjm]
   | false =>
    simp only [cond_false]
    rw [apnd_ok (by simp; omega)]
    simp only [Option.bind_some]
    rw [apnd_ok (by simp; omega)]
    simp [ordB, hj0, hj1, hjm, gapB, widB]) (fun st2 => by
     unfold ref03_bounds_L3
     have e : decide (W64 (((s.Tracks[i].Times.length - 1 : Nat) : Int) + 1) < (s.Tracks[i].Times.length : Int)) = false := by
      rw [W64_succ (by omega)]; simp; omega
     simp only [e]; rfl) (by omega)]
  simp only [Option.bind_some, Flow.k]
  rw [W64_succ (by omega)]
  simp [ords, hi]) (fun st => by unfold ref03_bounds_L2; simp only [lt_f]; rfl) hn]
 simp only [Option.bind_some, Flow.k]
 have hl2 := cat_le (n := s.Tracks.length) (K := 1200) (f := ords s) (fun i hi => ords_len h hi)
 have he := hf.e.2
 rw [iter_cat' (body := ref03_bounds_L4 N s (A, (s.Tracks.length : Int)) (A ++ cat s.Tracks.length (ords s), (s.Tracks.length : Int))) (n := s.Ties.length) 2 (tieB s) (fun j _ => tieB_len _ j) (fun j st hj hst => by
  unfold ref03_bounds_L4
  simp only [List.length_append] at hst
  simp only [lt_t hj, cond_true, idx_nat hj, Option.bind_some]
  rw [apnd_ok (by simp; omega)]
  simp only [Option.bind_some]
  rw [apnd_ok (by simp; omega)]
  simp only [Option.bind_some]
  rw [W64_succ (by omega)]
  simp [tieB, hj]) (fun st => by unfold ref03_bounds_L4; simp only [lt_f]; rfl) he]
 simp only [Option.bind_some, Flow.k, bnds, hA, List.append_assoc]
end
end Go.Proofs.Ythbcnabeabcmlaa
namespace Go.Proofs.Ythbcnabeabcmlaa
open Go.Proofs
def ref03_spots_L0 (N : Nat) (x0 : System) : (Int × List Int × Int) → Option (Flow Spot (Int × List Int × Int)) := fun s17 =>
 (bif (decide (s17.1 < (x0.Tracks.length : Int))) then ((apnd s17.2.1 [s17.2.2]).bind fun r46 => (((idx x0.Tracks s17.1).bind fun x70 => some (W64 (s17.2.2 + (x70.Times.length : Int)))).bind fun j62 => some (.next ((W64 (s17.1 + 1)), r46, j62)))) else some (.done (s17.1, s17.2.1, s17.2.2)))
def ref03_spots (N : Nat) (x0 : System) : Option Spot :=
 ((iter (ref03_spots_L0 N x0) N (0, ([] : List Int), 1)).bind fun o => o.k (fun r => some r) (fun s26 => some ({ first_ := s26.2.1, n_ := s26.2.2 } : Spot)))
theorem co_ref03_spots : CallOk Try.prog 80 := fun _ _ => by kernel_rfl
set_option maxHeartbeats 4000000 in
set_option maxRecDepth 100000 in
theorem c_ref03_spots (N : Nat) (w0 : World) (F0 : Mem) (hF : ∀ b o, F0 b = some o → w0.heap[b]? = some o) (x0 : System) (a0_0 : Option Addr) (n0_0 : Nat) (hb0_0 : LC x0.Tracks.length n0_0) (hs0_0 : SlA tTrack F0 a0_0 x0.Tracks) (a0_1 : Option Addr) (n0_1 : Nat) (hb0_1 : LC x0.Ties.length n0_1) (hs0_1 : SlA tTie F0 a0_1 x0.Ties) (r : Spot) (h : ref03_spots N x0 = some r) :
  Calls Try.prog 80 ([(.agg (kSystem x0 a0_0 n0_0 a0_1 n0_1))] : List Value).toArray w0 (FRet w0 F0 fun F' v => ∃ (aq0_0 : Option Addr) (nq0_0 : Nat), v = (.agg (kSpot r aq0_0 nq0_0)) ∧ LC r.first_.length nq0_0 ∧ SlA tInt F' aq0_0 r.first_) := by
 have hs0 := HS.start hF
 refine calls_of (n := 32) (c := bodyOf Try.f80) Try.func80 (by kernel_rfl) (by kernel_rfl) (by kernel_rfl) ?_
 refine Sq (Rg [0, 1] ?_)
 refine Bx 1 0 0 25 (kSystem x0 a0_0 n0_0 a0_1 n0_1) hs0 (fun b1 w2 (hs3 : HS w0 F0 w2 F0 [(sb b1 (kSystem x0 a0_0 n0_0 a0_1 n0_1) 25)]) => ?_)
 refine Al 2 0 112 #[(.slice none ([] : List Int).length 0), (vi 0)] hs3 (fun b4 w5 (hs6 : HS w0 F0 w5 F0 [(sb b4 #[(.slice none ([] : List Int).length 0), (vi 0)] 112), (sb b1 (kSystem x0 a0_0 n0_0 a0_1 n0_1) 25)]) => ?_)
 refine Nss (Rg [0, 1, 2] ?_)
 refine V 5 112 (run_build2 (t := 112) (parts := #[(1, (.const (vi 1)))]) (vs := [(1, (vi 1))]) (rfl) (cs := [(.slice none ([] : List Int).length 0), (vi 1)]) (by kernel_rfl)) ?_
 refine Al 3 0 112 #[(.slice none ([] : List Int).length 0), (vi 0)] hs6 (fun b7 w8 (hs9 : HS w0 F0 w8 F0 [(sb b7 #[(.slice none ([] : List Int).length 0), (vi 0)] 112), (sb b4 #[(.slice none ([] : List Int).length 0), (vi 0)] 112), (sb b1 (kSystem x0 a0_0 n0_0 a0_1 n0_1) 25)]) => ?_)
 refine RWP.store (ty := 0) (g := none) (by kernel_rfl) rfl (x := (.tmp 3)) (y := (.tmp 5)) (t := 112) (gg := true) (s := 2) (v := (.agg #[(.slice none ([] : List Int).length 0), (vi 1)])) (b := b7) (o := 0) (C := #[(.slice none ([] : List Int).length 0), (vi 0)]) rfl rfl (by kernel_rfl) hs9 (k := 0) rfl rfl rfl rfl (C' := #[(.slice none ([] : List Int).length 0), (vi 1)]) rfl (fun w10 (hs11 : HS w0 F0 w10 F0 [(sb b7 #[(.slice none ([] : List Int).length 0), (vi 1)] 112), (sb b4 #[(.slice none ([] : List Int).length 0), (vi 0)] 112), (sb b1 (kSystem x0 a0_0 n0_0 a0_1 n0_1) 25)]) => ?_)
 refine Nss ?_
 refine Sq (Rg [0] ?_)
 refine V 4 3 (mc (vi 0) (vi 0)) ?_
 refine Nt ?_
 have hs12 : HS w0 F0 w10 F0 [(none, .cells #[] 0 (0, 0)), (sb b7 #[(.slice none ([] : List Int).length 0), (vi 1)] 112), (sb b4 #[(.slice none ([] : List Int).length 0), (vi 0)] 112), (sb b1 (kSystem x0 a0_0 n0_0 a0_1 n0_1) 25)] := hs11.dummy _
 obtain ⟨o14, ho15, h16⟩ := bind_some h
 refine CWP.cut (fun f w => ∃ (s26 : (Int × List Int × Int)) (F2 : Mem) (as26_1 : Option Addr) (ns26_1 : Nat) (es26_1 : Option Nat × Obj), o14 = .done s26 ∧ HS w0 F0 w F2 [es26_1, (sb b7 #[(.slice as26_1 s26.2.1.length ns26_1), (vi s26.2.2)] 112), (sb b4 #[(.slice none ([] : List Int).length 0), (vi 0)] 112)] ∧ Mem.le F0 F2 ∧ f.d = [] ∧ f 2 = (.pointer (some ⟨b4, 0, none⟩)) ∧ f 3 = (.pointer (some ⟨b7, 0, none⟩)) ∧ RowR tInt 3 F2 as26_1 ns26_1 s26.2.1 es26_1) ?_ ?_
 ·refine Bk ?_
  refine CWP.loop (by kernel_rfl) (fun m f w => ∃ (s17 : (Int × List Int × Int)) (F1 : Mem) (as17_1 : Option Addr) (ns17_1 : Nat) (es17_1 : Option Nat × Obj), iter (ref03_spots_L0 N x0) m s17 = some o14 ∧ HS w0 F0 w F1 [es17_1, (sb b7 #[(.slice as17_1 s17.2.1.length ns17_1), (vi s17.2.2)] 112), (sb b4 #[(.slice none ([] : List Int).length 0), (vi 0)] 112), (sb b1 (kSystem x0 a0_0 n0_0 a0_1 n0_1) 25)] ∧ Mem.le F0 F1 ∧ f.d = [] ∧ f 1 = (.pointer (some ⟨b1, 0, none⟩)) ∧ f 2 = (.pointer (some ⟨b4, 0, none⟩)) ∧ f 3 = (.pointer (some ⟨b7, 0, none⟩)) ∧ f 4 = (vi s17.1) ∧ RowR tInt 3 F1 as17_1 ns17_1 s17.2.1 es17_1) N ⟨(0, ([] : List Int), 1), F0, none, 0, (none, .cells #[] 0 (0, 0)), ho15, hs12, (Mem.le.refl _), rfl, rfl, rfl, rfl, rfl, (RowR.nil tInt 3 F0 _)⟩ ?_
  rintro m33 f w18 ⟨s17, F1, as17_1, ns17_1, es17_1, hit34, hs19, le20, e21, e22, e23, e24, e25, hrs17_1⟩
  obtain ⟨m35, fl36, rfl, hb37, hnx38⟩ := iter_step hit34
  refine Sq ?_
  refine Sq (Rg [0, 1, 2, 3, 4] ?_)
  refine V 6 3 (mv 4 (vi s17.1) e25) ?_
  refine V 7 0 (fa 25 1 0 0 1 b1 0 0 e22) ?_
  refine V 8 22 (ld 22 7 b1 0 false 1 (.slice a0_0 x0.Tracks.length n0_0) (hs19.ownAt (k := 3) rfl)) ?_
  refine V 9 3 (ln 8 22 a0_0 x0.Tracks.length n0_0 54 4 64) ?_
  refine V 10 4 (run_lss (t := 3) (t' := 3) (x := (.tmp 6)) (y := (.tmp 9)) (k := .i64) (a := s17.1) (b := (x0.Tracks.length : Int)) rfl rfl) ?_
  refine Nt ?_
  refine CWP.cond (t := (decide (s17.1 < (x0.Tracks.length : Int)))) (by kernel_rfl) rfl (fun hb39 => ?_) (fun hb39 => ?_)
  ·have h40 := cond_t hb37 hb39
   refine Sc ?_
   refine thenQ_nrm ?_
   refine Sq ?_
   refine Bk ?_
   refine Sq (Rg [0, 1, 2, 3, 4, 5, 6, 7] ?_)
   refine V 13 0 (fa 112 3 0 0 1 b7 0 0 e24) ?_
   refine V 14 50 (ld 50 13 b7 0 false 1 (.slice as17_1 s17.2.1.length ns17_1) (hs19.ownAt (k := 1) rfl)) ?_
   refine V 15 0 (fa 112 3 1 1 1 b7 0 1 e24) ?_
   refine V 16 3 (ld 3 15 b7 1 false 1 (vi s17.2.2) (hs19.ownAt (k := 1) rfl)) ?_
   refine RWP.buildSlice (dst := (some 17)) (ty := 50) (g := none) (by kernel_rfl) rfl (t := 50) (len := 1) (parts := #[(0, (.tmp 16))]) (vs := [(0, (vi s17.2.2))]) (rfl) (E := 3) (cs := [(vi s17.2.2)]) (by kernel_rfl) hs19 (fun b41 w42 (hs43 : HS w0 F0 w42 F1 [(some b41, .cells ([(vi s17.2.2)] : List Value).toArray 3 (0, 0)), es17_1, (sb b7 #[(.slice as17_1 s17.2.1.length ns17_1), (vi s17.2.2)] 112), (sb b4 #[(.slice none ([] : List Int).length 0), (vi 0)] 112), (sb b1 (kSystem x0 a0_0 n0_0 a0_1 n0_1) 25)]) => ?_)
   have hr45 : RowR tInt 3 F1 (some ⟨b41, 0, none⟩) 1 [s17.2.2] (some b41, .cells ([(vi s17.2.2)] : List Value).toArray 3 (0, 0)) := RowR.lit ⟨rfl, rfl⟩ (by simp)
   obtain ⟨r46, hap47, h48⟩ := bind_some h40
   refine RWP.append (dst := (some 18)) (ty := 50) (g := none) (by kernel_rfl) rfl (x := (.tmp 14)) (y := (.tmp 17)) (t := 50) (t2 := 50) (by_ := 8) (z := (vi 0)) (a2 := (some ⟨b41, 0, none⟩)) (c2 := 1) (m := [s17.2.2]) (T := tInt) (E := 3) (a := as17_1) (cap := ns17_1) (l := s17.2.1) rfl rfl (by kernel_rfl) (by decide) (by kernel_rfl) (by kernel_rfl) rfl oInt hs43 (k := 1) rfl hrs17_1 (RowR.rd hs43 (k := 0) rfl hr45) (r := r46) hap47 (fun a49 n50 e51 w52 (hs53 : HS w0 F0 w52 F1 [(some b41, .cells ([(vi s17.2.2)] : List Value).toArray 3 (0, 0)), e51, (sb b7 #[(.slice as17_1 s17.2.1.length ns17_1), (vi s17.2.2)] 112), (sb b4 #[(.slice none ([] : List Int).length 0), (vi 0)] 112), (sb b1 (kSystem x0 a0_0 n0_0 a0_1 n0_1) 25)]) hr54 => ?_)
   refine V 19 0 (fa 112 3 0 0 1 b7 0 0 e24) ?_
   refine RWP.store (ty := 0) (g := none) (by kernel_rfl) rfl (x := (.tmp 19)) (y := (.tmp 18)) (t := 50) (gg := false) (s := 1) (v := (.slice a49 r46.length n50)) (b := b7) (o := 0) (C := #[(.slice as17_1 s17.2.1.length ns17_1), (vi s17.2.2)]) rfl rfl (by kernel_rfl) hs53 (k := 2) rfl rfl rfl rfl (C' := #[(.slice a49 r46.length n50), (vi s17.2.2)]) rfl (fun w55 (hs56 : HS w0 F0 w55 F1 [(some b41, .cells ([(vi s17.2.2)] : List Value).toArray 3 (0, 0)), e51, (sb b7 #[(.slice a49 r46.length n50), (vi s17.2.2)] 112), (sb b4 #[(.slice none ([] : List Int).length 0), (vi 0)] 112), (sb b1 (kSystem x0 a0_0 n0_0 a0_1 n0_1) 25)]) => ?_)
   refine Nt ?_
   obtain ⟨j62, hj68, h69⟩ := bind_some h48
   refine CWP.regionD (by kernel_rfl) (by kernel_rfl) (by kernel_rfl) (by kernel_rfl) (z := 11) (F := F1) (Lc := [(some b41, .cells ([(vi s17.2.2)] : List Value).toArray 3 (0, 0)), e51, (sb b4 #[(.slice none ([] : List Int).length 0), (vi 0)] 112), (sb b1 (kSystem x0 a0_0 n0_0 a0_1 n0_1) 25)]) (Lz := [(sb b7 #[(.slice a49 r46.length n50), (vi s17.2.2)] 112)]) (l := [false, false, false, false, false, false, false, false, false, false, false, false]) (fuel := 12) (by kernel_rfl) (by kernel_rfl) hs56 (by simp) (by simp) (fun f w => ∃ (F3 : Mem), HS w0 F0 w F3 [e51, (sb b7 #[(.slice a49 r46.length n50), (vi j62)] 112), (sb b4 #[(.slice none ([] : List Int).length 0), (vi 0)] 112), (sb b1 (kSystem x0 a0_0 n0_0 a0_1 n0_1) 25)] ∧ Mem.le F1 F3 ∧ f.d = [] ∧ f 1 = (.pointer (some ⟨b1, 0, none⟩)) ∧ f 2 = (.pointer (some ⟨b4, 0, none⟩)) ∧ f 3 = (.pointer (some ⟨b7, 0, none⟩)) ∧ f 4 = (vi s17.1)) (fun wd57 hw58 => ?_) ?_
   ·refine Df 0 20 0 (.pointer (some ⟨b7, 1, none⟩)) (fun _ hq => fa 112 3 1 1 1 b7 0 1 e24) ?_
    refine Df 1 21 3 _ (fun _ hq => ld 3 20 b7 1 false 1 (vi s17.2.2) ((hq.2 rfl).2 0 _ _ rfl)) ?_
    refine Df 2 22 0 (.pointer (some ⟨b1, 0, none⟩)) (fun _ hq => fa 25 1 0 0 1 b1 0 0 e22) ?_
    refine Df 3 23 22 _ (fun _ hq => ld 22 22 b1 0 false 1 (.slice a0_0 x0.Tracks.length n0_0) (hq.1.2 3 _ _ rfl)) ?_
    refine Df 4 24 3 _ (fun _ hq => mv 4 (vi s17.1) e25) ?_
    obtain ⟨x70, hx71, h73⟩ := bind_some hj68
    obtain ⟨hi72, hx71'⟩ := idx_spec hx71
    obtain ⟨b74, o75, C76, E77, fz78, rfl, hF80, hE81⟩ := SlA.open (SlA.mono hs0_0 le20) hx71'
    obtain ⟨ae82_2, ne82_2, ae82_3, ne82_3, hc83, hbe82_2, hse82_2, hbe82_3, hse82_3⟩ := hE81 _ _ hx71'
    refine Df 5 25 0 (.pointer (some ⟨b74, (o75 + (s17.1 : Int).toNat * 4), none⟩)) (fun _ hq => ix 22 23 24 b74 o75 54 4 64 hi72) ?_
    refine Df 6 26 0 (.pointer (some ⟨b74, ((o75 + (s17.1 : Int).toNat * 4) + 3), none⟩)) (fun _ hq => fa 54 25 1 3 1 b74 (o75 + (s17.1 : Int).toNat * 4) ((o75 + (s17.1 : Int).toNat * 4) + 3)) ?_
    refine Df 7 27 50 _ (fun _ hq => lx 50 26 3 4 false 1 (.slice ae82_3 x70.Times.length ne82_3) (hq.1.1 _ _ hF80) hc83) ?_
    refine Df 8 28 3 (vi (x70.Times.length : Int)) (fun _ hq => ln 27 50 ae82_3 x70.Times.length ne82_3 3 1 8) ?_
    refine Df 9 29 3 (vi (W64 (s17.2.2 + (x70.Times.length : Int)))) (fun _ hq => run_add (t := 3) (t' := 3) (x := (.tmp 21)) (y := (.tmp 28)) (k := .i64) (a := s17.2.2) (b := (x70.Times.length : Int)) rfl rfl) ?_
    refine Df 10 30 0 (.pointer (some ⟨b7, 1, none⟩)) (fun _ hq => fa 112 3 1 1 1 b7 0 1 e24) ?_
    refine DWP.one (i := 11) (by kernel_rfl) ?_
    refine DStep.store (l' := [true, true, true, true, true, true, true, true, true, true, true, true]) (zd := true) (by kernel_rfl) (by kernel_rfl) (ty := 0) (g := none) (by kernel_rfl) rfl (x := (.tmp 30)) (y := (.tmp 29)) (t := 3) (gg := false) (s := 1) (v := (vi (W64 (s17.2.2 + (x70.Times.length : Int))))) (b := b7) (o := 1) (C := #[(.slice a49 r46.length n50), (vi s17.2.2)]) rfl rfl (by kernel_rfl) hw58 (k := 2) rfl rfl rfl rfl (C' := #[(.slice a49 r46.length n50), (vi (W64 (s17.2.2 + (x70.Times.length : Int))))]) rfl (Mem.le.refl _) (by simp) (fun e => by cases e) (fun w84 (hs85 : HS w0 F0 w84 F1 [(some b41, .cells ([(vi s17.2.2)] : List Value).toArray 3 (0, 0)), e51, (sb b7 #[(.slice a49 r46.length n50), (vi (W64 (s17.2.2 + (x70.Times.length : Int))))] 112), (sb b4 #[(.slice none ([] : List Int).length 0), (vi 0)] 112), (sb b1 (kSystem x0 (some ⟨b74, o75, none⟩) n0_0 a0_1 n0_1) 25)]) => ?_)
    obtain rfl := some_inj h73
    have hs86 : HS w0 F0 w84 F1 [e51, (sb b7 #[(.slice a49 r46.length n50), (vi (W64 (s17.2.2 + (x70.Times.length : Int))))] 112), (sb b4 #[(.slice none ([] : List Int).length 0), (vi 0)] 112), (sb b1 (kSystem x0 (some ⟨b74, o75, none⟩) n0_0 a0_1 n0_1) 25)] := hs85.drop 0
    exact DWP.done (by kernel_rfl) ⟨F1, hs86, (Mem.le.refl _), e21, e22, e23, e24, e25⟩
   ·rintro f w59 ⟨F3, hs60, le61, e63, e64, e65, e66, e67⟩
    refine blockQ_nrm ?_
    refine thenQ_nrm ?_
    refine Rg [0, 1, 2] ?_
    refine V 11 3 (mv 4 (vi s17.1) e67) ?_
    refine V 12 3 (run_add (t := 3) (t' := 3) (x := (.tmp 11)) (y := (.const (vi 1))) (k := .i64) (a := s17.1) (b := 1) rfl rfl) ?_
    refine V 4 3 (ma 12 (vi (W64 (s17.1 + 1)))) ?_
    refine RWP.nil ?_
    have hn87 := iter_next h69 hnx38
    exact ⟨m35, Nat.lt_succ_self _, ((W64 (s17.1 + 1)), r46, j62), F3, a49, n50, e51, hn87, hs60, (le20.trans le61), e63, e64, e65, e66, rfl, (hr54.mono le61)⟩
  ·have h88 := cond_f hb37 hb39
   refine CWP.exit (by kernel_rfl) ?_
   refine thenQ_ex ?_
   refine thenQ_ex ?_
   refine blockQ_hit rfl ?_
   have hs89 : HS w0 F0 w18 F1 [es17_1, (sb b7 #[(.slice as17_1 s17.2.1.length ns17_1), (vi s17.2.2)] 112), (sb b4 #[(.slice none ([] : List Int).length 0), (vi 0)] 112)] := hs19.drop 3
   have ho90 := iter_done h88 hnx38
   exact .inl ⟨rfl, (s17.1, s17.2.1, s17.2.2), F1, as17_1, ns17_1, es17_1, ho90, hs89, le20, e21, e23, e24, hrs17_1⟩
 ·rintro f w27 ⟨s26, F2, as26_1, ns26_1, es26_1, rfl, hs28, le29, e30, e31, e32, hrs26_1⟩
  have h91 := k_done h16
  refine thenQ_nrm ?_
  refine Sq (Rg [0, 1] ?_)
  refine V 31 112 (ld 112 3 b7 0 true 2 (.agg #[(.slice as26_1 s26.2.1.length ns26_1), (vi s26.2.2)]) (hs28.ownAt (k := 1) rfl) e32) ?_
  refine RWP.store (ty := 0) (g := none) (by kernel_rfl) rfl (x := (.tmp 2)) (y := (.tmp 31)) (t := 112) (gg := true) (s := 2) (v := (.agg #[(.slice as26_1 s26.2.1.length ns26_1), (vi s26.2.2)])) (b := b4) (o := 0) (C := #[(.slice none ([] : List Int).length 0), (vi 0)]) e31 rfl (by kernel_rfl) hs28 (k := 2) rfl rfl rfl rfl (C' := #[(.slice as26_1 s26.2.1.length ns26_1), (vi s26.2.2)]) rfl (fun w92 (hs93 : HS w0 F0 w92 F2 [es26_1, (sb b7 #[(.slice as26_1 s26.2.1.length ns26_1), (vi s26.2.2)] 112), (sb b4 #[(.slice as26_1 s26.2.1.length ns26_1), (vi s26.2.2)] 112)]) => ?_)
  refine Nt ?_
  refine CWP.ret (by kernel_rfl) ?_
  have hb97 := RowR.bound hrs26_1
  obtain ⟨F4, hs94, le95, hs96⟩ : ∃ Fq, HS w0 F0 w92 Fq [(sb b7 #[(.slice as26_1 s26.2.1.length ns26_1), (vi s26.2.2)] 112), (sb b4 #[(.slice as26_1 s26.2.1.length ns26_1), (vi s26.2.2)] 112)] ∧ Mem.le F2 Fq ∧ SlA tInt Fq as26_1 s26.2.1 := HS.freezeRow hs93 (k := 0) rfl hrs26_1
  have hfin := some_inj h91
  subst hfin
  exact ⟨e30, (.agg #[(.slice as26_1 s26.2.1.length ns26_1), (vi s26.2.2)]), res_of (l := [.cell 2 112]) (by kernel_rfl) (vs := [(.agg #[(.slice as26_1 s26.2.1.length ns26_1), (vi s26.2.2)])]) ⟨b4, 0, e31, run_loadVar' (t := 112) (g := true) (s := 2) (by kernel_rfl) (hs94.ownAt (k := 1) rfl) rfl (by decide), trivial⟩, (.agg #[(.slice as26_1 s26.2.1.length ns26_1), (vi s26.2.2)]), F4, rfl, hs94.clear, ⟨as26_1, ns26_1, rfl, hb97, hs96⟩⟩
end Go.Proofs.Ythbcnabeabcmlaa
