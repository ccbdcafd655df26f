/- Lemmas of the claim AirDays, printed by a program of the claimant and by hand. No statement of the seat is proved here. -/
import Derived.Test.YtlddakefmfcblaaGreatDoorEg3
set_option linter.unusedVariables false
set_option linter.unusedSimpArgs false
set_option linter.unusedSectionVars false
namespace Go.Proofs.YtlddakefmfcblaaGreatDoor
open Go.Proofs
def air_Overlap_L1 (N : Nat) (x0 : (List Prefix)) (r1 : Bool) (r12 : (List (air_key × (List Int)))) (s23 : Int) (x46 : Prefix) (r65 : air_key) : Int → Option (Flow (Int × Int × Int) Int) := fun s80 =>
 (bif (decide (s80 < ((mgetD r12 r65 ([] : List Int)).length : Int))) then ((idx (mgetD r12 r65 ([] : List Int)) s80).bind fun x113 => ((bif (decide (x113 > s23)) then ((idx x0 x113).bind fun x150 => (bif (decide (x46.From ≤ x150.To)) then ((idx x0 x113).bind fun x158 => some (decide (x158.From ≤ x46.To))) else some false)) else some false).bind fun j132 => (bif j132 then some (.ret (s23, x113, 0)) else some (.next (W64 (s80 + 1)))))) else some (.done s80))
def air_Overlap_L0 (N : Nat) (x0 : (List Prefix)) (r1 : Bool) (r12 : (List (air_key × (List Int)))) : Int → Option (Flow (Int × Int × Int) Int) := fun s23 =>
 (bif (decide (s23 < (x0.length : Int))) then ((idx x0 s23).bind fun x46 => ((air_keyOf N x46).bind fun r65 => ((iter (air_Overlap_L1 N x0 r1 r12 s23 x46 r65) N 0).bind fun o => o.k (fun r => some (.ret r)) (fun s95 => some (.next (W64 (s23 + 1))))))) else some (.done s23))
def air_Overlap (N : Nat) (x0 : (List Prefix)) : Option (Int × Int × Int) :=
 ((air_rows N x0).bind fun r1 => (bif (!r1) then some (0, 0, 12) else ((air_tableOf N x0).bind fun r12 => ((iter (air_Overlap_L0 N x0 r1 r12) N 0).bind fun o => o.k (fun r => some r) (fun s33 => some (0, 0, 3))))))
theorem co_air_Overlap : CallOk Tryz.prog 50 := fun _ _ => by kernel_rfl
set_option maxHeartbeats 4000000 in
set_option maxRecDepth 100000 in
theorem c_air_Overlap (N : Nat) (w0 : World) (F0 : Mem) (hF : ∀ b o, F0 b = some o → w0.heap[b]? = some o) (x0 : (List Prefix)) (a0_0 : Option Addr) (n0_0 : Nat) (hb0_0 : LC x0.length n0_0) (hs0_0 : SlA tPrefix F0 a0_0 x0) (r : (Int × Int × Int)) (h : air_Overlap N x0 = some r) :
  Calls Tryz.prog 50 ([(.slice a0_0 x0.length n0_0)] : List Value).toArray w0 (FRet w0 F0 fun F' v => v = (.tuple #[(vi r.1), (vi r.2.1), (vi r.2.2)])) := by
 have hs0 := HS.start hF
 refine calls_of (n := 58) (c := bodyOf Tryz.f50) Tryz.func50 (by kernel_rfl) (by kernel_rfl) (by kernel_rfl) ?_
 refine Sq (Rg [0, 1, 2] ?_)
 refine V 2 3 (mc (vi 0) (vi 0)) ?_
 refine V 3 3 (mc (vi 0) (vi 0)) ?_
 refine V 4 23 (mc (vi 0) (vi 0)) ?_
 refine Nss ?_
 refine Sq (Rg [0, 1, 2] ?_)
 refine V 10 61 (mv 0 (.slice a0_0 x0.length n0_0)) ?_
 obtain ⟨r1, hr2, h3⟩ := bind_some h
 refine Cl 11 4 92 #[(.tmp 10)] #[61] co_air_rows hs0 (c_air_rows N w0 F0 hs0.pers (x0) a0_0 n0_0 hb0_0 hs0_0 _ hr2) ?_
 intro v4 F1 w5 hs6 le7 hp8
 obtain rfl := hp8
 refine V 12 4 (run_not (t := 4) (x := (.tmp 11)) (a := r1) rfl) ?_
 refine Nt ?_
 refine CWP.cond (t := (!r1)) (by kernel_rfl) rfl (fun hb9 => ?_) (fun hb9 => ?_)
 ·have h10 := cond_t h3 hb9
  refine Sq (Rg [0, 1, 2] ?_)
  refine V 2 3 (mc (vi 0) (vi 0)) ?_
  refine V 3 3 (mc (vi 0) (vi 0)) ?_
  refine V 4 23 (mc (vi 12) (vi 12)) ?_
  refine Nt ?_
  refine CWP.ret (by kernel_rfl) ?_
  refine thenQ_ret ?_
  have hfin := some_inj h10
  subst hfin
  exact ⟨rfl, (.tuple #[(vi 0), (vi 0), (vi 12)]), res_of (l := [.tmp 2, .tmp 3, .tmp 4]) (by kernel_rfl) (vs := [(vi 0), (vi 0), (vi 12)]) ⟨rfl, ⟨rfl, ⟨rfl, trivial⟩⟩⟩, (.tuple #[(vi 0), (vi 0), (vi 12)]), F1, rfl, hs6.clear, rfl⟩
 ·have h11 := cond_f h3 hb9
  refine Sc ?_
  refine thenQ_nrm ?_
  refine Sq (Rg [0, 1, 2] ?_)
  refine V 13 61 (mv 0 (.slice a0_0 x0.length n0_0)) ?_
  obtain ⟨r12, hr13, h14⟩ := bind_some h11
  refine Cl 14 116 93 #[(.tmp 13)] #[61] co_air_tableOf hs6 (c_air_tableOf N w5 F1 hs6.pers (x0) a0_0 n0_0 hb0_0 (SlA.mono hs0_0 le7) _ hr13) ?_
  intro v15 F2 w16 hs17 le18 hp19
  obtain ⟨or12_0_0, rfl, hmr12_0_0⟩ := hp19
  refine V 5 116 (ma 14 (.map or12_0_0)) ?_
  refine Nss ?_
  refine Sq (Rg [0, 1, 2] ?_)
  refine V 15 61 (mv 0 (.slice a0_0 x0.length n0_0)) ?_
  refine V 16 3 (ln 15 61 a0_0 x0.length n0_0 71 7 64) ?_
  refine V 17 3 (run_move (x := (.const (vi 0))) (v := (vi 0)) rfl) ?_
  refine Nt ?_
  obtain ⟨o20, ho21, h22⟩ := bind_some h14
  refine CWP.cut (fun f w => ∃ (s33 : Int) (F4 : Mem), o20 = .done s33 ∧ HS w0 F0 w F4 [] ∧ Mem.le F2 F4 ∧ f.d = []) ?_ ?_
  ·refine Bk ?_
   refine CWP.loop (by kernel_rfl) (fun m f w => ∃ (s23 : Int) (F3 : Mem), iter (air_Overlap_L0 N x0 r1 r12) m s23 = some o20 ∧ HS w0 F0 w F3 [] ∧ Mem.le F2 F3 ∧ f.d = [] ∧ f 0 = (.slice a0_0 x0.length n0_0) ∧ f 5 = (.map or12_0_0) ∧ f 15 = (.slice a0_0 x0.length n0_0) ∧ f 16 = (vi (x0.length : Int)) ∧ f 17 = (vi s23)) N ⟨0, F2, ho21, hs17, (Mem.le.refl _), rfl, rfl, rfl, rfl, rfl, rfl⟩ ?_
   rintro m38 f w24 ⟨s23, F3, hit39, hs25, le26, e27, e28, e29, e30, e31, e32⟩
   obtain ⟨m40, fl41, rfl, hb42, hnx43⟩ := iter_step hit39
   refine Sq (Rg [0] ?_)
   refine V 18 0 (run_lss (t := 3) (t' := 3) (x := (.tmp 17)) (y := (.tmp 16)) (k := .i64) (a := s23) (b := (x0.length : Int)) e32 e31) ?_
   refine Nss ?_
   refine CWP.cond (t := (decide (s23 < (x0.length : Int)))) (by kernel_rfl) rfl (fun hb44 => ?_) (fun hb44 => ?_)
   ·have h45 := cond_t hb42 hb44
    refine Sc ?_
    refine thenQ_nrm ?_
    refine Sq ?_
    refine Bk ?_
    refine Sq (Rg [0, 1, 2, 3, 4, 5] ?_)
    refine V 19 3 (mv 17 (vi s23) e32) ?_
    obtain ⟨x46, hx47, h49⟩ := bind_some h45
    obtain ⟨hi48, hx47'⟩ := idx_spec hx47
    obtain ⟨b50, o51, C52, E53, fz54, rfl, hF56, hE57⟩ := SlA.open (SlA.mono hs0_0 ((le7.trans le18).trans le26)) hx47'
    have hc59 := hE57 _ _ hx47'
    refine V 20 0 (run_index (t := 61) (x := (.tmp 15)) (y := (.tmp 17)) (b := b50) (o := o51) (E := 71) (s := 7) (by_ := 64) e30 e32 (by kernel_rfl) hi48) ?_
    refine V 21 71 (lx 71 20 0 7 true 7 (.agg #[(.string ⟨(x46.Text).toArray⟩), (vi x46.Country), (vi x46.Zone), (vi x46.Continent), (vi x46.From), (vi x46.To), (.bool x46.Whole)]) (hs25.pers _ _ hF56) hc59) ?_
    refine Al 7 0 71 #[(.string ⟨(([] : List UInt8)).toArray⟩), (vi 0), (vi 0), (vi 0), (vi 0), (vi 0), (.bool false)] hs25 (fun b60 w61 (hs62 : HS w0 F0 w61 F3 [(sb b60 #[(.string ⟨(([] : List UInt8)).toArray⟩), (vi 0), (vi 0), (vi 0), (vi 0), (vi 0), (.bool false)] 71)]) => ?_)
    refine V 6 3 (ma 19 (vi s23)) ?_
    refine RWP.store (ty := 0) (g := none) (by kernel_rfl) rfl (x := (.tmp 7)) (y := (.tmp 21)) (t := 71) (gg := true) (s := 7) (v := (.agg #[(.string ⟨(x46.Text).toArray⟩), (vi x46.Country), (vi x46.Zone), (vi x46.Continent), (vi x46.From), (vi x46.To), (.bool x46.Whole)])) (b := b60) (o := 0) (C := #[(.string ⟨(([] : List UInt8)).toArray⟩), (vi 0), (vi 0), (vi 0), (vi 0), (vi 0), (.bool false)]) rfl rfl (by kernel_rfl) hs62 (k := 0) rfl rfl rfl rfl (C' := #[(.string ⟨(x46.Text).toArray⟩), (vi x46.Country), (vi x46.Zone), (vi x46.Continent), (vi x46.From), (vi x46.To), (.bool x46.Whole)]) rfl (fun w63 (hs64 : HS w0 F0 w63 F3 [(sb b60 #[(.string ⟨(x46.Text).toArray⟩), (vi x46.Country), (vi x46.Zone), (vi x46.Continent), (vi x46.From), (vi x46.To), (.bool x46.Whole)] 71)]) => ?_)
    refine Nss (Rg [0, 1, 2, 3, 4, 5] ?_)
    refine V 22 116 (mv 5 (.map or12_0_0) e29) ?_
    refine V 23 71 (ld 71 7 b60 0 true 7 (.agg #[(.string ⟨(x46.Text).toArray⟩), (vi x46.Country), (vi x46.Zone), (vi x46.Continent), (vi x46.From), (vi x46.To), (.bool x46.Whole)]) (hs64.ownAt (k := 0) rfl)) ?_
    obtain ⟨r65, hr66, h67⟩ := bind_some h49
    refine Cl 24 119 94 #[(.tmp 23)] #[71] co_air_keyOf hs64 (c_air_keyOf N w63 F3 hs64.pers (x46) _ hr66) ?_
    intro v68 F5 w69 hs70 le71 hp72
    obtain rfl := hp72
    refine RWP.look1 kl119 (dst := (some 25))  (g := none) (by kernel_rfl) rfl (ty := 77) (mt := 116) (k := 119) (vt := 77) (m := (.tmp 22)) (x := (.tmp 24)) (kv := (.agg #[(.string ⟨(r65.text_).toArray⟩), (.bool r65.whole_)])) (kx := r65) (z := (.slice none ([] : List Int).length 0)) (zx := ([] : List Int)) (K := tair_key) (T := (tSl tInt)) rfl rfl ⟨_, rfl, rfl⟩ (by kernel_rfl) (by kernel_rfl) ⟨_, ⟨none, 0, rfl, LC.nil, (.inl rfl)⟩, rfl⟩ (MpA.mpw hs70.pers (MpA.mono hmr12_0_0 (le26.trans le71))) (fun v73 hv74 => ?_)
    obtain ⟨ay75_0, ny75_0, rfl, hby75_0, hsy75_0⟩ : ∃ (ay75_0 : Option Addr) (ny75_0 : Nat), v73 = (.slice ay75_0 (mgetD r12 r65 ([] : List Int)).length ny75_0) ∧ LC (mgetD r12 r65 ([] : List Int)).length ny75_0 ∧ SlA tInt F5 ay75_0 (mgetD r12 r65 ([] : List Int)) := by obtain ⟨_, ⟨ay75_0, ny75_0, rfl, hby75_0, hsy75_0⟩, rfl⟩ := hv74; exact ⟨ay75_0, ny75_0, rfl, hby75_0, hsy75_0⟩
    refine V 26 3 (ln 25 77 ay75_0 (mgetD r12 r65 ([] : List Int)).length ny75_0 3 1 8) ?_
    refine V 27 3 (run_move (x := (.const (vi 0))) (v := (vi 0)) rfl) ?_
    refine Nt ?_
    obtain ⟨o77, ho78, h79⟩ := bind_some h67
    refine CWP.cut (fun f w => ∃ (s95 : Int) (F7 : Mem), o77 = .done s95 ∧ HS w0 F0 w F7 [] ∧ Mem.le F5 F7 ∧ f.d = [] ∧ f 0 = (.slice (some ⟨b50, o51, none⟩) x0.length n0_0) ∧ f 5 = (.map or12_0_0) ∧ f 15 = (.slice (some ⟨b50, o51, none⟩) x0.length n0_0) ∧ f 16 = (vi (x0.length : Int)) ∧ f 17 = (vi s23)) ?_ ?_
    ·refine Bk ?_
     refine CWP.loop (by kernel_rfl) (fun m f w => ∃ (s80 : Int) (F6 : Mem), iter (air_Overlap_L1 N x0 r1 r12 s23 x46 r65) m s80 = some o77 ∧ HS w0 F0 w F6 [(sb b60 #[(.string ⟨(x46.Text).toArray⟩), (vi x46.Country), (vi x46.Zone), (vi x46.Continent), (vi x46.From), (vi x46.To), (.bool x46.Whole)] 71)] ∧ Mem.le F5 F6 ∧ f.d = [] ∧ f 0 = (.slice (some ⟨b50, o51, none⟩) x0.length n0_0) ∧ f 5 = (.map or12_0_0) ∧ f 6 = (vi s23) ∧ f 7 = (.pointer (some ⟨b60, 0, none⟩)) ∧ f 15 = (.slice (some ⟨b50, o51, none⟩) x0.length n0_0) ∧ f 16 = (vi (x0.length : Int)) ∧ f 17 = (vi s23) ∧ f 25 = (.slice ay75_0 (mgetD r12 r65 ([] : List Int)).length ny75_0) ∧ f 26 = (vi ((mgetD r12 r65 ([] : List Int)).length : Int)) ∧ f 27 = (vi s80)) N ⟨0, F5, ho78, hs70, (Mem.le.refl _), e27, e28, e29, rfl, rfl, e30, e31, e32, rfl, rfl, rfl⟩ ?_
     rintro m105 f w81 ⟨s80, F6, hit106, hs82, le83, e84, e85, e86, e87, e88, e89, e90, e91, e92, e93, e94⟩
     obtain ⟨m107, fl108, rfl, hb109, hnx110⟩ := iter_step hit106
     refine Sq (Rg [0] ?_)
     refine V 28 0 (run_lss (t := 3) (t' := 3) (x := (.tmp 27)) (y := (.tmp 26)) (k := .i64) (a := s80) (b := ((mgetD r12 r65 ([] : List Int)).length : Int)) e94 e93) ?_
     refine Nss ?_
     refine CWP.cond (t := (decide (s80 < ((mgetD r12 r65 ([] : List Int)).length : Int)))) (by kernel_rfl) rfl (fun hb111 => ?_) (fun hb111 => ?_)
     ·have h112 := cond_t hb109 hb111
      refine Sc ?_
      refine thenQ_nrm ?_
      refine Sq ?_
      refine Bk ?_
      refine Sq (Rg [0, 1, 2] ?_)
      obtain ⟨x113, hx114, h116⟩ := bind_some h112
      obtain ⟨hi115, hx114'⟩ := idx_spec hx114
      obtain ⟨b117, o118, C119, E120, fz121, rfl, hF123, hE124⟩ := SlA.open (SlA.mono hsy75_0 le83) hx114'
      have hc126 := hE124 _ _ hx114'
      refine V 29 0 (run_index (t := 77) (x := (.tmp 25)) (y := (.tmp 27)) (b := b117) (o := o118) (E := 3) (s := 1) (by_ := 8) e92 e94 (by kernel_rfl) hi115) ?_
      refine V 30 3 (lx 3 29 0 1 false 1 (vi x113) (hs82.pers _ _ hF123) hc126) ?_
      refine V 9 3 (ma 30 (vi x113)) ?_
      refine Nss ?_
      obtain ⟨j132, hj146, h147⟩ := bind_some h116
      refine CWP.regionD (by kernel_rfl) (by kernel_rfl) (by kernel_rfl) (by kernel_rfl) (z := 23) (F := F6) (Lc := [(sb b60 #[(.string ⟨(x46.Text).toArray⟩), (vi x46.Country), (vi x46.Zone), (vi x46.Continent), (vi x46.From), (vi x46.To), (.bool x46.Whole)] 71)]) (Lz := []) (l := [false, false, false, false, false, false, false, false, false, false, false, false, false, false, false, false, false, false, false, false, false, false, false]) (fuel := 23) (by kernel_rfl) (by kernel_rfl) hs82 (by simp) (by simp) (fun f w => ∃ (F8 : Mem), HS w0 F0 w F8 [(sb b60 #[(.string ⟨(x46.Text).toArray⟩), (vi x46.Country), (vi x46.Zone), (vi x46.Continent), (vi x46.From), (vi x46.To), (.bool x46.Whole)] 71)] ∧ Mem.le F6 F8 ∧ f.d = [] ∧ f 0 = (.slice (some ⟨b50, o51, none⟩) x0.length n0_0) ∧ f 5 = (.map or12_0_0) ∧ f 6 = (vi s23) ∧ f 7 = (.pointer (some ⟨b60, 0, none⟩)) ∧ f 9 = (vi x113) ∧ f 15 = (.slice (some ⟨b50, o51, none⟩) x0.length n0_0) ∧ f 16 = (vi (x0.length : Int)) ∧ f 17 = (vi s23) ∧ f 25 = (.slice (some ⟨b117, o118, none⟩) (mgetD r12 r65 ([] : List Int)).length ny75_0) ∧ f 26 = (vi ((mgetD r12 r65 ([] : List Int)).length : Int)) ∧ f 27 = (vi s80) ∧ f 53 = (.bool j132)) (fun wd127 hw128 => ?_) ?_
      ·refine Dtl 0 31 3 _ [tt, ff, ff, ff, ff, ff, ff, ff, ff, ff, ff, ff, ff, ff, ff, ff, ff, ff, ff, ff, ff, ff, ff] (fun _ hq => mv 9 (vi x113)) ?_
       refine Dtl 1 32 3 _ [tt, tt, ff, ff, ff, ff, ff, ff, ff, ff, ff, ff, ff, ff, ff, ff, ff, ff, ff, ff, ff, ff, ff] (fun _ hq => mv 6 (vi s23) e87) ?_
       refine Dtl 2 33 4 (.bool (decide (x113 > s23))) [tt, tt, tt, ff, ff, ff, ff, ff, ff, ff, ff, ff, ff, ff, ff, ff, ff, ff, ff, ff, ff, ff, ff] (fun _ hq => run_gtr (t := 3) (t' := 3) (x := (.tmp 31)) (y := (.tmp 32)) (k := .i64) (a := x113) (b := s23) rfl rfl) ?_
       refine Dtl 3 34 4 _ [tt, tt, tt, tt, ff, ff, ff, ff, ff, ff, ff, ff, ff, ff, ff, ff, ff, ff, ff, ff, ff, ff, ff] (fun _ hq => mv 33 (.bool (decide (x113 > s23)))) ?_
       refine DWP.split (decide (x113 > s23)) (fun hb148 => ?_) (fun hb148 => ?_)
       ·have h149 := cond_t hj146 hb148
        refine Dgl 4 35 0 (.pointer (some ⟨b60, 4, none⟩)) [tt, tt, tt, tt, tt, ff, ff, ff, ff, ff, ff, ff, ff, ff, ff, ff, ff, ff, ff, ff, ff, ff, ff] 3 true 34 hb148 (fun _ hq => fa 71 7 4 4 1 b60 0 4 e88) ?_
        refine Dgl 5 36 3 _ [tt, tt, tt, tt, tt, tt, ff, ff, ff, ff, ff, ff, ff, ff, ff, ff, ff, ff, ff, ff, ff, ff, ff] 3 true 34 hb148 (fun _ hq => ld 3 35 b60 4 false 1 (vi x46.From) (hq.1.2 0 _ _ rfl)) ?_
        refine Dgl 6 37 61 _ [tt, tt, tt, tt, tt, tt, tt, ff, ff, ff, ff, ff, ff, ff, ff, ff, ff, ff, ff, ff, ff, ff, ff] 3 true 34 hb148 (fun _ hq => mv 0 (.slice (some ⟨b50, o51, none⟩) x0.length n0_0) e85) ?_
        refine Dgl 7 38 3 _ [tt, tt, tt, tt, tt, tt, tt, tt, ff, ff, ff, ff, ff, ff, ff, ff, ff, ff, ff, ff, ff, ff, ff] 3 true 34 hb148 (fun _ hq => mv 9 (vi x113)) ?_
        obtain ⟨x150, hx151, h153⟩ := bind_some h149
        obtain ⟨hi152, hx151'⟩ := idx_spec hx151
        have hc155 := hE57 _ _ hx151'
        refine Dgl 8 39 0 (.pointer (some ⟨b50, (o51 + (x113 : Int).toNat * 7), none⟩)) [tt, tt, tt, tt, tt, tt, tt, tt, tt, ff, ff, ff, ff, ff, ff, ff, ff, ff, ff, ff, ff, ff, ff] 3 true 34 hb148 (fun _ hq => ix 61 37 38 b50 o51 71 7 64 hi152) ?_
        refine Dgl 9 40 0 (.pointer (some ⟨b50, ((o51 + (x113 : Int).toNat * 7) + 5), none⟩)) [tt, tt, tt, tt, tt, tt, tt, tt, tt, tt, ff, ff, ff, ff, ff, ff, ff, ff, ff, ff, ff, ff, ff] 3 true 34 hb148 (fun _ hq => fa 71 39 5 5 1 b50 (o51 + (x113 : Int).toNat * 7) ((o51 + (x113 : Int).toNat * 7) + 5)) ?_
        refine Dgl 10 41 3 _ [tt, tt, tt, tt, tt, tt, tt, tt, tt, tt, tt, ff, ff, ff, ff, ff, ff, ff, ff, ff, ff, ff, ff] 3 true 34 hb148 (fun _ hq => lx 3 40 5 7 false 1 (vi x150.To) (hq.1.1 _ _ ((le71.trans le83) _ _ hF56)) hc155) ?_
        refine Dgl 11 42 4 (.bool (decide (x46.From ≤ x150.To))) [tt, tt, tt, tt, tt, tt, tt, tt, tt, tt, tt, tt, ff, ff, ff, ff, ff, ff, ff, ff, ff, ff, ff] 3 true 34 hb148 (fun _ hq => run_leq (t := 3) (t' := 3) (x := (.tmp 36)) (y := (.tmp 41)) (k := .i64) (a := x46.From) (b := x150.To) rfl rfl) ?_
        refine Dtl 12 43 4 _ [tt, tt, tt, tt, tt, tt, tt, tt, tt, tt, tt, tt, tt, ff, ff, ff, ff, ff, ff, ff, ff, ff, ff] (fun _ hq => p1 34 (.tmp 42) (.const (.bool false)) (.bool (decide (x46.From ≤ x150.To))) hb148) ?_
        refine Dtl 13 44 4 _ [tt, tt, tt, tt, tt, tt, tt, tt, tt, tt, tt, tt, tt, tt, ff, ff, ff, ff, ff, ff, ff, ff, ff] (fun _ hq => mv 43 (.bool (decide (x46.From ≤ x150.To)))) ?_
        refine DWP.split (decide (x46.From ≤ x150.To)) (fun hb156 => ?_) (fun hb156 => ?_)
        ·have h157 := cond_t h153 hb156
         refine Dgl 14 45 61 _ [tt, tt, tt, tt, tt, tt, tt, tt, tt, tt, tt, tt, tt, tt, tt, ff, ff, ff, ff, ff, ff, ff, ff] 13 true 44 hb156 (fun _ hq => mv 0 (.slice (some ⟨b50, o51, none⟩) x0.length n0_0) e85) ?_
         refine Dgl 15 46 3 _ [tt, tt, tt, tt, tt, tt, tt, tt, tt, tt, tt, tt, tt, tt, tt, tt, ff, ff, ff, ff, ff, ff, ff] 13 true 44 hb156 (fun _ hq => mv 9 (vi x113)) ?_
         obtain ⟨x158, hx159, h161⟩ := bind_some h157
         obtain ⟨hi160, hx159'⟩ := idx_spec hx159
         have hc163 := hE57 _ _ hx159'
         refine Dgl 16 47 0 (.pointer (some ⟨b50, (o51 + (x113 : Int).toNat * 7), none⟩)) [tt, tt, tt, tt, tt, tt, tt, tt, tt, tt, tt, tt, tt, tt, tt, tt, tt, ff, ff, ff, ff, ff, ff] 13 true 44 hb156 (fun _ hq => ix 61 45 46 b50 o51 71 7 64 hi160) ?_
         refine Dgl 17 48 0 (.pointer (some ⟨b50, ((o51 + (x113 : Int).toNat * 7) + 4), none⟩)) [tt, tt, tt, tt, tt, tt, tt, tt, tt, tt, tt, tt, tt, tt, tt, tt, tt, tt, ff, ff, ff, ff, ff] 13 true 44 hb156 (fun _ hq => fa 71 47 4 4 1 b50 (o51 + (x113 : Int).toNat * 7) ((o51 + (x113 : Int).toNat * 7) + 4)) ?_
         refine Dgl 18 49 3 _ [tt, tt, tt, tt, tt, tt, tt, tt, tt, tt, tt, tt, tt, tt, tt, tt, tt, tt, tt, ff, ff, ff, ff] 13 true 44 hb156 (fun _ hq => lx 3 48 4 7 false 1 (vi x158.From) (hq.1.1 _ _ ((le71.trans le83) _ _ hF56)) hc163) ?_
         refine Dgl 19 50 0 (.pointer (some ⟨b60, 5, none⟩)) [tt, tt, tt, tt, tt, tt, tt, tt, tt, tt, tt, tt, tt, tt, tt, tt, tt, tt, tt, tt, ff, ff, ff] 13 true 44 hb156 (fun _ hq => fa 71 7 5 5 1 b60 0 5 e88) ?_
         refine Dgl 20 51 3 _ [tt, tt, tt, tt, tt, tt, tt, tt, tt, tt, tt, tt, tt, tt, tt, tt, tt, tt, tt, tt, tt, ff, ff] 13 true 44 hb156 (fun _ hq => ld 3 50 b60 5 false 1 (vi x46.To) (hq.1.2 0 _ _ rfl)) ?_
         refine Dgl 21 52 4 (.bool (decide (x158.From ≤ x46.To))) [tt, tt, tt, tt, tt, tt, tt, tt, tt, tt, tt, tt, tt, tt, tt, tt, tt, tt, tt, tt, tt, tt, ff] 13 true 44 hb156 (fun _ hq => run_leq (t := 3) (t' := 3) (x := (.tmp 49)) (y := (.tmp 51)) (k := .i64) (a := x158.From) (b := x46.To) rfl rfl) ?_
         refine Dtl 22 53 4 _ [tt, tt, tt, tt, tt, tt, tt, tt, tt, tt, tt, tt, tt, tt, tt, tt, tt, tt, tt, tt, tt, tt, tt] (fun _ hq => p1 44 (.tmp 52) (.const (.bool false)) (.bool (decide (x158.From ≤ x46.To))) hb156) ?_
         obtain rfl := some_inj h161
         exact DWP.done (by kernel_rfl) ⟨F6, hw128, (Mem.le.refl _), e84, e85, e86, e87, e88, rfl, e89, e90, e91, e92, e93, e94, rfl⟩
        ·have h164 := cond_f h153 hb156
         refine Dkl [(14, 45), (15, 46), (16, 47), (17, 48), (18, 49), (19, 50)] 13 true 44 hb156 [tt, tt, tt, tt, tt, tt, tt, tt, tt, tt, tt, tt, tt, tt, tt, tt, tt, tt, tt, tt, ff, ff, ff] ?_
         refine Dkl [(20, 51), (21, 52)] 13 true 44 hb156 [tt, tt, tt, tt, tt, tt, tt, tt, tt, tt, tt, tt, tt, tt, tt, tt, tt, tt, tt, tt, tt, tt, ff] ?_
         refine Dtl 22 53 4 _ [tt, tt, tt, tt, tt, tt, tt, tt, tt, tt, tt, tt, tt, tt, tt, tt, tt, tt, tt, tt, tt, tt, tt] (fun _ hq => p0 44 (.tmp 52) (.const (.bool false)) (.bool false) hb156) ?_
         obtain rfl := some_inj h164
         exact DWP.done (by kernel_rfl) ⟨F6, hw128, (Mem.le.refl _), e84, e85, e86, e87, e88, rfl, e89, e90, e91, e92, e93, e94, rfl⟩
       ·have h165 := cond_f hj146 hb148
        refine Dkl [(4, 35), (5, 36), (6, 37), (7, 38), (8, 39), (9, 40)] 3 true 34 hb148 [tt, tt, tt, tt, tt, tt, tt, tt, tt, tt, ff, ff, ff, ff, ff, ff, ff, ff, ff, ff, ff, ff, ff] ?_
        refine Dkl [(10, 41), (11, 42)] 3 true 34 hb148 [tt, tt, tt, tt, tt, tt, tt, tt, tt, tt, tt, tt, ff, ff, ff, ff, ff, ff, ff, ff, ff, ff, ff] ?_
        refine Dtl 12 43 4 _ [tt, tt, tt, tt, tt, tt, tt, tt, tt, tt, tt, tt, tt, ff, ff, ff, ff, ff, ff, ff, ff, ff, ff] (fun _ hq => p0 34 (.tmp 42) (.const (.bool false)) (.bool false) hb148) ?_
        refine Dtl 13 44 4 _ [tt, tt, tt, tt, tt, tt, tt, tt, tt, tt, tt, tt, tt, tt, ff, ff, ff, ff, ff, ff, ff, ff, ff] (fun _ hq => mv 43 (.bool false)) ?_
        refine Dkl [(14, 45), (15, 46), (16, 47), (17, 48), (18, 49), (19, 50)] 13 true 44 rfl [tt, tt, tt, tt, tt, tt, tt, tt, tt, tt, tt, tt, tt, tt, tt, tt, tt, tt, tt, tt, ff, ff, ff] ?_
        refine Dkl [(20, 51), (21, 52)] 13 true 44 rfl [tt, tt, tt, tt, tt, tt, tt, tt, tt, tt, tt, tt, tt, tt, tt, tt, tt, tt, tt, tt, tt, tt, ff] ?_
        refine Dtl 22 53 4 _ [tt, tt, tt, tt, tt, tt, tt, tt, tt, tt, tt, tt, tt, tt, tt, tt, tt, tt, tt, tt, tt, tt, tt] (fun _ hq => p0 44 (.tmp 52) (.const (.bool false)) (.bool false) rfl) ?_
        obtain rfl := some_inj h165
        exact DWP.done (by kernel_rfl) ⟨F6, hw128, (Mem.le.refl _), e84, e85, e86, e87, e88, rfl, e89, e90, e91, e92, e93, e94, rfl⟩
      ·rintro f w129 ⟨F8, hs130, le131, e133, e134, e135, e136, e137, e138, e139, e140, e141, e142, e143, e144, e145⟩
       refine thenQ_nrm ?_
       refine CWP.cond (t := j132) (by kernel_rfl) e145 (fun hb166 => ?_) (fun hb166 => ?_)
       ·have h167 := cond_t h147 hb166
        refine Sq (Rg [0, 1, 2, 3, 4] ?_)
        refine V 54 3 (mv 6 (vi s23) e136) ?_
        refine V 55 3 (mv 9 (vi x113) e138) ?_
        refine V 2 3 (ma 54 (vi s23)) ?_
        refine V 3 3 (ma 55 (vi x113)) ?_
        refine V 4 23 (mc (vi 0) (vi 0)) ?_
        refine Nt ?_
        refine CWP.ret (by kernel_rfl) ?_
        refine blockQ_ret ?_
        refine thenQ_ret ?_
        refine thenQ_ret ?_
        refine blockQ_ret ?_
        have hret := iter_ret h167 hnx110
        subst hret
        refine .inr ?_
        refine blockQ_ret ?_
        refine thenQ_ret ?_
        refine thenQ_ret ?_
        refine blockQ_ret ?_
        have hret := iter_ret h79 hnx43
        subst hret
        refine .inr ?_
        refine thenQ_ret ?_
        have hfin := some_inj h22
        subst hfin
        exact ⟨e133, (.tuple #[(vi s23), (vi x113), (vi 0)]), res_of (l := [.tmp 2, .tmp 3, .tmp 4]) (by kernel_rfl) (vs := [(vi s23), (vi x113), (vi 0)]) ⟨rfl, ⟨rfl, ⟨rfl, trivial⟩⟩⟩, (.tuple #[(vi s23), (vi x113), (vi 0)]), F8, rfl, hs130.clear, rfl⟩
       ·have h168 := cond_f h147 hb166
        refine Sc ?_
        refine blockQ_nrm ?_
        refine thenQ_nrm ?_
        refine Rg [0, 1] ?_
        refine V 56 3 (run_add (t := 3) (t' := 3) (x := (.tmp 27)) (y := (.const (vi 1))) (k := .i64) (a := s80) (b := 1) e144 rfl) ?_
        refine V 27 3 (mv 56 (vi (W64 (s80 + 1)))) ?_
        refine RWP.nil ?_
        have hn169 := iter_next h168 hnx110
        exact ⟨m107, Nat.lt_succ_self _, (W64 (s80 + 1)), F8, hn169, hs130, (le83.trans le131), e133, e134, e135, e136, e137, e139, e140, e141, e142, e143, rfl⟩
     ·have h170 := cond_f hb109 hb111
      refine CWP.exit (by kernel_rfl) ?_
      refine thenQ_ex ?_
      refine thenQ_ex ?_
      refine blockQ_hit rfl ?_
      have hs171 : HS w0 F0 w81 F6 [] := hs82.drop 0
      have ho172 := iter_done h170 hnx110
      exact .inl ⟨rfl, s80, F6, ho172, hs171, le83, e84, e85, e86, e89, e90, e91⟩
    ·rintro f w96 ⟨s95, F7, rfl, hs97, le98, e99, e100, e101, e102, e103, e104⟩
     have h173 := k_done h79
     refine blockQ_nrm ?_
     refine thenQ_nrm ?_
     refine Rg [0, 1] ?_
     refine V 57 3 (run_add (t := 3) (t' := 3) (x := (.tmp 17)) (y := (.const (vi 1))) (k := .i64) (a := s23) (b := 1) e104 rfl) ?_
     refine V 17 3 (mv 57 (vi (W64 (s23 + 1)))) ?_
     refine RWP.nil ?_
     have hn174 := iter_next h173 hnx43
     exact ⟨m40, Nat.lt_succ_self _, (W64 (s23 + 1)), F7, hn174, hs97, ((le26.trans le71).trans le98), e99, e100, e101, e102, e103, rfl⟩
   ·have h175 := cond_f hb42 hb44
    refine CWP.exit (by kernel_rfl) ?_
    refine thenQ_ex ?_
    refine thenQ_ex ?_
    refine blockQ_hit rfl ?_
    have ho176 := iter_done h175 hnx43
    exact .inl ⟨rfl, s23, F3, ho176, hs25, le26, e27⟩
  ·rintro f w34 ⟨s33, F4, rfl, hs35, le36, e37⟩
   have h177 := k_done h22
   refine thenQ_nrm ?_
   refine Sq (Rg [0, 1, 2] ?_)
   refine V 2 3 (mc (vi 0) (vi 0)) ?_
   refine V 3 3 (mc (vi 0) (vi 0)) ?_
   refine V 4 23 (mc (vi 3) (vi 3)) ?_
   refine Nt ?_
   refine CWP.ret (by kernel_rfl) ?_
   have hfin := some_inj h177
   subst hfin
   exact ⟨e37, (.tuple #[(vi 0), (vi 0), (vi 3)]), res_of (l := [.tmp 2, .tmp 3, .tmp 4]) (by kernel_rfl) (vs := [(vi 0), (vi 0), (vi 3)]) ⟨rfl, ⟨rfl, ⟨rfl, trivial⟩⟩⟩, (.tuple #[(vi 0), (vi 0), (vi 3)]), F4, rfl, hs35.clear, rfl⟩
end Go.Proofs.YtlddakefmfcblaaGreatDoor
namespace Go.Proofs.YtlddakefmfcblaaGreatDoor
open Go.Proofs
def ref01_row_L0 (N : Nat) (x0 : Prefix) (r4 : Bool) : Int → Option (Flow Bool Int) := fun s18 =>
 (bif (decide (s18 < (x0.Text.length : Int))) then ((sidx x0.Text s18).bind fun c39 => (((ref01_letter N c39).bind fun r52 => (bif (!r52) then ((ref01_digit N c39).bind fun r62 => (bif (!r62) then (bif (!x0.Whole) then some true else some (c39 != 47)) else some false)) else some false)).bind fun j45 => (bif j45 then some (.ret false) else some (.next (W64 (s18 + 1)))))) else some (.done s18))
def ref01_row (N : Nat) (x0 : Prefix) : Option Bool :=
 ((ref01_within N (x0.Text.length : Int) 1 16).bind fun r4 => (bif (!r4) then some false else ((iter (ref01_row_L0 N x0 r4) N 0).bind fun o => o.k (fun r => some r) (fun s25 => (((ref01_within N x0.Country 1 65535).bind fun r92 => (bif r92 then ((ref01_within N x0.Zone 1 99).bind fun r102 => (bif r102 then ((ref01_within N x0.Continent 1 7).bind fun r112 => (bif r112 then (bif (decide (0 ≤ x0.From)) then (bif (decide (x0.From ≤ x0.To)) then some (decide (x0.To ≤ 99999)) else some false) else some false) else some false)) else some false)) else some false)).bind fun j87 => some j87)))))
theorem co_ref01_row : CallOk Tryz.prog 125 := fun _ _ => by kernel_rfl
set_option maxHeartbeats 4000000 in
set_option maxRecDepth 100000 in
theorem c_ref01_row (N : Nat) (w0 : World) (F0 : Mem) (hF : ∀ b o, F0 b = some o → w0.heap[b]? = some o) (x0 : Prefix) (r : Bool) (h : ref01_row N x0 = some r) :
  Calls Tryz.prog 125 ([(.agg #[(.string ⟨(x0.Text).toArray⟩), (vi x0.Country), (vi x0.Zone), (vi x0.Continent), (vi x0.From), (vi x0.To), (.bool x0.Whole)])] : List Value).toArray w0 (FRet w0 F0 fun F' v => v = (.bool r)) := by
 have hs0 := HS.start hF
 refine calls_of (n := 68) (c := bodyOf Tryz.f125) Tryz.func125 (by kernel_rfl) (by kernel_rfl) (by kernel_rfl) ?_
 refine Sq (Rg [0, 1] ?_)
 refine Bx 1 0 0 71 #[(.string ⟨(x0.Text).toArray⟩), (vi x0.Country), (vi x0.Zone), (vi x0.Continent), (vi x0.From), (vi x0.To), (.bool x0.Whole)] hs0 (fun b1 w2 (hs3 : HS w0 F0 w2 F0 [(sb b1 #[(.string ⟨(x0.Text).toArray⟩), (vi x0.Country), (vi x0.Zone), (vi x0.Continent), (vi x0.From), (vi x0.To), (.bool x0.Whole)] 71)]) => ?_)
 refine V 2 4 (mc (.bool false) (.bool false)) ?_
 refine Nss ?_
 refine Sq (Rg [0, 1, 2, 3, 4] ?_)
 refine V 5 0 (fa 71 1 0 0 1 b1 0 0) ?_
 refine V 6 9 (ld 9 5 b1 0 false 1 (.string ⟨(x0.Text).toArray⟩) (hs3.ownAt (k := 0) rfl)) ?_
 refine V 7 3 (run_slen (x := (.tmp 6)) (ats := #[9]) (t := 9) (a := x0.Text) rfl rfl (by kernel_rfl)) ?_
 obtain ⟨r4, hr5, h6⟩ := bind_some h
 refine Cl 8 4 67 #[(.tmp 7), (.const (vi 1)), (.const (vi 16))] #[3, 3, 3] co_ref01_within hs3 (c_ref01_within N w2 F0 hs3.pers ((x0.Text.length : Int)) (1) (16) _ hr5) ?_
 intro v7 F1 w8 hs9 le10 hp11
 obtain rfl := hp11
 refine V 9 4 (run_not (t := 4) (x := (.tmp 8)) (a := r4) rfl) ?_
 refine Nt ?_
 refine CWP.cond (t := (!r4)) (by kernel_rfl) rfl (fun hb12 => ?_) (fun hb12 => ?_)
 ·have h13 := cond_t h6 hb12
  refine Sq (Rg [0] ?_)
  refine V 2 4 (mc (.bool false) (.bool false)) ?_
  refine Nt ?_
  refine CWP.ret (by kernel_rfl) ?_
  refine thenQ_ret ?_
  have hfin := some_inj h13
  subst hfin
  exact ⟨rfl, (.bool false), res_of (l := [.tmp 2]) (by kernel_rfl) (vs := [(.bool false)]) ⟨rfl, trivial⟩, (.bool false), F1, rfl, hs9.clear, rfl⟩
 ·have h14 := cond_f h6 hb12
  refine Sc ?_
  refine thenQ_nrm ?_
  refine Sq ?_
  refine Sq (Rg [0] ?_)
  refine V 3 3 (mc (vi 0) (vi 0)) ?_
  refine Nt ?_
  obtain ⟨o15, ho16, h17⟩ := bind_some h14
  refine CWP.cut (fun f w => ∃ (s25 : Int) (F3 : Mem), o15 = .done s25 ∧ HS w0 F0 w F3 [(sb b1 #[(.string ⟨(x0.Text).toArray⟩), (vi x0.Country), (vi x0.Zone), (vi x0.Continent), (vi x0.From), (vi x0.To), (.bool x0.Whole)] 71)] ∧ Mem.le F1 F3 ∧ f.d = [] ∧ f 1 = (.pointer (some ⟨b1, 0, none⟩))) ?_ ?_
  ·refine Bk ?_
   refine CWP.loop (by kernel_rfl) (fun m f w => ∃ (s18 : Int) (F2 : Mem), iter (ref01_row_L0 N x0 r4) m s18 = some o15 ∧ HS w0 F0 w F2 [(sb b1 #[(.string ⟨(x0.Text).toArray⟩), (vi x0.Country), (vi x0.Zone), (vi x0.Continent), (vi x0.From), (vi x0.To), (.bool x0.Whole)] 71)] ∧ Mem.le F1 F2 ∧ f.d = [] ∧ f 1 = (.pointer (some ⟨b1, 0, none⟩)) ∧ f 3 = (vi s18)) N ⟨0, F1, ho16, hs9, (Mem.le.refl _), rfl, rfl, rfl⟩ ?_
   rintro m31 f w19 ⟨s18, F2, hit32, hs20, le21, e22, e23, e24⟩
   obtain ⟨m33, fl34, rfl, hb35, hnx36⟩ := iter_step hit32
   refine Sq ?_
   refine Sq (Rg [0, 1, 2, 3, 4] ?_)
   refine V 10 3 (mv 3 (vi s18) e24) ?_
   refine V 11 0 (fa 71 1 0 0 1 b1 0 0 e23) ?_
   refine V 12 9 (ld 9 11 b1 0 false 1 (.string ⟨(x0.Text).toArray⟩) (hs20.ownAt (k := 0) rfl)) ?_
   refine V 13 3 (run_slen (x := (.tmp 12)) (ats := #[9]) (t := 9) (a := x0.Text) rfl rfl (by kernel_rfl)) ?_
   refine V 14 4 (run_lss (t := 3) (t' := 3) (x := (.tmp 10)) (y := (.tmp 13)) (k := .i64) (a := s18) (b := (x0.Text.length : Int)) rfl rfl) ?_
   refine Nt ?_
   refine CWP.cond (t := (decide (s18 < (x0.Text.length : Int)))) (by kernel_rfl) rfl (fun hb37 => ?_) (fun hb37 => ?_)
   ·have h38 := cond_t hb35 hb37
    refine Sc ?_
    refine thenQ_nrm ?_
    refine Sq ?_
    refine Bk ?_
    refine Sq (Rg [0, 1, 2, 3, 4] ?_)
    refine V 17 0 (fa 71 1 0 0 1 b1 0 0 e23) ?_
    refine V 18 9 (ld 9 17 b1 0 false 1 (.string ⟨(x0.Text).toArray⟩) (hs20.ownAt (k := 0) rfl)) ?_
    refine V 19 3 (mv 3 (vi s18) e24) ?_
    obtain ⟨c39, hr40, h41⟩ := bind_some h38
    refine V 20 5 (run_sidx (t := 9) (x := (.tmp 18)) (y := (.tmp 19)) (a := x0.Text) (k := .i64) (i := s18) (v := c39) rfl rfl (by kernel_rfl) hr40) ?_
    refine V 4 5 (ma 20 (.int .u8 c39)) ?_
    refine Nss (Rg [0, 1, 2, 3, 4, 5, 6, 7, 8, 9, 10, 11, 12, 13, 14, 15, 16] ?_)
    obtain ⟨j45, hj50, h51⟩ := bind_some h41
    refine RWP.cut (fun f w => ∃ (F4 : Mem), HS w0 F0 w F4 [(sb b1 #[(.string ⟨(x0.Text).toArray⟩), (vi x0.Country), (vi x0.Zone), (vi x0.Continent), (vi x0.From), (vi x0.To), (.bool x0.Whole)] 71)] ∧ Mem.le F2 F4 ∧ f.d = [] ∧ f 1 = (.pointer (some ⟨b1, 0, none⟩)) ∧ f 3 = (vi s18) ∧ f 37 = (.bool j45)) ?_ ?_
    ·refine V 21 5 (mv 4 (.int .u8 c39)) ?_
     obtain ⟨r52, hr53, h54⟩ := bind_some hj50
     refine Cl 22 4 157 #[(.tmp 21)] #[5] co_ref01_letter hs20 (c_ref01_letter N w19 F2 hs20.pers (c39) _ hr53) ?_
     intro v55 F5 w56 hs57 le58 hp59
     obtain rfl := hp59
     refine V 23 4 (run_not (t := 4) (x := (.tmp 22)) (a := r52) rfl) ?_
     refine V 24 4 (mv 23 (.bool (!r52))) ?_
     refine RWP.split (!r52) (fun hb60 => ?_) (fun hb60 => ?_)
     ·have h61 := cond_t h54 hb60
      refine Vg 25 5 3 true 24 hb60 (mv 4 (.int .u8 c39)) ?_
      obtain ⟨r62, hr63, h64⟩ := bind_some h61
      refine RWP.call (dst := (some 26)) (ty := 4) (g := (some (3, true))) (by kernel_rfl) (gd_y (d := 24) (by kernel_rfl) rfl hb60) (f0 := (.func 83)) (aos := #[(.tmp 25)]) (ats := #[5]) (fid := 83) (first := #[]) (cap := #[]) (args := [(.int .u8 c39)]) rfl co_ref01_digit (rfl) hs57 (c_ref01_digit N w56 F5 hs57.pers (c39) _ hr63) ?_
      intro v65 F6 w66 hs67 le68 hp69
      obtain rfl := hp69
      refine Vg 27 4 3 true 24 hb60 (run_not (t := 4) (x := (.tmp 26)) (a := r62) rfl) ?_
      refine V 28 4 (p1 24 (.tmp 27) (.const (.bool false)) (.bool (!r62)) hb60) ?_
      refine V 29 4 (mv 28 (.bool (!r62))) ?_
      refine RWP.split (!r62) (fun hb70 => ?_) (fun hb70 => ?_)
      ·have h71 := cond_t h64 hb70
       refine Vg 30 0 8 true 29 hb70 (fa 71 1 6 6 1 b1 0 6 e23) ?_
       refine Vg 31 4 8 true 29 hb70 (ld 4 30 b1 6 false 1 (.bool x0.Whole) (hs67.ownAt (k := 0) rfl)) ?_
       refine Vg 32 4 8 true 29 hb70 (run_not (t := 4) (x := (.tmp 31)) (a := x0.Whole) rfl) ?_
       refine Vg 33 4 8 true 29 hb70 (mv 32 (.bool (!x0.Whole))) ?_
       refine RWP.split (!x0.Whole) (fun hb72 => ?_) (fun hb72 => ?_)
       ·have h73 := cond_t h71 hb72
        refine Sk [34, 35] 12 false 33 hb72 ?_
        refine Vg 36 4 8 true 29 hb70 (p1 33 (.const (.bool true)) (.tmp 35) (.bool true) hb72) ?_
        refine V 37 4 (p1 29 (.tmp 36) (.const (.bool false)) (.bool true) hb70) ?_
        obtain rfl := some_inj h73
        exact RWP.nil ⟨rfl, F6, hs67, (le58.trans le68), e22, e23, e24, rfl⟩
       ·have h74 := cond_f h71 hb72
        refine Vg 34 5 12 false 33 hb72 (mv 4 (.int .u8 c39)) ?_
        refine Vg 35 4 12 false 33 hb72 (run_neq (t := 5) (t' := 5) (x := (.tmp 34)) (y := (.const (.int .u8 47))) (k := .u8) (a := c39) (b := 47) rfl rfl) ?_
        refine Vg 36 4 8 true 29 hb70 (p0 33 (.const (.bool true)) (.tmp 35) (.bool (c39 != 47)) hb72) ?_
        refine V 37 4 (p1 29 (.tmp 36) (.const (.bool false)) (.bool (c39 != 47)) hb70) ?_
        obtain rfl := some_inj h74
        exact RWP.nil ⟨rfl, F6, hs67, (le58.trans le68), e22, e23, e24, rfl⟩
      ·have h75 := cond_f h64 hb70
       refine Sk [30, 31, 32, 33] 8 true 29 hb70 ?_
       refine Su [34, 35] 12 false 33 ?_
       refine Sk [36] 8 true 29 hb70 ?_
       refine V 37 4 (p0 29 (.tmp 36) (.const (.bool false)) (.bool false) hb70) ?_
       obtain rfl := some_inj h75
       exact RWP.nil ⟨rfl, F6, hs67, (le58.trans le68), e22, e23, e24, rfl⟩
     ·have h76 := cond_f h54 hb60
      refine Sk [25, 26, 27] 3 true 24 hb60 ?_
      refine V 28 4 (p0 24 (.tmp 27) (.const (.bool false)) (.bool false) hb60) ?_
      refine V 29 4 (mv 28 (.bool false)) ?_
      refine Sk [30, 31, 32, 33] 8 true 29 rfl ?_
      refine Su [34, 35] 12 false 33 ?_
      refine Sk [36] 8 true 29 rfl ?_
      refine V 37 4 (p0 29 (.tmp 36) (.const (.bool false)) (.bool false) rfl) ?_
      obtain rfl := some_inj h76
      exact RWP.nil ⟨rfl, F5, hs57, le58, e22, e23, e24, rfl⟩
    ·rintro f w42 ⟨F4, hs43, le44, e46, e47, e48, e49⟩
     refine thenQ_nrm ?_
     refine CWP.cond (t := j45) (by kernel_rfl) e49 (fun hb77 => ?_) (fun hb77 => ?_)
     ·have h78 := cond_t h51 hb77
      refine Sq (Rg [0] ?_)
      refine V 2 4 (mc (.bool false) (.bool false)) ?_
      refine Nt ?_
      refine CWP.ret (by kernel_rfl) ?_
      refine blockQ_ret ?_
      refine thenQ_ret ?_
      refine thenQ_ret ?_
      refine blockQ_ret ?_
      have hret := iter_ret h78 hnx36
      subst hret
      refine .inr ?_
      refine thenQ_ret ?_
      have hfin := some_inj h17
      subst hfin
      exact ⟨e46, (.bool false), res_of (l := [.tmp 2]) (by kernel_rfl) (vs := [(.bool false)]) ⟨rfl, trivial⟩, (.bool false), F4, rfl, hs43.clear, rfl⟩
     ·have h79 := cond_f h51 hb77
      refine Sc ?_
      refine blockQ_nrm ?_
      refine thenQ_nrm ?_
      refine Rg [0, 1, 2] ?_
      refine V 15 3 (mv 3 (vi s18) e48) ?_
      refine V 16 3 (run_add (t := 3) (t' := 3) (x := (.tmp 15)) (y := (.const (vi 1))) (k := .i64) (a := s18) (b := 1) rfl rfl) ?_
      refine V 3 3 (ma 16 (vi (W64 (s18 + 1)))) ?_
      refine RWP.nil ?_
      have hn80 := iter_next h79 hnx36
      exact ⟨m33, Nat.lt_succ_self _, (W64 (s18 + 1)), F4, hn80, hs43, (le21.trans le44), e46, e47, rfl⟩
   ·have h81 := cond_f hb35 hb37
    refine CWP.exit (by kernel_rfl) ?_
    refine thenQ_ex ?_
    refine thenQ_ex ?_
    refine blockQ_hit rfl ?_
    have ho82 := iter_done h81 hnx36
    exact .inl ⟨rfl, s18, F2, ho82, hs20, le21, e22, e23⟩
  ·rintro f w26 ⟨s25, F3, rfl, hs27, le28, e29, e30⟩
   have h83 := k_done h17
   refine thenQ_nrm ?_
   refine Sq (Rg [0, 1, 2, 3, 4, 5, 6, 7, 8, 9, 10, 11, 12, 13, 14, 15, 16, 17, 18, 19, 20, 21, 22, 23, 24, 25, 26, 27, 28, 29, 30] ?_)
   obtain ⟨j87, hj90, h91⟩ := bind_some h83
   refine RWP.cut (fun f w => ∃ (F7 : Mem), HS w0 F0 w F7 [] ∧ Mem.le F3 F7 ∧ f.d = [] ∧ f 2 = (.bool j87)) ?_ ?_
   ·refine V 38 0 (fa 71 1 1 1 1 b1 0 1 e30) ?_
    refine V 39 3 (ld 3 38 b1 1 false 1 (vi x0.Country) (hs27.ownAt (k := 0) rfl)) ?_
    obtain ⟨r92, hr93, h94⟩ := bind_some hj90
    refine Cl 40 4 67 #[(.tmp 39), (.const (vi 1)), (.const (vi 65535))] #[3, 3, 3] co_ref01_within hs27 (c_ref01_within N w26 F3 hs27.pers (x0.Country) (1) (65535) _ hr93) ?_
    intro v95 F8 w96 hs97 le98 hp99
    obtain rfl := hp99
    refine V 41 4 (mv 40 (.bool r92)) ?_
    refine RWP.split r92 (fun hb100 => ?_) (fun hb100 => ?_)
    ·have h101 := cond_t h94 hb100
     refine Vg 42 0 3 true 41 hb100 (fa 71 1 2 2 1 b1 0 2 e30) ?_
     refine Vg 43 3 3 true 41 hb100 (ld 3 42 b1 2 false 1 (vi x0.Zone) (hs97.ownAt (k := 0) rfl)) ?_
     obtain ⟨r102, hr103, h104⟩ := bind_some h101
     refine RWP.call (dst := (some 44)) (ty := 4) (g := (some (3, true))) (by kernel_rfl) (gd_y (d := 41) (by kernel_rfl) rfl hb100) (f0 := (.func 67)) (aos := #[(.tmp 43), (.const (vi 1)), (.const (vi 99))]) (ats := #[3, 3, 3]) (fid := 67) (first := #[]) (cap := #[]) (args := [(vi x0.Zone), (vi 1), (vi 99)]) rfl co_ref01_within (rfl) hs97 (c_ref01_within N w96 F8 hs97.pers (x0.Zone) (1) (99) _ hr103) ?_
     intro v105 F9 w106 hs107 le108 hp109
     obtain rfl := hp109
     refine V 45 4 (p1 41 (.tmp 44) (.const (.bool false)) (.bool r102) hb100) ?_
     refine V 46 4 (mv 45 (.bool r102)) ?_
     refine RWP.split r102 (fun hb110 => ?_) (fun hb110 => ?_)
     ·have h111 := cond_t h104 hb110
      refine Vg 47 0 8 true 46 hb110 (fa 71 1 3 3 1 b1 0 3 e30) ?_
      refine Vg 48 3 8 true 46 hb110 (ld 3 47 b1 3 false 1 (vi x0.Continent) (hs107.ownAt (k := 0) rfl)) ?_
      obtain ⟨r112, hr113, h114⟩ := bind_some h111
      refine RWP.call (dst := (some 49)) (ty := 4) (g := (some (8, true))) (by kernel_rfl) (gd_y (d := 46) (by kernel_rfl) rfl hb110) (f0 := (.func 67)) (aos := #[(.tmp 48), (.const (vi 1)), (.const (vi 7))]) (ats := #[3, 3, 3]) (fid := 67) (first := #[]) (cap := #[]) (args := [(vi x0.Continent), (vi 1), (vi 7)]) rfl co_ref01_within (rfl) hs107 (c_ref01_within N w106 F9 hs107.pers (x0.Continent) (1) (7) _ hr113) ?_
      intro v115 F10 w116 hs117 le118 hp119
      obtain rfl := hp119
      refine V 50 4 (p1 46 (.tmp 49) (.const (.bool false)) (.bool r112) hb110) ?_
      refine V 51 4 (mv 50 (.bool r112)) ?_
      refine RWP.split r112 (fun hb120 => ?_) (fun hb120 => ?_)
      ·have h121 := cond_t h114 hb120
       refine Vg 52 0 13 true 51 hb120 (fa 71 1 4 4 1 b1 0 4 e30) ?_
       refine Vg 53 3 13 true 51 hb120 (ld 3 52 b1 4 false 1 (vi x0.From) (hs117.ownAt (k := 0) rfl)) ?_
       refine Vg 54 4 13 true 51 hb120 (run_leq (t := 3) (t' := 3) (x := (.const (vi 0))) (y := (.tmp 53)) (k := .i64) (a := 0) (b := x0.From) rfl rfl) ?_
       refine V 55 4 (p1 51 (.tmp 54) (.const (.bool false)) (.bool (decide (0 ≤ x0.From))) hb120) ?_
       refine V 56 4 (mv 55 (.bool (decide (0 ≤ x0.From)))) ?_
       refine RWP.split (decide (0 ≤ x0.From)) (fun hb122 => ?_) (fun hb122 => ?_)
       ·have h123 := cond_t h121 hb122
        refine Vg 57 0 18 true 56 hb122 (fa 71 1 4 4 1 b1 0 4 e30) ?_
        refine Vg 58 3 18 true 56 hb122 (ld 3 57 b1 4 false 1 (vi x0.From) (hs117.ownAt (k := 0) rfl)) ?_
        refine Vg 59 0 18 true 56 hb122 (fa 71 1 5 5 1 b1 0 5 e30) ?_
        refine Vg 60 3 18 true 56 hb122 (ld 3 59 b1 5 false 1 (vi x0.To) (hs117.ownAt (k := 0) rfl)) ?_
        refine Vg 61 4 18 true 56 hb122 (run_leq (t := 3) (t' := 3) (x := (.tmp 58)) (y := (.tmp 60)) (k := .i64) (a := x0.From) (b := x0.To) rfl rfl) ?_
        refine V 62 4 (p1 56 (.tmp 61) (.const (.bool false)) (.bool (decide (x0.From ≤ x0.To))) hb122) ?_
        refine V 63 4 (mv 62 (.bool (decide (x0.From ≤ x0.To)))) ?_
        refine RWP.split (decide (x0.From ≤ x0.To)) (fun hb124 => ?_) (fun hb124 => ?_)
        ·have h125 := cond_t h123 hb124
         refine Vg 64 0 25 true 63 hb124 (fa 71 1 5 5 1 b1 0 5 e30) ?_
         refine Vg 65 3 25 true 63 hb124 (ld 3 64 b1 5 false 1 (vi x0.To) (hs117.ownAt (k := 0) rfl)) ?_
         refine Vg 66 4 25 true 63 hb124 (run_leq (t := 3) (t' := 3) (x := (.tmp 65)) (y := (.const (vi 99999))) (k := .i64) (a := x0.To) (b := 99999) rfl rfl) ?_
         refine V 67 4 (p1 63 (.tmp 66) (.const (.bool false)) (.bool (decide (x0.To ≤ 99999))) hb124) ?_
         refine V 2 4 (ma 67 (.bool (decide (x0.To ≤ 99999)))) ?_
         obtain rfl := some_inj h125
         have hs126 : HS w0 F0 w116 F10 [] := hs117.drop 0
         exact RWP.nil ⟨rfl, F10, hs126, ((le98.trans le108).trans le118), e29, rfl⟩
        ·have h127 := cond_f h123 hb124
         refine Sk [64, 65, 66] 25 true 63 hb124 ?_
         refine V 67 4 (p0 63 (.tmp 66) (.const (.bool false)) (.bool false) hb124) ?_
         refine V 2 4 (ma 67 (.bool false)) ?_
         obtain rfl := some_inj h127
         have hs128 : HS w0 F0 w116 F10 [] := hs117.drop 0
         exact RWP.nil ⟨rfl, F10, hs128, ((le98.trans le108).trans le118), e29, rfl⟩
       ·have h129 := cond_f h121 hb122
        refine Sk [57, 58, 59, 60, 61] 18 true 56 hb122 ?_
        refine V 62 4 (p0 56 (.tmp 61) (.const (.bool false)) (.bool false) hb122) ?_
        refine V 63 4 (mv 62 (.bool false)) ?_
        refine Sk [64, 65, 66] 25 true 63 rfl ?_
        refine V 67 4 (p0 63 (.tmp 66) (.const (.bool false)) (.bool false) rfl) ?_
        refine V 2 4 (ma 67 (.bool false)) ?_
        obtain rfl := some_inj h129
        have hs130 : HS w0 F0 w116 F10 [] := hs117.drop 0
        exact RWP.nil ⟨rfl, F10, hs130, ((le98.trans le108).trans le118), e29, rfl⟩
      ·have h131 := cond_f h114 hb120
       refine Sk [52, 53, 54] 13 true 51 hb120 ?_
       refine V 55 4 (p0 51 (.tmp 54) (.const (.bool false)) (.bool false) hb120) ?_
       refine V 56 4 (mv 55 (.bool false)) ?_
       refine Sk [57, 58, 59, 60, 61] 18 true 56 rfl ?_
       refine V 62 4 (p0 56 (.tmp 61) (.const (.bool false)) (.bool false) rfl) ?_
       refine V 63 4 (mv 62 (.bool false)) ?_
       refine Sk [64, 65, 66] 25 true 63 rfl ?_
       refine V 67 4 (p0 63 (.tmp 66) (.const (.bool false)) (.bool false) rfl) ?_
       refine V 2 4 (ma 67 (.bool false)) ?_
       obtain rfl := some_inj h131
       have hs132 : HS w0 F0 w116 F10 [] := hs117.drop 0
       exact RWP.nil ⟨rfl, F10, hs132, ((le98.trans le108).trans le118), e29, rfl⟩
     ·have h133 := cond_f h104 hb110
      refine Sk [47, 48, 49] 8 true 46 hb110 ?_
      refine V 50 4 (p0 46 (.tmp 49) (.const (.bool false)) (.bool false) hb110) ?_
      refine V 51 4 (mv 50 (.bool false)) ?_
      refine Sk [52, 53, 54] 13 true 51 rfl ?_
      refine V 55 4 (p0 51 (.tmp 54) (.const (.bool false)) (.bool false) rfl) ?_
      refine V 56 4 (mv 55 (.bool false)) ?_
      refine Sk [57, 58, 59, 60, 61] 18 true 56 rfl ?_
      refine V 62 4 (p0 56 (.tmp 61) (.const (.bool false)) (.bool false) rfl) ?_
      refine V 63 4 (mv 62 (.bool false)) ?_
      refine Sk [64, 65, 66] 25 true 63 rfl ?_
      refine V 67 4 (p0 63 (.tmp 66) (.const (.bool false)) (.bool false) rfl) ?_
      refine V 2 4 (ma 67 (.bool false)) ?_
      obtain rfl := some_inj h133
      have hs134 : HS w0 F0 w106 F9 [] := hs107.drop 0
      exact RWP.nil ⟨rfl, F9, hs134, (le98.trans le108), e29, rfl⟩
    ·have h135 := cond_f h94 hb100
     refine Sk [42, 43, 44] 3 true 41 hb100 ?_
     refine V 45 4 (p0 41 (.tmp 44) (.const (.bool false)) (.bool false) hb100) ?_
     refine V 46 4 (mv 45 (.bool false)) ?_
     refine Sk [47, 48, 49] 8 true 46 rfl ?_
     refine V 50 4 (p0 46 (.tmp 49) (.const (.bool false)) (.bool false) rfl) ?_
     refine V 51 4 (mv 50 (.bool false)) ?_
     refine Sk [52, 53, 54] 13 true 51 rfl ?_
     refine V 55 4 (p0 51 (.tmp 54) (.const (.bool false)) (.bool false) rfl) ?_
     refine V 56 4 (mv 55 (.bool false)) ?_
     refine Sk [57, 58, 59, 60, 61] 18 true 56 rfl ?_
     refine V 62 4 (p0 56 (.tmp 61) (.const (.bool false)) (.bool false) rfl) ?_
     refine V 63 4 (mv 62 (.bool false)) ?_
     refine Sk [64, 65, 66] 25 true 63 rfl ?_
     refine V 67 4 (p0 63 (.tmp 66) (.const (.bool false)) (.bool false) rfl) ?_
     refine V 2 4 (ma 67 (.bool false)) ?_
     obtain rfl := some_inj h135
     have hs136 : HS w0 F0 w96 F8 [] := hs97.drop 0
     exact RWP.nil ⟨rfl, F8, hs136, le98, e29, rfl⟩
   ·rintro f w84 ⟨F7, hs85, le86, e88, e89⟩
    refine thenQ_nrm ?_
    refine CWP.ret (by kernel_rfl) ?_
    have hfin := some_inj h91
    subst hfin
    exact ⟨e88, (.bool j87), res_of (l := [.tmp 2]) (by kernel_rfl) (vs := [(.bool j87)]) ⟨e89, trivial⟩, (.bool j87), F7, rfl, hs85.clear, rfl⟩
end Go.Proofs.YtlddakefmfcblaaGreatDoor
namespace Go.Proofs.YtlddakefmfcblaaGreatDoor
open Go.Proofs
def ref01_rows_L0 (N : Nat) (x0 : (List Prefix)) : Int → Option (Flow Bool Int) := fun s7 =>
 (bif (decide (s7 < (x0.length : Int))) then ((idx x0 s7).bind fun x27 => ((ref01_row N x27).bind fun r41 => (bif (!r41) then some (.ret false) else some (.next (W64 (s7 + 1)))))) else some (.done s7))
def ref01_rows (N : Nat) (x0 : (List Prefix)) : Option Bool :=
 (bif (decide ((x0.length : Int) > 400)) then some false else ((iter (ref01_rows_L0 N x0) N 0).bind fun o => o.k (fun r => some r) (fun s14 => some true)))
theorem co_ref01_rows : CallOk Tryz.prog 95 := fun _ _ => by kernel_rfl
set_option maxHeartbeats 4000000 in
set_option maxRecDepth 100000 in
theorem c_ref01_rows (N : Nat) (w0 : World) (F0 : Mem) (hF : ∀ b o, F0 b = some o → w0.heap[b]? = some o) (x0 : (List Prefix)) (a0_0 : Option Addr) (n0_0 : Nat) (hb0_0 : LC x0.length n0_0) (hs0_0 : SlA tPrefix F0 a0_0 x0) (r : Bool) (h : ref01_rows N x0 = some r) :
  Calls Tryz.prog 95 ([(.slice a0_0 x0.length n0_0)] : List Value).toArray w0 (FRet w0 F0 fun F' v => v = (.bool r)) := by
 have hs0 := HS.start hF
 refine calls_of (n := 19) (c := bodyOf Tryz.f95) Tryz.func95 (by kernel_rfl) (by kernel_rfl) (by kernel_rfl) ?_
 refine Sq (Rg [0] ?_)
 refine V 2 4 (mc (.bool false) (.bool false)) ?_
 refine Nss ?_
 refine Sq (Rg [0, 1, 2] ?_)
 refine V 4 61 (mv 0 (.slice a0_0 x0.length n0_0)) ?_
 refine V 5 3 (ln 4 61 a0_0 x0.length n0_0 71 7 64) ?_
 refine V 6 4 (run_gtr (t := 3) (t' := 3) (x := (.tmp 5)) (y := (.const (vi 400))) (k := .i64) (a := (x0.length : Int)) (b := 400) rfl rfl) ?_
 refine Nt ?_
 refine CWP.cond (t := (decide ((x0.length : Int) > 400))) (by kernel_rfl) rfl (fun hb1 => ?_) (fun hb1 => ?_)
 ·have h2 := cond_t h hb1
  refine Sq (Rg [0] ?_)
  refine V 2 4 (mc (.bool false) (.bool false)) ?_
  refine Nt ?_
  refine CWP.ret (by kernel_rfl) ?_
  refine thenQ_ret ?_
  have hfin := some_inj h2
  subst hfin
  exact ⟨rfl, (.bool false), res_of (l := [.tmp 2]) (by kernel_rfl) (vs := [(.bool false)]) ⟨rfl, trivial⟩, (.bool false), F0, rfl, hs0.clear, rfl⟩
 ·have h3 := cond_f h hb1
  refine Sc ?_
  refine thenQ_nrm ?_
  refine Sq ?_
  refine Sq (Rg [0] ?_)
  refine V 3 3 (mc (vi 0) (vi 0)) ?_
  refine Nt ?_
  obtain ⟨o4, ho5, h6⟩ := bind_some h3
  refine CWP.cut (fun f w => ∃ (s14 : Int) (F2 : Mem), o4 = .done s14 ∧ HS w0 F0 w F2 [] ∧ Mem.le F0 F2 ∧ f.d = []) ?_ ?_
  ·refine Bk ?_
   refine CWP.loop (by kernel_rfl) (fun m f w => ∃ (s7 : Int) (F1 : Mem), iter (ref01_rows_L0 N x0) m s7 = some o4 ∧ HS w0 F0 w F1 [] ∧ Mem.le F0 F1 ∧ f.d = [] ∧ f 0 = (.slice a0_0 x0.length n0_0) ∧ f 3 = (vi s7)) N ⟨0, F0, ho5, hs0, (Mem.le.refl _), rfl, rfl, rfl⟩ ?_
   rintro m19 f w8 ⟨s7, F1, hit20, hs9, le10, e11, e12, e13⟩
   obtain ⟨m21, fl22, rfl, hb23, hnx24⟩ := iter_step hit20
   refine Sq ?_
   refine Sq (Rg [0, 1, 2, 3] ?_)
   refine V 7 3 (mv 3 (vi s7) e13) ?_
   refine V 8 61 (mv 0 (.slice a0_0 x0.length n0_0) e12) ?_
   refine V 9 3 (ln 8 61 a0_0 x0.length n0_0 71 7 64) ?_
   refine V 10 4 (run_lss (t := 3) (t' := 3) (x := (.tmp 7)) (y := (.tmp 9)) (k := .i64) (a := s7) (b := (x0.length : Int)) rfl rfl) ?_
   refine Nt ?_
   refine CWP.cond (t := (decide (s7 < (x0.length : Int)))) (by kernel_rfl) rfl (fun hb25 => ?_) (fun hb25 => ?_)
   ·have h26 := cond_t hb23 hb25
    refine Sc ?_
    refine thenQ_nrm ?_
    refine Sq ?_
    refine Bk ?_
    refine Sq (Rg [0, 1, 2, 3, 4, 5] ?_)
    refine V 13 61 (mv 0 (.slice a0_0 x0.length n0_0) e12) ?_
    refine V 14 3 (mv 3 (vi s7) e13) ?_
    obtain ⟨x27, hx28, h30⟩ := bind_some h26
    obtain ⟨hi29, hx28'⟩ := idx_spec hx28
    obtain ⟨b31, o32, C33, E34, fz35, rfl, hF37, hE38⟩ := SlA.open (SlA.mono hs0_0 le10) hx28'
    have hc40 := hE38 _ _ hx28'
    refine V 15 0 (ix 61 13 14 b31 o32 71 7 64 hi29) ?_
    refine V 16 71 (lx 71 15 0 7 true 7 (.agg #[(.string ⟨(x27.Text).toArray⟩), (vi x27.Country), (vi x27.Zone), (vi x27.Continent), (vi x27.From), (vi x27.To), (.bool x27.Whole)]) (hs9.pers _ _ hF37) hc40) ?_
    obtain ⟨r41, hr42, h43⟩ := bind_some h30
    refine Cl 17 4 125 #[(.tmp 16)] #[71] co_ref01_row hs9 (c_ref01_row N w8 F1 hs9.pers (x27) _ hr42) ?_
    intro v44 F3 w45 hs46 le47 hp48
    obtain rfl := hp48
    refine V 18 4 (run_not (t := 4) (x := (.tmp 17)) (a := r41) rfl) ?_
    refine Nt ?_
    refine CWP.cond (t := (!r41)) (by kernel_rfl) rfl (fun hb49 => ?_) (fun hb49 => ?_)
    ·have h50 := cond_t h43 hb49
     refine Sq (Rg [0] ?_)
     refine V 2 4 (mc (.bool false) (.bool false)) ?_
     refine Nt ?_
     refine CWP.ret (by kernel_rfl) ?_
     refine blockQ_ret ?_
     refine thenQ_ret ?_
     refine thenQ_ret ?_
     refine blockQ_ret ?_
     have hret := iter_ret h50 hnx24
     subst hret
     refine .inr ?_
     refine thenQ_ret ?_
     have hfin := some_inj h6
     subst hfin
     exact ⟨e11, (.bool false), res_of (l := [.tmp 2]) (by kernel_rfl) (vs := [(.bool false)]) ⟨rfl, trivial⟩, (.bool false), F3, rfl, hs46.clear, rfl⟩
    ·have h51 := cond_f h43 hb49
     refine Sc ?_
     refine blockQ_nrm ?_
     refine thenQ_nrm ?_
     refine Rg [0, 1, 2] ?_
     refine V 11 3 (mv 3 (vi s7) e13) ?_
     refine V 12 3 (run_add (t := 3) (t' := 3) (x := (.tmp 11)) (y := (.const (vi 1))) (k := .i64) (a := s7) (b := 1) rfl rfl) ?_
     refine V 3 3 (ma 12 (vi (W64 (s7 + 1)))) ?_
     refine RWP.nil ?_
     have hn52 := iter_next h51 hnx24
     exact ⟨m21, Nat.lt_succ_self _, (W64 (s7 + 1)), F3, hn52, hs46, (le10.trans le47), e11, e12, rfl⟩
   ·have h53 := cond_f hb23 hb25
    refine CWP.exit (by kernel_rfl) ?_
    refine thenQ_ex ?_
    refine thenQ_ex ?_
    refine blockQ_hit rfl ?_
    have ho54 := iter_done h53 hnx24
    exact .inl ⟨rfl, s7, F1, ho54, hs9, le10, e11⟩
  ·rintro f w15 ⟨s14, F2, rfl, hs16, le17, e18⟩
   have h55 := k_done h6
   refine thenQ_nrm ?_
   refine Sq (Rg [0] ?_)
   refine V 2 4 (mc (.bool true) (.bool true)) ?_
   refine Nt ?_
   refine CWP.ret (by kernel_rfl) ?_
   have hfin := some_inj h55
   subst hfin
   exact ⟨e18, (.bool true), res_of (l := [.tmp 2]) (by kernel_rfl) (vs := [(.bool true)]) ⟨rfl, trivial⟩, (.bool true), F2, rfl, hs16.clear, rfl⟩
end Go.Proofs.YtlddakefmfcblaaGreatDoor
namespace Go.Proofs.YtlddakefmfcblaaGreatDoor
open Go.Proofs
def ref01_Overlap_L1 (N : Nat) (x0 : (List Prefix)) (r1 : Bool) (s15 : Int) : Int → Option (Flow (Int × Int × Int) Int) := fun s38 =>
 (bif (decide (s38 < (x0.length : Int))) then (((idx x0 s15).bind fun x74 => ((idx x0 s38).bind fun x88 => (bif (x74.Text == x88.Text) then ((idx x0 s15).bind fun x96 => ((idx x0 s38).bind fun x102 => (bif (x96.Whole == x102.Whole) then ((idx x0 s15).bind fun x110 => ((idx x0 s38).bind fun x116 => (bif (decide (x110.From ≤ x116.To)) then ((idx x0 s38).bind fun x124 => ((idx x0 s15).bind fun x130 => some (decide (x124.From ≤ x130.To)))) else some false))) else some false))) else some false))).bind fun j66 => (bif j66 then some (.ret (s15, s38, 0)) else some (.next (W64 (s38 + 1))))) else some (.done s38))
def ref01_Overlap_L0 (N : Nat) (x0 : (List Prefix)) (r1 : Bool) : Int → Option (Flow (Int × Int × Int) Int) := fun s15 =>
 (bif (decide (s15 < (x0.length : Int))) then ((iter (ref01_Overlap_L1 N x0 r1 s15) N (W64 (s15 + 1))).bind fun o => o.k (fun r => some (.ret r)) (fun s46 => some (.next (W64 (s15 + 1))))) else some (.done s15))
def ref01_Overlap (N : Nat) (x0 : (List Prefix)) : Option (Int × Int × Int) :=
 ((ref01_rows N x0).bind fun r1 => (bif (!r1) then some (0, 0, 12) else ((iter (ref01_Overlap_L0 N x0 r1) N 0).bind fun o => o.k (fun r => some r) (fun s22 => some (0, 0, 3)))))
theorem co_ref01_Overlap : CallOk Tryz.prog 51 := fun _ _ => by kernel_rfl
set_option maxHeartbeats 4000000 in
set_option maxRecDepth 100000 in
theorem c_ref01_Overlap (N : Nat) (w0 : World) (F0 : Mem) (hF : ∀ b o, F0 b = some o → w0.heap[b]? = some o) (x0 : (List Prefix)) (a0_0 : Option Addr) (n0_0 : Nat) (hb0_0 : LC x0.length n0_0) (hs0_0 : SlA tPrefix F0 a0_0 x0) (r : (Int × Int × Int)) (h : ref01_Overlap N x0 = some r) :
  Calls Tryz.prog 51 ([(.slice a0_0 x0.length n0_0)] : List Value).toArray w0 (FRet w0 F0 fun F' v => v = (.tuple #[(vi r.1), (vi r.2.1), (vi r.2.2)])) := by
 have hs0 := HS.start hF
 refine calls_of (n := 76) (c := bodyOf Tryz.f51) Tryz.func51 (by kernel_rfl) (by kernel_rfl) (by kernel_rfl) ?_
 refine Sq (Rg [0, 1, 2] ?_)
 refine V 2 3 (mc (vi 0) (vi 0)) ?_
 refine V 3 3 (mc (vi 0) (vi 0)) ?_
 refine V 4 23 (mc (vi 0) (vi 0)) ?_
 refine Nss ?_
 refine Sq (Rg [0, 1, 2] ?_)
 refine V 7 61 (mv 0 (.slice a0_0 x0.length n0_0)) ?_
 obtain ⟨r1, hr2, h3⟩ := bind_some h
 refine Cl 8 4 95 #[(.tmp 7)] #[61] co_ref01_rows hs0 (c_ref01_rows N w0 F0 hs0.pers (x0) a0_0 n0_0 hb0_0 hs0_0 _ hr2) ?_
 intro v4 F1 w5 hs6 le7 hp8
 obtain rfl := hp8
 refine V 9 4 (run_not (t := 4) (x := (.tmp 8)) (a := r1) rfl) ?_
 refine Nt ?_
 refine CWP.cond (t := (!r1)) (by kernel_rfl) rfl (fun hb9 => ?_) (fun hb9 => ?_)
 ·have h10 := cond_t h3 hb9
  refine Sq (Rg [0, 1, 2] ?_)
  refine V 2 3 (mc (vi 0) (vi 0)) ?_
  refine V 3 3 (mc (vi 0) (vi 0)) ?_
  refine V 4 23 (mc (vi 12) (vi 12)) ?_
  refine Nt ?_
  refine CWP.ret (by kernel_rfl) ?_
  refine thenQ_ret ?_
  have hfin := some_inj h10
  subst hfin
  exact ⟨rfl, (.tuple #[(vi 0), (vi 0), (vi 12)]), res_of (l := [.tmp 2, .tmp 3, .tmp 4]) (by kernel_rfl) (vs := [(vi 0), (vi 0), (vi 12)]) ⟨rfl, ⟨rfl, ⟨rfl, trivial⟩⟩⟩, (.tuple #[(vi 0), (vi 0), (vi 12)]), F1, rfl, hs6.clear, rfl⟩
 ·have h11 := cond_f h3 hb9
  refine Sc ?_
  refine thenQ_nrm ?_
  refine Sq ?_
  refine Sq (Rg [0] ?_)
  refine V 5 3 (mc (vi 0) (vi 0)) ?_
  refine Nt ?_
  obtain ⟨o12, ho13, h14⟩ := bind_some h11
  refine CWP.cut (fun f w => ∃ (s22 : Int) (F3 : Mem), o12 = .done s22 ∧ HS w0 F0 w F3 [] ∧ Mem.le F1 F3 ∧ f.d = []) ?_ ?_
  ·refine Bk ?_
   refine CWP.loop (by kernel_rfl) (fun m f w => ∃ (s15 : Int) (F2 : Mem), iter (ref01_Overlap_L0 N x0 r1) m s15 = some o12 ∧ HS w0 F0 w F2 [] ∧ Mem.le F1 F2 ∧ f.d = [] ∧ f 0 = (.slice a0_0 x0.length n0_0) ∧ f 5 = (vi s15)) N ⟨0, F1, ho13, hs6, (Mem.le.refl _), rfl, rfl, rfl⟩ ?_
   rintro m27 f w16 ⟨s15, F2, hit28, hs17, le18, e19, e20, e21⟩
   obtain ⟨m29, fl30, rfl, hb31, hnx32⟩ := iter_step hit28
   refine Sq ?_
   refine Sq (Rg [0, 1, 2, 3] ?_)
   refine V 10 3 (mv 5 (vi s15) e21) ?_
   refine V 11 61 (mv 0 (.slice a0_0 x0.length n0_0) e20) ?_
   refine V 12 3 (ln 11 61 a0_0 x0.length n0_0 71 7 64) ?_
   refine V 13 4 (run_lss (t := 3) (t' := 3) (x := (.tmp 10)) (y := (.tmp 12)) (k := .i64) (a := s15) (b := (x0.length : Int)) rfl rfl) ?_
   refine Nt ?_
   refine CWP.cond (t := (decide (s15 < (x0.length : Int)))) (by kernel_rfl) rfl (fun hb33 => ?_) (fun hb33 => ?_)
   ·have h34 := cond_t hb31 hb33
    refine Sc ?_
    refine thenQ_nrm ?_
    refine Sq ?_
    refine Bk ?_
    refine Sq (Rg [0, 1, 2] ?_)
    refine V 16 3 (mv 5 (vi s15) e21) ?_
    refine V 17 3 (run_add (t := 3) (t' := 3) (x := (.tmp 16)) (y := (.const (vi 1))) (k := .i64) (a := s15) (b := 1) rfl rfl) ?_
    refine V 6 3 (ma 17 (vi (W64 (s15 + 1)))) ?_
    refine Nt ?_
    obtain ⟨o35, ho36, h37⟩ := bind_some h34
    refine CWP.cut (fun f w => ∃ (s46 : Int) (F5 : Mem), o35 = .done s46 ∧ HS w0 F0 w F5 [] ∧ Mem.le F2 F5 ∧ f.d = [] ∧ f 0 = (.slice a0_0 x0.length n0_0) ∧ f 5 = (vi s15)) ?_ ?_
    ·refine Bk ?_
     refine CWP.loop (by kernel_rfl) (fun m f w => ∃ (s38 : Int) (F4 : Mem), iter (ref01_Overlap_L1 N x0 r1 s15) m s38 = some o35 ∧ HS w0 F0 w F4 [] ∧ Mem.le F2 F4 ∧ f.d = [] ∧ f 0 = (.slice a0_0 x0.length n0_0) ∧ f 5 = (vi s15) ∧ f 6 = (vi s38)) N ⟨(W64 (s15 + 1)), F2, ho36, hs17, (Mem.le.refl _), e19, e20, e21, rfl⟩ ?_
     rintro m53 f w39 ⟨s38, F4, hit54, hs40, le41, e42, e43, e44, e45⟩
     obtain ⟨m55, fl56, rfl, hb57, hnx58⟩ := iter_step hit54
     refine Sq ?_
     refine Sq (Rg [0, 1, 2, 3] ?_)
     refine V 18 3 (mv 6 (vi s38) e45) ?_
     refine V 19 61 (mv 0 (.slice a0_0 x0.length n0_0) e43) ?_
     refine V 20 3 (ln 19 61 a0_0 x0.length n0_0 71 7 64) ?_
     refine V 21 4 (run_lss (t := 3) (t' := 3) (x := (.tmp 18)) (y := (.tmp 20)) (k := .i64) (a := s38) (b := (x0.length : Int)) rfl rfl) ?_
     refine Nt ?_
     refine CWP.cond (t := (decide (s38 < (x0.length : Int)))) (by kernel_rfl) rfl (fun hb59 => ?_) (fun hb59 => ?_)
     ·have h60 := cond_t hb57 hb59
      refine Sc ?_
      refine thenQ_nrm ?_
      refine Sq ?_
      refine Bk ?_
      refine Sq ?_
      obtain ⟨j66, hj72, h73⟩ := bind_some h60
      refine CWP.regionD (by kernel_rfl) (by kernel_rfl) (by kernel_rfl) (by kernel_rfl) (z := 50) (F := F4) (Lc := []) (Lz := []) (l := [false, false, false, false, false, false, false, false, false, false, false, false, false, false, false, false, false, false, false, false, false, false, false, false, false, false, false, false, false, false, false, false, false, false, false, false, false, false, false, false, false, false, false, false, false, false, false, false, false, false]) (fuel := 50) (by kernel_rfl) (by kernel_rfl) hs40 (by simp) (by simp) (fun f w => ∃ (F6 : Mem), HS w0 F0 w F6 [] ∧ Mem.le F4 F6 ∧ f.d = [] ∧ f 0 = (.slice a0_0 x0.length n0_0) ∧ f 5 = (vi s15) ∧ f 6 = (vi s38) ∧ f 73 = (.bool j66)) (fun wd61 hw62 => ?_) ?_
      ·refine Dtl 0 24 61 _ [tt, ff, ff, ff, ff, ff, ff, ff, ff, ff, ff, ff, ff, ff, ff, ff, ff, ff, ff, ff, ff, ff, ff, ff, ff, ff, ff, ff, ff, ff, ff, ff, ff, ff, ff, ff, ff, ff, ff, ff, ff, ff, ff, ff, ff, ff, ff, ff, ff, ff] (fun _ hq => mv 0 (.slice a0_0 x0.length n0_0) e43) ?_
       refine Dtl 1 25 3 _ [tt, tt, ff, ff, ff, ff, ff, ff, ff, ff, ff, ff, ff, ff, ff, ff, ff, ff, ff, ff, ff, ff, ff, ff, ff, ff, ff, ff, ff, ff, ff, ff, ff, ff, ff, ff, ff, ff, ff, ff, ff, ff, ff, ff, ff, ff, ff, ff, ff, ff] (fun _ hq => mv 5 (vi s15) e44) ?_
       obtain ⟨x74, hx75, h77⟩ := bind_some hj72
       obtain ⟨hi76, hx75'⟩ := idx_spec hx75
       obtain ⟨b78, o79, C80, E81, fz82, rfl, hF84, hE85⟩ := SlA.open (SlA.mono hs0_0 ((le7.trans le18).trans le41)) hx75'
       have hc87 := hE85 _ _ hx75'
       refine Dtl 2 26 0 (.pointer (some ⟨b78, (o79 + (s15 : Int).toNat * 7), none⟩)) [tt, tt, tt, ff, ff, ff, ff, ff, ff, ff, ff, ff, ff, ff, ff, ff, ff, ff, ff, ff, ff, ff, ff, ff, ff, ff, ff, ff, ff, ff, ff, ff, ff, ff, ff, ff, ff, ff, ff, ff, ff, ff, ff, ff, ff, ff, ff, ff, ff, ff] (fun _ hq => ix 61 24 25 b78 o79 71 7 64 hi76) ?_
       refine Dtl 3 27 0 (.pointer (some ⟨b78, (o79 + (s15 : Int).toNat * 7), none⟩)) [tt, tt, tt, tt, ff, ff, ff, ff, ff, ff, ff, ff, ff, ff, ff, ff, ff, ff, ff, ff, ff, ff, ff, ff, ff, ff, ff, ff, ff, ff, ff, ff, ff, ff, ff, ff, ff, ff, ff, ff, ff, ff, ff, ff, ff, ff, ff, ff, ff, ff] (fun _ hq => fa 71 26 0 0 1 b78 (o79 + (s15 : Int).toNat * 7) (o79 + (s15 : Int).toNat * 7)) ?_
       refine Dtl 4 28 9 _ [tt, tt, tt, tt, tt, ff, ff, ff, ff, ff, ff, ff, ff, ff, ff, ff, ff, ff, ff, ff, ff, ff, ff, ff, ff, ff, ff, ff, ff, ff, ff, ff, ff, ff, ff, ff, ff, ff, ff, ff, ff, ff, ff, ff, ff, ff, ff, ff, ff, ff] (fun _ hq => lx 9 27 0 7 false 1 (.string ⟨(x74.Text).toArray⟩) (hq.1.1 _ _ hF84) hc87) ?_
       refine Dtl 5 29 61 _ [tt, tt, tt, tt, tt, tt, ff, ff, ff, ff, ff, ff, ff, ff, ff, ff, ff, ff, ff, ff, ff, ff, ff, ff, ff, ff, ff, ff, ff, ff, ff, ff, ff, ff, ff, ff, ff, ff, ff, ff, ff, ff, ff, ff, ff, ff, ff, ff, ff, ff] (fun _ hq => mv 0 (.slice (some ⟨b78, o79, none⟩) x0.length n0_0) e43) ?_
       refine Dtl 6 30 3 _ [tt, tt, tt, tt, tt, tt, tt, ff, ff, ff, ff, ff, ff, ff, ff, ff, ff, ff, ff, ff, ff, ff, ff, ff, ff, ff, ff, ff, ff, ff, ff, ff, ff, ff, ff, ff, ff, ff, ff, ff, ff, ff, ff, ff, ff, ff, ff, ff, ff, ff] (fun _ hq => mv 6 (vi s38) e45) ?_
       obtain ⟨x88, hx89, h91⟩ := bind_some h77
       obtain ⟨hi90, hx89'⟩ := idx_spec hx89
       have hc93 := hE85 _ _ hx89'
       refine Dtl 7 31 0 (.pointer (some ⟨b78, (o79 + (s38 : Int).toNat * 7), none⟩)) [tt, tt, tt, tt, tt, tt, tt, tt, ff, ff, ff, ff, ff, ff, ff, ff, ff, ff, ff, ff, ff, ff, ff, ff, ff, ff, ff, ff, ff, ff, ff, ff, ff, ff, ff, ff, ff, ff, ff, ff, ff, ff, ff, ff, ff, ff, ff, ff, ff, ff] (fun _ hq => ix 61 29 30 b78 o79 71 7 64 hi90) ?_
       refine Dtl 8 32 0 (.pointer (some ⟨b78, (o79 + (s38 : Int).toNat * 7), none⟩)) [tt, tt, tt, tt, tt, tt, tt, tt, tt, ff, ff, ff, ff, ff, ff, ff, ff, ff, ff, ff, ff, ff, ff, ff, ff, ff, ff, ff, ff, ff, ff, ff, ff, ff, ff, ff, ff, ff, ff, ff, ff, ff, ff, ff, ff, ff, ff, ff, ff, ff] (fun _ hq => fa 71 31 0 0 1 b78 (o79 + (s38 : Int).toNat * 7) (o79 + (s38 : Int).toNat * 7)) ?_
       refine Dtl 9 33 9 _ [tt, tt, tt, tt, tt, tt, tt, tt, tt, tt, ff, ff, ff, ff, ff, ff, ff, ff, ff, ff, ff, ff, ff, ff, ff, ff, ff, ff, ff, ff, ff, ff, ff, ff, ff, ff, ff, ff, ff, ff, ff, ff, ff, ff, ff, ff, ff, ff, ff, ff] (fun _ hq => lx 9 32 0 7 false 1 (.string ⟨(x88.Text).toArray⟩) (hq.1.1 _ _ hF84) hc93) ?_
       refine Dtl 10 34 4 (.bool (x74.Text == x88.Text)) [tt, tt, tt, tt, tt, tt, tt, tt, tt, tt, tt, ff, ff, ff, ff, ff, ff, ff, ff, ff, ff, ff, ff, ff, ff, ff, ff, ff, ff, ff, ff, ff, ff, ff, ff, ff, ff, ff, ff, ff, ff, ff, ff, ff, ff, ff, ff, ff, ff, ff] (fun _ hq => run_scmp (t := 9) (t' := 9) (x := (.tmp 28)) (y := (.tmp 33)) (op := .eql) (a := x74.Text) (b := x88.Text) (v := (x74.Text == x88.Text)) rfl rfl rfl) ?_
       refine Dtl 11 35 4 _ [tt, tt, tt, tt, tt, tt, tt, tt, tt, tt, tt, tt, ff, ff, ff, ff, ff, ff, ff, ff, ff, ff, ff, ff, ff, ff, ff, ff, ff, ff, ff, ff, ff, ff, ff, ff, ff, ff, ff, ff, ff, ff, ff, ff, ff, ff, ff, ff, ff, ff] (fun _ hq => mv 34 (.bool (x74.Text == x88.Text))) ?_
       refine DWP.split (x74.Text == x88.Text) (fun hb94 => ?_) (fun hb94 => ?_)
       ·have h95 := cond_t h91 hb94
        refine Dgl 12 36 61 _ [tt, tt, tt, tt, tt, tt, tt, tt, tt, tt, tt, tt, tt, ff, ff, ff, ff, ff, ff, ff, ff, ff, ff, ff, ff, ff, ff, ff, ff, ff, ff, ff, ff, ff, ff, ff, ff, ff, ff, ff, ff, ff, ff, ff, ff, ff, ff, ff, ff, ff] 11 true 35 hb94 (fun _ hq => mv 0 (.slice (some ⟨b78, o79, none⟩) x0.length n0_0) e43) ?_
        refine Dgl 13 37 3 _ [tt, tt, tt, tt, tt, tt, tt, tt, tt, tt, tt, tt, tt, tt, ff, ff, ff, ff, ff, ff, ff, ff, ff, ff, ff, ff, ff, ff, ff, ff, ff, ff, ff, ff, ff, ff, ff, ff, ff, ff, ff, ff, ff, ff, ff, ff, ff, ff, ff, ff] 11 true 35 hb94 (fun _ hq => mv 5 (vi s15) e44) ?_
        obtain ⟨x96, hx97, h99⟩ := bind_some h95
        obtain ⟨hi98, hx97'⟩ := idx_spec hx97
        have hc101 := hE85 _ _ hx97'
        refine Dgl 14 38 0 (.pointer (some ⟨b78, (o79 + (s15 : Int).toNat * 7), none⟩)) [tt, tt, tt, tt, tt, tt, tt, tt, tt, tt, tt, tt, tt, tt, tt, ff, ff, ff, ff, ff, ff, ff, ff, ff, ff, ff, ff, ff, ff, ff, ff, ff, ff, ff, ff, ff, ff, ff, ff, ff, ff, ff, ff, ff, ff, ff, ff, ff, ff, ff] 11 true 35 hb94 (fun _ hq => ix 61 36 37 b78 o79 71 7 64 hi98) ?_
        refine Dgl 15 39 0 (.pointer (some ⟨b78, ((o79 + (s15 : Int).toNat * 7) + 6), none⟩)) [tt, tt, tt, tt, tt, tt, tt, tt, tt, tt, tt, tt, tt, tt, tt, tt, ff, ff, ff, ff, ff, ff, ff, ff, ff, ff, ff, ff, ff, ff, ff, ff, ff, ff, ff, ff, ff, ff, ff, ff, ff, ff, ff, ff, ff, ff, ff, ff, ff, ff] 11 true 35 hb94 (fun _ hq => fa 71 38 6 6 1 b78 (o79 + (s15 : Int).toNat * 7) ((o79 + (s15 : Int).toNat * 7) + 6)) ?_
        refine Dgl 16 40 4 _ [tt, tt, tt, tt, tt, tt, tt, tt, tt, tt, tt, tt, tt, tt, tt, tt, tt, ff, ff, ff, ff, ff, ff, ff, ff, ff, ff, ff, ff, ff, ff, ff, ff, ff, ff, ff, ff, ff, ff, ff, ff, ff, ff, ff, ff, ff, ff, ff, ff, ff] 11 true 35 hb94 (fun _ hq => lx 4 39 6 7 false 1 (.bool x96.Whole) (hq.1.1 _ _ hF84) hc101) ?_
        refine Dgl 17 41 61 _ [tt, tt, tt, tt, tt, tt, tt, tt, tt, tt, tt, tt, tt, tt, tt, tt, tt, tt, ff, ff, ff, ff, ff, ff, ff, ff, ff, ff, ff, ff, ff, ff, ff, ff, ff, ff, ff, ff, ff, ff, ff, ff, ff, ff, ff, ff, ff, ff, ff, ff] 11 true 35 hb94 (fun _ hq => mv 0 (.slice (some ⟨b78, o79, none⟩) x0.length n0_0) e43) ?_
        refine Dgl 18 42 3 _ [tt, tt, tt, tt, tt, tt, tt, tt, tt, tt, tt, tt, tt, tt, tt, tt, tt, tt, tt, ff, ff, ff, ff, ff, ff, ff, ff, ff, ff, ff, ff, ff, ff, ff, ff, ff, ff, ff, ff, ff, ff, ff, ff, ff, ff, ff, ff, ff, ff, ff] 11 true 35 hb94 (fun _ hq => mv 6 (vi s38) e45) ?_
        obtain ⟨x102, hx103, h105⟩ := bind_some h99
        obtain ⟨hi104, hx103'⟩ := idx_spec hx103
        have hc107 := hE85 _ _ hx103'
        refine Dgl 19 43 0 (.pointer (some ⟨b78, (o79 + (s38 : Int).toNat * 7), none⟩)) [tt, tt, tt, tt, tt, tt, tt, tt, tt, tt, tt, tt, tt, tt, tt, tt, tt, tt, tt, tt, ff, ff, ff, ff, ff, ff, ff, ff, ff, ff, ff, ff, ff, ff, ff, ff, ff, ff, ff, ff, ff, ff, ff, ff, ff, ff, ff, ff, ff, ff] 11 true 35 hb94 (fun _ hq => ix 61 41 42 b78 o79 71 7 64 hi104) ?_
        refine Dgl 20 44 0 (.pointer (some ⟨b78, ((o79 + (s38 : Int).toNat * 7) + 6), none⟩)) [tt, tt, tt, tt, tt, tt, tt, tt, tt, tt, tt, tt, tt, tt, tt, tt, tt, tt, tt, tt, tt, ff, ff, ff, ff, ff, ff, ff, ff, ff, ff, ff, ff, ff, ff, ff, ff, ff, ff, ff, ff, ff, ff, ff, ff, ff, ff, ff, ff, ff] 11 true 35 hb94 (fun _ hq => fa 71 43 6 6 1 b78 (o79 + (s38 : Int).toNat * 7) ((o79 + (s38 : Int).toNat * 7) + 6)) ?_
        refine Dgl 21 45 4 _ [tt, tt, tt, tt, tt, tt, tt, tt, tt, tt, tt, tt, tt, tt, tt, tt, tt, tt, tt, tt, tt, tt, ff, ff, ff, ff, ff, ff, ff, ff, ff, ff, ff, ff, ff, ff, ff, ff, ff, ff, ff, ff, ff, ff, ff, ff, ff, ff, ff, ff] 11 true 35 hb94 (fun _ hq => lx 4 44 6 7 false 1 (.bool x102.Whole) (hq.1.1 _ _ hF84) hc107) ?_
        refine Dgl 22 46 4 (.bool (x96.Whole == x102.Whole)) [tt, tt, tt, tt, tt, tt, tt, tt, tt, tt, tt, tt, tt, tt, tt, tt, tt, tt, tt, tt, tt, tt, tt, ff, ff, ff, ff, ff, ff, ff, ff, ff, ff, ff, ff, ff, ff, ff, ff, ff, ff, ff, ff, ff, ff, ff, ff, ff, ff, ff] 11 true 35 hb94 (fun _ hq => run_eqb (t := 4) (t' := 4) (x := (.tmp 40)) (y := (.tmp 45)) (a := x96.Whole) (b := x102.Whole) rfl rfl (by kernel_rfl)) ?_
        refine Dtl 23 47 4 _ [tt, tt, tt, tt, tt, tt, tt, tt, tt, tt, tt, tt, tt, tt, tt, tt, tt, tt, tt, tt, tt, tt, tt, tt, ff, ff, ff, ff, ff, ff, ff, ff, ff, ff, ff, ff, ff, ff, ff, ff, ff, ff, ff, ff, ff, ff, ff, ff, ff, ff] (fun _ hq => p1 35 (.tmp 46) (.const (.bool false)) (.bool (x96.Whole == x102.Whole)) hb94) ?_
        refine Dtl 24 48 4 _ [tt, tt, tt, tt, tt, tt, tt, tt, tt, tt, tt, tt, tt, tt, tt, tt, tt, tt, tt, tt, tt, tt, tt, tt, tt, ff, ff, ff, ff, ff, ff, ff, ff, ff, ff, ff, ff, ff, ff, ff, ff, ff, ff, ff, ff, ff, ff, ff, ff, ff] (fun _ hq => mv 47 (.bool (x96.Whole == x102.Whole))) ?_
        refine DWP.split (x96.Whole == x102.Whole) (fun hb108 => ?_) (fun hb108 => ?_)
        ·have h109 := cond_t h105 hb108
         refine Dgl 25 49 61 _ [tt, tt, tt, tt, tt, tt, tt, tt, tt, tt, tt, tt, tt, tt, tt, tt, tt, tt, tt, tt, tt, tt, tt, tt, tt, tt, ff, ff, ff, ff, ff, ff, ff, ff, ff, ff, ff, ff, ff, ff, ff, ff, ff, ff, ff, ff, ff, ff, ff, ff] 24 true 48 hb108 (fun _ hq => mv 0 (.slice (some ⟨b78, o79, none⟩) x0.length n0_0) e43) ?_
         refine Dgl 26 50 3 _ [tt, tt, tt, tt, tt, tt, tt, tt, tt, tt, tt, tt, tt, tt, tt, tt, tt, tt, tt, tt, tt, tt, tt, tt, tt, tt, tt, ff, ff, ff, ff, ff, ff, ff, ff, ff, ff, ff, ff, ff, ff, ff, ff, ff, ff, ff, ff, ff, ff, ff] 24 true 48 hb108 (fun _ hq => mv 5 (vi s15) e44) ?_
         obtain ⟨x110, hx111, h113⟩ := bind_some h109
         obtain ⟨hi112, hx111'⟩ := idx_spec hx111
         have hc115 := hE85 _ _ hx111'
         refine Dgl 27 51 0 (.pointer (some ⟨b78, (o79 + (s15 : Int).toNat * 7), none⟩)) [tt, tt, tt, tt, tt, tt, tt, tt, tt, tt, tt, tt, tt, tt, tt, tt, tt, tt, tt, tt, tt, tt, tt, tt, tt, tt, tt, tt, ff, ff, ff, ff, ff, ff, ff, ff, ff, ff, ff, ff, ff, ff, ff, ff, ff, ff, ff, ff, ff, ff] 24 true 48 hb108 (fun _ hq => ix 61 49 50 b78 o79 71 7 64 hi112) ?_
         refine Dgl 28 52 0 (.pointer (some ⟨b78, ((o79 + (s15 : Int).toNat * 7) + 4), none⟩)) [tt, tt, tt, tt, tt, tt, tt, tt, tt, tt, tt, tt, tt, tt, tt, tt, tt, tt, tt, tt, tt, tt, tt, tt, tt, tt, tt, tt, tt, ff, ff, ff, ff, ff, ff, ff, ff, ff, ff, ff, ff, ff, ff, ff, ff, ff, ff, ff, ff, ff] 24 true 48 hb108 (fun _ hq => fa 71 51 4 4 1 b78 (o79 + (s15 : Int).toNat * 7) ((o79 + (s15 : Int).toNat * 7) + 4)) ?_
         refine Dgl 29 53 3 _ [tt, tt, tt, tt, tt, tt, tt, tt, tt, tt, tt, tt, tt, tt, tt, tt, tt, tt, tt, tt, tt, tt, tt, tt, tt, tt, tt, tt, tt, tt, ff, ff, ff, ff, ff, ff, ff, ff, ff, ff, ff, ff, ff, ff, ff, ff, ff, ff, ff, ff] 24 true 48 hb108 (fun _ hq => lx 3 52 4 7 false 1 (vi x110.From) (hq.1.1 _ _ hF84) hc115) ?_
         refine Dgl 30 54 61 _ [tt, tt, tt, tt, tt, tt, tt, tt, tt, tt, tt, tt, tt, tt, tt, tt, tt, tt, tt, tt, tt, tt, tt, tt, tt, tt, tt, tt, tt, tt, tt, ff, ff, ff, ff, ff, ff, ff, ff, ff, ff, ff, ff, ff, ff, ff, ff, ff, ff, ff] 24 true 48 hb108 (fun _ hq => mv 0 (.slice (some ⟨b78, o79, none⟩) x0.length n0_0) e43) ?_
         refine Dgl 31 55 3 _ [tt, tt, tt, tt, tt, tt, tt, tt, tt, tt, tt, tt, tt, tt, tt, tt, tt, tt, tt, tt, tt, tt, tt, tt, tt, tt, tt, tt, tt, tt, tt, tt, ff, ff, ff, ff, ff, ff, ff, ff, ff, ff, ff, ff, ff, ff, ff, ff, ff, ff] 24 true 48 hb108 (fun _ hq => mv 6 (vi s38) e45) ?_
         obtain ⟨x116, hx117, h119⟩ := bind_some h113
         obtain ⟨hi118, hx117'⟩ := idx_spec hx117
         have hc121 := hE85 _ _ hx117'
         refine Dgl 32 56 0 (.pointer (some ⟨b78, (o79 + (s38 : Int).toNat * 7), none⟩)) [tt, tt, tt, tt, tt, tt, tt, tt, tt, tt, tt, tt, tt, tt, tt, tt, tt, tt, tt, tt, tt, tt, tt, tt, tt, tt, tt, tt, tt, tt, tt, tt, tt, ff, ff, ff, ff, ff, ff, ff, ff, ff, ff, ff, ff, ff, ff, ff, ff, ff] 24 true 48 hb108 (fun _ hq => ix 61 54 55 b78 o79 71 7 64 hi118) ?_
         refine Dgl 33 57 0 (.pointer (some ⟨b78, ((o79 + (s38 : Int).toNat * 7) + 5), none⟩)) [tt, tt, tt, tt, tt, tt, tt, tt, tt, tt, tt, tt, tt, tt, tt, tt, tt, tt, tt, tt, tt, tt, tt, tt, tt, tt, tt, tt, tt, tt, tt, tt, tt, tt, ff, ff, ff, ff, ff, ff, ff, ff, ff, ff, ff, ff, ff, ff, ff, ff] 24 true 48 hb108 (fun _ hq => fa 71 56 5 5 1 b78 (o79 + (s38 : Int).toNat * 7) ((o79 + (s38 : Int).toNat * 7) + 5)) ?_
         refine Dgl 34 58 3 _ [tt, tt, tt, tt, tt, tt, tt, tt, tt, tt, tt, tt, tt, tt, tt, tt, tt, tt, tt, tt, tt, tt, tt, tt, tt, tt, tt, tt, tt, tt, tt, tt, tt, tt, tt, ff, ff, ff, ff, ff, ff, ff, ff, ff, ff, ff, ff, ff, ff, ff] 24 true 48 hb108 (fun _ hq => lx 3 57 5 7 false 1 (vi x116.To) (hq.1.1 _ _ hF84) hc121) ?_
         refine Dgl 35 59 4 (.bool (decide (x110.From ≤ x116.To))) [tt, tt, tt, tt, tt, tt, tt, tt, tt, tt, tt, tt, tt, tt, tt, tt, tt, tt, tt, tt, tt, tt, tt, tt, tt, tt, tt, tt, tt, tt, tt, tt, tt, tt, tt, tt, ff, ff, ff, ff, ff, ff, ff, ff, ff, ff, ff, ff, ff, ff] 24 true 48 hb108 (fun _ hq => run_leq (t := 3) (t' := 3) (x := (.tmp 53)) (y := (.tmp 58)) (k := .i64) (a := x110.From) (b := x116.To) rfl rfl) ?_
         refine Dtl 36 60 4 _ [tt, tt, tt, tt, tt, tt, tt, tt, tt, tt, tt, tt, tt, tt, tt, tt, tt, tt, tt, tt, tt, tt, tt, tt, tt, tt, tt, tt, tt, tt, tt, tt, tt, tt, tt, tt, tt, ff, ff, ff, ff, ff, ff, ff, ff, ff, ff, ff, ff, ff] (fun _ hq => p1 48 (.tmp 59) (.const (.bool false)) (.bool (decide (x110.From ≤ x116.To))) hb108) ?_
         refine Dtl 37 61 4 _ [tt, tt, tt, tt, tt, tt, tt, tt, tt, tt, tt, tt, tt, tt, tt, tt, tt, tt, tt, tt, tt, tt, tt, tt, tt, tt, tt, tt, tt, tt, tt, tt, tt, tt, tt, tt, tt, tt, ff, ff, ff, ff, ff, ff, ff, ff, ff, ff, ff, ff] (fun _ hq => mv 60 (.bool (decide (x110.From ≤ x116.To)))) ?_
         refine DWP.split (decide (x110.From ≤ x116.To)) (fun hb122 => ?_) (fun hb122 => ?_)
         ·have h123 := cond_t h119 hb122
          refine Dgl 38 62 61 _ [tt, tt, tt, tt, tt, tt, tt, tt, tt, tt, tt, tt, tt, tt, tt, tt, tt, tt, tt, tt, tt, tt, tt, tt, tt, tt, tt, tt, tt, tt, tt, tt, tt, tt, tt, tt, tt, tt, tt, ff, ff, ff, ff, ff, ff, ff, ff, ff, ff, ff] 37 true 61 hb122 (fun _ hq => mv 0 (.slice (some ⟨b78, o79, none⟩) x0.length n0_0) e43) ?_
          refine Dgl 39 63 3 _ [tt, tt, tt, tt, tt, tt, tt, tt, tt, tt, tt, tt, tt, tt, tt, tt, tt, tt, tt, tt, tt, tt, tt, tt, tt, tt, tt, tt, tt, tt, tt, tt, tt, tt, tt, tt, tt, tt, tt, tt, ff, ff, ff, ff, ff, ff, ff, ff, ff, ff] 37 true 61 hb122 (fun _ hq => mv 6 (vi s38) e45) ?_
          obtain ⟨x124, hx125, h127⟩ := bind_some h123
          obtain ⟨hi126, hx125'⟩ := idx_spec hx125
          have hc129 := hE85 _ _ hx125'
          refine Dgl 40 64 0 (.pointer (some ⟨b78, (o79 + (s38 : Int).toNat * 7), none⟩)) [tt, tt, tt, tt, tt, tt, tt, tt, tt, tt, tt, tt, tt, tt, tt, tt, tt, tt, tt, tt, tt, tt, tt, tt, tt, tt, tt, tt, tt, tt, tt, tt, tt, tt, tt, tt, tt, tt, tt, tt, tt, ff, ff, ff, ff, ff, ff, ff, ff, ff] 37 true 61 hb122 (fun _ hq => ix 61 62 63 b78 o79 71 7 64 hi126) ?_
          refine Dgl 41 65 0 (.pointer (some ⟨b78, ((o79 + (s38 : Int).toNat * 7) + 4), none⟩)) [tt, tt, tt, tt, tt, tt, tt, tt, tt, tt, tt, tt, tt, tt, tt, tt, tt, tt, tt, tt, tt, tt, tt, tt, tt, tt, tt, tt, tt, tt, tt, tt, tt, tt, tt, tt, tt, tt, tt, tt, tt, tt, ff, ff, ff, ff, ff, ff, ff, ff] 37 true 61 hb122 (fun _ hq => fa 71 64 4 4 1 b78 (o79 + (s38 : Int).toNat * 7) ((o79 + (s38 : Int).toNat * 7) + 4)) ?_
          refine Dgl 42 66 3 _ [tt, tt, tt, tt, tt, tt, tt, tt, tt, tt, tt, tt, tt, tt, tt, tt, tt, tt, tt, tt, tt, tt, tt, tt, tt, tt, tt, tt, tt, tt, tt, tt, tt, tt, tt, tt, tt, tt, tt, tt, tt, tt, tt, ff, ff, ff, ff, ff, ff, ff] 37 true 61 hb122 (fun _ hq => lx 3 65 4 7 false 1 (vi x124.From) (hq.1.1 _ _ hF84) hc129) ?_
          refine Dgl 43 67 61 _ [tt, tt, tt, tt, tt, tt, tt, tt, tt, tt, tt, tt, tt, tt, tt, tt, tt, tt, tt, tt, tt, tt, tt, tt, tt, tt, tt, tt, tt, tt, tt, tt, tt, tt, tt, tt, tt, tt, tt, tt, tt, tt, tt, tt, ff, ff, ff, ff, ff, ff] 37 true 61 hb122 (fun _ hq => mv 0 (.slice (some ⟨b78, o79, none⟩) x0.length n0_0) e43) ?_
          refine Dgl 44 68 3 _ [tt, tt, tt, tt, tt, tt, tt, tt, tt, tt, tt, tt, tt, tt, tt, tt, tt, tt, tt, tt, tt, tt, tt, tt, tt, tt, tt, tt, tt, tt, tt, tt, tt, tt, tt, tt, tt, tt, tt, tt, tt, tt, tt, tt, tt, ff, ff, ff, ff, ff] 37 true 61 hb122 (fun _ hq => mv 5 (vi s15) e44) ?_
          obtain ⟨x130, hx131, h133⟩ := bind_some h127
          obtain ⟨hi132, hx131'⟩ := idx_spec hx131
          have hc135 := hE85 _ _ hx131'
          refine Dgl 45 69 0 (.pointer (some ⟨b78, (o79 + (s15 : Int).toNat * 7), none⟩)) [tt, tt, tt, tt, tt, tt, tt, tt, tt, tt, tt, tt, tt, tt, tt, tt, tt, tt, tt, tt, tt, tt, tt, tt, tt, tt, tt, tt, tt, tt, tt, tt, tt, tt, tt, tt, tt, tt, tt, tt, tt, tt, tt, tt, tt, tt, ff, ff, ff, ff] 37 true 61 hb122 (fun _ hq => ix 61 67 68 b78 o79 71 7 64 hi132) ?_
          refine Dgl 46 70 0 (.pointer (some ⟨b78, ((o79 + (s15 : Int).toNat * 7) + 5), none⟩)) [tt, tt, tt, tt, tt, tt, tt, tt, tt, tt, tt, tt, tt, tt, tt, tt, tt, tt, tt, tt, tt, tt, tt, tt, tt, tt, tt, tt, tt, tt, tt, tt, tt, tt, tt, tt, tt, tt, tt, tt, tt, tt, tt, tt, tt, tt, tt, ff, ff, ff] 37 true 61 hb122 (fun _ hq => fa 71 69 5 5 1 b78 (o79 + (s15 : Int).toNat * 7) ((o79 + (s15 : Int).toNat * 7) + 5)) ?_
          refine Dgl 47 71 3 _ [tt, tt, tt, tt, tt, tt, tt, tt, tt, tt, tt, tt, tt, tt, tt, tt, tt, tt, tt, tt, tt, tt, tt, tt, tt, tt, tt, tt, tt, tt, tt, tt, tt, tt, tt, tt, tt, tt, tt, tt, tt, tt, tt, tt, tt, tt, tt, tt, ff, ff] 37 true 61 hb122 (fun _ hq => lx 3 70 5 7 false 1 (vi x130.To) (hq.1.1 _ _ hF84) hc135) ?_
          refine Dgl 48 72 4 (.bool (decide (x124.From ≤ x130.To))) [tt, tt, tt, tt, tt, tt, tt, tt, tt, tt, tt, tt, tt, tt, tt, tt, tt, tt, tt, tt, tt, tt, tt, tt, tt, tt, tt, tt, tt, tt, tt, tt, tt, tt, tt, tt, tt, tt, tt, tt, tt, tt, tt, tt, tt, tt, tt, tt, tt, ff] 37 true 61 hb122 (fun _ hq => run_leq (t := 3) (t' := 3) (x := (.tmp 66)) (y := (.tmp 71)) (k := .i64) (a := x124.From) (b := x130.To) rfl rfl) ?_
          refine Dtl 49 73 4 _ [tt, tt, tt, tt, tt, tt, tt, tt, tt, tt, tt, tt, tt, tt, tt, tt, tt, tt, tt, tt, tt, tt, tt, tt, tt, tt, tt, tt, tt, tt, tt, tt, tt, tt, tt, tt, tt, tt, tt, tt, tt, tt, tt, tt, tt, tt, tt, tt, tt, tt] (fun _ hq => p1 61 (.tmp 72) (.const (.bool false)) (.bool (decide (x124.From ≤ x130.To))) hb122) ?_
          obtain rfl := some_inj h133
          exact DWP.done (by kernel_rfl) ⟨F4, hw62, (Mem.le.refl _), e42, e43, e44, e45, rfl⟩
         ·have h136 := cond_f h119 hb122
          refine Dkl [(38, 62), (39, 63), (40, 64), (41, 65), (42, 66), (43, 67)] 37 true 61 hb122 [tt, tt, tt, tt, tt, tt, tt, tt, tt, tt, tt, tt, tt, tt, tt, tt, tt, tt, tt, tt, tt, tt, tt, tt, tt, tt, tt, tt, tt, tt, tt, tt, tt, tt, tt, tt, tt, tt, tt, tt, tt, tt, tt, tt, ff, ff, ff, ff, ff, ff] ?_
          refine Dkl [(44, 68), (45, 69), (46, 70), (47, 71), (48, 72)] 37 true 61 hb122 [tt, tt, tt, tt, tt, tt, tt, tt, tt, tt, tt, tt, tt, tt, tt, tt, tt, tt, tt, tt, tt, tt, tt, tt, tt, tt, tt, tt, tt, tt, tt, tt, tt, tt, tt, tt, tt, tt, tt, tt, tt, tt, tt, tt, tt, tt, tt, tt, tt, ff] ?_
          refine Dtl 49 73 4 _ [tt, tt, tt, tt, tt, tt, tt, tt, tt, tt, tt, tt, tt, tt, tt, tt, tt, tt, tt, tt, tt, tt, tt, tt, tt, tt, tt, tt, tt, tt, tt, tt, tt, tt, tt, tt, tt, tt, tt, tt, tt, tt, tt, tt, tt, tt, tt, tt, tt, tt] (fun _ hq => p0 61 (.tmp 72) (.const (.bool false)) (.bool false) hb122) ?_
          obtain rfl := some_inj h136
          exact DWP.done (by kernel_rfl) ⟨F4, hw62, (Mem.le.refl _), e42, e43, e44, e45, rfl⟩
        ·have h137 := cond_f h105 hb108
         refine Dkl [(25, 49), (26, 50), (27, 51), (28, 52), (29, 53), (30, 54)] 24 true 48 hb108 [tt, tt, tt, tt, tt, tt, tt, tt, tt, tt, tt, tt, tt, tt, tt, tt, tt, tt, tt, tt, tt, tt, tt, tt, tt, tt, tt, tt, tt, tt, tt, ff, ff, ff, ff, ff, ff, ff, ff, ff, ff, ff, ff, ff, ff, ff, ff, ff, ff, ff] ?_
         refine Dkl [(31, 55), (32, 56), (33, 57), (34, 58), (35, 59)] 24 true 48 hb108 [tt, tt, tt, tt, tt, tt, tt, tt, tt, tt, tt, tt, tt, tt, tt, tt, tt, tt, tt, tt, tt, tt, tt, tt, tt, tt, tt, tt, tt, tt, tt, tt, tt, tt, tt, tt, ff, ff, ff, ff, ff, ff, ff, ff, ff, ff, ff, ff, ff, ff] ?_
         refine Dtl 36 60 4 _ [tt, tt, tt, tt, tt, tt, tt, tt, tt, tt, tt, tt, tt, tt, tt, tt, tt, tt, tt, tt, tt, tt, tt, tt, tt, tt, tt, tt, tt, tt, tt, tt, tt, tt, tt, tt, tt, ff, ff, ff, ff, ff, ff, ff, ff, ff, ff, ff, ff, ff] (fun _ hq => p0 48 (.tmp 59) (.const (.bool false)) (.bool false) hb108) ?_
         refine Dtl 37 61 4 _ [tt, tt, tt, tt, tt, tt, tt, tt, tt, tt, tt, tt, tt, tt, tt, tt, tt, tt, tt, tt, tt, tt, tt, tt, tt, tt, tt, tt, tt, tt, tt, tt, tt, tt, tt, tt, tt, tt, ff, ff, ff, ff, ff, ff, ff, ff, ff, ff, ff, ff] (fun _ hq => mv 60 (.bool false)) ?_
         refine Dkl [(38, 62), (39, 63), (40, 64), (41, 65), (42, 66), (43, 67)] 37 true 61 rfl [tt, tt, tt, tt, tt, tt, tt, tt, tt, tt, tt, tt, tt, tt, tt, tt, tt, tt, tt, tt, tt, tt, tt, tt, tt, tt, tt, tt, tt, tt, tt, tt, tt, tt, tt, tt, tt, tt, tt, tt, tt, tt, tt, tt, ff, ff, ff, ff, ff, ff] ?_
         refine Dkl [(44, 68), (45, 69), (46, 70), (47, 71), (48, 72)] 37 true 61 rfl [tt, tt, tt, tt, tt, tt, tt, tt, tt, tt, tt, tt, tt, tt, tt, tt, tt, tt, tt, tt, tt, tt, tt, tt, tt, tt, tt, tt, tt, tt, tt, tt, tt, tt, tt, tt, tt, tt, tt, tt, tt, tt, tt, tt, tt, tt, tt, tt, tt, ff] ?_
         refine Dtl 49 73 4 _ [tt, tt, tt, tt, tt, tt, tt, tt, tt, tt, tt, tt, tt, tt, tt, tt, tt, tt, tt, tt, tt, tt, tt, tt, tt, tt, tt, tt, tt, tt, tt, tt, tt, tt, tt, tt, tt, tt, tt, tt, tt, tt, tt, tt, tt, tt, tt, tt, tt, tt] (fun _ hq => p0 61 (.tmp 72) (.const (.bool false)) (.bool false) rfl) ?_
         obtain rfl := some_inj h137
         exact DWP.done (by kernel_rfl) ⟨F4, hw62, (Mem.le.refl _), e42, e43, e44, e45, rfl⟩
       ·have h138 := cond_f h91 hb94
        refine Dkl [(12, 36), (13, 37), (14, 38), (15, 39), (16, 40), (17, 41)] 11 true 35 hb94 [tt, tt, tt, tt, tt, tt, tt, tt, tt, tt, tt, tt, tt, tt, tt, tt, tt, tt, ff, ff, ff, ff, ff, ff, ff, ff, ff, ff, ff, ff, ff, ff, ff, ff, ff, ff, ff, ff, ff, ff, ff, ff, ff, ff, ff, ff, ff, ff, ff, ff] ?_
        refine Dkl [(18, 42), (19, 43), (20, 44), (21, 45), (22, 46)] 11 true 35 hb94 [tt, tt, tt, tt, tt, tt, tt, tt, tt, tt, tt, tt, tt, tt, tt, tt, tt, tt, tt, tt, tt, tt, tt, ff, ff, ff, ff, ff, ff, ff, ff, ff, ff, ff, ff, ff, ff, ff, ff, ff, ff, ff, ff, ff, ff, ff, ff, ff, ff, ff] ?_
        refine Dtl 23 47 4 _ [tt, tt, tt, tt, tt, tt, tt, tt, tt, tt, tt, tt, tt, tt, tt, tt, tt, tt, tt, tt, tt, tt, tt, tt, ff, ff, ff, ff, ff, ff, ff, ff, ff, ff, ff, ff, ff, ff, ff, ff, ff, ff, ff, ff, ff, ff, ff, ff, ff, ff] (fun _ hq => p0 35 (.tmp 46) (.const (.bool false)) (.bool false) hb94) ?_
        refine Dtl 24 48 4 _ [tt, tt, tt, tt, tt, tt, tt, tt, tt, tt, tt, tt, tt, tt, tt, tt, tt, tt, tt, tt, tt, tt, tt, tt, tt, ff, ff, ff, ff, ff, ff, ff, ff, ff, ff, ff, ff, ff, ff, ff, ff, ff, ff, ff, ff, ff, ff, ff, ff, ff] (fun _ hq => mv 47 (.bool false)) ?_
        refine Dkl [(25, 49), (26, 50), (27, 51), (28, 52), (29, 53), (30, 54)] 24 true 48 rfl [tt, tt, tt, tt, tt, tt, tt, tt, tt, tt, tt, tt, tt, tt, tt, tt, tt, tt, tt, tt, tt, tt, tt, tt, tt, tt, tt, tt, tt, tt, tt, ff, ff, ff, ff, ff, ff, ff, ff, ff, ff, ff, ff, ff, ff, ff, ff, ff, ff, ff] ?_
        refine Dkl [(31, 55), (32, 56), (33, 57), (34, 58), (35, 59)] 24 true 48 rfl [tt, tt, tt, tt, tt, tt, tt, tt, tt, tt, tt, tt, tt, tt, tt, tt, tt, tt, tt, tt, tt, tt, tt, tt, tt, tt, tt, tt, tt, tt, tt, tt, tt, tt, tt, tt, ff, ff, ff, ff, ff, ff, ff, ff, ff, ff, ff, ff, ff, ff] ?_
        refine Dtl 36 60 4 _ [tt, tt, tt, tt, tt, tt, tt, tt, tt, tt, tt, tt, tt, tt, tt, tt, tt, tt, tt, tt, tt, tt, tt, tt, tt, tt, tt, tt, tt, tt, tt, tt, tt, tt, tt, tt, tt, ff, ff, ff, ff, ff, ff, ff, ff, ff, ff, ff, ff, ff] (fun _ hq => p0 48 (.tmp 59) (.const (.bool false)) (.bool false) rfl) ?_
        refine Dtl 37 61 4 _ [tt, tt, tt, tt, tt, tt, tt, tt, tt, tt, tt, tt, tt, tt, tt, tt, tt, tt, tt, tt, tt, tt, tt, tt, tt, tt, tt, tt, tt, tt, tt, tt, tt, tt, tt, tt, tt, tt, ff, ff, ff, ff, ff, ff, ff, ff, ff, ff, ff, ff] (fun _ hq => mv 60 (.bool false)) ?_
        refine Dkl [(38, 62), (39, 63), (40, 64), (41, 65), (42, 66), (43, 67)] 37 true 61 rfl [tt, tt, tt, tt, tt, tt, tt, tt, tt, tt, tt, tt, tt, tt, tt, tt, tt, tt, tt, tt, tt, tt, tt, tt, tt, tt, tt, tt, tt, tt, tt, tt, tt, tt, tt, tt, tt, tt, tt, tt, tt, tt, tt, tt, ff, ff, ff, ff, ff, ff] ?_
        refine Dkl [(44, 68), (45, 69), (46, 70), (47, 71), (48, 72)] 37 true 61 rfl [tt, tt, tt, tt, tt, tt, tt, tt, tt, tt, tt, tt, tt, tt, tt, tt, tt, tt, tt, tt, tt, tt, tt, tt, tt, tt, tt, tt, tt, tt, tt, tt, tt, tt, tt, tt, tt, tt, tt, tt, tt, tt, tt, tt, tt, tt, tt, tt, tt, ff] ?_
        refine Dtl 49 73 4 _ [tt, tt, tt, tt, tt, tt, tt, tt, tt, tt, tt, tt, tt, tt, tt, tt, tt, tt, tt, tt, tt, tt, tt, tt, tt, tt, tt, tt, tt, tt, tt, tt, tt, tt, tt, tt, tt, tt, tt, tt, tt, tt, tt, tt, tt, tt, tt, tt, tt, tt] (fun _ hq => p0 61 (.tmp 72) (.const (.bool false)) (.bool false) rfl) ?_
        obtain rfl := some_inj h138
        exact DWP.done (by kernel_rfl) ⟨F4, hw62, (Mem.le.refl _), e42, e43, e44, e45, rfl⟩
      ·rintro f w63 ⟨F6, hs64, le65, e67, e68, e69, e70, e71⟩
       refine thenQ_nrm ?_
       refine CWP.cond (t := j66) (by kernel_rfl) e71 (fun hb139 => ?_) (fun hb139 => ?_)
       ·have h140 := cond_t h73 hb139
        refine Sq (Rg [0, 1, 2, 3, 4] ?_)
        refine V 74 3 (mv 5 (vi s15) e69) ?_
        refine V 75 3 (mv 6 (vi s38) e70) ?_
        refine V 2 3 (ma 74 (vi s15)) ?_
        refine V 3 3 (ma 75 (vi s38)) ?_
        refine V 4 23 (mc (vi 0) (vi 0)) ?_
        refine Nt ?_
        refine CWP.ret (by kernel_rfl) ?_
        refine blockQ_ret ?_
        refine thenQ_ret ?_
        refine thenQ_ret ?_
        refine blockQ_ret ?_
        have hret := iter_ret h140 hnx58
        subst hret
        refine .inr ?_
        refine blockQ_ret ?_
        refine thenQ_ret ?_
        refine thenQ_ret ?_
        refine blockQ_ret ?_
        have hret := iter_ret h37 hnx32
        subst hret
        refine .inr ?_
        refine thenQ_ret ?_
        have hfin := some_inj h14
        subst hfin
        exact ⟨e67, (.tuple #[(vi s15), (vi s38), (vi 0)]), res_of (l := [.tmp 2, .tmp 3, .tmp 4]) (by kernel_rfl) (vs := [(vi s15), (vi s38), (vi 0)]) ⟨rfl, ⟨rfl, ⟨rfl, trivial⟩⟩⟩, (.tuple #[(vi s15), (vi s38), (vi 0)]), F6, rfl, hs64.clear, rfl⟩
       ·have h141 := cond_f h73 hb139
        refine Sc ?_
        refine blockQ_nrm ?_
        refine thenQ_nrm ?_
        refine Rg [0, 1, 2] ?_
        refine V 22 3 (mv 6 (vi s38) e70) ?_
        refine V 23 3 (run_add (t := 3) (t' := 3) (x := (.tmp 22)) (y := (.const (vi 1))) (k := .i64) (a := s38) (b := 1) rfl rfl) ?_
        refine V 6 3 (ma 23 (vi (W64 (s38 + 1)))) ?_
        refine RWP.nil ?_
        have hn142 := iter_next h141 hnx58
        exact ⟨m55, Nat.lt_succ_self _, (W64 (s38 + 1)), F6, hn142, hs64, (le41.trans le65), e67, e68, e69, rfl⟩
     ·have h143 := cond_f hb57 hb59
      refine CWP.exit (by kernel_rfl) ?_
      refine thenQ_ex ?_
      refine thenQ_ex ?_
      refine blockQ_hit rfl ?_
      have ho144 := iter_done h143 hnx58
      exact .inl ⟨rfl, s38, F4, ho144, hs40, le41, e42, e43, e44⟩
    ·rintro f w47 ⟨s46, F5, rfl, hs48, le49, e50, e51, e52⟩
     have h145 := k_done h37
     refine blockQ_nrm ?_
     refine thenQ_nrm ?_
     refine Rg [0, 1, 2] ?_
     refine V 14 3 (mv 5 (vi s15) e52) ?_
     refine V 15 3 (run_add (t := 3) (t' := 3) (x := (.tmp 14)) (y := (.const (vi 1))) (k := .i64) (a := s15) (b := 1) rfl rfl) ?_
     refine V 5 3 (ma 15 (vi (W64 (s15 + 1)))) ?_
     refine RWP.nil ?_
     have hn146 := iter_next h145 hnx32
     exact ⟨m29, Nat.lt_succ_self _, (W64 (s15 + 1)), F5, hn146, hs48, (le18.trans le49), e50, e51, rfl⟩
   ·have h147 := cond_f hb31 hb33
    refine CWP.exit (by kernel_rfl) ?_
    refine thenQ_ex ?_
    refine thenQ_ex ?_
    refine blockQ_hit rfl ?_
    have ho148 := iter_done h147 hnx32
    exact .inl ⟨rfl, s15, F2, ho148, hs17, le18, e19⟩
  ·rintro f w23 ⟨s22, F3, rfl, hs24, le25, e26⟩
   have h149 := k_done h14
   refine thenQ_nrm ?_
   refine Sq (Rg [0, 1, 2] ?_)
   refine V 2 3 (mc (vi 0) (vi 0)) ?_
   refine V 3 3 (mc (vi 0) (vi 0)) ?_
   refine V 4 23 (mc (vi 3) (vi 3)) ?_
   refine Nt ?_
   refine CWP.ret (by kernel_rfl) ?_
   have hfin := some_inj h149
   subst hfin
   exact ⟨e26, (.tuple #[(vi 0), (vi 0), (vi 3)]), res_of (l := [.tmp 2, .tmp 3, .tmp 4]) (by kernel_rfl) (vs := [(vi 0), (vi 0), (vi 3)]) ⟨rfl, ⟨rfl, ⟨rfl, trivial⟩⟩⟩, (.tuple #[(vi 0), (vi 0), (vi 3)]), F3, rfl, hs24.clear, rfl⟩
end Go.Proofs.YtlddakefmfcblaaGreatDoor
namespace Go.Proofs.YtlddakefmfcblaaGreatDoor
open Go.Proofs
def air_ValidTable (N : Nat) (x0 : (List Prefix)) : Option Bool :=
 ((air_Overlap N x0).bind fun r1 => some (r1.2.2 == 3))
theorem co_air_ValidTable : CallOk Tryz.prog 56 := fun _ _ => by kernel_rfl
set_option maxHeartbeats 4000000 in
set_option maxRecDepth 100000 in
theorem c_air_ValidTable (N : Nat) (w0 : World) (F0 : Mem) (hF : ∀ b o, F0 b = some o → w0.heap[b]? = some o) (x0 : (List Prefix)) (a0_0 : Option Addr) (n0_0 : Nat) (hb0_0 : LC x0.length n0_0) (hs0_0 : SlA tPrefix F0 a0_0 x0) (r : Bool) (h : air_ValidTable N x0 = some r) :
  Calls Tryz.prog 56 ([(.slice a0_0 x0.length n0_0)] : List Value).toArray w0 (FRet w0 F0 fun F' v => v = (.bool r)) := by
 have hs0 := HS.start hF
 refine calls_of (n := 14) (c := bodyOf Tryz.f56) Tryz.func56 (by kernel_rfl) (by kernel_rfl) (by kernel_rfl) ?_
 refine Sq (Rg [0] ?_)
 refine V 2 4 (mc (.bool false) (.bool false)) ?_
 refine Nss (Rg [0, 1, 2, 3, 4, 5, 6, 7, 8] ?_)
 refine V 7 61 (mv 0 (.slice a0_0 x0.length n0_0)) ?_
 obtain ⟨r1, hr2, h3⟩ := bind_some h
 refine Cl 8 35 50 #[(.tmp 7)] #[61] co_air_Overlap hs0 (c_air_Overlap N w0 F0 hs0.pers (x0) a0_0 n0_0 hb0_0 hs0_0 _ hr2) ?_
 intro v4 F1 w5 hs6 le7 hp8
 obtain rfl := hp8
 refine V 6 35 (mv 8 (.tuple #[(vi r1.1), (vi r1.2.1), (vi r1.2.2)])) ?_
 refine V 9 3 (ex 6 0 (vi r1.1) (vs := #[(vi r1.1), (vi r1.2.1), (vi r1.2.2)])) ?_
 refine V 10 3 (ex 6 1 (vi r1.2.1) (vs := #[(vi r1.1), (vi r1.2.1), (vi r1.2.2)])) ?_
 refine V 11 23 (ex 6 2 (vi r1.2.2) (vs := #[(vi r1.1), (vi r1.2.1), (vi r1.2.2)])) ?_
 refine V 3 3 (ma 9 (vi r1.1)) ?_
 refine V 4 3 (ma 10 (vi r1.2.1)) ?_
 refine V 5 23 (ma 11 (vi r1.2.2)) ?_
 refine Nss (Rg [0, 1, 2] ?_)
 refine V 12 23 (mv 5 (vi r1.2.2)) ?_
 refine V 13 4 (run_eql (t := 23) (t' := 23) (x := (.tmp 12)) (y := (.const (vi 3))) (k := .i64) (a := r1.2.2) (b := 3) rfl rfl) ?_
 refine V 2 4 (ma 13 (.bool (r1.2.2 == 3))) ?_
 refine Nt ?_
 refine CWP.ret (by kernel_rfl) ?_
 have hfin := some_inj h3
 subst hfin
 exact ⟨rfl, (.bool (r1.2.2 == 3)), res_of (l := [.tmp 2]) (by kernel_rfl) (vs := [(.bool (r1.2.2 == 3))]) ⟨rfl, trivial⟩, (.bool (r1.2.2 == 3)), F1, rfl, hs6.clear, rfl⟩
end Go.Proofs.YtlddakefmfcblaaGreatDoor
namespace Go.Proofs.YtlddakefmfcblaaGreatDoor
open Go.Proofs
def air_wrong (N : Nat) (x0 : (List Prefix)) (x1 : (List UInt8)) (x2 : Int) : Option Int :=
 ((air_ValidTable N x0).bind fun r1 => (bif (!r1) then some 12 else ((air_ValidCall N x1).bind fun r12 => (bif (!r12) then some 10 else ((air_within N x2 0 99999).bind fun r23 => (bif (!r23) then some 1 else some 0))))))
theorem co_air_wrong : CallOk Tryz.prog 96 := fun _ _ => by kernel_rfl
set_option maxHeartbeats 4000000 in
set_option maxRecDepth 100000 in
theorem c_air_wrong (N : Nat) (w0 : World) (F0 : Mem) (hF : ∀ b o, F0 b = some o → w0.heap[b]? = some o) (hG : Glob F0) (x0 : (List Prefix)) (a0_0 : Option Addr) (n0_0 : Nat) (hb0_0 : LC x0.length n0_0) (hs0_0 : SlA tPrefix F0 a0_0 x0) (x1 : (List UInt8)) (x2 : Int) (r : Int) (h : air_wrong N x0 x1 x2 = some r) :
  Calls Tryz.prog 96 ([(.slice a0_0 x0.length n0_0), (.string ⟨(x1).toArray⟩), (vi x2)] : List Value).toArray w0 (FRet w0 F0 fun F' v => v = (vi r)) := by
 have hs0 := HS.start hF
 refine calls_of (n := 19) (c := bodyOf Tryz.f96) Tryz.func96 (by kernel_rfl) (by kernel_rfl) (by kernel_rfl) ?_
 refine Sq (Rg [0] ?_)
 refine V 6 23 (mc (vi 0) (vi 0)) ?_
 refine Nss ?_
 refine Bk ?_
 refine Sq (Rg [0, 1, 2, 3] ?_)
 refine V 8 61 (mv 0 (.slice a0_0 x0.length n0_0)) ?_
 obtain ⟨r1, hr2, h3⟩ := bind_some h
 refine Cl 9 4 56 #[(.tmp 8)] #[61] co_air_ValidTable hs0 (c_air_ValidTable N w0 F0 hs0.pers (x0) a0_0 n0_0 hb0_0 hs0_0 _ hr2) ?_
 intro v4 F1 w5 hs6 le7 hp8
 obtain rfl := hp8
 refine V 10 4 (run_not (t := 4) (x := (.tmp 9)) (a := r1) rfl) ?_
 refine V 7 4 (ma 10 (.bool (!r1))) ?_
 refine Nt ?_
 refine CWP.cond (t := (!r1)) (by kernel_rfl) rfl (fun hb9 => ?_) (fun hb9 => ?_)
 ·have h10 := cond_t h3 hb9
  refine Sq (Rg [0] ?_)
  refine V 6 23 (mc (vi 12) (vi 12)) ?_
  refine Nt ?_
  refine CWP.ret (by kernel_rfl) ?_
  refine blockQ_ret ?_
  refine thenQ_ret ?_
  have hfin := some_inj h10
  subst hfin
  exact ⟨rfl, (vi 12), res_of (l := [.tmp 6]) (by kernel_rfl) (vs := [(vi 12)]) ⟨rfl, trivial⟩, (vi 12), F1, rfl, hs6.clear, rfl⟩
 ·have h11 := cond_f h3 hb9
  refine Sq (Rg [0, 1, 2, 3] ?_)
  refine V 12 9 (mv 1 (.string ⟨(x1).toArray⟩)) ?_
  obtain ⟨r12, hr13, h14⟩ := bind_some h11
  refine Cl 13 4 37 #[(.tmp 12)] #[9] co_air_ValidCall hs6 (c_air_ValidCall N w5 F1 hs6.pers (hG.mono le7) (x1) _ hr13) ?_
  intro v15 F2 w16 hs17 le18 hp19
  obtain rfl := hp19
  refine V 14 4 (run_not (t := 4) (x := (.tmp 13)) (a := r12) rfl) ?_
  refine V 11 4 (ma 14 (.bool (!r12))) ?_
  refine Nt ?_
  refine CWP.cond (t := (!r12)) (by kernel_rfl) rfl (fun hb20 => ?_) (fun hb20 => ?_)
  ·have h21 := cond_t h14 hb20
   refine Sq (Rg [0] ?_)
   refine V 6 23 (mc (vi 10) (vi 10)) ?_
   refine Nt ?_
   refine CWP.ret (by kernel_rfl) ?_
   refine blockQ_ret ?_
   refine thenQ_ret ?_
   have hfin := some_inj h21
   subst hfin
   exact ⟨rfl, (vi 10), res_of (l := [.tmp 6]) (by kernel_rfl) (vs := [(vi 10)]) ⟨rfl, trivial⟩, (vi 10), F2, rfl, hs17.clear, rfl⟩
  ·have h22 := cond_f h14 hb20
   refine Sq (Rg [0, 1, 2, 3] ?_)
   refine V 16 3 (mv 2 (vi x2)) ?_
   obtain ⟨r23, hr24, h25⟩ := bind_some h22
   refine Cl 17 4 73 #[(.tmp 16), (.const (vi 0)), (.const (vi 99999))] #[3, 3, 3] co_air_within hs17 (c_air_within N w16 F2 hs17.pers (x2) (0) (99999) _ hr24) ?_
   intro v26 F3 w27 hs28 le29 hp30
   obtain rfl := hp30
   refine V 18 4 (run_not (t := 4) (x := (.tmp 17)) (a := r23) rfl) ?_
   refine V 15 4 (ma 18 (.bool (!r23))) ?_
   refine Nt ?_
   refine CWP.cond (t := (!r23)) (by kernel_rfl) rfl (fun hb31 => ?_) (fun hb31 => ?_)
   ·have h32 := cond_t h25 hb31
    refine Sq (Rg [0] ?_)
    refine V 6 23 (mc (vi 1) (vi 1)) ?_
    refine Nt ?_
    refine CWP.ret (by kernel_rfl) ?_
    refine blockQ_ret ?_
    refine thenQ_ret ?_
    have hfin := some_inj h32
    subst hfin
    exact ⟨rfl, (vi 1), res_of (l := [.tmp 6]) (by kernel_rfl) (vs := [(vi 1)]) ⟨rfl, trivial⟩, (vi 1), F3, rfl, hs28.clear, rfl⟩
   ·have h33 := cond_f h25 hb31
    refine Sc ?_
    refine blockQ_nrm ?_
    refine thenQ_nrm ?_
    refine Sq (Rg [0] ?_)
    refine V 6 23 (mc (vi 0) (vi 0)) ?_
    refine Nt ?_
    refine CWP.ret (by kernel_rfl) ?_
    have hfin := some_inj h33
    subst hfin
    exact ⟨rfl, (vi 0), res_of (l := [.tmp 6]) (by kernel_rfl) (vs := [(vi 0)]) ⟨rfl, trivial⟩, (vi 0), F3, rfl, hs28.clear, rfl⟩
end Go.Proofs.YtlddakefmfcblaaGreatDoor
namespace Go.Proofs.YtlddakefmfcblaaGreatDoor
open Go.Proofs
def air_table_row_1_L0 (N : Nat) (x0 : air_key) (z0 : (List (air_key × (List Int)))) (z1 : Int) (z2 : (List Prefix)) : Int → Option (Flow Int Int) := fun s12 =>
 (bif (decide (s12 < ((mgetD z0 x0 ([] : List Int)).length : Int))) then ((idx (mgetD z0 x0 ([] : List Int)) s12).bind fun x35 => (((idx z2 x35).bind fun x65 => ((idx z2 x35).bind fun x79 => ((air_within N z1 x65.From x79.To).bind fun r85 => some r85))).bind fun j54 => (bif j54 then some (.ret x35) else some (.next (W64 (s12 + 1)))))) else some (.done s12))
def air_table_row_1 (N : Nat) (x0 : air_key) (z0 : (List (air_key × (List Int)))) (z1 : Int) (z2 : (List Prefix)) : Option Int :=
 ((iter (air_table_row_1_L0 N x0 z0 z1 z2) N 0).bind fun o => o.k (fun r => some r) (fun s22 => some (-1)))
theorem co_air_table_row_1 : CallOk Tryz.prog 126 := fun _ _ => by kernel_rfl
set_option maxHeartbeats 4000000 in
set_option maxRecDepth 100000 in
theorem c_air_table_row_1 (N : Nat) (w0 : World) (F0 : Mem) (hF : ∀ b o, F0 b = some o → w0.heap[b]? = some o) (x0 : air_key) (bz0 : Nat) (z0 : (List (air_key × (List Int)))) (oz0_0 : Option Nat) (hmz0_0 : MpA tair_key (tSl tInt) F0 oz0_0 z0) (hz0 : F0 bz0 = some (oc #[(.map oz0_0)] 116)) (bz1 : Nat) (z1 : Int) (hz1 : F0 bz1 = some (oc #[(vi z1)] 3)) (bz2 : Nat) (z2 : (List Prefix)) (az2_0 : Option Addr) (nz2_0 : Nat) (hbz2_0 : LC z2.length nz2_0) (hsz2_0 : SlA tPrefix F0 az2_0 z2) (hz2 : F0 bz2 = some (oc #[(.slice az2_0 z2.length nz2_0)] 61)) (r : Int) (h : air_table_row_1 N x0 z0 z1 z2 = some r) :
  Calls Tryz.prog 126 ([(.agg #[(.string ⟨(x0.text_).toArray⟩), (.bool x0.whole_)]), (.pointer (some ⟨bz0, 0, none⟩)), (.pointer (some ⟨bz1, 0, none⟩)), (.pointer (some ⟨bz2, 0, none⟩))] : List Value).toArray w0 (FRet w0 F0 fun F' v => v = (vi r)) := by
 have hs0 := HS.start hF
 refine calls_of (n := 30) (c := bodyOf Tryz.f126) Tryz.func126 (by kernel_rfl) (by kernel_rfl) (by kernel_rfl) ?_
 refine Sq (Rg [0, 1] ?_)
 refine Bx 4 0 0 119 #[(.string ⟨(x0.text_).toArray⟩), (.bool x0.whole_)] hs0 (fun b1 w2 (hs3 : HS w0 F0 w2 F0 [(sb b1 #[(.string ⟨(x0.text_).toArray⟩), (.bool x0.whole_)] 119)]) => ?_)
 refine V 5 3 (mc (vi 0) (vi 0)) ?_
 refine Nss ?_
 refine Sq (Rg [0, 1, 2, 3, 4] ?_)
 refine V 8 116 (ld 116 1 bz0 0 false 1 (.map oz0_0) (hs3.pers _ _ hz0)) ?_
 refine V 9 119 (ld 119 4 b1 0 true 2 (.agg #[(.string ⟨(x0.text_).toArray⟩), (.bool x0.whole_)]) (hs3.ownAt (k := 0) rfl)) ?_
 refine RWP.look1 kl119 (dst := (some 10))  (g := none) (by kernel_rfl) rfl (ty := 77) (mt := 116) (k := 119) (vt := 77) (m := (.tmp 8)) (x := (.tmp 9)) (kv := (.agg #[(.string ⟨(x0.text_).toArray⟩), (.bool x0.whole_)])) (kx := x0) (z := (.slice none ([] : List Int).length 0)) (zx := ([] : List Int)) (K := tair_key) (T := (tSl tInt)) rfl rfl ⟨_, rfl, rfl⟩ (by kernel_rfl) (by kernel_rfl) ⟨_, ⟨none, 0, rfl, LC.nil, (.inl rfl)⟩, rfl⟩ (MpA.mpw hs3.pers hmz0_0) (fun v4 hv5 => ?_)
 obtain ⟨ay6_0, ny6_0, rfl, hby6_0, hsy6_0⟩ : ∃ (ay6_0 : Option Addr) (ny6_0 : Nat), v4 = (.slice ay6_0 (mgetD z0 x0 ([] : List Int)).length ny6_0) ∧ LC (mgetD z0 x0 ([] : List Int)).length ny6_0 ∧ SlA tInt F0 ay6_0 (mgetD z0 x0 ([] : List Int)) := by obtain ⟨_, ⟨ay6_0, ny6_0, rfl, hby6_0, hsy6_0⟩, rfl⟩ := hv5; exact ⟨ay6_0, ny6_0, rfl, hby6_0, hsy6_0⟩
 refine V 11 3 (ln 10 77 ay6_0 (mgetD z0 x0 ([] : List Int)).length ny6_0 3 1 8) ?_
 refine V 12 3 (run_move (x := (.const (vi 0))) (v := (vi 0)) rfl) ?_
 refine Nt ?_
 have hs8 : HS w0 F0 w2 F0 [] := hs3.drop 0
 obtain ⟨o9, ho10, h11⟩ := bind_some h
 refine CWP.cut (fun f w => ∃ (s22 : Int) (F2 : Mem), o9 = .done s22 ∧ HS w0 F0 w F2 [] ∧ Mem.le F0 F2 ∧ f.d = []) ?_ ?_
 ·refine Bk ?_
  refine CWP.loop (by kernel_rfl) (fun m f w => ∃ (s12 : Int) (F1 : Mem), iter (air_table_row_1_L0 N x0 z0 z1 z2) m s12 = some o9 ∧ HS w0 F0 w F1 [] ∧ Mem.le F0 F1 ∧ f.d = [] ∧ f 2 = (.pointer (some ⟨bz1, 0, none⟩)) ∧ f 3 = (.pointer (some ⟨bz2, 0, none⟩)) ∧ f 10 = (.slice ay6_0 (mgetD z0 x0 ([] : List Int)).length ny6_0) ∧ f 11 = (vi ((mgetD z0 x0 ([] : List Int)).length : Int)) ∧ f 12 = (vi s12)) N ⟨0, F0, ho10, hs8, (Mem.le.refl _), rfl, rfl, rfl, rfl, rfl, rfl⟩ ?_
  rintro m27 f w13 ⟨s12, F1, hit28, hs14, le15, e16, e17, e18, e19, e20, e21⟩
  obtain ⟨m29, fl30, rfl, hb31, hnx32⟩ := iter_step hit28
  refine Sq (Rg [0] ?_)
  refine V 13 0 (run_lss (t := 3) (t' := 3) (x := (.tmp 12)) (y := (.tmp 11)) (k := .i64) (a := s12) (b := ((mgetD z0 x0 ([] : List Int)).length : Int)) e21 e20) ?_
  refine Nss ?_
  refine CWP.cond (t := (decide (s12 < ((mgetD z0 x0 ([] : List Int)).length : Int)))) (by kernel_rfl) rfl (fun hb33 => ?_) (fun hb33 => ?_)
  ·have h34 := cond_t hb31 hb33
   refine Sc ?_
   refine thenQ_nrm ?_
   refine Sq ?_
   refine Bk ?_
   refine Sq (Rg [0, 1, 2] ?_)
   obtain ⟨x35, hx36, h38⟩ := bind_some h34
   obtain ⟨hi37, hx36'⟩ := idx_spec hx36
   obtain ⟨b39, o40, C41, E42, fz43, rfl, hF45, hE46⟩ := SlA.open (SlA.mono hsy6_0 le15) hx36'
   have hc48 := hE46 _ _ hx36'
   refine V 14 0 (run_index (t := 77) (x := (.tmp 10)) (y := (.tmp 12)) (b := b39) (o := o40) (E := 3) (s := 1) (by_ := 8) e19 e21 (by kernel_rfl) hi37) ?_
   refine V 15 3 (lx 3 14 0 1 false 1 (vi x35) (hs14.pers _ _ hF45) hc48) ?_
   refine V 7 3 (ma 15 (vi x35)) ?_
   refine Nss ?_
   obtain ⟨j54, hj63, h64⟩ := bind_some h38
   refine CWP.regionD (by kernel_rfl) (by kernel_rfl) (by kernel_rfl) (by kernel_rfl) (z := 12) (F := F1) (Lc := []) (Lz := []) (l := [false, false, false, false, false, false, false, false, false, false, false, false]) (fuel := 12) (by kernel_rfl) (by kernel_rfl) hs14 (by simp) (by simp) (fun f w => ∃ (F3 : Mem), HS w0 F0 w F3 [] ∧ Mem.le F1 F3 ∧ f.d = [] ∧ f 2 = (.pointer (some ⟨bz1, 0, none⟩)) ∧ f 3 = (.pointer (some ⟨bz2, 0, none⟩)) ∧ f 7 = (vi x35) ∧ f 10 = (.slice (some ⟨b39, o40, none⟩) (mgetD z0 x0 ([] : List Int)).length ny6_0) ∧ f 11 = (vi ((mgetD z0 x0 ([] : List Int)).length : Int)) ∧ f 12 = (vi s12) ∧ f 27 = (.bool j54)) (fun wd49 hw50 => ?_) ?_
   ·refine Dt 0 16 3 _ (fun _ hq => ld 3 2 bz1 0 false 1 (vi z1) (hq.1.1 _ _ (le15 _ _ hz1)) e17) ?_
    refine Dt 1 17 61 _ (fun _ hq => ld 61 3 bz2 0 false 1 (.slice az2_0 z2.length nz2_0) (hq.1.1 _ _ (le15 _ _ hz2)) e18) ?_
    refine Dt 2 18 3 _ (fun _ hq => mv 7 (vi x35)) ?_
    obtain ⟨x65, hx66, h68⟩ := bind_some hj63
    obtain ⟨hi67, hx66'⟩ := idx_spec hx66
    obtain ⟨b69, o70, C71, E72, fz73, rfl, hF75, hE76⟩ := SlA.open (SlA.mono hsz2_0 le15) hx66'
    have hc78 := hE76 _ _ hx66'
    refine Dt 3 19 0 (.pointer (some ⟨b69, (o70 + (x35 : Int).toNat * 7), none⟩)) (fun _ hq => ix 61 17 18 b69 o70 71 7 64 hi67) ?_
    refine Dt 4 20 0 (.pointer (some ⟨b69, ((o70 + (x35 : Int).toNat * 7) + 4), none⟩)) (fun _ hq => fa 71 19 4 4 1 b69 (o70 + (x35 : Int).toNat * 7) ((o70 + (x35 : Int).toNat * 7) + 4)) ?_
    refine Dt 5 21 3 _ (fun _ hq => lx 3 20 4 7 false 1 (vi x65.From) (hq.1.1 _ _ hF75) hc78) ?_
    refine Dt 6 22 61 _ (fun _ hq => ld 61 3 bz2 0 false 1 (.slice (some ⟨b69, o70, none⟩) z2.length nz2_0) (hq.1.1 _ _ (le15 _ _ hz2)) e18) ?_
    refine Dt 7 23 3 _ (fun _ hq => mv 7 (vi x35)) ?_
    obtain ⟨x79, hx80, h82⟩ := bind_some h68
    obtain ⟨hi81, hx80'⟩ := idx_spec hx80
    have hc84 := hE76 _ _ hx80'
    refine Dt 8 24 0 (.pointer (some ⟨b69, (o70 + (x35 : Int).toNat * 7), none⟩)) (fun _ hq => ix 61 22 23 b69 o70 71 7 64 hi81) ?_
    refine Dt 9 25 0 (.pointer (some ⟨b69, ((o70 + (x35 : Int).toNat * 7) + 5), none⟩)) (fun _ hq => fa 71 24 5 5 1 b69 (o70 + (x35 : Int).toNat * 7) ((o70 + (x35 : Int).toNat * 7) + 5)) ?_
    refine Dt 10 26 3 _ (fun _ hq => lx 3 25 5 7 false 1 (vi x79.To) (hq.1.1 _ _ hF75) hc84) ?_
    refine DWP.one (i := 11) (by kernel_rfl) ?_
    obtain ⟨r85, hr86, h87⟩ := bind_some h82
    refine DStep.call (l' := [true, true, true, true, true, true, true, true, true, true, true, true]) (zd := true) (by kernel_rfl) (by kernel_rfl) (by kernel_rfl) (dst := (some 27)) (ty := 4) (g := none) (by kernel_rfl) rfl (f0 := (.func 73)) (aos := #[(.tmp 16), (.tmp 21), (.tmp 26)]) (ats := #[3, 3, 3]) (fid := 73) (first := #[]) (cap := #[]) (args := [(vi z1), (vi x65.From), (vi x79.To)]) rfl co_air_within (rfl) hw50 (c_air_within N wd49 F1 hw50.pers (z1) (x65.From) (x79.To) _ hr86) ?_
    intro v88 F4 w89 hs90 le91 hp92
    obtain rfl := hp92
    obtain rfl := some_inj h87
    exact DWP.done (by kernel_rfl) ⟨F4, hs90, le91, e16, e17, e18, rfl, e19, e20, e21, rfl⟩
   ·rintro f w51 ⟨F3, hs52, le53, e55, e56, e57, e58, e59, e60, e61, e62⟩
    refine thenQ_nrm ?_
    refine CWP.cond (t := j54) (by kernel_rfl) e62 (fun hb93 => ?_) (fun hb93 => ?_)
    ·have h94 := cond_t h64 hb93
     refine Sq (Rg [0, 1] ?_)
     refine V 28 3 (mv 7 (vi x35) e58) ?_
     refine V 5 3 (ma 28 (vi x35)) ?_
     refine Nt ?_
     refine CWP.ret (by kernel_rfl) ?_
     refine blockQ_ret ?_
     refine thenQ_ret ?_
     refine thenQ_ret ?_
     refine blockQ_ret ?_
     have hret := iter_ret h94 hnx32
     subst hret
     refine .inr ?_
     refine thenQ_ret ?_
     have hfin := some_inj h11
     subst hfin
     exact ⟨e55, (vi x35), res_of (l := [.tmp 5]) (by kernel_rfl) (vs := [(vi x35)]) ⟨rfl, trivial⟩, (vi x35), F3, rfl, hs52.clear, rfl⟩
    ·have h95 := cond_f h64 hb93
     refine Sc ?_
     refine blockQ_nrm ?_
     refine thenQ_nrm ?_
     refine Rg [0, 1] ?_
     refine V 29 3 (run_add (t := 3) (t' := 3) (x := (.tmp 12)) (y := (.const (vi 1))) (k := .i64) (a := s12) (b := 1) e61 rfl) ?_
     refine V 12 3 (mv 29 (vi (W64 (s12 + 1)))) ?_
     refine RWP.nil ?_
     have hn96 := iter_next h95 hnx32
     exact ⟨m29, Nat.lt_succ_self _, (W64 (s12 + 1)), F3, hn96, hs52, (le15.trans le53), e55, e56, e57, e59, e60, rfl⟩
  ·have h97 := cond_f hb31 hb33
   refine CWP.exit (by kernel_rfl) ?_
   refine thenQ_ex ?_
   refine thenQ_ex ?_
   refine blockQ_hit rfl ?_
   have ho98 := iter_done h97 hnx32
   exact .inl ⟨rfl, s12, F1, ho98, hs14, le15, e16⟩
 ·rintro f w23 ⟨s22, F2, rfl, hs24, le25, e26⟩
  have h99 := k_done h11
  refine thenQ_nrm ?_
  refine Sq (Rg [0] ?_)
  refine V 5 3 (mc (vi (-1)) (vi (-1))) ?_
  refine Nt ?_
  refine CWP.ret (by kernel_rfl) ?_
  have hfin := some_inj h99
  subst hfin
  exact ⟨e26, (vi (-1)), res_of (l := [.tmp 5]) (by kernel_rfl) (vs := [(vi (-1))]) ⟨rfl, trivial⟩, (vi (-1)), F2, rfl, hs24.clear, rfl⟩
end Go.Proofs.YtlddakefmfcblaaGreatDoor
namespace Go.Proofs.YtlddakefmfcblaaGreatDoor
open Go.Proofs
def cmp_Or_string_L0 (N : Nat) (x0 : (List (List UInt8))) : Int → Option (Flow (List UInt8) Int) := fun s4 =>
 (bif (decide (s4 < (x0.length : Int))) then ((idx x0 s4).bind fun x27 => (bif (x27 != ([] : List UInt8)) then some (.ret x27) else some (.next (W64 (s4 + 1))))) else some (.done s4))
def cmp_Or_string (N : Nat) (x0 : (List (List UInt8))) : Option (List UInt8) :=
 ((iter (cmp_Or_string_L0 N x0) N 0).bind fun o => o.k (fun r => some r) (fun s13 => some ([] : List UInt8)))
theorem co_cmp_Or_string : CallOk Tryz.prog 85 := fun _ _ => by kernel_rfl
set_option maxHeartbeats 4000000 in
set_option maxRecDepth 100000 in
theorem c_cmp_Or_string (N : Nat) (w0 : World) (F0 : Mem) (hF : ∀ b o, F0 b = some o → w0.heap[b]? = some o) (x0 : (List (List UInt8))) (a0_0 : Option Addr) (n0_0 : Nat) (hb0_0 : LC x0.length n0_0) (hs0_0 : SlA tStr F0 a0_0 x0) (r : (List UInt8)) (h : cmp_Or_string N x0 = some r) :
  Calls Tryz.prog 85 ([(.slice a0_0 x0.length n0_0)] : List Value).toArray w0 (FRet w0 F0 fun F' v => v = (.string ⟨(r).toArray⟩)) := by
 have hs0 := HS.start hF
 refine calls_of (n := 18) (c := bodyOf Tryz.f85) Tryz.func85 (by kernel_rfl) (by kernel_rfl) (by kernel_rfl) ?_
 refine Sq (Rg [0] ?_)
 refine V 2 9 (mc (.string ⟨([] : List UInt8).toArray⟩) (.string ⟨(([] : List UInt8)).toArray⟩)) ?_
 refine Nss (Rg [0] ?_)
 refine V 3 9 (mc (.string ⟨([] : List UInt8).toArray⟩) (.string ⟨(([] : List UInt8)).toArray⟩)) ?_
 refine Nss ?_
 refine Sq (Rg [0, 1, 2] ?_)
 refine V 6 80 (mv 0 (.slice a0_0 x0.length n0_0)) ?_
 refine V 7 3 (ln 6 80 a0_0 x0.length n0_0 9 1 16) ?_
 refine V 8 3 (run_move (x := (.const (vi 0))) (v := (vi 0)) rfl) ?_
 refine Nt ?_
 obtain ⟨o1, ho2, h3⟩ := bind_some h
 refine CWP.cut (fun f w => ∃ (s13 : Int) (F2 : Mem), o1 = .done s13 ∧ HS w0 F0 w F2 [] ∧ Mem.le F0 F2 ∧ f.d = [] ∧ f 3 = (.string ⟨(([] : List UInt8)).toArray⟩)) ?_ ?_
 ·refine Bk ?_
  refine CWP.loop (by kernel_rfl) (fun m f w => ∃ (s4 : Int) (F1 : Mem), iter (cmp_Or_string_L0 N x0) m s4 = some o1 ∧ HS w0 F0 w F1 [] ∧ Mem.le F0 F1 ∧ f.d = [] ∧ f 3 = (.string ⟨(([] : List UInt8)).toArray⟩) ∧ f 6 = (.slice a0_0 x0.length n0_0) ∧ f 7 = (vi (x0.length : Int)) ∧ f 8 = (vi s4)) N ⟨0, F0, ho2, hs0, (Mem.le.refl _), rfl, rfl, rfl, rfl, rfl⟩ ?_
  rintro m19 f w5 ⟨s4, F1, hit20, hs6, le7, e8, e9, e10, e11, e12⟩
  obtain ⟨m21, fl22, rfl, hb23, hnx24⟩ := iter_step hit20
  refine Sq (Rg [0] ?_)
  refine V 9 0 (run_lss (t := 3) (t' := 3) (x := (.tmp 8)) (y := (.tmp 7)) (k := .i64) (a := s4) (b := (x0.length : Int)) e12 e11) ?_
  refine Nss ?_
  refine CWP.cond (t := (decide (s4 < (x0.length : Int)))) (by kernel_rfl) rfl (fun hb25 => ?_) (fun hb25 => ?_)
  ·have h26 := cond_t hb23 hb25
   refine Sc ?_
   refine thenQ_nrm ?_
   refine Sq ?_
   refine Bk ?_
   refine Sq (Rg [0, 1, 2] ?_)
   obtain ⟨x27, hx28, h30⟩ := bind_some h26
   obtain ⟨hi29, hx28'⟩ := idx_spec hx28
   obtain ⟨b31, o32, C33, E34, fz35, rfl, hF37, hE38⟩ := SlA.open (SlA.mono hs0_0 le7) hx28'
   have hc40 := hE38 _ _ hx28'
   refine V 10 0 (run_index (t := 80) (x := (.tmp 6)) (y := (.tmp 8)) (b := b31) (o := o32) (E := 9) (s := 1) (by_ := 16) e10 e12 (by kernel_rfl) hi29) ?_
   refine V 11 9 (lx 9 10 0 1 false 1 (.string ⟨(x27).toArray⟩) (hs6.pers _ _ hF37) hc40) ?_
   refine V 5 9 (ma 11 (.string ⟨(x27).toArray⟩)) ?_
   refine Nss (Rg [0, 1, 2] ?_)
   refine V 12 9 (mv 5 (.string ⟨(x27).toArray⟩)) ?_
   refine V 13 9 (mv 3 (.string ⟨(([] : List UInt8)).toArray⟩) e9) ?_
   refine V 14 4 (run_scmp (t := 9) (t' := 9) (x := (.tmp 12)) (y := (.tmp 13)) (op := .neq) (a := x27) (b := ([] : List UInt8)) (v := (x27 != ([] : List UInt8))) rfl rfl rfl) ?_
   refine Nt ?_
   refine CWP.cond (t := (x27 != ([] : List UInt8))) (by kernel_rfl) rfl (fun hb41 => ?_) (fun hb41 => ?_)
   ·have h42 := cond_t h30 hb41
    refine Sq (Rg [0, 1] ?_)
    refine V 15 9 (mv 5 (.string ⟨(x27).toArray⟩)) ?_
    refine V 2 9 (ma 15 (.string ⟨(x27).toArray⟩)) ?_
    refine Nt ?_
    refine CWP.ret (by kernel_rfl) ?_
    refine blockQ_ret ?_
    refine thenQ_ret ?_
    refine thenQ_ret ?_
    refine blockQ_ret ?_
    have hret := iter_ret h42 hnx24
    subst hret
    refine .inr ?_
    refine thenQ_ret ?_
    have hfin := some_inj h3
    subst hfin
    exact ⟨e8, (.string ⟨(x27).toArray⟩), res_of (l := [.tmp 2]) (by kernel_rfl) (vs := [(.string ⟨(x27).toArray⟩)]) ⟨rfl, trivial⟩, (.string ⟨(x27).toArray⟩), F1, rfl, hs6.clear, rfl⟩
   ·have h43 := cond_f h30 hb41
    refine Sc ?_
    refine blockQ_nrm ?_
    refine thenQ_nrm ?_
    refine Rg [0, 1] ?_
    refine V 16 3 (run_add (t := 3) (t' := 3) (x := (.tmp 8)) (y := (.const (vi 1))) (k := .i64) (a := s4) (b := 1) e12 rfl) ?_
    refine V 8 3 (mv 16 (vi (W64 (s4 + 1)))) ?_
    refine RWP.nil ?_
    have hn44 := iter_next h43 hnx24
    exact ⟨m21, Nat.lt_succ_self _, (W64 (s4 + 1)), F1, hn44, hs6, le7, e8, e9, e10, e11, rfl⟩
  ·have h45 := cond_f hb23 hb25
   refine CWP.exit (by kernel_rfl) ?_
   refine thenQ_ex ?_
   refine thenQ_ex ?_
   refine blockQ_hit rfl ?_
   have ho46 := iter_done h45 hnx24
   exact .inl ⟨rfl, s4, F1, ho46, hs6, le7, e8, e9⟩
 ·rintro f w14 ⟨s13, F2, rfl, hs15, le16, e17, e18⟩
  have h47 := k_done h3
  refine thenQ_nrm ?_
  refine Sq (Rg [0, 1] ?_)
  refine V 17 9 (mv 3 (.string ⟨(([] : List UInt8)).toArray⟩) e18) ?_
  refine V 2 9 (ma 17 (.string ⟨(([] : List UInt8)).toArray⟩)) ?_
  refine Nt ?_
  refine CWP.ret (by kernel_rfl) ?_
  have hfin := some_inj h47
  subst hfin
  exact ⟨e17, (.string ⟨(([] : List UInt8)).toArray⟩), res_of (l := [.tmp 2]) (by kernel_rfl) (vs := [(.string ⟨(([] : List UInt8)).toArray⟩)]) ⟨rfl, trivial⟩, (.string ⟨(([] : List UInt8)).toArray⟩), F2, rfl, hs15.clear, rfl⟩
end Go.Proofs.YtlddakefmfcblaaGreatDoor
namespace Go.Proofs.YtlddakefmfcblaaGreatDoor
open Go.Proofs
def air_table_row_L0 (N : Nat) (x0 : (List (air_key × (List Int)))) (x1 : (List Prefix)) (x2 : (List UInt8)) (x3 : Int) (r19 : Int) (r30 : (Parts × Bool)) (r43 : List UInt8) (r55 : (List UInt8)) : Int → Option (Flow Int Int) := fun s67 =>
 (bif (decide (s67 > 0)) then ((ssub r55 0 s67).bind fun r88 => ((air_table_row_1 N ({ text_ := r88, whole_ := false } : air_key) x0 x3 x1).bind fun r91 => (bif (decide (r91 ≥ 0)) then some (.ret r91) else some (.next (W64 (s67 - 1)))))) else some (.done s67))
def air_table_row (N : Nat) (x0 : (List (air_key × (List Int)))) (x1 : (List Prefix)) (x2 : (List UInt8)) (x3 : Int) : Option Int :=
 ((air_table_row_1 N ({ text_ := x2, whole_ := true } : air_key) x0 x3 x1).bind fun r19 => (bif (decide (r19 ≥ 0)) then some r19 else ((air_split N x2).bind fun r30 => ((sadd r30.1.Prefix r30.1.Suffix).bind fun r43 => ((cmp_Or_string N ([r30.1.Area, r43])).bind fun r55 => ((iter (air_table_row_L0 N x0 x1 x2 x3 r19 r30 r43 r55) N (r55.length : Int)).bind fun o => o.k (fun r => some r) (fun s75 => some (-1))))))))
theorem co_air_table_row : CallOk Tryz.prog 97 := fun _ _ => by kernel_rfl
set_option maxHeartbeats 4000000 in
set_option maxRecDepth 100000 in
theorem c_air_table_row (N : Nat) (w0 : World) (F0 : Mem) (hF : ∀ b o, F0 b = some o → w0.heap[b]? = some o) (hG : Glob F0) (x0 : (List (air_key × (List Int)))) (o0_0 : Option Nat) (hm0_0 : MpA tair_key (tSl tInt) F0 o0_0 x0) (x1 : (List Prefix)) (a1_0 : Option Addr) (n1_0 : Nat) (hb1_0 : LC x1.length n1_0) (hs1_0 : SlA tPrefix F0 a1_0 x1) (x2 : (List UInt8)) (x3 : Int) (r : Int) (h : air_table_row N x0 x1 x2 x3 = some r) :
  Calls Tryz.prog 97 ([(.map o0_0), (.slice a1_0 x1.length n1_0), (.string ⟨(x2).toArray⟩), (vi x3)] : List Value).toArray w0 (FRet w0 F0 fun F' v => v = (vi r)) := by
 have hs0 := HS.start hF
 refine calls_of (n := 53) (c := bodyOf Tryz.f97) Tryz.func97 (by kernel_rfl) (by kernel_rfl) (by kernel_rfl) ?_
 refine Sq (Rg [0, 1, 2, 3] ?_)
 refine Bx 4 0 0 116 #[(.map o0_0)] hs0 (fun b1 w2 (hs3 : HS w0 F0 w2 F0 [(sb b1 #[(.map o0_0)] 116)]) => ?_)
 refine Bx 5 0 1 61 #[(.slice a1_0 x1.length n1_0)] hs3 (fun b4 w5 (hs6 : HS w0 F0 w5 F0 [(sb b4 #[(.slice a1_0 x1.length n1_0)] 61), (sb b1 #[(.map o0_0)] 116)]) => ?_)
 refine Bx 7 0 3 3 #[(vi x3)] hs6 (fun b7 w8 (hs9 : HS w0 F0 w8 F0 [(sb b7 #[(vi x3)] 3), (sb b4 #[(.slice a1_0 x1.length n1_0)] 61), (sb b1 #[(.map o0_0)] 116)]) => ?_)
 refine V 8 3 (mc (vi 0) (vi 0)) ?_
 refine Nss (Rg [0, 1] ?_)
 refine V 16 152 (run_makeFunc (fn := .func 126) (first := #[]) (cap := #[(.tmp 4), (.tmp 7), (.tmp 5)]) (fl := []) (cl := [(.pointer (some ⟨b1, 0, none⟩)), (.pointer (some ⟨b7, 0, none⟩)), (.pointer (some ⟨b4, 0, none⟩))]) rfl (rfl)) ?_
 refine V 9 152 (ma 16 (.func (.func 126) #[] #[(.pointer (some ⟨b1, 0, none⟩)), (.pointer (some ⟨b7, 0, none⟩)), (.pointer (some ⟨b4, 0, none⟩))])) ?_
 refine Nss ?_
 refine Sq (Rg [0, 1, 2, 3, 4] ?_)
 refine V 17 152 (mv 9 (.func (.func 126) #[] #[(.pointer (some ⟨b1, 0, none⟩)), (.pointer (some ⟨b7, 0, none⟩)), (.pointer (some ⟨b4, 0, none⟩))])) ?_
 refine V 18 9 (mv 2 (.string ⟨(x2).toArray⟩)) ?_
 refine V 19 119 (run_build2 (t := 119) (parts := #[(0, (.tmp 18)), (1, (.const (.bool true)))]) (vs := [(0, (.string ⟨(x2).toArray⟩)), (1, (.bool true))]) (rfl) (cs := [(.string ⟨(x2).toArray⟩), (.bool true)]) (by kernel_rfl)) ?_
 obtain ⟨F1, hs10, le11, hF12⟩ : ∃ Fq, HS w0 F0 w8 Fq [(sb b7 #[(vi x3)] 3), (sb b4 #[(.slice a1_0 x1.length n1_0)] 61)] ∧ Mem.le F0 Fq ∧ Fq b1 = some (oc #[(.map o0_0)] 116) := HS.freezeC hs9 (k := 2) rfl
 obtain ⟨F2, hs13, le14, hF15⟩ : ∃ Fq, HS w0 F0 w8 Fq [(sb b4 #[(.slice a1_0 x1.length n1_0)] 61)] ∧ Mem.le F1 Fq ∧ Fq b7 = some (oc #[(vi x3)] 3) := HS.freezeC hs10 (k := 0) rfl
 obtain ⟨F3, hs16, le17, hF18⟩ : ∃ Fq, HS w0 F0 w8 Fq [] ∧ Mem.le F2 Fq ∧ Fq b4 = some (oc #[(.slice a1_0 x1.length n1_0)] 61) := HS.freezeC hs13 (k := 0) rfl
 obtain ⟨r19, hr20, h21⟩ := bind_some h
 refine RWP.call (dst := (some 20)) (ty := 3) (g := none) (by kernel_rfl) rfl (f0 := (.tmp 17)) (aos := #[(.tmp 19)]) (ats := #[119]) (fid := 126) (first := #[]) (cap := #[(.pointer (some ⟨b1, 0, none⟩)), (.pointer (some ⟨b7, 0, none⟩)), (.pointer (some ⟨b4, 0, none⟩))]) (args := [(.agg #[(.string ⟨(x2).toArray⟩), (.bool true)]), (.pointer (some ⟨b1, 0, none⟩)), (.pointer (some ⟨b7, 0, none⟩)), (.pointer (some ⟨b4, 0, none⟩))]) rfl co_air_table_row_1 (rfl) hs16 (c_air_table_row_1 N w8 F3 hs16.pers (({ text_ := x2, whole_ := true } : air_key)) b1 x0 o0_0 (MpA.mono hm0_0 ((le11.trans le14).trans le17)) ((le14.trans le17) _ _ hF12) b7 x3 (le17 _ _ hF15) b4 x1 a1_0 n1_0 hb1_0 (SlA.mono hs1_0 ((le11.trans le14).trans le17)) hF18 _ hr20) ?_
 intro v22 F4 w23 hs24 le25 hp26
 obtain rfl := hp26
 refine V 10 3 (ma 20 (vi r19)) ?_
 refine Nss (Rg [0, 1] ?_)
 refine V 21 3 (mv 10 (vi r19)) ?_
 refine V 22 4 (run_geq (t := 3) (t' := 3) (x := (.tmp 21)) (y := (.const (vi 0))) (k := .i64) (a := r19) (b := 0) rfl rfl) ?_
 refine Nt ?_
 refine CWP.cond (t := (decide (r19 ≥ 0))) (by kernel_rfl) rfl (fun hb27 => ?_) (fun hb27 => ?_)
 ·have h28 := cond_t h21 hb27
  refine Sq (Rg [0, 1] ?_)
  refine V 23 3 (mv 10 (vi r19)) ?_
  refine V 8 3 (ma 23 (vi r19)) ?_
  refine Nt ?_
  refine CWP.ret (by kernel_rfl) ?_
  refine thenQ_ret ?_
  have hfin := some_inj h28
  subst hfin
  exact ⟨rfl, (vi r19), res_of (l := [.tmp 8]) (by kernel_rfl) (vs := [(vi r19)]) ⟨rfl, trivial⟩, (vi r19), F4, rfl, hs24.clear, rfl⟩
 ·have h29 := cond_f h21 hb27
  refine Sc ?_
  refine thenQ_nrm ?_
  refine Sq (Rg [0, 1, 2, 3, 4, 5, 6, 7] ?_)
  refine V 25 9 (mv 2 (.string ⟨(x2).toArray⟩)) ?_
  obtain ⟨r30, hr31, h32⟩ := bind_some h29
  refine Cl 26 86 66 #[(.tmp 25)] #[9] co_air_split hs24 (c_air_split N w23 F4 hs24.pers (hG.mono (((le11.trans le14).trans le17).trans le25)) (x2) _ hr31) ?_
  intro v33 F5 w34 hs35 le36 hp37
  obtain rfl := hp37
  refine V 24 86 (mv 26 (.tuple #[(.agg #[(.string ⟨(r30.1.Area).toArray⟩), (.string ⟨(r30.1.Prefix).toArray⟩), (.string ⟨(r30.1.Suffix).toArray⟩), (.string ⟨(r30.1.Stroke).toArray⟩)]), (.bool r30.2)])) ?_
  refine V 27 27 (ex 24 0 (.agg #[(.string ⟨(r30.1.Area).toArray⟩), (.string ⟨(r30.1.Prefix).toArray⟩), (.string ⟨(r30.1.Suffix).toArray⟩), (.string ⟨(r30.1.Stroke).toArray⟩)]) (vs := #[(.agg #[(.string ⟨(r30.1.Area).toArray⟩), (.string ⟨(r30.1.Prefix).toArray⟩), (.string ⟨(r30.1.Suffix).toArray⟩), (.string ⟨(r30.1.Stroke).toArray⟩)]), (.bool r30.2)])) ?_
  refine V 28 4 (ex 24 1 (.bool r30.2) (vs := #[(.agg #[(.string ⟨(r30.1.Area).toArray⟩), (.string ⟨(r30.1.Prefix).toArray⟩), (.string ⟨(r30.1.Suffix).toArray⟩), (.string ⟨(r30.1.Stroke).toArray⟩)]), (.bool r30.2)])) ?_
  refine Al 11 0 27 #[(.string ⟨(([] : List UInt8)).toArray⟩), (.string ⟨(([] : List UInt8)).toArray⟩), (.string ⟨(([] : List UInt8)).toArray⟩), (.string ⟨(([] : List UInt8)).toArray⟩)] hs35 (fun b38 w39 (hs40 : HS w0 F0 w39 F5 [(sb b38 #[(.string ⟨(([] : List UInt8)).toArray⟩), (.string ⟨(([] : List UInt8)).toArray⟩), (.string ⟨(([] : List UInt8)).toArray⟩), (.string ⟨(([] : List UInt8)).toArray⟩)] 27)]) => ?_)
  refine RWP.store (ty := 0) (g := none) (by kernel_rfl) rfl (x := (.tmp 11)) (y := (.tmp 27)) (t := 27) (gg := true) (s := 4) (v := (.agg #[(.string ⟨(r30.1.Area).toArray⟩), (.string ⟨(r30.1.Prefix).toArray⟩), (.string ⟨(r30.1.Suffix).toArray⟩), (.string ⟨(r30.1.Stroke).toArray⟩)])) (b := b38) (o := 0) (C := #[(.string ⟨(([] : List UInt8)).toArray⟩), (.string ⟨(([] : List UInt8)).toArray⟩), (.string ⟨(([] : List UInt8)).toArray⟩), (.string ⟨(([] : List UInt8)).toArray⟩)]) rfl rfl (by kernel_rfl) hs40 (k := 0) rfl rfl rfl rfl (C' := #[(.string ⟨(r30.1.Area).toArray⟩), (.string ⟨(r30.1.Prefix).toArray⟩), (.string ⟨(r30.1.Suffix).toArray⟩), (.string ⟨(r30.1.Stroke).toArray⟩)]) rfl (fun w41 (hs42 : HS w0 F0 w41 F5 [(sb b38 #[(.string ⟨(r30.1.Area).toArray⟩), (.string ⟨(r30.1.Prefix).toArray⟩), (.string ⟨(r30.1.Suffix).toArray⟩), (.string ⟨(r30.1.Stroke).toArray⟩)] 27)]) => ?_)
  refine V 12 4 (ma 28 (.bool r30.2)) ?_
  refine Nss (Rg [0, 1, 2, 3, 4, 5, 6, 7, 8, 9] ?_)
  refine V 29 0 (fa 27 11 0 0 1 b38 0 0) ?_
  refine V 30 9 (ld 9 29 b38 0 false 1 (.string ⟨(r30.1.Area).toArray⟩) (hs42.ownAt (k := 0) rfl)) ?_
  refine V 31 0 (fa 27 11 1 1 1 b38 0 1) ?_
  refine V 32 9 (ld 9 31 b38 1 false 1 (.string ⟨(r30.1.Prefix).toArray⟩) (hs42.ownAt (k := 0) rfl)) ?_
  refine V 33 0 (fa 27 11 2 2 1 b38 0 2) ?_
  refine V 34 9 (ld 9 33 b38 2 false 1 (.string ⟨(r30.1.Suffix).toArray⟩) (hs42.ownAt (k := 0) rfl)) ?_
  obtain ⟨r43, hr44, h45⟩ := bind_some h32
  refine V 35 9 (run_sadd (t := 9) (t' := 9) (x := (.tmp 32)) (y := (.tmp 34)) (a := r30.1.Prefix) (b := r30.1.Suffix) (v := r43) rfl rfl hr44) ?_
  refine RWP.buildSlice (dst := (some 36)) (ty := 80) (g := none) (by kernel_rfl) rfl (t := 80) (len := 2) (parts := #[(0, (.tmp 30)), (1, (.tmp 35))]) (vs := [(0, (.string ⟨(r30.1.Area).toArray⟩)), (1, (.string ⟨(r43).toArray⟩))]) (rfl) (E := 9) (cs := [(.string ⟨(r30.1.Area).toArray⟩), (.string ⟨(r43).toArray⟩)]) (by kernel_rfl) hs42 (fun b46 w47 (hs48 : HS w0 F0 w47 F5 [(some b46, .cells ([(.string ⟨(r30.1.Area).toArray⟩), (.string ⟨(r43).toArray⟩)] : List Value).toArray 9 (0, 0)), (sb b38 #[(.string ⟨(r30.1.Area).toArray⟩), (.string ⟨(r30.1.Prefix).toArray⟩), (.string ⟨(r30.1.Suffix).toArray⟩), (.string ⟨(r30.1.Stroke).toArray⟩)] 27)]) => ?_)
  have hr50 : RowR tStr 9 F5 (some ⟨b46, 0, none⟩) 2 [r30.1.Area, r43] (some b46, .cells ([(.string ⟨(r30.1.Area).toArray⟩), (.string ⟨(r43).toArray⟩)] : List Value).toArray 9 (0, 0)) := RowR.lit ⟨rfl, ⟨rfl, rfl⟩⟩ (by simp)
  have hb54 := RowR.bound hr50
  obtain ⟨F6, hs51, le52, hs53⟩ : ∃ Fq, HS w0 F0 w47 Fq [(sb b38 #[(.string ⟨(r30.1.Area).toArray⟩), (.string ⟨(r30.1.Prefix).toArray⟩), (.string ⟨(r30.1.Suffix).toArray⟩), (.string ⟨(r30.1.Stroke).toArray⟩)] 27)] ∧ Mem.le F5 Fq ∧ SlA tStr Fq (some ⟨b46, 0, none⟩) [r30.1.Area, r43] := HS.freezeRow hs48 (k := 0) rfl hr50
  obtain ⟨r55, hr56, h57⟩ := bind_some h45
  refine Cl 37 9 85 #[(.tmp 36)] #[80] co_cmp_Or_string hs51 (c_cmp_Or_string N w47 F6 hs51.pers ([r30.1.Area, r43]) (some ⟨b46, 0, none⟩) 2 hb54 hs53 _ hr56) ?_
  intro v58 F7 w59 hs60 le61 hp62
  obtain rfl := hp62
  refine V 13 9 (ma 37 (.string ⟨(r55).toArray⟩)) ?_
  refine Nss ?_
  refine Sq (Rg [0, 1, 2] ?_)
  refine V 38 9 (mv 13 (.string ⟨(r55).toArray⟩)) ?_
  refine V 39 3 (run_slen (x := (.tmp 38)) (ats := #[9]) (t := 9) (a := r55) rfl rfl (by kernel_rfl)) ?_
  refine V 14 3 (ma 39 (vi (r55.length : Int))) ?_
  refine Nt ?_
  have hs63 : HS w0 F0 w59 F7 [] := hs60.drop 0
  obtain ⟨o64, ho65, h66⟩ := bind_some h57
  refine CWP.cut (fun f w => ∃ (s75 : Int) (F9 : Mem), o64 = .done s75 ∧ HS w0 F0 w F9 [] ∧ Mem.le F7 F9 ∧ f.d = []) ?_ ?_
  ·refine Bk ?_
   refine CWP.loop (by kernel_rfl) (fun m f w => ∃ (s67 : Int) (F8 : Mem), iter (air_table_row_L0 N x0 x1 x2 x3 r19 r30 r43 r55) m s67 = some o64 ∧ HS w0 F0 w F8 [] ∧ Mem.le F7 F8 ∧ f.d = [] ∧ f 9 = (.func (.func 126) #[] #[(.pointer (some ⟨b1, 0, none⟩)), (.pointer (some ⟨b7, 0, none⟩)), (.pointer (some ⟨b4, 0, none⟩))]) ∧ f 13 = (.string ⟨(r55).toArray⟩) ∧ f 14 = (vi s67)) N ⟨(r55.length : Int), F7, ho65, hs63, (Mem.le.refl _), rfl, rfl, rfl, rfl⟩ ?_
   rintro m80 f w68 ⟨s67, F8, hit81, hs69, le70, e71, e72, e73, e74⟩
   obtain ⟨m82, fl83, rfl, hb84, hnx85⟩ := iter_step hit81
   refine Sq ?_
   refine Sq (Rg [0, 1] ?_)
   refine V 40 3 (mv 14 (vi s67) e74) ?_
   refine V 41 4 (run_gtr (t := 3) (t' := 3) (x := (.tmp 40)) (y := (.const (vi 0))) (k := .i64) (a := s67) (b := 0) rfl rfl) ?_
   refine Nt ?_
   refine CWP.cond (t := (decide (s67 > 0))) (by kernel_rfl) rfl (fun hb86 => ?_) (fun hb86 => ?_)
   ·have h87 := cond_t hb84 hb86
    refine Sc ?_
    refine thenQ_nrm ?_
    refine Sq ?_
    refine Bk ?_
    refine Sq (Rg [0, 1, 2, 3, 4, 5, 6] ?_)
    refine V 44 152 (mv 9 (.func (.func 126) #[] #[(.pointer (some ⟨b1, 0, none⟩)), (.pointer (some ⟨b7, 0, none⟩)), (.pointer (some ⟨b4, 0, none⟩))]) e72) ?_
    refine V 45 9 (mv 13 (.string ⟨(r55).toArray⟩) e73) ?_
    refine V 46 3 (mv 14 (vi s67) e74) ?_
    obtain ⟨r88, hr89, h90⟩ := bind_some h87
    refine V 47 9 (run_ssub (t := 9) (x := (.tmp 45)) (lo := none) (hi := (some (.tmp 46))) (a := r55) (il := 0) (ih := s67) (v := r88) rfl (by kernel_rfl) rfl rfl hr89) ?_
    refine V 48 119 (run_build2 (t := 119) (parts := #[(0, (.tmp 47)), (1, (.const (.bool false)))]) (vs := [(0, (.string ⟨(r88).toArray⟩)), (1, (.bool false))]) (rfl) (cs := [(.string ⟨(r88).toArray⟩), (.bool false)]) (by kernel_rfl)) ?_
    obtain ⟨r91, hr92, h93⟩ := bind_some h90
    refine RWP.call (dst := (some 49)) (ty := 3) (g := none) (by kernel_rfl) rfl (f0 := (.tmp 44)) (aos := #[(.tmp 48)]) (ats := #[119]) (fid := 126) (first := #[]) (cap := #[(.pointer (some ⟨b1, 0, none⟩)), (.pointer (some ⟨b7, 0, none⟩)), (.pointer (some ⟨b4, 0, none⟩))]) (args := [(.agg #[(.string ⟨(r88).toArray⟩), (.bool false)]), (.pointer (some ⟨b1, 0, none⟩)), (.pointer (some ⟨b7, 0, none⟩)), (.pointer (some ⟨b4, 0, none⟩))]) rfl co_air_table_row_1 (rfl) hs69 (c_air_table_row_1 N w68 F8 hs69.pers (({ text_ := r88, whole_ := false } : air_key)) b1 x0 o0_0 (MpA.mono hm0_0 (((((((le11.trans le14).trans le17).trans le25).trans le36).trans le52).trans le61).trans le70)) (((((((le14.trans le17).trans le25).trans le36).trans le52).trans le61).trans le70) _ _ hF12) b7 x3 ((((((le17.trans le25).trans le36).trans le52).trans le61).trans le70) _ _ hF15) b4 x1 a1_0 n1_0 hb1_0 (SlA.mono hs1_0 (((((((le11.trans le14).trans le17).trans le25).trans le36).trans le52).trans le61).trans le70)) (((((le25.trans le36).trans le52).trans le61).trans le70) _ _ hF18) _ hr92) ?_
    intro v94 F10 w95 hs96 le97 hp98
    obtain rfl := hp98
    refine V 15 3 (ma 49 (vi r91)) ?_
    refine Nss (Rg [0, 1] ?_)
    refine V 50 3 (mv 15 (vi r91)) ?_
    refine V 51 4 (run_geq (t := 3) (t' := 3) (x := (.tmp 50)) (y := (.const (vi 0))) (k := .i64) (a := r91) (b := 0) rfl rfl) ?_
    refine Nt ?_
    refine CWP.cond (t := (decide (r91 ≥ 0))) (by kernel_rfl) rfl (fun hb99 => ?_) (fun hb99 => ?_)
    ·have h100 := cond_t h93 hb99
     refine Sq (Rg [0, 1] ?_)
     refine V 52 3 (mv 15 (vi r91)) ?_
     refine V 8 3 (ma 52 (vi r91)) ?_
     refine Nt ?_
     refine CWP.ret (by kernel_rfl) ?_
     refine blockQ_ret ?_
     refine thenQ_ret ?_
     refine thenQ_ret ?_
     refine blockQ_ret ?_
     have hret := iter_ret h100 hnx85
     subst hret
     refine .inr ?_
     refine thenQ_ret ?_
     have hfin := some_inj h66
     subst hfin
     exact ⟨e71, (vi r91), res_of (l := [.tmp 8]) (by kernel_rfl) (vs := [(vi r91)]) ⟨rfl, trivial⟩, (vi r91), F10, rfl, hs96.clear, rfl⟩
    ·have h101 := cond_f h93 hb99
     refine Sc ?_
     refine blockQ_nrm ?_
     refine thenQ_nrm ?_
     refine Rg [0, 1, 2] ?_
     refine V 42 3 (mv 14 (vi s67) e74) ?_
     refine V 43 3 (run_sub (t := 3) (t' := 3) (x := (.tmp 42)) (y := (.const (vi 1))) (k := .i64) (a := s67) (b := 1) rfl rfl) ?_
     refine V 14 3 (ma 43 (vi (W64 (s67 - 1)))) ?_
     refine RWP.nil ?_
     have hn102 := iter_next h101 hnx85
     exact ⟨m82, Nat.lt_succ_self _, (W64 (s67 - 1)), F10, hn102, hs96, (le70.trans le97), e71, e72, e73, rfl⟩
   ·have h103 := cond_f hb84 hb86
    refine CWP.exit (by kernel_rfl) ?_
    refine thenQ_ex ?_
    refine thenQ_ex ?_
    refine blockQ_hit rfl ?_
    have ho104 := iter_done h103 hnx85
    exact .inl ⟨rfl, s67, F8, ho104, hs69, le70, e71⟩
  ·rintro f w76 ⟨s75, F9, rfl, hs77, le78, e79⟩
   have h105 := k_done h66
   refine thenQ_nrm ?_
   refine Sq (Rg [0] ?_)
   refine V 8 3 (mc (vi (-1)) (vi (-1))) ?_
   refine Nt ?_
   refine CWP.ret (by kernel_rfl) ?_
   have hfin := some_inj h105
   subst hfin
   exact ⟨e79, (vi (-1)), res_of (l := [.tmp 8]) (by kernel_rfl) (vs := [(vi (-1))]) ⟨rfl, trivial⟩, (vi (-1)), F9, rfl, hs77.clear, rfl⟩
end Go.Proofs.YtlddakefmfcblaaGreatDoor
namespace Go.Proofs.YtlddakefmfcblaaGreatDoor
open Go.Proofs
def air_RowOf (N : Nat) (x0 : (List Prefix)) (x1 : (List UInt8)) (x2 : Int) : Option (Int × Int) :=
 ((air_wrong N x0 x1 x2).bind fun r1 => (bif (r1 != 0) then some (0, r1) else ((air_tableOf N x0).bind fun r12 => ((air_table_row N r12 x0 x1 x2).bind fun r20 => (bif (decide (r20 < 0)) then some (0, 3) else some (r20, 0))))))
theorem co_air_RowOf : CallOk Tryz.prog 52 := fun _ _ => by kernel_rfl
set_option maxHeartbeats 4000000 in
set_option maxRecDepth 100000 in
theorem c_air_RowOf (N : Nat) (w0 : World) (F0 : Mem) (hF : ∀ b o, F0 b = some o → w0.heap[b]? = some o) (hG : Glob F0) (x0 : (List Prefix)) (a0_0 : Option Addr) (n0_0 : Nat) (hb0_0 : LC x0.length n0_0) (hs0_0 : SlA tPrefix F0 a0_0 x0) (x1 : (List UInt8)) (x2 : Int) (r : (Int × Int)) (h : air_RowOf N x0 x1 x2 = some r) :
  Calls Tryz.prog 52 ([(.slice a0_0 x0.length n0_0), (.string ⟨(x1).toArray⟩), (vi x2)] : List Value).toArray w0 (FRet w0 F0 fun F' v => v = (.tuple #[(vi r.1), (vi r.2)])) := by
 have hs0 := HS.start hF
 refine calls_of (n := 26) (c := bodyOf Tryz.f52) Tryz.func52 (by kernel_rfl) (by kernel_rfl) (by kernel_rfl) ?_
 refine Sq (Rg [0, 1] ?_)
 refine V 6 3 (mc (vi 0) (vi 0)) ?_
 refine V 7 23 (mc (vi 0) (vi 0)) ?_
 refine Nss ?_
 refine Sq (Rg [0, 1, 2, 3, 4] ?_)
 refine V 10 61 (mv 0 (.slice a0_0 x0.length n0_0)) ?_
 refine V 11 9 (mv 1 (.string ⟨(x1).toArray⟩)) ?_
 refine V 12 3 (mv 2 (vi x2)) ?_
 obtain ⟨r1, hr2, h3⟩ := bind_some h
 refine Cl 13 23 96 #[(.tmp 10), (.tmp 11), (.tmp 12)] #[61, 9, 3] co_air_wrong hs0 (c_air_wrong N w0 F0 hs0.pers hG (x0) a0_0 n0_0 hb0_0 hs0_0 (x1) (x2) _ hr2) ?_
 intro v4 F1 w5 hs6 le7 hp8
 obtain rfl := hp8
 refine V 8 23 (ma 13 (vi r1)) ?_
 refine Nss (Rg [0, 1] ?_)
 refine V 14 23 (mv 8 (vi r1)) ?_
 refine V 15 4 (run_neq (t := 23) (t' := 23) (x := (.tmp 14)) (y := (.const (vi 0))) (k := .i64) (a := r1) (b := 0) rfl rfl) ?_
 refine Nt ?_
 refine CWP.cond (t := (r1 != 0)) (by kernel_rfl) rfl (fun hb9 => ?_) (fun hb9 => ?_)
 ·have h10 := cond_t h3 hb9
  refine Sq (Rg [0, 1, 2] ?_)
  refine V 16 23 (mv 8 (vi r1)) ?_
  refine V 6 3 (mc (vi 0) (vi 0)) ?_
  refine V 7 23 (ma 16 (vi r1)) ?_
  refine Nt ?_
  refine CWP.ret (by kernel_rfl) ?_
  refine thenQ_ret ?_
  have hfin := some_inj h10
  subst hfin
  exact ⟨rfl, (.tuple #[(vi 0), (vi r1)]), res_of (l := [.tmp 6, .tmp 7]) (by kernel_rfl) (vs := [(vi 0), (vi r1)]) ⟨rfl, ⟨rfl, trivial⟩⟩, (.tuple #[(vi 0), (vi r1)]), F1, rfl, hs6.clear, rfl⟩
 ·have h11 := cond_f h3 hb9
  refine Sc ?_
  refine thenQ_nrm ?_
  refine Sq (Rg [0, 1, 2, 3, 4, 5, 6] ?_)
  refine V 17 61 (mv 0 (.slice a0_0 x0.length n0_0)) ?_
  obtain ⟨r12, hr13, h14⟩ := bind_some h11
  refine Cl 18 116 93 #[(.tmp 17)] #[61] co_air_tableOf hs6 (c_air_tableOf N w5 F1 hs6.pers (x0) a0_0 n0_0 hb0_0 (SlA.mono hs0_0 le7) _ hr13) ?_
  intro v15 F2 w16 hs17 le18 hp19
  obtain ⟨or12_0_0, rfl, hmr12_0_0⟩ := hp19
  refine V 19 61 (mv 0 (.slice a0_0 x0.length n0_0)) ?_
  refine V 20 9 (mv 1 (.string ⟨(x1).toArray⟩)) ?_
  refine V 21 3 (mv 2 (vi x2)) ?_
  obtain ⟨r20, hr21, h22⟩ := bind_some h14
  refine Cl 22 3 97 #[(.tmp 18), (.tmp 19), (.tmp 20), (.tmp 21)] #[116, 61, 9, 3] co_air_table_row hs17 (c_air_table_row N w16 F2 hs17.pers (hG.mono (le7.trans le18)) (r12) or12_0_0 hmr12_0_0 (x0) a0_0 n0_0 hb0_0 (SlA.mono hs0_0 (le7.trans le18)) (x1) (x2) _ hr21) ?_
  intro v23 F3 w24 hs25 le26 hp27
  obtain rfl := hp27
  refine V 9 3 (ma 22 (vi r20)) ?_
  refine Nss ?_
  refine Sq (Rg [0, 1] ?_)
  refine V 23 3 (mv 9 (vi r20)) ?_
  refine V 24 4 (run_lss (t := 3) (t' := 3) (x := (.tmp 23)) (y := (.const (vi 0))) (k := .i64) (a := r20) (b := 0) rfl rfl) ?_
  refine Nt ?_
  refine CWP.cond (t := (decide (r20 < 0))) (by kernel_rfl) rfl (fun hb28 => ?_) (fun hb28 => ?_)
  ·have h29 := cond_t h22 hb28
   refine Sq (Rg [0, 1] ?_)
   refine V 6 3 (mc (vi 0) (vi 0)) ?_
   refine V 7 23 (mc (vi 3) (vi 3)) ?_
   refine Nt ?_
   refine CWP.ret (by kernel_rfl) ?_
   refine thenQ_ret ?_
   have hfin := some_inj h29
   subst hfin
   exact ⟨rfl, (.tuple #[(vi 0), (vi 3)]), res_of (l := [.tmp 6, .tmp 7]) (by kernel_rfl) (vs := [(vi 0), (vi 3)]) ⟨rfl, ⟨rfl, trivial⟩⟩, (.tuple #[(vi 0), (vi 3)]), F3, rfl, hs25.clear, rfl⟩
  ·have h30 := cond_f h22 hb28
   refine Sc ?_
   refine thenQ_nrm ?_
   refine Sq (Rg [0, 1, 2] ?_)
   refine V 25 3 (mv 9 (vi r20)) ?_
   refine V 6 3 (ma 25 (vi r20)) ?_
   refine V 7 23 (mc (vi 0) (vi 0)) ?_
   refine Nt ?_
   refine CWP.ret (by kernel_rfl) ?_
   have hfin := some_inj h30
   subst hfin
   exact ⟨rfl, (.tuple #[(vi r20), (vi 0)]), res_of (l := [.tmp 6, .tmp 7]) (by kernel_rfl) (vs := [(vi r20), (vi 0)]) ⟨rfl, ⟨rfl, trivial⟩⟩, (.tuple #[(vi r20), (vi 0)]), F3, rfl, hs25.clear, rfl⟩
end Go.Proofs.YtlddakefmfcblaaGreatDoor
namespace Go.Proofs.YtlddakefmfcblaaGreatDoor
open Go.Proofs
def ref01_ValidTable (N : Nat) (x0 : (List Prefix)) : Option Bool :=
 ((ref01_Overlap N x0).bind fun r1 => some (r1.2.2 == 3))
theorem co_ref01_ValidTable : CallOk Tryz.prog 57 := fun _ _ => by kernel_rfl
set_option maxHeartbeats 4000000 in
set_option maxRecDepth 100000 in
theorem c_ref01_ValidTable (N : Nat) (w0 : World) (F0 : Mem) (hF : ∀ b o, F0 b = some o → w0.heap[b]? = some o) (x0 : (List Prefix)) (a0_0 : Option Addr) (n0_0 : Nat) (hb0_0 : LC x0.length n0_0) (hs0_0 : SlA tPrefix F0 a0_0 x0) (r : Bool) (h : ref01_ValidTable N x0 = some r) :
  Calls Tryz.prog 57 ([(.slice a0_0 x0.length n0_0)] : List Value).toArray w0 (FRet w0 F0 fun F' v => v = (.bool r)) := by
 have hs0 := HS.start hF
 refine calls_of (n := 14) (c := bodyOf Tryz.f57) Tryz.func57 (by kernel_rfl) (by kernel_rfl) (by kernel_rfl) ?_
 refine Sq (Rg [0] ?_)
 refine V 2 4 (mc (.bool false) (.bool false)) ?_
 refine Nss (Rg [0, 1, 2, 3, 4, 5, 6, 7, 8] ?_)
 refine V 7 61 (mv 0 (.slice a0_0 x0.length n0_0)) ?_
 obtain ⟨r1, hr2, h3⟩ := bind_some h
 refine Cl 8 35 51 #[(.tmp 7)] #[61] co_ref01_Overlap hs0 (c_ref01_Overlap N w0 F0 hs0.pers (x0) a0_0 n0_0 hb0_0 hs0_0 _ hr2) ?_
 intro v4 F1 w5 hs6 le7 hp8
 obtain rfl := hp8
 refine V 6 35 (mv 8 (.tuple #[(vi r1.1), (vi r1.2.1), (vi r1.2.2)])) ?_
 refine V 9 3 (ex 6 0 (vi r1.1) (vs := #[(vi r1.1), (vi r1.2.1), (vi r1.2.2)])) ?_
 refine V 10 3 (ex 6 1 (vi r1.2.1) (vs := #[(vi r1.1), (vi r1.2.1), (vi r1.2.2)])) ?_
 refine V 11 23 (ex 6 2 (vi r1.2.2) (vs := #[(vi r1.1), (vi r1.2.1), (vi r1.2.2)])) ?_
 refine V 3 3 (ma 9 (vi r1.1)) ?_
 refine V 4 3 (ma 10 (vi r1.2.1)) ?_
 refine V 5 23 (ma 11 (vi r1.2.2)) ?_
 refine Nss (Rg [0, 1, 2] ?_)
 refine V 12 23 (mv 5 (vi r1.2.2)) ?_
 refine V 13 4 (run_eql (t := 23) (t' := 23) (x := (.tmp 12)) (y := (.const (vi 3))) (k := .i64) (a := r1.2.2) (b := 3) rfl rfl) ?_
 refine V 2 4 (ma 13 (.bool (r1.2.2 == 3))) ?_
 refine Nt ?_
 refine CWP.ret (by kernel_rfl) ?_
 have hfin := some_inj h3
 subst hfin
 exact ⟨rfl, (.bool (r1.2.2 == 3)), res_of (l := [.tmp 2]) (by kernel_rfl) (vs := [(.bool (r1.2.2 == 3))]) ⟨rfl, trivial⟩, (.bool (r1.2.2 == 3)), F1, rfl, hs6.clear, rfl⟩
end Go.Proofs.YtlddakefmfcblaaGreatDoor
namespace Go.Proofs.YtlddakefmfcblaaGreatDoor
open Go.Proofs
def ref01_asked (N : Nat) (x0 : (List Prefix)) (x1 : (List UInt8)) (x2 : Int) : Option Int :=
 ((ref01_ValidTable N x0).bind fun r1 => (bif (!r1) then some 12 else ((ref01_ValidCall N x1).bind fun r12 => (bif (!r12) then some 10 else ((ref01_within N x2 0 99999).bind fun r23 => (bif (!r23) then some 1 else some 0))))))
theorem co_ref01_asked : CallOk Tryz.prog 98 := fun _ _ => by kernel_rfl
set_option maxHeartbeats 4000000 in
set_option maxRecDepth 100000 in
theorem c_ref01_asked (N : Nat) (w0 : World) (F0 : Mem) (hF : ∀ b o, F0 b = some o → w0.heap[b]? = some o) (x0 : (List Prefix)) (a0_0 : Option Addr) (n0_0 : Nat) (hb0_0 : LC x0.length n0_0) (hs0_0 : SlA tPrefix F0 a0_0 x0) (x1 : (List UInt8)) (x2 : Int) (r : Int) (h : ref01_asked N x0 x1 x2 = some r) :
  Calls Tryz.prog 98 ([(.slice a0_0 x0.length n0_0), (.string ⟨(x1).toArray⟩), (vi x2)] : List Value).toArray w0 (FRet w0 F0 fun F' v => v = (vi r)) := by
 have hs0 := HS.start hF
 refine calls_of (n := 16) (c := bodyOf Tryz.f98) Tryz.func98 (by kernel_rfl) (by kernel_rfl) (by kernel_rfl) ?_
 refine Sq (Rg [0] ?_)
 refine V 6 23 (mc (vi 0) (vi 0)) ?_
 refine Nss ?_
 refine Sq (Rg [0, 1, 2] ?_)
 refine V 7 61 (mv 0 (.slice a0_0 x0.length n0_0)) ?_
 obtain ⟨r1, hr2, h3⟩ := bind_some h
 refine Cl 8 4 57 #[(.tmp 7)] #[61] co_ref01_ValidTable hs0 (c_ref01_ValidTable N w0 F0 hs0.pers (x0) a0_0 n0_0 hb0_0 hs0_0 _ hr2) ?_
 intro v4 F1 w5 hs6 le7 hp8
 obtain rfl := hp8
 refine V 9 4 (run_not (t := 4) (x := (.tmp 8)) (a := r1) rfl) ?_
 refine Nt ?_
 refine CWP.cond (t := (!r1)) (by kernel_rfl) rfl (fun hb9 => ?_) (fun hb9 => ?_)
 ·have h10 := cond_t h3 hb9
  refine Sq (Rg [0] ?_)
  refine V 6 23 (mc (vi 12) (vi 12)) ?_
  refine Nt ?_
  refine CWP.ret (by kernel_rfl) ?_
  refine thenQ_ret ?_
  have hfin := some_inj h10
  subst hfin
  exact ⟨rfl, (vi 12), res_of (l := [.tmp 6]) (by kernel_rfl) (vs := [(vi 12)]) ⟨rfl, trivial⟩, (vi 12), F1, rfl, hs6.clear, rfl⟩
 ·have h11 := cond_f h3 hb9
  refine Sc ?_
  refine thenQ_nrm ?_
  refine Sq ?_
  refine Sq (Rg [0, 1, 2] ?_)
  refine V 10 9 (mv 1 (.string ⟨(x1).toArray⟩)) ?_
  obtain ⟨r12, hr13, h14⟩ := bind_some h11
  refine Cl 11 4 38 #[(.tmp 10)] #[9] co_ref01_ValidCall hs6 (c_ref01_ValidCall N w5 F1 hs6.pers (x1) _ hr13) ?_
  intro v15 F2 w16 hs17 le18 hp19
  obtain rfl := hp19
  refine V 12 4 (run_not (t := 4) (x := (.tmp 11)) (a := r12) rfl) ?_
  refine Nt ?_
  refine CWP.cond (t := (!r12)) (by kernel_rfl) rfl (fun hb20 => ?_) (fun hb20 => ?_)
  ·have h21 := cond_t h14 hb20
   refine Sq (Rg [0] ?_)
   refine V 6 23 (mc (vi 10) (vi 10)) ?_
   refine Nt ?_
   refine CWP.ret (by kernel_rfl) ?_
   refine thenQ_ret ?_
   have hfin := some_inj h21
   subst hfin
   exact ⟨rfl, (vi 10), res_of (l := [.tmp 6]) (by kernel_rfl) (vs := [(vi 10)]) ⟨rfl, trivial⟩, (vi 10), F2, rfl, hs17.clear, rfl⟩
  ·have h22 := cond_f h14 hb20
   refine Sc ?_
   refine thenQ_nrm ?_
   refine Sq ?_
   refine Sq (Rg [0, 1, 2] ?_)
   refine V 13 3 (mv 2 (vi x2)) ?_
   obtain ⟨r23, hr24, h25⟩ := bind_some h22
   refine Cl 14 4 67 #[(.tmp 13), (.const (vi 0)), (.const (vi 99999))] #[3, 3, 3] co_ref01_within hs17 (c_ref01_within N w16 F2 hs17.pers (x2) (0) (99999) _ hr24) ?_
   intro v26 F3 w27 hs28 le29 hp30
   obtain rfl := hp30
   refine V 15 4 (run_not (t := 4) (x := (.tmp 14)) (a := r23) rfl) ?_
   refine Nt ?_
   refine CWP.cond (t := (!r23)) (by kernel_rfl) rfl (fun hb31 => ?_) (fun hb31 => ?_)
   ·have h32 := cond_t h25 hb31
    refine Sq (Rg [0] ?_)
    refine V 6 23 (mc (vi 1) (vi 1)) ?_
    refine Nt ?_
    refine CWP.ret (by kernel_rfl) ?_
    refine thenQ_ret ?_
    have hfin := some_inj h32
    subst hfin
    exact ⟨rfl, (vi 1), res_of (l := [.tmp 6]) (by kernel_rfl) (vs := [(vi 1)]) ⟨rfl, trivial⟩, (vi 1), F3, rfl, hs28.clear, rfl⟩
   ·have h33 := cond_f h25 hb31
    refine Sc ?_
    refine thenQ_nrm ?_
    refine Sq (Rg [0] ?_)
    refine V 6 23 (mc (vi 0) (vi 0)) ?_
    refine Nt ?_
    refine CWP.ret (by kernel_rfl) ?_
    have hfin := some_inj h33
    subst hfin
    exact ⟨rfl, (vi 0), res_of (l := [.tmp 6]) (by kernel_rfl) (vs := [(vi 0)]) ⟨rfl, trivial⟩, (vi 0), F3, rfl, hs28.clear, rfl⟩
end Go.Proofs.YtlddakefmfcblaaGreatDoor
namespace Go.Proofs.YtlddakefmfcblaaGreatDoor
open Go.Proofs
def ref01_begins (N : Nat) (x0 : (List UInt8)) (x1 : (List UInt8)) : Option Bool :=
 ((bif (decide ((x1.length : Int) ≤ (x0.length : Int))) then ((ssub x0 0 (x1.length : Int)).bind fun r11 => some (r11 == x1)) else some false).bind fun j4 => some j4)
theorem co_ref01_begins : CallOk Tryz.prog 127 := fun _ _ => by kernel_rfl
set_option maxHeartbeats 4000000 in
set_option maxRecDepth 100000 in
theorem c_ref01_begins (N : Nat) (w0 : World) (F0 : Mem) (hF : ∀ b o, F0 b = some o → w0.heap[b]? = some o) (x0 : (List UInt8)) (x1 : (List UInt8)) (r : Bool) (h : ref01_begins N x0 x1 = some r) :
  Calls Tryz.prog 127 ([(.string ⟨(x0).toArray⟩), (.string ⟨(x1).toArray⟩)] : List Value).toArray w0 (FRet w0 F0 fun F' v => v = (.bool r)) := by
 have hs0 := HS.start hF
 refine calls_of (n := 18) (c := bodyOf Tryz.f127) Tryz.func127 (by kernel_rfl) (by kernel_rfl) (by kernel_rfl) ?_
 refine Sq (Rg [0] ?_)
 refine V 4 4 (mc (.bool false) (.bool false)) ?_
 refine Nss (Rg [0, 1, 2, 3, 4, 5, 6, 7, 8, 9, 10, 11, 12, 13] ?_)
 obtain ⟨j4, hj7, h8⟩ := bind_some h
 refine RWP.cut (fun f w => ∃ (F1 : Mem), HS w0 F0 w F1 [] ∧ Mem.le F0 F1 ∧ f.d = [] ∧ f 4 = (.bool j4)) ?_ ?_
 ·refine V 5 9 (mv 1 (.string ⟨(x1).toArray⟩)) ?_
  refine V 6 3 (run_slen (x := (.tmp 5)) (ats := #[9]) (t := 9) (a := x1) rfl rfl (by kernel_rfl)) ?_
  refine V 7 9 (mv 0 (.string ⟨(x0).toArray⟩)) ?_
  refine V 8 3 (run_slen (x := (.tmp 7)) (ats := #[9]) (t := 9) (a := x0) rfl rfl (by kernel_rfl)) ?_
  refine V 9 4 (run_leq (t := 3) (t' := 3) (x := (.tmp 6)) (y := (.tmp 8)) (k := .i64) (a := (x1.length : Int)) (b := (x0.length : Int)) rfl rfl) ?_
  refine V 10 4 (mv 9 (.bool (decide ((x1.length : Int) ≤ (x0.length : Int))))) ?_
  refine RWP.split (decide ((x1.length : Int) ≤ (x0.length : Int))) (fun hb9 => ?_) (fun hb9 => ?_)
  ·have h10 := cond_t hj7 hb9
   refine Vg 11 9 5 true 10 hb9 (mv 0 (.string ⟨(x0).toArray⟩)) ?_
   refine Vg 12 9 5 true 10 hb9 (mv 1 (.string ⟨(x1).toArray⟩)) ?_
   refine Vg 13 3 5 true 10 hb9 (run_slen (x := (.tmp 12)) (ats := #[9]) (t := 9) (a := x1) rfl rfl (by kernel_rfl)) ?_
   obtain ⟨r11, hr12, h13⟩ := bind_some h10
   refine Vg 14 9 5 true 10 hb9 (run_ssub (t := 9) (x := (.tmp 11)) (lo := none) (hi := (some (.tmp 13))) (a := x0) (il := 0) (ih := (x1.length : Int)) (v := r11) rfl (by kernel_rfl) rfl rfl hr12) ?_
   refine Vg 15 9 5 true 10 hb9 (mv 1 (.string ⟨(x1).toArray⟩)) ?_
   refine Vg 16 4 5 true 10 hb9 (run_scmp (t := 9) (t' := 9) (x := (.tmp 14)) (y := (.tmp 15)) (op := .eql) (a := r11) (b := x1) (v := (r11 == x1)) rfl rfl rfl) ?_
   refine V 17 4 (p1 10 (.tmp 16) (.const (.bool false)) (.bool (r11 == x1)) hb9) ?_
   refine V 4 4 (ma 17 (.bool (r11 == x1))) ?_
   obtain rfl := some_inj h13
   exact RWP.nil ⟨rfl, F0, hs0, (Mem.le.refl _), rfl, rfl⟩
  ·have h14 := cond_f hj7 hb9
   refine Sk [11, 12, 13, 14, 15, 16] 5 true 10 hb9 ?_
   refine V 17 4 (p0 10 (.tmp 16) (.const (.bool false)) (.bool false) hb9) ?_
   refine V 4 4 (ma 17 (.bool false)) ?_
   obtain rfl := some_inj h14
   exact RWP.nil ⟨rfl, F0, hs0, (Mem.le.refl _), rfl, rfl⟩
 ·rintro f w1 ⟨F1, hs2, le3, e5, e6⟩
  refine thenQ_nrm ?_
  refine CWP.ret (by kernel_rfl) ?_
  have hfin := some_inj h8
  subst hfin
  exact ⟨e5, (.bool j4), res_of (l := [.tmp 4]) (by kernel_rfl) (vs := [(.bool j4)]) ⟨e6, trivial⟩, (.bool j4), F1, rfl, hs2.clear, rfl⟩
end Go.Proofs.YtlddakefmfcblaaGreatDoor
namespace Go.Proofs.YtlddakefmfcblaaGreatDoor
open Go.Proofs
def ref01_find_L0 (N : Nat) (x0 : (List Prefix)) (x1 : (List UInt8)) (x2 : Int) (r1 : ((List UInt8) × (List UInt8) × (List UInt8) × Bool)) (j12 : (List UInt8)) : (Int × Int) → Option (Flow Int (Int × Int)) := fun s26 =>
 (bif (decide (s26.2 < (x0.length : Int))) then (((idx x0 s26.2).bind fun x67 => ((idx x0 s26.2).bind fun x81 => ((ref01_within N x2 x67.From x81.To).bind fun r87 => some (!r87)))).bind fun j56 => (bif j56 then some (.next (s26.1, (W64 (s26.2 + 1)))) else (((idx x0 s26.2).bind fun x113 => (bif x113.Whole then ((idx x0 s26.2).bind fun x129 => some (x129.Text == x1)) else some false)).bind fun j102 => (bif j102 then some (.ret s26.2) else (((idx x0 s26.2).bind fun x155 => (bif (!x155.Whole) then ((idx x0 s26.2).bind fun x171 => ((ref01_begins N j12 x171.Text).bind fun r177 => (bif r177 then (bif (decide (s26.1 < 0)) then some true else ((idx x0 s26.2).bind fun x190 => ((idx x0 s26.1).bind fun x196 => some (decide ((x190.Text.length : Int) > (x196.Text.length : Int)))))) else some false))) else some false)).bind fun j144 => some (.next ((bif j144 then s26.2 else s26.1), (W64 (s26.2 + 1))))))))) else some (.done (s26.1, s26.2)))
def ref01_find (N : Nat) (x0 : (List Prefix)) (x1 : (List UInt8)) (x2 : Int) : Option Int :=
 ((ref01_parts N x1).bind fun r1 => ((bif (r1.1 == ([] : List UInt8)) then some r1.2.1 else some r1.1).bind fun j12 => ((iter (ref01_find_L0 N x0 x1 x2 r1 j12) N ((-1), 0)).bind fun o => o.k (fun r => some r) (fun s37 => some s37.1))))
theorem co_ref01_find : CallOk Tryz.prog 99 := fun _ _ => by kernel_rfl
set_option maxHeartbeats 4000000 in
set_option maxRecDepth 100000 in
theorem c_ref01_find (N : Nat) (w0 : World) (F0 : Mem) (hF : ∀ b o, F0 b = some o → w0.heap[b]? = some o) (x0 : (List Prefix)) (a0_0 : Option Addr) (n0_0 : Nat) (hb0_0 : LC x0.length n0_0) (hs0_0 : SlA tPrefix F0 a0_0 x0) (x1 : (List UInt8)) (x2 : Int) (r : Int) (h : ref01_find N x0 x1 x2 = some r) :
  Calls Tryz.prog 99 ([(.slice a0_0 x0.length n0_0), (.string ⟨(x1).toArray⟩), (vi x2)] : List Value).toArray w0 (FRet w0 F0 fun F' v => v = (vi r)) := by
 have hs0 := HS.start hF
 refine calls_of (n := 93) (c := bodyOf Tryz.f99) Tryz.func99 (by kernel_rfl) (by kernel_rfl) (by kernel_rfl) ?_
 refine Sq (Rg [0] ?_)
 refine V 6 3 (mc (vi 0) (vi 0)) ?_
 refine Nss (Rg [0, 1, 2, 3, 4, 5, 6, 7, 8, 9, 10] ?_)
 refine V 14 9 (mv 1 (.string ⟨(x1).toArray⟩)) ?_
 obtain ⟨r1, hr2, h3⟩ := bind_some h
 refine Cl 15 100 81 #[(.tmp 14)] #[9] co_ref01_parts hs0 (c_ref01_parts N w0 F0 hs0.pers (x1) _ hr2) ?_
 intro v4 F1 w5 hs6 le7 hp8
 obtain rfl := hp8
 refine V 13 100 (mv 15 (.tuple #[(.string ⟨(r1.1).toArray⟩), (.string ⟨(r1.2.1).toArray⟩), (.string ⟨(r1.2.2.1).toArray⟩), (.bool r1.2.2.2)])) ?_
 refine V 16 9 (ex 13 0 (.string ⟨(r1.1).toArray⟩) (vs := #[(.string ⟨(r1.1).toArray⟩), (.string ⟨(r1.2.1).toArray⟩), (.string ⟨(r1.2.2.1).toArray⟩), (.bool r1.2.2.2)])) ?_
 refine V 17 9 (ex 13 1 (.string ⟨(r1.2.1).toArray⟩) (vs := #[(.string ⟨(r1.1).toArray⟩), (.string ⟨(r1.2.1).toArray⟩), (.string ⟨(r1.2.2.1).toArray⟩), (.bool r1.2.2.2)])) ?_
 refine V 18 9 (ex 13 2 (.string ⟨(r1.2.2.1).toArray⟩) (vs := #[(.string ⟨(r1.1).toArray⟩), (.string ⟨(r1.2.1).toArray⟩), (.string ⟨(r1.2.2.1).toArray⟩), (.bool r1.2.2.2)])) ?_
 refine V 19 4 (ex 13 3 (.bool r1.2.2.2) (vs := #[(.string ⟨(r1.1).toArray⟩), (.string ⟨(r1.2.1).toArray⟩), (.string ⟨(r1.2.2.1).toArray⟩), (.bool r1.2.2.2)])) ?_
 refine V 7 9 (ma 16 (.string ⟨(r1.1).toArray⟩)) ?_
 refine V 8 9 (ma 17 (.string ⟨(r1.2.1).toArray⟩)) ?_
 refine V 9 9 (ma 18 (.string ⟨(r1.2.2.1).toArray⟩)) ?_
 refine V 10 4 (ma 19 (.bool r1.2.2.2)) ?_
 refine Nss ?_
 refine Sq (Rg [0, 1] ?_)
 refine V 20 9 (mv 7 (.string ⟨(r1.1).toArray⟩)) ?_
 refine V 21 4 (run_scmp (t := 9) (t' := 9) (x := (.tmp 20)) (y := (.const (.string ⟨([] : List UInt8).toArray⟩))) (op := .eql) (a := r1.1) (b := ([] : List UInt8)) (v := (r1.1 == ([] : List UInt8))) rfl rfl rfl) ?_
 refine Nt ?_
 obtain ⟨j12, hj18, h19⟩ := bind_some h3
 refine CWP.cut (fun f w => ∃ (F2 : Mem), HS w0 F0 w F2 [] ∧ Mem.le F1 F2 ∧ f.d = [] ∧ f 0 = (.slice a0_0 x0.length n0_0) ∧ f 1 = (.string ⟨(x1).toArray⟩) ∧ f 2 = (vi x2) ∧ f 7 = (.string ⟨(j12).toArray⟩)) ?_ ?_
 ·refine CWP.cond (t := (r1.1 == ([] : List UInt8))) (by kernel_rfl) rfl (fun hb20 => ?_) (fun hb20 => ?_)
  ·have h21 := cond_t hj18 hb20
   refine Rg [0, 1] ?_
   refine V 22 9 (mv 8 (.string ⟨(r1.2.1).toArray⟩)) ?_
   refine V 7 9 (ma 22 (.string ⟨(r1.2.1).toArray⟩)) ?_
   refine RWP.nil ?_
   obtain rfl := some_inj h21
   exact .inl ⟨rfl, F1, hs6, (Mem.le.refl _), rfl, rfl, rfl, rfl, rfl⟩
  ·have h22 := cond_f hj18 hb20
   refine Sc ?_
   obtain rfl := some_inj h22
   exact .inl ⟨rfl, F1, hs6, (Mem.le.refl _), rfl, rfl, rfl, rfl, rfl⟩
 ·rintro f w9 ⟨F2, hs10, le11, e13, e14, e15, e16, e17⟩
  refine thenQ_nrm ?_
  refine Sq (Rg [0] ?_)
  refine V 11 3 (mc (vi (-1)) (vi (-1))) ?_
  refine Nss ?_
  refine Sq (Rg [0] ?_)
  refine V 12 3 (mc (vi 0) (vi 0)) ?_
  refine Nt ?_
  obtain ⟨o23, ho24, h25⟩ := bind_some h19
  refine CWP.cut (fun f w => ∃ (s37 : (Int × Int)) (F4 : Mem), o23 = .done s37 ∧ HS w0 F0 w F4 [] ∧ Mem.le F2 F4 ∧ f.d = [] ∧ f 11 = (vi s37.1)) ?_ ?_
  ·refine Bk ?_
   refine CWP.loop (by kernel_rfl) (fun m f w => ∃ (s26 : (Int × Int)) (F3 : Mem), iter (ref01_find_L0 N x0 x1 x2 r1 j12) m s26 = some o23 ∧ HS w0 F0 w F3 [] ∧ Mem.le F2 F3 ∧ f.d = [] ∧ f 0 = (.slice a0_0 x0.length n0_0) ∧ f 1 = (.string ⟨(x1).toArray⟩) ∧ f 2 = (vi x2) ∧ f 7 = (.string ⟨(j12).toArray⟩) ∧ f 11 = (vi s26.1) ∧ f 12 = (vi s26.2)) N ⟨((-1), 0), F2, ho24, hs10, (Mem.le.refl _), e13, e14, e15, e16, e17, rfl, rfl⟩ ?_
   rintro m43 f w27 ⟨s26, F3, hit44, hs28, le29, e30, e31, e32, e33, e34, e35, e36⟩
   obtain ⟨m45, fl46, rfl, hb47, hnx48⟩ := iter_step hit44
   refine Sq ?_
   refine Sq (Rg [0, 1, 2, 3] ?_)
   refine V 23 3 (mv 12 (vi s26.2) e36) ?_
   refine V 24 61 (mv 0 (.slice a0_0 x0.length n0_0) e31) ?_
   refine V 25 3 (ln 24 61 a0_0 x0.length n0_0 71 7 64) ?_
   refine V 26 4 (run_lss (t := 3) (t' := 3) (x := (.tmp 23)) (y := (.tmp 25)) (k := .i64) (a := s26.2) (b := (x0.length : Int)) rfl rfl) ?_
   refine Nt ?_
   refine CWP.cond (t := (decide (s26.2 < (x0.length : Int)))) (by kernel_rfl) rfl (fun hb49 => ?_) (fun hb49 => ?_)
   ·have h50 := cond_t hb47 hb49
    refine Sc ?_
    refine thenQ_nrm ?_
    refine Sq ?_
    refine Bk ?_
    refine Sq ?_
    refine Sq ?_
    obtain ⟨j56, hj65, h66⟩ := bind_some h50
    refine CWP.regionD (by kernel_rfl) (by kernel_rfl) (by kernel_rfl) (by kernel_rfl) (z := 13) (F := F3) (Lc := []) (Lz := []) (l := [false, false, false, false, false, false, false, false, false, false, false, false, false]) (fuel := 13) (by kernel_rfl) (by kernel_rfl) hs28 (by simp) (by simp) (fun f w => ∃ (F5 : Mem), HS w0 F0 w F5 [] ∧ Mem.le F3 F5 ∧ f.d = [] ∧ f 0 = (.slice a0_0 x0.length n0_0) ∧ f 1 = (.string ⟨(x1).toArray⟩) ∧ f 2 = (vi x2) ∧ f 7 = (.string ⟨(j12).toArray⟩) ∧ f 11 = (vi s26.1) ∧ f 12 = (vi s26.2) ∧ f 41 = (.bool j56)) (fun wd51 hw52 => ?_) ?_
    ·refine Dt 0 29 3 _ (fun _ hq => mv 2 (vi x2) e33) ?_
     refine Dt 1 30 61 _ (fun _ hq => mv 0 (.slice a0_0 x0.length n0_0) e31) ?_
     refine Dt 2 31 3 _ (fun _ hq => mv 12 (vi s26.2) e36) ?_
     obtain ⟨x67, hx68, h70⟩ := bind_some hj65
     obtain ⟨hi69, hx68'⟩ := idx_spec hx68
     obtain ⟨b71, o72, C73, E74, fz75, rfl, hF77, hE78⟩ := SlA.open (SlA.mono hs0_0 ((le7.trans le11).trans le29)) hx68'
     have hc80 := hE78 _ _ hx68'
     refine Dt 3 32 0 (.pointer (some ⟨b71, (o72 + (s26.2 : Int).toNat * 7), none⟩)) (fun _ hq => ix 61 30 31 b71 o72 71 7 64 hi69) ?_
     refine Dt 4 33 0 (.pointer (some ⟨b71, ((o72 + (s26.2 : Int).toNat * 7) + 4), none⟩)) (fun _ hq => fa 71 32 4 4 1 b71 (o72 + (s26.2 : Int).toNat * 7) ((o72 + (s26.2 : Int).toNat * 7) + 4)) ?_
     refine Dt 5 34 3 _ (fun _ hq => lx 3 33 4 7 false 1 (vi x67.From) (hq.1.1 _ _ hF77) hc80) ?_
     refine Dt 6 35 61 _ (fun _ hq => mv 0 (.slice (some ⟨b71, o72, none⟩) x0.length n0_0) e31) ?_
     refine Dt 7 36 3 _ (fun _ hq => mv 12 (vi s26.2) e36) ?_
     obtain ⟨x81, hx82, h84⟩ := bind_some h70
     obtain ⟨hi83, hx82'⟩ := idx_spec hx82
     have hc86 := hE78 _ _ hx82'
     refine Dt 8 37 0 (.pointer (some ⟨b71, (o72 + (s26.2 : Int).toNat * 7), none⟩)) (fun _ hq => ix 61 35 36 b71 o72 71 7 64 hi83) ?_
     refine Dt 9 38 0 (.pointer (some ⟨b71, ((o72 + (s26.2 : Int).toNat * 7) + 5), none⟩)) (fun _ hq => fa 71 37 5 5 1 b71 (o72 + (s26.2 : Int).toNat * 7) ((o72 + (s26.2 : Int).toNat * 7) + 5)) ?_
     refine Dt 10 39 3 _ (fun _ hq => lx 3 38 5 7 false 1 (vi x81.To) (hq.1.1 _ _ hF77) hc86) ?_
     refine DWP.one (i := 11) (by kernel_rfl) ?_
     obtain ⟨r87, hr88, h89⟩ := bind_some h84
     refine DStep.call (l' := [true, true, true, true, true, true, true, true, true, true, true, true, false]) (zd := true) (by kernel_rfl) (by kernel_rfl) (by kernel_rfl) (dst := (some 40)) (ty := 4) (g := none) (by kernel_rfl) rfl (f0 := (.func 67)) (aos := #[(.tmp 29), (.tmp 34), (.tmp 39)]) (ats := #[3, 3, 3]) (fid := 67) (first := #[]) (cap := #[]) (args := [(vi x2), (vi x67.From), (vi x81.To)]) rfl co_ref01_within (rfl) hw52 (c_ref01_within N wd51 F3 hw52.pers (x2) (x67.From) (x81.To) _ hr88) ?_
     intro v90 F6 w91 hs92 le93 hp94
     obtain rfl := hp94
     refine Dt 12 41 4 (.bool (!r87)) (fun _ hq => run_not (t := 4) (x := (.tmp 40)) (a := r87) rfl) ?_
     obtain rfl := some_inj h89
     exact DWP.done (by kernel_rfl) ⟨F6, hs92, le93, e30, e31, e32, e33, e34, e35, e36, rfl⟩
    ·rintro f w53 ⟨F5, hs54, le55, e57, e58, e59, e60, e61, e62, e63, e64⟩
     refine thenQ_nrm ?_
     refine CWP.cond (t := j56) (by kernel_rfl) e64 (fun hb95 => ?_) (fun hb95 => ?_)
     ·have h96 := cond_t h66 hb95
      refine CWP.exit (by kernel_rfl) ?_
      refine thenQ_ex ?_
      refine blockQ_hit rfl ?_
      refine thenQ_nrm ?_
      refine Rg [0, 1, 2] ?_
      refine V 27 3 (mv 12 (vi s26.2) e63) ?_
      refine V 28 3 (run_add (t := 3) (t' := 3) (x := (.tmp 27)) (y := (.const (vi 1))) (k := .i64) (a := s26.2) (b := 1) rfl rfl) ?_
      refine V 12 3 (ma 28 (vi (W64 (s26.2 + 1)))) ?_
      refine RWP.nil ?_
      have hn97 := iter_next h96 hnx48
      exact ⟨m45, Nat.lt_succ_self _, (s26.1, (W64 (s26.2 + 1))), F5, hn97, hs54, (le29.trans le55), e57, e58, e59, e60, e61, e62, rfl⟩
     ·have h98 := cond_f h66 hb95
      refine Sc ?_
      refine thenQ_nrm ?_
      refine Sq ?_
      refine Sq (Rg [0, 1, 2, 3, 4, 5, 6, 7, 8, 9, 10, 11, 12, 13] ?_)
      obtain ⟨j102, hj111, h112⟩ := bind_some h98
      refine RWP.cut (fun f w => ∃ (F7 : Mem), HS w0 F0 w F7 [] ∧ Mem.le F5 F7 ∧ f.d = [] ∧ f 0 = (.slice a0_0 x0.length n0_0) ∧ f 1 = (.string ⟨(x1).toArray⟩) ∧ f 2 = (vi x2) ∧ f 7 = (.string ⟨(j12).toArray⟩) ∧ f 11 = (vi s26.1) ∧ f 12 = (vi s26.2) ∧ f 55 = (.bool j102)) ?_ ?_
      ·refine V 42 61 (mv 0 (.slice a0_0 x0.length n0_0) e58) ?_
       refine V 43 3 (mv 12 (vi s26.2) e63) ?_
       obtain ⟨x113, hx114, h116⟩ := bind_some hj111
       obtain ⟨hi115, hx114'⟩ := idx_spec hx114
       obtain ⟨b117, o118, C119, E120, fz121, rfl, hF123, hE124⟩ := SlA.open (SlA.mono hs0_0 (((le7.trans le11).trans le29).trans le55)) hx114'
       have hc126 := hE124 _ _ hx114'
       refine V 44 0 (ix 61 42 43 b117 o118 71 7 64 hi115) ?_
       refine V 45 0 (fa 71 44 6 6 1 b117 (o118 + (s26.2 : Int).toNat * 7) ((o118 + (s26.2 : Int).toNat * 7) + 6)) ?_
       refine V 46 4 (lx 4 45 6 7 false 1 (.bool x113.Whole) (hs54.pers _ _ hF123) hc126) ?_
       refine V 47 4 (mv 46 (.bool x113.Whole)) ?_
       refine RWP.split x113.Whole (fun hb127 => ?_) (fun hb127 => ?_)
       ·have h128 := cond_t h116 hb127
        refine Vg 48 61 5 true 47 hb127 (mv 0 (.slice (some ⟨b117, o118, none⟩) x0.length n0_0) e58) ?_
        refine Vg 49 3 5 true 47 hb127 (mv 12 (vi s26.2) e63) ?_
        obtain ⟨x129, hx130, h132⟩ := bind_some h128
        obtain ⟨hi131, hx130'⟩ := idx_spec hx130
        have hc134 := hE124 _ _ hx130'
        refine Vg 50 0 5 true 47 hb127 (ix 61 48 49 b117 o118 71 7 64 hi131) ?_
        refine Vg 51 0 5 true 47 hb127 (fa 71 50 0 0 1 b117 (o118 + (s26.2 : Int).toNat * 7) (o118 + (s26.2 : Int).toNat * 7)) ?_
        refine Vg 52 9 5 true 47 hb127 (lx 9 51 0 7 false 1 (.string ⟨(x129.Text).toArray⟩) (hs54.pers _ _ hF123) hc134) ?_
        refine Vg 53 9 5 true 47 hb127 (mv 1 (.string ⟨(x1).toArray⟩) e59) ?_
        refine Vg 54 4 5 true 47 hb127 (run_scmp (t := 9) (t' := 9) (x := (.tmp 52)) (y := (.tmp 53)) (op := .eql) (a := x129.Text) (b := x1) (v := (x129.Text == x1)) rfl rfl rfl) ?_
        refine V 55 4 (p1 47 (.tmp 54) (.const (.bool false)) (.bool (x129.Text == x1)) hb127) ?_
        obtain rfl := some_inj h132
        exact RWP.nil ⟨rfl, F5, hs54, (Mem.le.refl _), e57, e58, e59, e60, e61, e62, e63, rfl⟩
       ·have h135 := cond_f h116 hb127
        refine Sk [48, 49, 50, 51, 52, 53, 54] 5 true 47 hb127 ?_
        refine V 55 4 (p0 47 (.tmp 54) (.const (.bool false)) (.bool false) hb127) ?_
        obtain rfl := some_inj h135
        exact RWP.nil ⟨rfl, F5, hs54, (Mem.le.refl _), e57, e58, e59, e60, e61, e62, e63, rfl⟩
      ·rintro f w99 ⟨F7, hs100, le101, e103, e104, e105, e106, e107, e108, e109, e110⟩
       refine thenQ_nrm ?_
       refine CWP.cond (t := j102) (by kernel_rfl) e110 (fun hb136 => ?_) (fun hb136 => ?_)
       ·have h137 := cond_t h112 hb136
        refine Sq (Rg [0, 1] ?_)
        refine V 56 3 (mv 12 (vi s26.2) e109) ?_
        refine V 6 3 (ma 56 (vi s26.2)) ?_
        refine Nt ?_
        refine CWP.ret (by kernel_rfl) ?_
        refine thenQ_ret ?_
        refine blockQ_ret ?_
        refine thenQ_ret ?_
        refine thenQ_ret ?_
        refine blockQ_ret ?_
        have hret := iter_ret h137 hnx48
        subst hret
        refine .inr ?_
        refine thenQ_ret ?_
        have hfin := some_inj h25
        subst hfin
        exact ⟨e103, (vi s26.2), res_of (l := [.tmp 6]) (by kernel_rfl) (vs := [(vi s26.2)]) ⟨rfl, trivial⟩, (vi s26.2), F7, rfl, hs100.clear, rfl⟩
       ·have h138 := cond_f h112 hb136
        refine Sc ?_
        refine thenQ_nrm ?_
        refine Sq ?_
        obtain ⟨j144, hj153, h154⟩ := bind_some h138
        refine CWP.regionD (by kernel_rfl) (by kernel_rfl) (by kernel_rfl) (by kernel_rfl) (z := 34) (F := F7) (Lc := []) (Lz := []) (l := [false, false, false, false, false, false, false, false, false, false, false, false, false, false, false, false, false, false, false, false, false, false, false, false, false, false, false, false, false, false, false, false, false, false]) (fuel := 34) (by kernel_rfl) (by kernel_rfl) hs100 (by simp) (by simp) (fun f w => ∃ (F8 : Mem), HS w0 F0 w F8 [] ∧ Mem.le F7 F8 ∧ f.d = [] ∧ f 0 = (.slice a0_0 x0.length n0_0) ∧ f 1 = (.string ⟨(x1).toArray⟩) ∧ f 2 = (vi x2) ∧ f 7 = (.string ⟨(j12).toArray⟩) ∧ f 11 = (vi s26.1) ∧ f 12 = (vi s26.2) ∧ f 90 = (.bool j144)) (fun wd139 hw140 => ?_) ?_
        ·refine Dtl 0 57 61 _ [tt, ff, ff, ff, ff, ff, ff, ff, ff, ff, ff, ff, ff, ff, ff, ff, ff, ff, ff, ff, ff, ff, ff, ff, ff, ff, ff, ff, ff, ff, ff, ff, ff, ff] (fun _ hq => mv 0 (.slice a0_0 x0.length n0_0) e104) ?_
         refine Dtl 1 58 3 _ [tt, tt, ff, ff, ff, ff, ff, ff, ff, ff, ff, ff, ff, ff, ff, ff, ff, ff, ff, ff, ff, ff, ff, ff, ff, ff, ff, ff, ff, ff, ff, ff, ff, ff] (fun _ hq => mv 12 (vi s26.2) e109) ?_
         obtain ⟨x155, hx156, h158⟩ := bind_some hj153
         obtain ⟨hi157, hx156'⟩ := idx_spec hx156
         obtain ⟨b159, o160, C161, E162, fz163, rfl, hF165, hE166⟩ := SlA.open (SlA.mono hs0_0 ((((le7.trans le11).trans le29).trans le55).trans le101)) hx156'
         have hc168 := hE166 _ _ hx156'
         refine Dtl 2 59 0 (.pointer (some ⟨b159, (o160 + (s26.2 : Int).toNat * 7), none⟩)) [tt, tt, tt, ff, ff, ff, ff, ff, ff, ff, ff, ff, ff, ff, ff, ff, ff, ff, ff, ff, ff, ff, ff, ff, ff, ff, ff, ff, ff, ff, ff, ff, ff, ff] (fun _ hq => ix 61 57 58 b159 o160 71 7 64 hi157) ?_
         refine Dtl 3 60 0 (.pointer (some ⟨b159, ((o160 + (s26.2 : Int).toNat * 7) + 6), none⟩)) [tt, tt, tt, tt, ff, ff, ff, ff, ff, ff, ff, ff, ff, ff, ff, ff, ff, ff, ff, ff, ff, ff, ff, ff, ff, ff, ff, ff, ff, ff, ff, ff, ff, ff] (fun _ hq => fa 71 59 6 6 1 b159 (o160 + (s26.2 : Int).toNat * 7) ((o160 + (s26.2 : Int).toNat * 7) + 6)) ?_
         refine Dtl 4 61 4 _ [tt, tt, tt, tt, tt, ff, ff, ff, ff, ff, ff, ff, ff, ff, ff, ff, ff, ff, ff, ff, ff, ff, ff, ff, ff, ff, ff, ff, ff, ff, ff, ff, ff, ff] (fun _ hq => lx 4 60 6 7 false 1 (.bool x155.Whole) (hq.1.1 _ _ hF165) hc168) ?_
         refine Dtl 5 62 4 (.bool (!x155.Whole)) [tt, tt, tt, tt, tt, tt, ff, ff, ff, ff, ff, ff, ff, ff, ff, ff, ff, ff, ff, ff, ff, ff, ff, ff, ff, ff, ff, ff, ff, ff, ff, ff, ff, ff] (fun _ hq => run_not (t := 4) (x := (.tmp 61)) (a := x155.Whole) rfl) ?_
         refine Dtl 6 63 4 _ [tt, tt, tt, tt, tt, tt, tt, ff, ff, ff, ff, ff, ff, ff, ff, ff, ff, ff, ff, ff, ff, ff, ff, ff, ff, ff, ff, ff, ff, ff, ff, ff, ff, ff] (fun _ hq => mv 62 (.bool (!x155.Whole))) ?_
         refine DWP.split (!x155.Whole) (fun hb169 => ?_) (fun hb169 => ?_)
         ·have h170 := cond_t h158 hb169
          refine Dgl 7 64 9 _ [tt, tt, tt, tt, tt, tt, tt, tt, ff, ff, ff, ff, ff, ff, ff, ff, ff, ff, ff, ff, ff, ff, ff, ff, ff, ff, ff, ff, ff, ff, ff, ff, ff, ff] 6 true 63 hb169 (fun _ hq => mv 7 (.string ⟨(j12).toArray⟩) e107) ?_
          refine Dgl 8 65 61 _ [tt, tt, tt, tt, tt, tt, tt, tt, tt, ff, ff, ff, ff, ff, ff, ff, ff, ff, ff, ff, ff, ff, ff, ff, ff, ff, ff, ff, ff, ff, ff, ff, ff, ff] 6 true 63 hb169 (fun _ hq => mv 0 (.slice (some ⟨b159, o160, none⟩) x0.length n0_0) e104) ?_
          refine Dgl 9 66 3 _ [tt, tt, tt, tt, tt, tt, tt, tt, tt, tt, ff, ff, ff, ff, ff, ff, ff, ff, ff, ff, ff, ff, ff, ff, ff, ff, ff, ff, ff, ff, ff, ff, ff, ff] 6 true 63 hb169 (fun _ hq => mv 12 (vi s26.2) e109) ?_
          obtain ⟨x171, hx172, h174⟩ := bind_some h170
          obtain ⟨hi173, hx172'⟩ := idx_spec hx172
          have hc176 := hE166 _ _ hx172'
          refine Dgl 10 67 0 (.pointer (some ⟨b159, (o160 + (s26.2 : Int).toNat * 7), none⟩)) [tt, tt, tt, tt, tt, tt, tt, tt, tt, tt, tt, ff, ff, ff, ff, ff, ff, ff, ff, ff, ff, ff, ff, ff, ff, ff, ff, ff, ff, ff, ff, ff, ff, ff] 6 true 63 hb169 (fun _ hq => ix 61 65 66 b159 o160 71 7 64 hi173) ?_
          refine Dgl 11 68 0 (.pointer (some ⟨b159, (o160 + (s26.2 : Int).toNat * 7), none⟩)) [tt, tt, tt, tt, tt, tt, tt, tt, tt, tt, tt, tt, ff, ff, ff, ff, ff, ff, ff, ff, ff, ff, ff, ff, ff, ff, ff, ff, ff, ff, ff, ff, ff, ff] 6 true 63 hb169 (fun _ hq => fa 71 67 0 0 1 b159 (o160 + (s26.2 : Int).toNat * 7) (o160 + (s26.2 : Int).toNat * 7)) ?_
          refine Dgl 12 69 9 _ [tt, tt, tt, tt, tt, tt, tt, tt, tt, tt, tt, tt, tt, ff, ff, ff, ff, ff, ff, ff, ff, ff, ff, ff, ff, ff, ff, ff, ff, ff, ff, ff, ff, ff] 6 true 63 hb169 (fun _ hq => lx 9 68 0 7 false 1 (.string ⟨(x171.Text).toArray⟩) (hq.1.1 _ _ hF165) hc176) ?_
          refine DWP.one (i := 13) (by kernel_rfl) ?_
          obtain ⟨r177, hr178, h179⟩ := bind_some h174
          refine DStep.call (l' := [true, true, true, true, true, true, true, true, true, true, true, true, true, true, false, false, false, false, false, false, false, false, false, false, false, false, false, false, false, false, false, false, false, false]) (zd := true) (by kernel_rfl) (by kernel_rfl) (by kernel_rfl) (dst := (some 70)) (ty := 4) (g := (some (6, true))) (by kernel_rfl) (gd_y (d := 63) (by kernel_rfl) rfl hb169) (f0 := (.func 127)) (aos := #[(.tmp 64), (.tmp 69)]) (ats := #[9, 9]) (fid := 127) (first := #[]) (cap := #[]) (args := [(.string ⟨(j12).toArray⟩), (.string ⟨(x171.Text).toArray⟩)]) rfl co_ref01_begins (rfl) hw140 (c_ref01_begins N wd139 F7 hw140.pers (j12) (x171.Text) _ hr178) ?_
          intro v180 F9 w181 hs182 le183 hp184
          obtain rfl := hp184
          refine Dtl 14 71 4 _ [tt, tt, tt, tt, tt, tt, tt, tt, tt, tt, tt, tt, tt, tt, tt, ff, ff, ff, ff, ff, ff, ff, ff, ff, ff, ff, ff, ff, ff, ff, ff, ff, ff, ff] (fun _ hq => p1 63 (.tmp 70) (.const (.bool false)) (.bool r177) hb169) ?_
          refine Dtl 15 72 4 _ [tt, tt, tt, tt, tt, tt, tt, tt, tt, tt, tt, tt, tt, tt, tt, tt, ff, ff, ff, ff, ff, ff, ff, ff, ff, ff, ff, ff, ff, ff, ff, ff, ff, ff] (fun _ hq => mv 71 (.bool r177)) ?_
          refine DWP.split r177 (fun hb185 => ?_) (fun hb185 => ?_)
          ·have h186 := cond_t h179 hb185
           refine Dgl 16 73 3 _ [tt, tt, tt, tt, tt, tt, tt, tt, tt, tt, tt, tt, tt, tt, tt, tt, tt, ff, ff, ff, ff, ff, ff, ff, ff, ff, ff, ff, ff, ff, ff, ff, ff, ff] 15 true 72 hb185 (fun _ hq => mv 11 (vi s26.1) e108) ?_
           refine Dgl 17 74 4 (.bool (decide (s26.1 < 0))) [tt, tt, tt, tt, tt, tt, tt, tt, tt, tt, tt, tt, tt, tt, tt, tt, tt, tt, ff, ff, ff, ff, ff, ff, ff, ff, ff, ff, ff, ff, ff, ff, ff, ff] 15 true 72 hb185 (fun _ hq => run_lss (t := 3) (t' := 3) (x := (.tmp 73)) (y := (.const (vi 0))) (k := .i64) (a := s26.1) (b := 0) rfl rfl) ?_
           refine Dgl 18 75 4 _ [tt, tt, tt, tt, tt, tt, tt, tt, tt, tt, tt, tt, tt, tt, tt, tt, tt, tt, tt, ff, ff, ff, ff, ff, ff, ff, ff, ff, ff, ff, ff, ff, ff, ff] 15 true 72 hb185 (fun _ hq => mv 74 (.bool (decide (s26.1 < 0)))) ?_
           refine DWP.split (decide (s26.1 < 0)) (fun hb187 => ?_) (fun hb187 => ?_)
           ·have h188 := cond_t h186 hb187
            refine Dkl [(19, 76), (20, 77), (21, 78), (22, 79), (23, 80), (24, 81)] 18 false 75 hb187 [tt, tt, tt, tt, tt, tt, tt, tt, tt, tt, tt, tt, tt, tt, tt, tt, tt, tt, tt, tt, tt, tt, tt, tt, tt, ff, ff, ff, ff, ff, ff, ff, ff, ff] ?_
            refine Dkl [(25, 82), (26, 83), (27, 84), (28, 85), (29, 86), (30, 87)] 18 false 75 hb187 [tt, tt, tt, tt, tt, tt, tt, tt, tt, tt, tt, tt, tt, tt, tt, tt, tt, tt, tt, tt, tt, tt, tt, tt, tt, tt, tt, tt, tt, tt, tt, ff, ff, ff] ?_
            refine Dkl [(31, 88)] 18 false 75 hb187 [tt, tt, tt, tt, tt, tt, tt, tt, tt, tt, tt, tt, tt, tt, tt, tt, tt, tt, tt, tt, tt, tt, tt, tt, tt, tt, tt, tt, tt, tt, tt, tt, ff, ff] ?_
            refine Dgl 32 89 4 _ [tt, tt, tt, tt, tt, tt, tt, tt, tt, tt, tt, tt, tt, tt, tt, tt, tt, tt, tt, tt, tt, tt, tt, tt, tt, tt, tt, tt, tt, tt, tt, tt, tt, ff] 15 true 72 hb185 (fun _ hq => p1 75 (.const (.bool true)) (.tmp 88) (.bool true) hb187) ?_
            refine Dtl 33 90 4 _ [tt, tt, tt, tt, tt, tt, tt, tt, tt, tt, tt, tt, tt, tt, tt, tt, tt, tt, tt, tt, tt, tt, tt, tt, tt, tt, tt, tt, tt, tt, tt, tt, tt, tt] (fun _ hq => p1 72 (.tmp 89) (.const (.bool false)) (.bool true) hb185) ?_
            obtain rfl := some_inj h188
            exact DWP.done (by kernel_rfl) ⟨F9, hs182, le183, e103, e104, e105, e106, e107, e108, e109, rfl⟩
           ·have h189 := cond_f h186 hb187
            refine Dgl 19 76 61 _ [tt, tt, tt, tt, tt, tt, tt, tt, tt, tt, tt, tt, tt, tt, tt, tt, tt, tt, tt, tt, ff, ff, ff, ff, ff, ff, ff, ff, ff, ff, ff, ff, ff, ff] 18 false 75 hb187 (fun _ hq => mv 0 (.slice (some ⟨b159, o160, none⟩) x0.length n0_0) e104) ?_
            refine Dgl 20 77 3 _ [tt, tt, tt, tt, tt, tt, tt, tt, tt, tt, tt, tt, tt, tt, tt, tt, tt, tt, tt, tt, tt, ff, ff, ff, ff, ff, ff, ff, ff, ff, ff, ff, ff, ff] 18 false 75 hb187 (fun _ hq => mv 12 (vi s26.2) e109) ?_
            obtain ⟨x190, hx191, h193⟩ := bind_some h189
            obtain ⟨hi192, hx191'⟩ := idx_spec hx191
            have hc195 := hE166 _ _ hx191'
            refine Dgl 21 78 0 (.pointer (some ⟨b159, (o160 + (s26.2 : Int).toNat * 7), none⟩)) [tt, tt, tt, tt, tt, tt, tt, tt, tt, tt, tt, tt, tt, tt, tt, tt, tt, tt, tt, tt, tt, tt, ff, ff, ff, ff, ff, ff, ff, ff, ff, ff, ff, ff] 18 false 75 hb187 (fun _ hq => ix 61 76 77 b159 o160 71 7 64 hi192) ?_
            refine Dgl 22 79 0 (.pointer (some ⟨b159, (o160 + (s26.2 : Int).toNat * 7), none⟩)) [tt, tt, tt, tt, tt, tt, tt, tt, tt, tt, tt, tt, tt, tt, tt, tt, tt, tt, tt, tt, tt, tt, tt, ff, ff, ff, ff, ff, ff, ff, ff, ff, ff, ff] 18 false 75 hb187 (fun _ hq => fa 71 78 0 0 1 b159 (o160 + (s26.2 : Int).toNat * 7) (o160 + (s26.2 : Int).toNat * 7)) ?_
            refine Dgl 23 80 9 _ [tt, tt, tt, tt, tt, tt, tt, tt, tt, tt, tt, tt, tt, tt, tt, tt, tt, tt, tt, tt, tt, tt, tt, tt, ff, ff, ff, ff, ff, ff, ff, ff, ff, ff] 18 false 75 hb187 (fun _ hq => lx 9 79 0 7 false 1 (.string ⟨(x190.Text).toArray⟩) (hq.1.1 _ _ hF165) hc195) ?_
            refine Dgl 24 81 3 (vi (x190.Text.length : Int)) [tt, tt, tt, tt, tt, tt, tt, tt, tt, tt, tt, tt, tt, tt, tt, tt, tt, tt, tt, tt, tt, tt, tt, tt, tt, ff, ff, ff, ff, ff, ff, ff, ff, ff] 18 false 75 hb187 (fun _ hq => run_slen (x := (.tmp 80)) (ats := #[9]) (t := 9) (a := x190.Text) rfl rfl (by kernel_rfl)) ?_
            refine Dgl 25 82 61 _ [tt, tt, tt, tt, tt, tt, tt, tt, tt, tt, tt, tt, tt, tt, tt, tt, tt, tt, tt, tt, tt, tt, tt, tt, tt, tt, ff, ff, ff, ff, ff, ff, ff, ff] 18 false 75 hb187 (fun _ hq => mv 0 (.slice (some ⟨b159, o160, none⟩) x0.length n0_0) e104) ?_
            refine Dgl 26 83 3 _ [tt, tt, tt, tt, tt, tt, tt, tt, tt, tt, tt, tt, tt, tt, tt, tt, tt, tt, tt, tt, tt, tt, tt, tt, tt, tt, tt, ff, ff, ff, ff, ff, ff, ff] 18 false 75 hb187 (fun _ hq => mv 11 (vi s26.1) e108) ?_
            obtain ⟨x196, hx197, h199⟩ := bind_some h193
            obtain ⟨hi198, hx197'⟩ := idx_spec hx197
            have hc201 := hE166 _ _ hx197'
            refine Dgl 27 84 0 (.pointer (some ⟨b159, (o160 + (s26.1 : Int).toNat * 7), none⟩)) [tt, tt, tt, tt, tt, tt, tt, tt, tt, tt, tt, tt, tt, tt, tt, tt, tt, tt, tt, tt, tt, tt, tt, tt, tt, tt, tt, tt, ff, ff, ff, ff, ff, ff] 18 false 75 hb187 (fun _ hq => ix 61 82 83 b159 o160 71 7 64 hi198) ?_
            refine Dgl 28 85 0 (.pointer (some ⟨b159, (o160 + (s26.1 : Int).toNat * 7), none⟩)) [tt, tt, tt, tt, tt, tt, tt, tt, tt, tt, tt, tt, tt, tt, tt, tt, tt, tt, tt, tt, tt, tt, tt, tt, tt, tt, tt, tt, tt, ff, ff, ff, ff, ff] 18 false 75 hb187 (fun _ hq => fa 71 84 0 0 1 b159 (o160 + (s26.1 : Int).toNat * 7) (o160 + (s26.1 : Int).toNat * 7)) ?_
            refine Dgl 29 86 9 _ [tt, tt, tt, tt, tt, tt, tt, tt, tt, tt, tt, tt, tt, tt, tt, tt, tt, tt, tt, tt, tt, tt, tt, tt, tt, tt, tt, tt, tt, tt, ff, ff, ff, ff] 18 false 75 hb187 (fun _ hq => lx 9 85 0 7 false 1 (.string ⟨(x196.Text).toArray⟩) (hq.1.1 _ _ hF165) hc201) ?_
            refine Dgl 30 87 3 (vi (x196.Text.length : Int)) [tt, tt, tt, tt, tt, tt, tt, tt, tt, tt, tt, tt, tt, tt, tt, tt, tt, tt, tt, tt, tt, tt, tt, tt, tt, tt, tt, tt, tt, tt, tt, ff, ff, ff] 18 false 75 hb187 (fun _ hq => run_slen (x := (.tmp 86)) (ats := #[9]) (t := 9) (a := x196.Text) rfl rfl (by kernel_rfl)) ?_
            refine Dgl 31 88 4 (.bool (decide ((x190.Text.length : Int) > (x196.Text.length : Int)))) [tt, tt, tt, tt, tt, tt, tt, tt, tt, tt, tt, tt, tt, tt, tt, tt, tt, tt, tt, tt, tt, tt, tt, tt, tt, tt, tt, tt, tt, tt, tt, tt, ff, ff] 18 false 75 hb187 (fun _ hq => run_gtr (t := 3) (t' := 3) (x := (.tmp 81)) (y := (.tmp 87)) (k := .i64) (a := (x190.Text.length : Int)) (b := (x196.Text.length : Int)) rfl rfl) ?_
            refine Dgl 32 89 4 _ [tt, tt, tt, tt, tt, tt, tt, tt, tt, tt, tt, tt, tt, tt, tt, tt, tt, tt, tt, tt, tt, tt, tt, tt, tt, tt, tt, tt, tt, tt, tt, tt, tt, ff] 15 true 72 hb185 (fun _ hq => p0 75 (.const (.bool true)) (.tmp 88) (.bool (decide ((x190.Text.length : Int) > (x196.Text.length : Int)))) hb187) ?_
            refine Dtl 33 90 4 _ [tt, tt, tt, tt, tt, tt, tt, tt, tt, tt, tt, tt, tt, tt, tt, tt, tt, tt, tt, tt, tt, tt, tt, tt, tt, tt, tt, tt, tt, tt, tt, tt, tt, tt] (fun _ hq => p1 72 (.tmp 89) (.const (.bool false)) (.bool (decide ((x190.Text.length : Int) > (x196.Text.length : Int)))) hb185) ?_
            obtain rfl := some_inj h199
            exact DWP.done (by kernel_rfl) ⟨F9, hs182, le183, e103, e104, e105, e106, e107, e108, e109, rfl⟩
          ·have h202 := cond_f h179 hb185
           refine Dkl [(16, 73), (17, 74), (18, 75)] 15 true 72 hb185 [tt, tt, tt, tt, tt, tt, tt, tt, tt, tt, tt, tt, tt, tt, tt, tt, tt, tt, tt, ff, ff, ff, ff, ff, ff, ff, ff, ff, ff, ff, ff, ff, ff, ff] ?_
           refine Dul [(19, 76), (20, 77), (21, 78), (22, 79), (23, 80), (24, 81)] 18 false 75 [tt, tt, tt, tt, tt, tt, tt, tt, tt, tt, tt, tt, tt, tt, tt, tt, tt, tt, tt, tt, tt, tt, tt, tt, tt, ff, ff, ff, ff, ff, ff, ff, ff, ff] ?_
           refine Dul [(25, 82), (26, 83), (27, 84), (28, 85), (29, 86), (30, 87)] 18 false 75 [tt, tt, tt, tt, tt, tt, tt, tt, tt, tt, tt, tt, tt, tt, tt, tt, tt, tt, tt, tt, tt, tt, tt, tt, tt, tt, tt, tt, tt, tt, tt, ff, ff, ff] ?_
           refine Dul [(31, 88)] 18 false 75 [tt, tt, tt, tt, tt, tt, tt, tt, tt, tt, tt, tt, tt, tt, tt, tt, tt, tt, tt, tt, tt, tt, tt, tt, tt, tt, tt, tt, tt, tt, tt, tt, ff, ff] ?_
           refine Dkl [(32, 89)] 15 true 72 hb185 [tt, tt, tt, tt, tt, tt, tt, tt, tt, tt, tt, tt, tt, tt, tt, tt, tt, tt, tt, tt, tt, tt, tt, tt, tt, tt, tt, tt, tt, tt, tt, tt, tt, ff] ?_
           refine Dtl 33 90 4 _ [tt, tt, tt, tt, tt, tt, tt, tt, tt, tt, tt, tt, tt, tt, tt, tt, tt, tt, tt, tt, tt, tt, tt, tt, tt, tt, tt, tt, tt, tt, tt, tt, tt, tt] (fun _ hq => p0 72 (.tmp 89) (.const (.bool false)) (.bool false) hb185) ?_
           obtain rfl := some_inj h202
           exact DWP.done (by kernel_rfl) ⟨F9, hs182, le183, e103, e104, e105, e106, e107, e108, e109, rfl⟩
         ·have h203 := cond_f h158 hb169
          refine Dkl [(7, 64), (8, 65), (9, 66), (10, 67), (11, 68), (12, 69)] 6 true 63 hb169 [tt, tt, tt, tt, tt, tt, tt, tt, tt, tt, tt, tt, tt, ff, ff, ff, ff, ff, ff, ff, ff, ff, ff, ff, ff, ff, ff, ff, ff, ff, ff, ff, ff, ff] ?_
          refine Dkl [(13, 70)] 6 true 63 hb169 [tt, tt, tt, tt, tt, tt, tt, tt, tt, tt, tt, tt, tt, tt, ff, ff, ff, ff, ff, ff, ff, ff, ff, ff, ff, ff, ff, ff, ff, ff, ff, ff, ff, ff] ?_
          refine Dtl 14 71 4 _ [tt, tt, tt, tt, tt, tt, tt, tt, tt, tt, tt, tt, tt, tt, tt, ff, ff, ff, ff, ff, ff, ff, ff, ff, ff, ff, ff, ff, ff, ff, ff, ff, ff, ff] (fun _ hq => p0 63 (.tmp 70) (.const (.bool false)) (.bool false) hb169) ?_
          refine Dtl 15 72 4 _ [tt, tt, tt, tt, tt, tt, tt, tt, tt, tt, tt, tt, tt, tt, tt, tt, ff, ff, ff, ff, ff, ff, ff, ff, ff, ff, ff, ff, ff, ff, ff, ff, ff, ff] (fun _ hq => mv 71 (.bool false)) ?_
          refine Dkl [(16, 73), (17, 74), (18, 75)] 15 true 72 rfl [tt, tt, tt, tt, tt, tt, tt, tt, tt, tt, tt, tt, tt, tt, tt, tt, tt, tt, tt, ff, ff, ff, ff, ff, ff, ff, ff, ff, ff, ff, ff, ff, ff, ff] ?_
          refine Dul [(19, 76), (20, 77), (21, 78), (22, 79), (23, 80), (24, 81)] 18 false 75 [tt, tt, tt, tt, tt, tt, tt, tt, tt, tt, tt, tt, tt, tt, tt, tt, tt, tt, tt, tt, tt, tt, tt, tt, tt, ff, ff, ff, ff, ff, ff, ff, ff, ff] ?_
          refine Dul [(25, 82), (26, 83), (27, 84), (28, 85), (29, 86), (30, 87)] 18 false 75 [tt, tt, tt, tt, tt, tt, tt, tt, tt, tt, tt, tt, tt, tt, tt, tt, tt, tt, tt, tt, tt, tt, tt, tt, tt, tt, tt, tt, tt, tt, tt, ff, ff, ff] ?_
          refine Dul [(31, 88)] 18 false 75 [tt, tt, tt, tt, tt, tt, tt, tt, tt, tt, tt, tt, tt, tt, tt, tt, tt, tt, tt, tt, tt, tt, tt, tt, tt, tt, tt, tt, tt, tt, tt, tt, ff, ff] ?_
          refine Dkl [(32, 89)] 15 true 72 rfl [tt, tt, tt, tt, tt, tt, tt, tt, tt, tt, tt, tt, tt, tt, tt, tt, tt, tt, tt, tt, tt, tt, tt, tt, tt, tt, tt, tt, tt, tt, tt, tt, tt, ff] ?_
          refine Dtl 33 90 4 _ [tt, tt, tt, tt, tt, tt, tt, tt, tt, tt, tt, tt, tt, tt, tt, tt, tt, tt, tt, tt, tt, tt, tt, tt, tt, tt, tt, tt, tt, tt, tt, tt, tt, tt] (fun _ hq => p0 72 (.tmp 89) (.const (.bool false)) (.bool false) rfl) ?_
          obtain rfl := some_inj h203
          exact DWP.done (by kernel_rfl) ⟨F7, hw140, (Mem.le.refl _), e103, e104, e105, e106, e107, e108, e109, rfl⟩
        ·rintro f w141 ⟨F8, hs142, le143, e145, e146, e147, e148, e149, e150, e151, e152⟩
         refine thenQ_nrm ?_
         refine CWP.cut (fun f w => ∃ (F10 : Mem), HS w0 F0 w F10 [] ∧ Mem.le F8 F10 ∧ f.d = [] ∧ f 0 = (.slice a0_0 x0.length n0_0) ∧ f 1 = (.string ⟨(x1).toArray⟩) ∧ f 2 = (vi x2) ∧ f 7 = (.string ⟨(j12).toArray⟩) ∧ f 11 = (vi (bif j144 then s26.2 else s26.1)) ∧ f 12 = (vi s26.2)) ?_ ?_
         ·refine CWP.cond (t := j144) (by kernel_rfl) e152 (fun hb214 => ?_) (fun hb214 => ?_)
          ·refine Rg [0, 1] ?_
           refine V 91 3 (mv 12 (vi s26.2) e151) ?_
           refine V 11 3 (ma 91 (vi s26.2)) ?_
           refine RWP.nil ?_
           exact .inl ⟨rfl, F8, hs142, (Mem.le.refl _), e145, e146, e147, e148, e149, (congrArg (Value.int .i64) (bif_t hb214 (rfl))), e151⟩
          ·refine Sc ?_
           exact .inl ⟨rfl, F8, hs142, (Mem.le.refl _), e145, e146, e147, e148, e149, (e150.trans (congrArg (Value.int .i64) (bif_f hb214 (rfl)))), e151⟩
         ·rintro f w204 ⟨F10, hs205, le206, e207, e208, e209, e210, e211, e212, e213⟩
          refine blockQ_nrm ?_
          refine thenQ_nrm ?_
          refine Rg [0, 1, 2] ?_
          refine V 27 3 (mv 12 (vi s26.2) e213) ?_
          refine V 28 3 (run_add (t := 3) (t' := 3) (x := (.tmp 27)) (y := (.const (vi 1))) (k := .i64) (a := s26.2) (b := 1) rfl rfl) ?_
          refine V 12 3 (ma 28 (vi (W64 (s26.2 + 1)))) ?_
          refine RWP.nil ?_
          have hn215 := iter_next h154 hnx48
          exact ⟨m45, Nat.lt_succ_self _, ((bif j144 then s26.2 else s26.1), (W64 (s26.2 + 1))), F10, hn215, hs205, ((((le29.trans le55).trans le101).trans le143).trans le206), e207, e208, e209, e210, e211, e212, rfl⟩
   ·have h216 := cond_f hb47 hb49
    refine CWP.exit (by kernel_rfl) ?_
    refine thenQ_ex ?_
    refine thenQ_ex ?_
    refine blockQ_hit rfl ?_
    have ho217 := iter_done h216 hnx48
    exact .inl ⟨rfl, (s26.1, s26.2), F3, ho217, hs28, le29, e30, e35⟩
  ·rintro f w38 ⟨s37, F4, rfl, hs39, le40, e41, e42⟩
   have h218 := k_done h25
   refine thenQ_nrm ?_
   refine Sq (Rg [0, 1] ?_)
   refine V 92 3 (mv 11 (vi s37.1) e42) ?_
   refine V 6 3 (ma 92 (vi s37.1)) ?_
   refine Nt ?_
   refine CWP.ret (by kernel_rfl) ?_
   have hfin := some_inj h218
   subst hfin
   exact ⟨e41, (vi s37.1), res_of (l := [.tmp 6]) (by kernel_rfl) (vs := [(vi s37.1)]) ⟨rfl, trivial⟩, (vi s37.1), F4, rfl, hs39.clear, rfl⟩
end Go.Proofs.YtlddakefmfcblaaGreatDoor
namespace Go.Proofs.YtlddakefmfcblaaGreatDoor
open Go.Proofs
end Go.Proofs.YtlddakefmfcblaaGreatDoor
namespace Go.Proofs.YtlddakefmfcblaaGreatDoor
open Go.Proofs
def air_placeOf (N : Nat) (x0 : Prefix) : Option Place :=
 some ({ Country := x0.Country, Zone := x0.Zone, Continent := x0.Continent } : Place)
theorem co_air_placeOf : CallOk Tryz.prog 100 := fun _ _ => by kernel_rfl
set_option maxHeartbeats 4000000 in
set_option maxRecDepth 100000 in
theorem c_air_placeOf (N : Nat) (w0 : World) (F0 : Mem) (hF : ∀ b o, F0 b = some o → w0.heap[b]? = some o) (x0 : Prefix) (r : Place) (h : air_placeOf N x0 = some r) :
  Calls Tryz.prog 100 ([(.agg #[(.string ⟨(x0.Text).toArray⟩), (vi x0.Country), (vi x0.Zone), (vi x0.Continent), (vi x0.From), (vi x0.To), (.bool x0.Whole)])] : List Value).toArray w0 (FRet w0 F0 fun F' v => v = (.agg #[(vi r.Country), (vi r.Zone), (vi r.Continent)])) := by
 have hs0 := HS.start hF
 refine calls_of (n := 10) (c := bodyOf Tryz.f100) Tryz.func100 (by kernel_rfl) (by kernel_rfl) (by kernel_rfl) ?_
 refine Sq (Rg [0, 1] ?_)
 refine Bx 1 0 0 71 #[(.string ⟨(x0.Text).toArray⟩), (vi x0.Country), (vi x0.Zone), (vi x0.Continent), (vi x0.From), (vi x0.To), (.bool x0.Whole)] hs0 (fun b1 w2 (hs3 : HS w0 F0 w2 F0 [(sb b1 #[(.string ⟨(x0.Text).toArray⟩), (vi x0.Country), (vi x0.Zone), (vi x0.Continent), (vi x0.From), (vi x0.To), (.bool x0.Whole)] 71)]) => ?_)
 refine Al 2 0 65 #[(vi 0), (vi 0), (vi 0)] hs3 (fun b4 w5 (hs6 : HS w0 F0 w5 F0 [(sb b4 #[(vi 0), (vi 0), (vi 0)] 65), (sb b1 #[(.string ⟨(x0.Text).toArray⟩), (vi x0.Country), (vi x0.Zone), (vi x0.Continent), (vi x0.From), (vi x0.To), (.bool x0.Whole)] 71)]) => ?_)
 refine Nss (Rg [0, 1, 2, 3, 4, 5, 6, 7] ?_)
 refine V 3 0 (fa 71 1 1 1 1 b1 0 1) ?_
 refine V 4 3 (ld 3 3 b1 1 false 1 (vi x0.Country) (hs6.ownAt (k := 1) rfl)) ?_
 refine V 5 0 (fa 71 1 2 2 1 b1 0 2) ?_
 refine V 6 3 (ld 3 5 b1 2 false 1 (vi x0.Zone) (hs6.ownAt (k := 1) rfl)) ?_
 refine V 7 0 (fa 71 1 3 3 1 b1 0 3) ?_
 refine V 8 3 (ld 3 7 b1 3 false 1 (vi x0.Continent) (hs6.ownAt (k := 1) rfl)) ?_
 refine V 9 65 (run_build2 (t := 65) (parts := #[(0, (.tmp 4)), (1, (.tmp 6)), (2, (.tmp 8))]) (vs := [(0, (vi x0.Country)), (1, (vi x0.Zone)), (2, (vi x0.Continent))]) (rfl) (cs := [(vi x0.Country), (vi x0.Zone), (vi x0.Continent)]) (by kernel_rfl)) ?_
 refine RWP.store (ty := 0) (g := none) (by kernel_rfl) rfl (x := (.tmp 2)) (y := (.tmp 9)) (t := 65) (gg := true) (s := 3) (v := (.agg #[(vi x0.Country), (vi x0.Zone), (vi x0.Continent)])) (b := b4) (o := 0) (C := #[(vi 0), (vi 0), (vi 0)]) rfl rfl (by kernel_rfl) hs6 (k := 0) rfl rfl rfl rfl (C' := #[(vi x0.Country), (vi x0.Zone), (vi x0.Continent)]) rfl (fun w7 (hs8 : HS w0 F0 w7 F0 [(sb b4 #[(vi x0.Country), (vi x0.Zone), (vi x0.Continent)] 65), (sb b1 #[(.string ⟨(x0.Text).toArray⟩), (vi x0.Country), (vi x0.Zone), (vi x0.Continent), (vi x0.From), (vi x0.To), (.bool x0.Whole)] 71)]) => ?_)
 refine Nt ?_
 refine CWP.ret (by kernel_rfl) ?_
 have hfin := some_inj h
 subst hfin
 exact ⟨rfl, (.agg #[(vi x0.Country), (vi x0.Zone), (vi x0.Continent)]), res_of (l := [.cell 2 65]) (by kernel_rfl) (vs := [(.agg #[(vi x0.Country), (vi x0.Zone), (vi x0.Continent)])]) ⟨b4, 0, rfl, run_loadVar' (t := 65) (g := true) (s := 3) (by kernel_rfl) (hs8.ownAt (k := 0) rfl) rfl (by decide), trivial⟩, (.agg #[(vi x0.Country), (vi x0.Zone), (vi x0.Continent)]), F0, rfl, hs8.clear, rfl⟩
end Go.Proofs.YtlddakefmfcblaaGreatDoor
namespace Go.Proofs.YtlddakefmfcblaaGreatDoor
open Go.Proofs
end Go.Proofs.YtlddakefmfcblaaGreatDoor
namespace Go.Proofs.YtlddakefmfcblaaGreatDoor
open Go.Proofs
def ref01_place (N : Nat) (x0 : (List Prefix)) (x1 : (List UInt8)) (x2 : Int) : Option Place :=
 ((ref01_find N x0 x1 x2).bind fun r4 => (bif (decide (r4 < 0)) then some ({ Country := 0, Zone := 0, Continent := 0 } : Place) else (((idx x0 r4).bind fun x27 => ((idx x0 r4).bind fun x41 => ((idx x0 r4).bind fun x47 => some (x27.Country, x41.Zone, x47.Continent)))).bind fun j22 => some ({ Country := j22.1, Zone := j22.2.1, Continent := j22.2.2 } : Place))))
theorem co_ref01_place : CallOk Tryz.prog 101 := fun _ _ => by kernel_rfl
set_option maxHeartbeats 4000000 in
set_option maxRecDepth 100000 in
theorem c_ref01_place (N : Nat) (w0 : World) (F0 : Mem) (hF : ∀ b o, F0 b = some o → w0.heap[b]? = some o) (x0 : (List Prefix)) (a0_0 : Option Addr) (n0_0 : Nat) (hb0_0 : LC x0.length n0_0) (hs0_0 : SlA tPrefix F0 a0_0 x0) (x1 : (List UInt8)) (x2 : Int) (r : Place) (h : ref01_place N x0 x1 x2 = some r) :
  Calls Tryz.prog 101 ([(.slice a0_0 x0.length n0_0), (.string ⟨(x1).toArray⟩), (vi x2)] : List Value).toArray w0 (FRet w0 F0 fun F' v => v = (.agg #[(vi r.Country), (vi r.Zone), (vi r.Continent)])) := by
 have hs0 := HS.start hF
 refine calls_of (n := 31) (c := bodyOf Tryz.f101) Tryz.func101 (by kernel_rfl) (by kernel_rfl) (by kernel_rfl) ?_
 refine Sq (Rg [0] ?_)
 refine Al 6 0 65 #[(vi 0), (vi 0), (vi 0)] hs0 (fun b1 w2 (hs3 : HS w0 F0 w2 F0 [(sb b1 #[(vi 0), (vi 0), (vi 0)] 65)]) => ?_)
 refine Nss (Rg [0, 1, 2, 3, 4] ?_)
 refine V 8 61 (mv 0 (.slice a0_0 x0.length n0_0)) ?_
 refine V 9 9 (mv 1 (.string ⟨(x1).toArray⟩)) ?_
 refine V 10 3 (mv 2 (vi x2)) ?_
 obtain ⟨r4, hr5, h6⟩ := bind_some h
 refine Cl 11 3 99 #[(.tmp 8), (.tmp 9), (.tmp 10)] #[61, 9, 3] co_ref01_find hs3 (c_ref01_find N w2 F0 hs3.pers (x0) a0_0 n0_0 hb0_0 hs0_0 (x1) (x2) _ hr5) ?_
 intro v7 F1 w8 hs9 le10 hp11
 obtain rfl := hp11
 refine V 7 3 (ma 11 (vi r4)) ?_
 refine Nss ?_
 refine Sq (Rg [0, 1] ?_)
 refine V 12 3 (mv 7 (vi r4)) ?_
 refine V 13 4 (run_lss (t := 3) (t' := 3) (x := (.tmp 12)) (y := (.const (vi 0))) (k := .i64) (a := r4) (b := 0) rfl rfl) ?_
 refine Nt ?_
 refine CWP.cond (t := (decide (r4 < 0))) (by kernel_rfl) rfl (fun hb12 => ?_) (fun hb12 => ?_)
 ·have h13 := cond_t h6 hb12
  refine Sq (Rg [0, 1] ?_)
  refine V 14 65 (run_build2 (t := 65) (parts := #[]) (vs := []) (rfl) (cs := [(vi 0), (vi 0), (vi 0)]) (by kernel_rfl)) ?_
  refine RWP.store (ty := 0) (g := none) (by kernel_rfl) rfl (x := (.tmp 6)) (y := (.tmp 14)) (t := 65) (gg := true) (s := 3) (v := (.agg #[(vi 0), (vi 0), (vi 0)])) (b := b1) (o := 0) (C := #[(vi 0), (vi 0), (vi 0)]) rfl rfl (by kernel_rfl) hs9 (k := 0) rfl rfl rfl rfl (C' := #[(vi 0), (vi 0), (vi 0)]) rfl (fun w14 (hs15 : HS w0 F0 w14 F1 [(sb b1 #[(vi 0), (vi 0), (vi 0)] 65)]) => ?_)
  refine Nt ?_
  refine CWP.ret (by kernel_rfl) ?_
  refine thenQ_ret ?_
  have hfin := some_inj h13
  subst hfin
  exact ⟨rfl, (.agg #[(vi 0), (vi 0), (vi 0)]), res_of (l := [.cell 6 65]) (by kernel_rfl) (vs := [(.agg #[(vi 0), (vi 0), (vi 0)])]) ⟨b1, 0, rfl, run_loadVar' (t := 65) (g := true) (s := 3) (by kernel_rfl) (hs15.ownAt (k := 0) rfl) rfl (by decide), trivial⟩, (.agg #[(vi 0), (vi 0), (vi 0)]), F1, rfl, hs15.clear, rfl⟩
 ·have h16 := cond_f h6 hb12
  refine Sc ?_
  refine thenQ_nrm ?_
  refine Sq ?_
  obtain ⟨j22, hj25, h26⟩ := bind_some h16
  refine CWP.regionD (by kernel_rfl) (by kernel_rfl) (by kernel_rfl) (by kernel_rfl) (z := 16) (F := F1) (Lc := []) (Lz := [(sb b1 #[(vi 0), (vi 0), (vi 0)] 65)]) (l := [false, false, false, false, false, false, false, false, false, false, false, false, false, false, false, false, false]) (fuel := 17) (by kernel_rfl) (by kernel_rfl) hs9 (by simp) (by simp) (fun f w => ∃ (F2 : Mem), HS w0 F0 w F2 [(sb b1 #[(vi j22.1), (vi j22.2.1), (vi j22.2.2)] 65)] ∧ Mem.le F1 F2 ∧ f.d = [] ∧ f 6 = (.pointer (some ⟨b1, 0, none⟩))) (fun wd17 hw18 => ?_) ?_
  ·refine Df 0 15 61 _ (fun _ hq => mv 0 (.slice a0_0 x0.length n0_0)) ?_
   refine Df 1 16 3 _ (fun _ hq => mv 7 (vi r4)) ?_
   obtain ⟨x27, hx28, h30⟩ := bind_some hj25
   obtain ⟨hi29, hx28'⟩ := idx_spec hx28
   obtain ⟨b31, o32, C33, E34, fz35, rfl, hF37, hE38⟩ := SlA.open (SlA.mono hs0_0 le10) hx28'
   have hc40 := hE38 _ _ hx28'
   refine Df 2 17 0 (.pointer (some ⟨b31, (o32 + (r4 : Int).toNat * 7), none⟩)) (fun _ hq => ix 61 15 16 b31 o32 71 7 64 hi29) ?_
   refine Df 3 18 0 (.pointer (some ⟨b31, ((o32 + (r4 : Int).toNat * 7) + 1), none⟩)) (fun _ hq => fa 71 17 1 1 1 b31 (o32 + (r4 : Int).toNat * 7) ((o32 + (r4 : Int).toNat * 7) + 1)) ?_
   refine Df 4 19 3 _ (fun _ hq => lx 3 18 1 7 false 1 (vi x27.Country) (hq.1.1 _ _ hF37) hc40) ?_
   refine Df 5 20 61 _ (fun _ hq => mv 0 (.slice (some ⟨b31, o32, none⟩) x0.length n0_0)) ?_
   refine Df 6 21 3 _ (fun _ hq => mv 7 (vi r4)) ?_
   obtain ⟨x41, hx42, h44⟩ := bind_some h30
   obtain ⟨hi43, hx42'⟩ := idx_spec hx42
   have hc46 := hE38 _ _ hx42'
   refine Df 7 22 0 (.pointer (some ⟨b31, (o32 + (r4 : Int).toNat * 7), none⟩)) (fun _ hq => ix 61 20 21 b31 o32 71 7 64 hi43) ?_
   refine Df 8 23 0 (.pointer (some ⟨b31, ((o32 + (r4 : Int).toNat * 7) + 2), none⟩)) (fun _ hq => fa 71 22 2 2 1 b31 (o32 + (r4 : Int).toNat * 7) ((o32 + (r4 : Int).toNat * 7) + 2)) ?_
   refine Df 9 24 3 _ (fun _ hq => lx 3 23 2 7 false 1 (vi x41.Zone) (hq.1.1 _ _ hF37) hc46) ?_
   refine Df 10 25 61 _ (fun _ hq => mv 0 (.slice (some ⟨b31, o32, none⟩) x0.length n0_0)) ?_
   refine Df 11 26 3 _ (fun _ hq => mv 7 (vi r4)) ?_
   obtain ⟨x47, hx48, h50⟩ := bind_some h44
   obtain ⟨hi49, hx48'⟩ := idx_spec hx48
   have hc52 := hE38 _ _ hx48'
   refine Df 12 27 0 (.pointer (some ⟨b31, (o32 + (r4 : Int).toNat * 7), none⟩)) (fun _ hq => ix 61 25 26 b31 o32 71 7 64 hi49) ?_
   refine Df 13 28 0 (.pointer (some ⟨b31, ((o32 + (r4 : Int).toNat * 7) + 3), none⟩)) (fun _ hq => fa 71 27 3 3 1 b31 (o32 + (r4 : Int).toNat * 7) ((o32 + (r4 : Int).toNat * 7) + 3)) ?_
   refine Df 14 29 3 _ (fun _ hq => lx 3 28 3 7 false 1 (vi x47.Continent) (hq.1.1 _ _ hF37) hc52) ?_
   refine Df 15 30 65 (.agg #[(vi x27.Country), (vi x41.Zone), (vi x47.Continent)]) (fun _ hq => run_build2 (t := 65) (parts := #[(0, (.tmp 19)), (1, (.tmp 24)), (2, (.tmp 29))]) (vs := [(0, (vi x27.Country)), (1, (vi x41.Zone)), (2, (vi x47.Continent))]) (rfl) (cs := [(vi x27.Country), (vi x41.Zone), (vi x47.Continent)]) (by kernel_rfl)) ?_
   refine DWP.one (i := 16) (by kernel_rfl) ?_
   refine DStep.store (l' := [true, true, true, true, true, true, true, true, true, true, true, true, true, true, true, true, true]) (zd := true) (by kernel_rfl) (by kernel_rfl) (ty := 0) (g := none) (by kernel_rfl) rfl (x := (.tmp 6)) (y := (.tmp 30)) (t := 65) (gg := true) (s := 3) (v := (.agg #[(vi x27.Country), (vi x41.Zone), (vi x47.Continent)])) (b := b1) (o := 0) (C := #[(vi 0), (vi 0), (vi 0)]) rfl rfl (by kernel_rfl) hw18 (k := 0) rfl rfl rfl rfl (C' := #[(vi x27.Country), (vi x41.Zone), (vi x47.Continent)]) rfl (Mem.le.refl _) (by simp) (fun e => by cases e) (fun w53 (hs54 : HS w0 F0 w53 F1 [(sb b1 #[(vi x27.Country), (vi x41.Zone), (vi x47.Continent)] 65)]) => ?_)
   obtain rfl := some_inj h50
   exact DWP.done (by kernel_rfl) ⟨F1, hs54, (Mem.le.refl _), rfl, rfl⟩
  ·rintro f w19 ⟨F2, hs20, le21, e23, e24⟩
   refine thenQ_nrm ?_
   refine CWP.ret (by kernel_rfl) ?_
   have hfin := some_inj h26
   subst hfin
   exact ⟨e23, (.agg #[(vi j22.1), (vi j22.2.1), (vi j22.2.2)]), res_of (l := [.cell 6 65]) (by kernel_rfl) (vs := [(.agg #[(vi j22.1), (vi j22.2.1), (vi j22.2.2)])]) ⟨b1, 0, e24, run_loadVar' (t := 65) (g := true) (s := 3) (by kernel_rfl) (hs20.ownAt (k := 0) rfl) rfl (by decide), trivial⟩, (.agg #[(vi j22.1), (vi j22.2.1), (vi j22.2.2)]), F2, rfl, hs20.clear, rfl⟩
end Go.Proofs.YtlddakefmfcblaaGreatDoor
namespace Go.Proofs.YtlddakefmfcblaaGreatDoor
open Go.Proofs
def ref01_PlaceOf (N : Nat) (x0 : (List Prefix)) (x1 : (List UInt8)) (x2 : Int) : Option (Place × Int) :=
 ((ref01_asked N x0 x1 x2).bind fun r4 => (bif (r4 != 0) then some (({ Country := 0, Zone := 0, Continent := 0 } : Place), r4) else ((ref01_place N x0 x1 x2).bind fun r17 => (bif ((r17.Country == 0) && ((r17.Zone == 0) && ((r17.Continent == 0) && true))) then some (({ Country := r17.Country, Zone := r17.Zone, Continent := r17.Continent } : Place), 3) else some (({ Country := r17.Country, Zone := r17.Zone, Continent := r17.Continent } : Place), 0)))))
theorem co_ref01_PlaceOf : CallOk Tryz.prog 55 := fun _ _ => by kernel_rfl
set_option maxHeartbeats 4000000 in
set_option maxRecDepth 100000 in
theorem c_ref01_PlaceOf (N : Nat) (w0 : World) (F0 : Mem) (hF : ∀ b o, F0 b = some o → w0.heap[b]? = some o) (x0 : (List Prefix)) (a0_0 : Option Addr) (n0_0 : Nat) (hb0_0 : LC x0.length n0_0) (hs0_0 : SlA tPrefix F0 a0_0 x0) (x1 : (List UInt8)) (x2 : Int) (r : (Place × Int)) (h : ref01_PlaceOf N x0 x1 x2 = some r) :
  Calls Tryz.prog 55 ([(.slice a0_0 x0.length n0_0), (.string ⟨(x1).toArray⟩), (vi x2)] : List Value).toArray w0 (FRet w0 F0 fun F' v => v = (.tuple #[(.agg #[(vi r.1.Country), (vi r.1.Zone), (vi r.1.Continent)]), (vi r.2)])) := by
 have hs0 := HS.start hF
 refine calls_of (n := 27) (c := bodyOf Tryz.f55) Tryz.func55 (by kernel_rfl) (by kernel_rfl) (by kernel_rfl) ?_
 refine Sq (Rg [0, 1] ?_)
 refine Al 6 0 65 #[(vi 0), (vi 0), (vi 0)] hs0 (fun b1 w2 (hs3 : HS w0 F0 w2 F0 [(sb b1 #[(vi 0), (vi 0), (vi 0)] 65)]) => ?_)
 refine V 7 23 (mc (vi 0) (vi 0)) ?_
 refine Nss (Rg [0, 1, 2, 3, 4] ?_)
 refine V 10 61 (mv 0 (.slice a0_0 x0.length n0_0)) ?_
 refine V 11 9 (mv 1 (.string ⟨(x1).toArray⟩)) ?_
 refine V 12 3 (mv 2 (vi x2)) ?_
 obtain ⟨r4, hr5, h6⟩ := bind_some h
 refine Cl 13 23 98 #[(.tmp 10), (.tmp 11), (.tmp 12)] #[61, 9, 3] co_ref01_asked hs3 (c_ref01_asked N w2 F0 hs3.pers (x0) a0_0 n0_0 hb0_0 hs0_0 (x1) (x2) _ hr5) ?_
 intro v7 F1 w8 hs9 le10 hp11
 obtain rfl := hp11
 refine V 8 23 (ma 13 (vi r4)) ?_
 refine Nss ?_
 refine Sq (Rg [0, 1] ?_)
 refine V 14 23 (mv 8 (vi r4)) ?_
 refine V 15 4 (run_neq (t := 23) (t' := 23) (x := (.tmp 14)) (y := (.const (vi 0))) (k := .i64) (a := r4) (b := 0) rfl rfl) ?_
 refine Nt ?_
 refine CWP.cond (t := (r4 != 0)) (by kernel_rfl) rfl (fun hb12 => ?_) (fun hb12 => ?_)
 ·have h13 := cond_t h6 hb12
  refine Sq (Rg [0, 1, 2, 3] ?_)
  refine V 16 65 (run_build2 (t := 65) (parts := #[]) (vs := []) (rfl) (cs := [(vi 0), (vi 0), (vi 0)]) (by kernel_rfl)) ?_
  refine V 17 23 (mv 8 (vi r4)) ?_
  refine RWP.store (ty := 0) (g := none) (by kernel_rfl) rfl (x := (.tmp 6)) (y := (.tmp 16)) (t := 65) (gg := true) (s := 3) (v := (.agg #[(vi 0), (vi 0), (vi 0)])) (b := b1) (o := 0) (C := #[(vi 0), (vi 0), (vi 0)]) rfl rfl (by kernel_rfl) hs9 (k := 0) rfl rfl rfl rfl (C' := #[(vi 0), (vi 0), (vi 0)]) rfl (fun w14 (hs15 : HS w0 F0 w14 F1 [(sb b1 #[(vi 0), (vi 0), (vi 0)] 65)]) => ?_)
  refine V 7 23 (ma 17 (vi r4)) ?_
  refine Nt ?_
  refine CWP.ret (by kernel_rfl) ?_
  refine thenQ_ret ?_
  have hfin := some_inj h13
  subst hfin
  exact ⟨rfl, (.tuple #[(.agg #[(vi 0), (vi 0), (vi 0)]), (vi r4)]), res_of (l := [.cell 6 65, .tmp 7]) (by kernel_rfl) (vs := [(.agg #[(vi 0), (vi 0), (vi 0)]), (vi r4)]) ⟨b1, 0, rfl, run_loadVar' (t := 65) (g := true) (s := 3) (by kernel_rfl) (hs15.ownAt (k := 0) rfl) rfl (by decide), ⟨rfl, trivial⟩⟩, (.tuple #[(.agg #[(vi 0), (vi 0), (vi 0)]), (vi r4)]), F1, rfl, hs15.clear, rfl⟩
 ·have h16 := cond_f h6 hb12
  refine Sc ?_
  refine thenQ_nrm ?_
  refine Sq (Rg [0, 1, 2, 3, 4, 5] ?_)
  refine V 18 61 (mv 0 (.slice a0_0 x0.length n0_0)) ?_
  refine V 19 9 (mv 1 (.string ⟨(x1).toArray⟩)) ?_
  refine V 20 3 (mv 2 (vi x2)) ?_
  obtain ⟨r17, hr18, h19⟩ := bind_some h16
  refine Cl 21 65 101 #[(.tmp 18), (.tmp 19), (.tmp 20)] #[61, 9, 3] co_ref01_place hs9 (c_ref01_place N w8 F1 hs9.pers (x0) a0_0 n0_0 hb0_0 (SlA.mono hs0_0 le10) (x1) (x2) _ hr18) ?_
  intro v20 F2 w21 hs22 le23 hp24
  obtain rfl := hp24
  refine Al 9 0 65 #[(vi 0), (vi 0), (vi 0)] hs22 (fun b25 w26 (hs27 : HS w0 F0 w26 F2 [(sb b25 #[(vi 0), (vi 0), (vi 0)] 65), (sb b1 #[(vi 0), (vi 0), (vi 0)] 65)]) => ?_)
  refine RWP.store (ty := 0) (g := none) (by kernel_rfl) rfl (x := (.tmp 9)) (y := (.tmp 21)) (t := 65) (gg := true) (s := 3) (v := (.agg #[(vi r17.Country), (vi r17.Zone), (vi r17.Continent)])) (b := b25) (o := 0) (C := #[(vi 0), (vi 0), (vi 0)]) rfl rfl (by kernel_rfl) hs27 (k := 0) rfl rfl rfl rfl (C' := #[(vi r17.Country), (vi r17.Zone), (vi r17.Continent)]) rfl (fun w28 (hs29 : HS w0 F0 w28 F2 [(sb b25 #[(vi r17.Country), (vi r17.Zone), (vi r17.Continent)] 65), (sb b1 #[(vi 0), (vi 0), (vi 0)] 65)]) => ?_)
  refine Nss ?_
  refine Sq (Rg [0, 1, 2] ?_)
  refine V 22 65 (ld 65 9 b25 0 true 3 (.agg #[(vi r17.Country), (vi r17.Zone), (vi r17.Continent)]) (hs29.ownAt (k := 0) rfl)) ?_
  refine V 23 65 (run_build2 (t := 65) (parts := #[]) (vs := []) (rfl) (cs := [(vi 0), (vi 0), (vi 0)]) (by kernel_rfl)) ?_
  refine V 24 4 (run_eqs (t := 65) (t' := 65) (x := (.tmp 22)) (y := (.tmp 23)) (xs := #[(vi r17.Country), (vi r17.Zone), (vi r17.Continent)]) (ys := #[(vi 0), (vi 0), (vi 0)]) (b := ((r17.Country == 0) && ((r17.Zone == 0) && ((r17.Continent == 0) && true)))) rfl rfl (by kernel_rfl) (by kernel_rfl)) ?_
  refine Nt ?_
  refine CWP.cond (t := ((r17.Country == 0) && ((r17.Zone == 0) && ((r17.Continent == 0) && true)))) (by kernel_rfl) rfl (fun hb30 => ?_) (fun hb30 => ?_)
  ·have h31 := cond_t h19 hb30
   refine Sq (Rg [0, 1, 2] ?_)
   refine V 25 65 (ld 65 9 b25 0 true 3 (.agg #[(vi r17.Country), (vi r17.Zone), (vi r17.Continent)]) (hs29.ownAt (k := 0) rfl)) ?_
   refine RWP.store (ty := 0) (g := none) (by kernel_rfl) rfl (x := (.tmp 6)) (y := (.tmp 25)) (t := 65) (gg := true) (s := 3) (v := (.agg #[(vi r17.Country), (vi r17.Zone), (vi r17.Continent)])) (b := b1) (o := 0) (C := #[(vi 0), (vi 0), (vi 0)]) rfl rfl (by kernel_rfl) hs29 (k := 1) rfl rfl rfl rfl (C' := #[(vi r17.Country), (vi r17.Zone), (vi r17.Continent)]) rfl (fun w32 (hs33 : HS w0 F0 w32 F2 [(sb b25 #[(vi r17.Country), (vi r17.Zone), (vi r17.Continent)] 65), (sb b1 #[(vi r17.Country), (vi r17.Zone), (vi r17.Continent)] 65)]) => ?_)
   refine V 7 23 (mc (vi 3) (vi 3)) ?_
   refine Nt ?_
   refine CWP.ret (by kernel_rfl) ?_
   refine thenQ_ret ?_
   have hfin := some_inj h31
   subst hfin
   exact ⟨rfl, (.tuple #[(.agg #[(vi r17.Country), (vi r17.Zone), (vi r17.Continent)]), (vi 3)]), res_of (l := [.cell 6 65, .tmp 7]) (by kernel_rfl) (vs := [(.agg #[(vi r17.Country), (vi r17.Zone), (vi r17.Continent)]), (vi 3)]) ⟨b1, 0, rfl, run_loadVar' (t := 65) (g := true) (s := 3) (by kernel_rfl) (hs33.ownAt (k := 1) rfl) rfl (by decide), ⟨rfl, trivial⟩⟩, (.tuple #[(.agg #[(vi r17.Country), (vi r17.Zone), (vi r17.Continent)]), (vi 3)]), F2, rfl, hs33.clear, rfl⟩
  ·have h34 := cond_f h19 hb30
   refine Sc ?_
   refine thenQ_nrm ?_
   refine Sq (Rg [0, 1, 2] ?_)
   refine V 26 65 (ld 65 9 b25 0 true 3 (.agg #[(vi r17.Country), (vi r17.Zone), (vi r17.Continent)]) (hs29.ownAt (k := 0) rfl)) ?_
   refine RWP.store (ty := 0) (g := none) (by kernel_rfl) rfl (x := (.tmp 6)) (y := (.tmp 26)) (t := 65) (gg := true) (s := 3) (v := (.agg #[(vi r17.Country), (vi r17.Zone), (vi r17.Continent)])) (b := b1) (o := 0) (C := #[(vi 0), (vi 0), (vi 0)]) rfl rfl (by kernel_rfl) hs29 (k := 1) rfl rfl rfl rfl (C' := #[(vi r17.Country), (vi r17.Zone), (vi r17.Continent)]) rfl (fun w35 (hs36 : HS w0 F0 w35 F2 [(sb b25 #[(vi r17.Country), (vi r17.Zone), (vi r17.Continent)] 65), (sb b1 #[(vi r17.Country), (vi r17.Zone), (vi r17.Continent)] 65)]) => ?_)
   refine V 7 23 (mc (vi 0) (vi 0)) ?_
   refine Nt ?_
   refine CWP.ret (by kernel_rfl) ?_
   have hfin := some_inj h34
   subst hfin
   exact ⟨rfl, (.tuple #[(.agg #[(vi r17.Country), (vi r17.Zone), (vi r17.Continent)]), (vi 0)]), res_of (l := [.cell 6 65, .tmp 7]) (by kernel_rfl) (vs := [(.agg #[(vi r17.Country), (vi r17.Zone), (vi r17.Continent)]), (vi 0)]) ⟨b1, 0, rfl, run_loadVar' (t := 65) (g := true) (s := 3) (by kernel_rfl) (hs36.ownAt (k := 1) rfl) rfl (by decide), ⟨rfl, trivial⟩⟩, (.tuple #[(.agg #[(vi r17.Country), (vi r17.Zone), (vi r17.Continent)]), (vi 0)]), F2, rfl, hs36.clear, rfl⟩
end Go.Proofs.YtlddakefmfcblaaGreatDoor
namespace Go.Proofs.YtlddakefmfcblaaGreatDoor
def firstN {ρ : Type} (n : Nat) (f : Nat → Option ρ) (k : Nat) : Option ρ := ((List.range n).drop k).findSome? f
theorem firstN_step {ρ : Type} {n k : Nat} {f : Nat → Option ρ} (h : k < n) : firstN n f k = match f k with | some r => some r | none => firstN n f (k + 1) := by
 unfold firstN
 rw [List.drop_eq_getElem_cons (by simpa using h), List.findSome?_cons, List.getElem_range]
 rfl
theorem firstN_end {ρ : Type} {n : Nat} {f : Nat → Option ρ} : firstN n f n = none := by
 unfold firstN
 rw [List.drop_of_length_le (by simp)]; rfl
theorem iter_firstN {ρ τ : Type} {body : Int → Option (Flow ρ Int)} {n : Nat} (f : Nat → Option ρ) (hb : ∀ i, i < n → body (i : Int) = some ((f i).elim (.next ((i + 1 : Nat) : Int)) .ret))
  (he : body (n : Int) = some (.done (n : Int))) {N : Nat} (hN : n < N) (k : Nat) (hk : k ≤ n) (fd : Int → Option τ) (fr : ρ → Option τ) : ((iter body N (k : Int)).bind fun o => o.k fr fd) = (firstN n f k).elim (fd n) fr := by
 obtain ⟨o, ho, hR⟩ := iter_ex (body := body) n (fun i s => s = (i : Int) ∧ firstN n f k = firstN n f i) (fun o => (firstN n f k = none ∧ o = .done (n : Int)) ∨ ∃ r, firstN n f k = some r ∧ o = .ret r) (by
  rintro i s hi ⟨rfl, hkk⟩
  by_cases h : i < n
  ·rw [hb i h]
   rw [firstN_step h] at hkk
   cases e : f i with
   | some r => rw [e] at hkk; exact .inr ⟨_, rfl, (fun _ h => by cases h), .inr ⟨r, hkk, rfl⟩⟩
   | none => rw [e] at hkk; exact .inl ⟨_, rfl, ⟨rfl, hkk⟩, h⟩
  ·have : i = n := by omega
   subst this
   rw [he]
   rw [firstN_end] at hkk
   exact .inr ⟨_, rfl, (fun _ h => by cases h), .inl ⟨hkk, rfl⟩⟩) (n - k) N k (k : Int) (by omega) ⟨rfl, rfl⟩ (by omega)
 rw [ho]
 rcases hR with ⟨h1, rfl⟩ | ⟨r, h1, rfl⟩ <;> rw [h1] <;> rfl
theorem firstN_none {ρ : Type} {n : Nat} {f : Nat → Option ρ} : ∀ {k : Nat}, k ≤ n → (firstN n f k = none ↔ ∀ i, k ≤ i → i < n → f i = none) := by
 intro k hk
 unfold firstN
 rw [List.findSome?_eq_none_iff]
 constructor
 ·intro h i h1 h2
  refine h i ?_
  rw [List.mem_drop_iff_getElem]
  exact ⟨i - k, by simp; omega, by simp; omega⟩
 ·intro h x hx
  rw [List.mem_drop_iff_getElem] at hx
  obtain ⟨j, hj, rfl⟩ := hx
  simp at hj
  rw [List.getElem_range]
  exact h _ (by omega) (by omega)
theorem firstN_some {ρ : Type} {n : Nat} {f : Nat → Option ρ} {r : ρ} : ∀ {m k : Nat}, k + m = n → (firstN n f k = some r ↔ ∃ i, k ≤ i ∧ i < n ∧ f i = some r ∧ ∀ j, k ≤ j → j < i → f j = none) := by
 intro m
 induction m with
 | zero =>
  intro k hk
  have : k = n := by omega
  subst this
  rw [firstN_end]
  constructor
  ·intro h; cases h
  ·rintro ⟨i, h1, h2, _⟩; omega
 | succ m ih =>
  intro k hk
  rw [firstN_step (by omega)]
  cases e : f k with
  | some r' =>
   constructor
   ·intro h
    injection h with h
    subst h
    exact ⟨k, Nat.le_refl _, by omega, e, fun j h1 h2 => by omega⟩
   ·rintro ⟨i, h1, h2, h3, h4⟩
    by_cases hik : i = k
    ·subst hik; rw [e] at h3; exact h3
    ·have := h4 k (Nat.le_refl _) (by omega)
     rw [e] at this; cases this
  | none =>
   rw [show (match (none : Option ρ) with | some r => some r | none => firstN n f (k + 1)) = firstN n f (k + 1) from rfl, ih (by omega)]
   constructor
   ·rintro ⟨i, h1, h2, h3, h4⟩
    refine ⟨i, by omega, h2, h3, fun j h5 h6 => ?_⟩
    by_cases hjk : j = k
    ·subst hjk; exact e
    ·exact h4 j (by omega) h6
   ·rintro ⟨i, h1, h2, h3, h4⟩
    refine ⟨i, ?_, h2, h3, fun j h5 h6 => h4 j (by omega) h6⟩
    rcases Nat.lt_or_ge k i with h | h
    ·exact h
    ·have : i = k := by omega
     subst this; rw [e] at h3; cases h3
def zPre : Prefix := { Text := [], Country := 0, Zone := 0, Continent := 0, From := 0, To := 0, Whole := false }
def pAt (T : List Prefix) (i : Nat) : Prefix := T.getD i zPre
theorem idx_p {T : List Prefix} {i : Nat} (h : i < T.length) : idx T (i : Int) = some (pAt T i) := by
 rw [idx_nat h]; unfold pAt; rw [List.getD_eq_getElem?_getD, List.getElem?_eq_getElem h]; rfl
theorem pAt_get {T : List Prefix} {i : Nat} (h : i < T.length) : pAt T i = T[i] := by
 unfold pAt; rw [List.getD_eq_getElem?_getD, List.getElem?_eq_getElem h]; rfl
theorem pAt_mem {T : List Prefix} {i : Nat} (h : i < T.length) : pAt T i ∈ T := by
 rw [pAt_get h]; exact List.getElem_mem h
theorem mem_pAt {T : List Prefix} {p : Prefix} (h : p ∈ T) : ∃ i, i < T.length ∧ p = pAt T i := by
 obtain ⟨i, hi, rfl⟩ := List.getElem_of_mem h
 exact ⟨i, hi, (pAt_get hi).symm⟩
def keyP (p : Prefix) : air_key := { text_ := p.Text, whole_ := p.Whole }
def dayIn (p : Prefix) (d : Int) : Bool := decide (p.From ≤ d) && decide (d ≤ p.To)
def okC (W : Bool) (b : UInt8) : Bool := isE b || (W && decide (b = 47))
def lenB (s : List UInt8) : Bool := decide ((1 : Int) ≤ (s.length : Int)) && decide ((s.length : Int) ≤ 16)
def inI (x lo hi : Int) : Bool := decide (lo ≤ x) && decide (x ≤ hi)
def rowB (p : Prefix) : Bool := (p.Text.all (okC p.Whole) && lenB p.Text) && (inI p.Country 1 65535 && (inI p.Zone 1 99 && (inI p.Continent 1 7 && (inI p.From 0 p.To && decide (p.To ≤ 99999)))))
structure PreR (p : Prefix) : Prop where
 text : p.Text.all (okC p.Whole) = true
 l1 : 1 ≤ p.Text.length
 l2 : p.Text.length ≤ 16
 c1 : 1 ≤ p.Country
 f0 : 0 ≤ p.From
 ft : p.From ≤ p.To
 tle : p.To ≤ 99999
theorem rowB_ok {p : Prefix} (h : rowB p = true) : PreR p := by
 unfold rowB lenB inI at h
 simp only [Bool.and_eq_true, decide_eq_true_eq] at h
 obtain ⟨⟨h1, h2, h3⟩, ⟨h4, _⟩, _, _, ⟨h5, h6⟩, h7⟩ := h
 exact ⟨h1, by omega, by omega, h4, h5, h6, h7⟩
section
variable {N : Nat}
theorem predR (p : Prefix) : PredIs (fun y0 => air_validRow_1 N y0 p) (okC p.Whole) := by
 refine ⟨fun b hb => ?_, fun n hn => ?_, fun b hb => ?_⟩
 ·unfold air_validRow_1 okC
  rw [m_either, Option.bind_some, byte_eq b 47 47 rfl]
  cases isE b <;> cases p.Whole <;> rfl
 ·unfold air_validRow_1
  rw [m_either_big N hn, Option.bind_some, cond_false]
  have : ((n : Int) == 47) = false := by rw [beq_eq_false_iff_ne]; omega
  rw [this]
  cases p.Whole <;> rfl
 ·unfold okC
  have : decide (b = 47) = false := by
   rw [decide_eq_false_iff_not]; rintro rfl; revert hb; decide
  rw [isE_lt hb, this, Bool.and_false]; rfl
theorem s_row {p : Prefix} (hl : p.Text.length < N) : air_validRow N p = some (rowB p) := by
 unfold air_validRow rowB
 rw [only_spec (predR p) p.Text 16 hl, Option.bind_some]
 simp only [m_within, Option.bind_some]
 have e : (p.Text.all (okC p.Whole) && (decide (1 ≤ (p.Text.length : Int)) && decide ((p.Text.length : Int) ≤ 16))) = (p.Text.all (okC p.Whole) && lenB p.Text) := rfl
 rw [e]
 unfold inI
 cases (p.Text.all (okC p.Whole) && lenB p.Text) <;> cases (decide (1 ≤ p.Country) && decide (p.Country ≤ 65535)) <;> cases (decide (1 ≤ p.Zone) && decide (p.Zone ≤ 99)) <;> cases (decide (1 ≤ p.Continent) && decide (p.Continent ≤ 7)) <;> cases (decide (0 ≤ p.From) && decide (p.From ≤ p.To)) <;> rfl
theorem s_rrow {p : Prefix} (hl : p.Text.length < N) (hs : p.Text.length < 4611686018427387904) : ref01_row N p = some (rowB p) := by
 unfold ref01_row rowB
 rw [m_rwithin, Option.bind_some]
 have e : (decide (1 ≤ (p.Text.length : Int)) && decide ((p.Text.length : Int) ≤ 16)) = lenB p.Text := rfl
 rw [e]
 cases hb : lenB p.Text with
 | false => rw [Bool.and_false]; rfl
 | true =>
  rw [Bool.not_true, cond_false]
  rw [iter_allL (l := p.Text) (okC p.Whole) false (fun i h => ?_) ?_ hl]
  ·simp only [m_rwithin, Option.bind_some]
   unfold inI
   cases p.Text.all (okC p.Whole) <;> cases (decide (1 ≤ p.Country) && decide (p.Country ≤ 65535)) <;> cases (decide (1 ≤ p.Zone) && decide (p.Zone ≤ 99)) <;> cases (decide (1 ≤ p.Continent) && decide (p.Continent ≤ 7)) <;> cases decide (0 ≤ p.From) <;> cases decide (p.From ≤ p.To) <;> rfl
  ·unfold ref01_row_L0
   rw [lt_dec', cond_false]
  ·unfold ref01_row_L0
   rw [lt_dec h, cond_true, sidx_nat h, Option.bind_some]
   simp only [m_rletter, m_rdigit, Option.bind_some]
   rw [w64s i (by omega)]
   unfold okC isE
   have : ((p.Text[i].toNat : Int) != 47) = !decide (p.Text[i] = 47) := by
    rw [← byte_eq _ 47 47 rfl]; rfl
   rw [this]
   cases isL p.Text[i] <;> cases isD p.Text[i] <;> cases p.Whole <;> cases decide (p.Text[i] = 47) <;> rfl
theorem m_contains_pre {l : List Prefix} {p : Prefix → Option Bool} (F : Prefix → Bool) (hp : ∀ x, x ∈ l → p x = some (F x)) (hl : l.length < 4000000000) (hN : 4294967300 < N) : slices_ContainsFunc_api_Prefix_api_Prefix N l p = some (l.any F) := by
 unfold slices_ContainsFunc_api_Prefix_api_Prefix slices_IndexFunc_api_Prefix_api_Prefix
 rcases iter_check2 (body := slices_IndexFunc_api_Prefix_api_Prefix_L0 N l p) (n := l.length) (fun i => !((l[i]?.map F).getD false)) (fun i => (i : Int)) (by
   intro i hi
   unfold slices_IndexFunc_api_Prefix_api_Prefix_L0
   rw [lt_dec hi, cond_true, idx_nat hi, Option.bind_some, hp _ (List.getElem_mem hi), Option.bind_some, w64s i (by omega), List.getElem?_eq_getElem hi]
   simp only [Option.map_some, Option.getD_some]
   cases F l[i] <;> rfl) (by
   unfold slices_IndexFunc_api_Prefix_api_Prefix_L0
   rw [lt_dec', cond_false]) (N := N) (by omega) with ⟨g1, g2⟩ | ⟨i, hi, g1, _, g2⟩
 ·rw [g2]
  have : l.any F = false := by
   rw [List.any_eq_false]
   intro x hx
   obtain ⟨i, hi, rfl⟩ := List.getElem_of_mem hx
   have := g1 i hi
   rw [List.getElem?_eq_getElem hi] at this
   simpa using this
  rw [this]; rfl
 ·rw [g2]
  have : l.any F = true := by
   rw [List.any_eq_true]
   rw [List.getElem?_eq_getElem hi] at g1
   exact ⟨l[i], List.getElem_mem hi, by simpa using g1⟩
  rw [this]
  show some (decide ((i : Int) ≥ 0)) = some true
  rw [decide_eq_true (by omega)]
def rowsB (T : List Prefix) : Bool := decide (T.length ≤ 400) && T.all rowB
def fitT (N : Nat) (T : List Prefix) : Prop := T.length < 4000000000 ∧ ∀ p, p ∈ T → p.Text.length < N ∧ p.Text.length < 4611686018427387904
variable {T : List Prefix}
theorem s_rows (hT : fitT N T) (hN : 4294967300 < N) : air_rows N T = some (rowsB T) := by
 unfold air_rows rowsB
 have e : decide ((T.length : Int) ≤ 400) = decide (T.length ≤ 400) := by rw [decide_eq_decide]; omega
 rw [e, m_contains_pre (fun p => !rowB p) (fun x hx => by unfold air_rows_1; rw [s_row (hT.2 x hx).1]; rfl) hT.1 hN]
 have : (!T.any fun p => !rowB p) = T.all rowB := by simp [List.any_eq_not_all_not]
 simp only [Option.bind_some, this]
 cases decide (T.length ≤ 400) <;> rfl
theorem s_rrows (hT : fitT N T) (hN : 4294967300 < N) : ref01_rows N T = some (rowsB T) := by
 unfold ref01_rows rowsB
 by_cases h : T.length ≤ 400
 ·rw [decide_eq_false (by omega), cond_false, decide_eq_true h, Bool.true_and]
  rw [iter_allL (l := T) rowB false (fun i hi => ?_) ?_ (by omega)]
  ·cases T.all rowB <;> rfl
  ·unfold ref01_rows_L0
   rw [lt_dec', cond_false]
  ·unfold ref01_rows_L0
   rw [lt_dec hi, cond_true, idx_nat hi, Option.bind_some, s_rrow (hT.2 _ (List.getElem_mem hi)).1 (hT.2 _ (List.getElem_mem hi)).2, Option.bind_some, w64s i (by omega)]
   cases rowB T[i] <;> rfl
 ·rw [decide_eq_true (by omega), cond_true, decide_eq_false h, Bool.false_and]
theorem rowsB_ok (h : rowsB T = true) : T.length ≤ 400 ∧ ∀ p, p ∈ T → PreR p := by
 unfold rowsB at h
 simp only [Bool.and_eq_true, decide_eq_true_eq] at h
 exact ⟨h.1, fun p hp => rowB_ok (List.all_eq_true.1 h.2 p hp)⟩
theorem mget_mput {α β : Type} [DecidableEq α] (k k' : α) (v : β) (l : List (α × β)) : mget (mput l k v) k' = if k' = k then some v else mget l k' := by
 induction l with
 | nil => simp only [mput, mget]
 | cons p l ih =>
  simp only [mput]
  by_cases h : k = p.1
  ·rw [if_pos h]
   simp only [mget]
   by_cases h' : k' = k
   ·rw [if_pos h', if_pos h']
   ·rw [if_neg h', if_neg h', if_neg (by rw [← h]; exact h')]
  ·rw [if_neg h]
   simp only [mget]
   by_cases h' : k' = p.1
   ·rw [if_pos h', if_pos h', if_neg (by intro hh; exact h (by rw [← hh, h']))]
   ·rw [if_neg h', if_neg h']; exact ih
theorem mgetD_mput {α β : Type} [DecidableEq α] (k k' : α) (v z : β) (l : List (α × β)) : mgetD (mput l k v) k' z = if k' = k then v else mgetD l k' z := by
 unfold mgetD
 rw [mget_mput]
 by_cases h : k' = k
 ·rw [if_pos h, if_pos h]; rfl
 ·rw [if_neg h, if_neg h]
def keyIdx (T : List Prefix) (k : air_key) (n : Nat) : List Int := ((List.range n).filter fun i => decide (keyP (pAt T i) = k)).map fun i : Nat => (i : Int)
theorem keyIdx_len (T : List Prefix) (k : air_key) (n : Nat) : (keyIdx T k n).length ≤ n := by
 unfold keyIdx
 rw [List.length_map]
 exact Nat.le_trans (List.length_filter_le _ _) (by simp)
theorem s_tableOf (h : T.length ≤ 400) (hN : 4294967300 < N) : ∃ m, air_tableOf N T = some m ∧ ∀ k, mgetD m k [] = keyIdx T k T.length := by
 unfold air_tableOf
 obtain ⟨o, ho, j, m, rfl, hm⟩ := iter_ex (body := air_tableOf_L0 N T) T.length (fun i s => s.1 = (i : Int) ∧ ∀ k, mgetD s.2 k [] = keyIdx T k i) (fun o => ∃ j m, o = .done (j, m) ∧ ∀ k, mgetD m k [] = keyIdx T k T.length) (by
  rintro i ⟨s1, s2⟩ hi ⟨hs1, hs2⟩
  simp only at hs1 hs2
  subst hs1
  by_cases h1 : i < T.length
  ·refine .inl ⟨(((i + 1 : Nat) : Int), mput s2 (keyP (pAt T i)) (keyIdx T (keyP (pAt T i)) i ++ [(i : Int)])), ?_, ⟨rfl, ?_⟩, h1⟩
   ·unfold air_tableOf_L0
    simp only
    rw [lt_dec h1, cond_true, idx_p h1, Option.bind_some]
    have e1 : air_keyOf N (pAt T i) = some (keyP (pAt T i)) := rfl
    rw [e1, Option.bind_some, Option.bind_some, hs2]
    have := keyIdx_len T (keyP (pAt T i)) i
    rw [apnd_ok (by simp; omega), Option.bind_some, Option.bind_some, w64s i (by omega)]
   ·intro k
    simp only
    rw [mgetD_mput]
    have e : keyIdx T k (i + 1) = keyIdx T k i ++ (if keyP (pAt T i) = k then [(i : Int)] else []) := by
     unfold keyIdx
     rw [List.range_succ, List.filter_append, List.map_append]
     congr 1
     by_cases hk : keyP (pAt T i) = k <;> simp [hk]
    rw [e]
    by_cases hk : k = keyP (pAt T i)
    ·rw [if_pos hk, if_pos hk.symm, hk]
    ·rw [if_neg hk, if_neg (fun hh => hk hh.symm), hs2, List.append_nil]
  ·have : i = T.length := by omega
   subst this
   refine .inr ⟨.done ((T.length : Int), s2), ?_, (fun _ h => by cases h), _, s2, rfl, hs2⟩
   unfold air_tableOf_L0
   simp only
   rw [lt_dec', cond_false]) T.length N 0 (0, []) (by omega) ⟨rfl, fun k => rfl⟩ (by omega)
 rw [ho]
 exact ⟨m, rfl, hm⟩
theorem filter_first {ρ : Type} (p q : Nat → Bool) (g : Nat → ρ) : ∀ l : List Nat, ((l.filter p).map fun i : Nat => (i : Int)).findSome? (fun x => if q x.toNat = true then some (g x.toNat) else none) = l.findSome? (fun i => if (p i && q i) = true then some (g i) else none)
 | [] => rfl
 | i :: l => by
  have ih := filter_first p q g l
  rw [List.filter_cons, List.findSome?_cons]
  cases hp : p i with
  | false => simp only [Bool.false_eq_true, if_false, Bool.false_and]; exact ih
  | true =>
   simp only [if_true, List.map_cons, List.findSome?_cons, Int.toNat_natCast, Bool.true_and]
   cases hq : q i with
   | false => simp only [Bool.false_eq_true, if_false]; exact ih
   | true => rfl
theorem keyIdx_mem {k : air_key} {n : Nat} {x : Int} (h : x ∈ keyIdx T k n) : ∃ i : Nat, x = (i : Int) ∧ i < n ∧ keyP (pAt T i) = k := by
 unfold keyIdx at h
 obtain ⟨i, hi, rfl⟩ := List.mem_map.1 h
 rw [List.mem_filter, List.mem_range, decide_eq_true_eq] at hi
 exact ⟨i, rfl, hi.1, hi.2⟩
def atK (T : List Prefix) (k : air_key) (d : Int) : Option Nat := firstN T.length (fun i => if (decide (keyP (pAt T i) = k) && dayIn (pAt T i) d) = true then some i else none) 0
def toI (o : Option Nat) : Int := o.elim (-1) fun i => (i : Int)
theorem s_row1 {m : List (air_key × List Int)} (hm : ∀ k, mgetD m k [] = keyIdx T k T.length) (h : T.length ≤ 400) (hN : 4294967300 < N) (k : air_key) (d : Int) : air_table_row_1 N k m d T = some (toI (atK T k d)) := by
 unfold air_table_row_1
 have hl := keyIdx_len T k T.length
 rw [iter_first (l := keyIdx T k T.length) (body := air_table_row_1_L0 N k m d T) (fun x => if dayIn (pAt T x.toNat) d = true then some ((x.toNat : Nat) : Int) else none) (by
  intro i hi
  unfold air_table_row_1_L0
  rw [hm, lt_dec hi, cond_true, idx_nat hi, Option.bind_some]
  obtain ⟨j, hj, hjn, _⟩ := keyIdx_mem (List.getElem_mem hi)
  rw [hj, idx_p hjn, Option.bind_some, Option.bind_some, m_within, Option.bind_some, Option.bind_some, w64s i (by omega), Int.toNat_natCast]
  unfold dayIn
  cases (decide ((pAt T j).From ≤ d) && decide (d ≤ (pAt T j).To)) <;> rfl) (by
  unfold air_table_row_1_L0
  rw [hm, lt_dec', cond_false]) (by omega)]
 unfold keyIdx
 rw [filter_first (fun i => decide (keyP (pAt T i) = k)) (fun i => dayIn (pAt T i) d) (fun i : Nat => (i : Int))]
 have e : (List.range T.length).findSome? (fun i => if (decide (keyP (pAt T i) = k) && dayIn (pAt T i) d) = true then some ((i : Nat) : Int) else none) = (atK T k d).map fun i : Nat => (i : Int) := by
  unfold atK firstN
  rw [List.drop_zero, List.map_findSome?]
  congr 1
  funext i
  simp only [Function.comp]
  cases (decide (keyP (pAt T i) = k) && dayIn (pAt T i) d) <;> rfl
 rw [e]
 unfold toI
 cases atK T k d <;> rfl
end
end Go.Proofs.YtlddakefmfcblaaGreatDoor
namespace Go.Proofs.YtlddakefmfcblaaGreatDoor
open Go.Proofs
def air_padded (N : Nat) (x0 : Int) (x1 : Int) : Option (List UInt8) :=
 ((strconv_Itoa N x0).bind fun r1 => ((strings_Repeat N ([48] : List UInt8) (max 0 (W64 (x1 - (r1.length : Int))))).bind fun r9 => ((sadd r9 r1).bind fun r17 => some r17)))
theorem co_air_padded : CallOk Tryz.prog 75 := fun _ _ => by kernel_rfl
set_option maxHeartbeats 4000000 in
set_option maxRecDepth 100000 in
theorem c_air_padded (N : Nat) (w0 : World) (F0 : Mem) (hF : ∀ b o, F0 b = some o → w0.heap[b]? = some o) (hG : Glob F0) (x0 : Int) (x1 : Int) (r : (List UInt8)) (h : air_padded N x0 x1 = some r) :
  Calls Tryz.prog 75 ([(vi x0), (vi x1)] : List Value).toArray w0 (FRet w0 F0 fun F' v => v = (.string ⟨(r).toArray⟩)) := by
 have hs0 := HS.start hF
 refine calls_of (n := 16) (c := bodyOf Tryz.f75) Tryz.func75 (by kernel_rfl) (by kernel_rfl) (by kernel_rfl) ?_
 refine Sq (Rg [0] ?_)
 refine V 4 9 (mc (.string ⟨([] : List UInt8).toArray⟩) (.string ⟨(([] : List UInt8)).toArray⟩)) ?_
 refine Nss (Rg [0, 1, 2] ?_)
 refine V 6 3 (mv 0 (vi x0)) ?_
 obtain ⟨r1, hr2, h3⟩ := bind_some h
 refine Cl 7 9 74 #[(.tmp 6)] #[3] co_strconv_Itoa hs0 (c_strconv_Itoa N w0 F0 hs0.pers hG (x0) _ hr2) ?_
 intro v4 F1 w5 hs6 le7 hp8
 obtain rfl := hp8
 refine V 5 9 (ma 7 (.string ⟨(r1).toArray⟩)) ?_
 refine Nss (Rg [0, 1, 2, 3, 4, 5, 6, 7, 8] ?_)
 refine V 8 3 (mv 1 (vi x1)) ?_
 refine V 9 9 (mv 5 (.string ⟨(r1).toArray⟩)) ?_
 refine V 10 3 (run_slen (x := (.tmp 9)) (ats := #[9]) (t := 9) (a := r1) rfl rfl (by kernel_rfl)) ?_
 refine V 11 3 (run_sub (t := 3) (t' := 3) (x := (.tmp 8)) (y := (.tmp 10)) (k := .i64) (a := x1) (b := (r1.length : Int)) rfl rfl) ?_
 refine V 12 3 (run_max2 (x := (.const (vi 0))) (y := (.tmp 11)) (ats := #[3, 3]) (a := 0) (b := (W64 (x1 - (r1.length : Int)))) rfl rfl) ?_
 obtain ⟨r9, hr10, h11⟩ := bind_some h3
 refine Cl 13 9 110 #[(.const (.string ⟨([48] : List UInt8).toArray⟩)), (.tmp 12)] #[9, 3] co_strings_Repeat hs6 (c_strings_Repeat N w5 F1 hs6.pers (([48] : List UInt8)) ((max 0 (W64 (x1 - (r1.length : Int))))) _ hr10) ?_
 intro v12 F2 w13 hs14 le15 hp16
 obtain rfl := hp16
 refine V 14 9 (mv 5 (.string ⟨(r1).toArray⟩)) ?_
 obtain ⟨r17, hr18, h19⟩ := bind_some h11
 refine V 15 9 (run_sadd (t := 9) (t' := 9) (x := (.tmp 13)) (y := (.tmp 14)) (a := r9) (b := r1) (v := r17) rfl rfl hr18) ?_
 refine V 4 9 (ma 15 (.string ⟨(r17).toArray⟩)) ?_
 refine Nt ?_
 refine CWP.ret (by kernel_rfl) ?_
 have hfin := some_inj h19
 subst hfin
 exact ⟨rfl, (.string ⟨(r17).toArray⟩), res_of (l := [.tmp 4]) (by kernel_rfl) (vs := [(.string ⟨(r17).toArray⟩)]) ⟨rfl, trivial⟩, (.string ⟨(r17).toArray⟩), F2, rfl, hs14.clear, rfl⟩
end Go.Proofs.YtlddakefmfcblaaGreatDoor
namespace Go.Proofs.YtlddakefmfcblaaGreatDoor
open Go.Proofs
end Go.Proofs.YtlddakefmfcblaaGreatDoor
namespace Go.Proofs.YtlddakefmfcblaaGreatDoor
open Go.Proofs
def air_number (N : Nat) (x0 : (List UInt8)) : Option Int :=
 ((air_only N x0 9 (fun y0 => air_digit N y0)).bind fun r1 => (bif (!r1) then some (-1) else ((strconv_Atoi N x0).bind fun r12 => some r12.1)))
theorem co_air_number : CallOk Tryz.prog 78 := fun _ _ => by kernel_rfl
set_option maxHeartbeats 4000000 in
set_option maxRecDepth 100000 in
theorem c_air_number (N : Nat) (w0 : World) (F0 : Mem) (hF : ∀ b o, F0 b = some o → w0.heap[b]? = some o) (x0 : (List UInt8)) (r : Int) (h : air_number N x0 = some r) :
  Calls Tryz.prog 78 ([(.string ⟨(x0).toArray⟩)] : List Value).toArray w0 (FRet w0 F0 fun F' v => v = (vi r)) := by
 have hs0 := HS.start hF
 refine calls_of (n := 14) (c := bodyOf Tryz.f78) Tryz.func78 (by kernel_rfl) (by kernel_rfl) (by kernel_rfl) ?_
 refine Sq (Rg [0] ?_)
 refine V 2 3 (mc (vi 0) (vi 0)) ?_
 refine Nss ?_
 refine Sq (Rg [0, 1, 2] ?_)
 refine V 5 9 (mv 0 (.string ⟨(x0).toArray⟩)) ?_
 obtain ⟨r1, hr2, h3⟩ := bind_some h
 refine Cl 6 4 65 #[(.tmp 5), (.const (vi 9)), (.func 64)] #[9, 3, 84] co_air_only hs0 (c_air_only N w0 F0 hs0.pers (x0) (9) 64 [] [] (fun y0 => air_digit N y0) co_air_digit (fun w1 F1 y0 r le1 pe1 hr1 => c_air_digit N w1 F1 pe1  y0  r hr1) _ hr2) ?_
 intro v4 F1 w5 hs6 le7 hp8
 obtain rfl := hp8
 refine V 7 4 (run_not (t := 4) (x := (.tmp 6)) (a := r1) rfl) ?_
 refine Nt ?_
 refine CWP.cond (t := (!r1)) (by kernel_rfl) rfl (fun hb9 => ?_) (fun hb9 => ?_)
 ·have h10 := cond_t h3 hb9
  refine Sq (Rg [0] ?_)
  refine V 2 3 (mc (vi (-1)) (vi (-1))) ?_
  refine Nt ?_
  refine CWP.ret (by kernel_rfl) ?_
  refine thenQ_ret ?_
  have hfin := some_inj h10
  subst hfin
  exact ⟨rfl, (vi (-1)), res_of (l := [.tmp 2]) (by kernel_rfl) (vs := [(vi (-1))]) ⟨rfl, trivial⟩, (vi (-1)), F1, rfl, hs6.clear, rfl⟩
 ·have h11 := cond_f h3 hb9
  refine Sc ?_
  refine thenQ_nrm ?_
  refine Sq (Rg [0, 1, 2, 3, 4, 5, 6] ?_)
  refine V 9 9 (mv 0 (.string ⟨(x0).toArray⟩)) ?_
  obtain ⟨r12, hr13, h14⟩ := bind_some h11
  refine Cl 10 140 112 #[(.tmp 9)] #[9] co_strconv_Atoi hs6 (c_strconv_Atoi N w5 F1 hs6.pers (x0) _ hr13) ?_
  intro v15 F2 w16 hs17 le18 hp19
  obtain ⟨vr12_1_0, rfl, her12_1_0⟩ := hp19
  refine V 8 140 (mv 10 (.tuple #[(vi r12.1), vr12_1_0])) ?_
  refine V 11 3 (ex 8 0 (vi r12.1) (vs := #[(vi r12.1), vr12_1_0])) ?_
  refine V 12 139 (ex 8 1 vr12_1_0 (vs := #[(vi r12.1), vr12_1_0])) ?_
  refine V 3 3 (ma 11 (vi r12.1)) ?_
  refine V 4 139 (ma 12 vr12_1_0) ?_
  refine Nss (Rg [0, 1] ?_)
  refine V 13 3 (mv 3 (vi r12.1)) ?_
  refine V 2 3 (ma 13 (vi r12.1)) ?_
  refine Nt ?_
  refine CWP.ret (by kernel_rfl) ?_
  have hfin := some_inj h14
  subst hfin
  exact ⟨rfl, (vi r12.1), res_of (l := [.tmp 2]) (by kernel_rfl) (vs := [(vi r12.1)]) ⟨rfl, trivial⟩, (vi r12.1), F2, rfl, hs17.clear, rfl⟩
end Go.Proofs.YtlddakefmfcblaaGreatDoor
namespace Go.Proofs.YtlddakefmfcblaaGreatDoor
open Go.Proofs
end Go.Proofs.YtlddakefmfcblaaGreatDoor
namespace Go.Proofs.YtlddakefmfcblaaGreatDoor
open Go.Lib (decDigits)
def numF (a : Nat) (l : List UInt8) : Nat := l.foldl (fun a b => 10 * a + (b.toNat - 48)) a
def numV (l : List UInt8) : Nat := numF 0 l
theorem numF_cons (a : Nat) (b : UInt8) (l : List UInt8) : numF a (b :: l) = numF (10 * a + (b.toNat - 48)) l := by unfold numF; rw [List.foldl_cons]
theorem numF_snoc (a : Nat) (l : List UInt8) (b : UInt8) : numF a (l ++ [b]) = 10 * numF a l + (b.toNat - 48) := by unfold numF; rw [List.foldl_append]; rfl
theorem numV_snoc (l : List UInt8) (b : UInt8) : numV (l ++ [b]) = 10 * numV l + (b.toNat - 48) := numF_snoc 0 l b
theorem isD_val {b : UInt8} (h : isD b = true) : 48 ≤ b.toNat ∧ b.toNat ≤ 57 := by
 unfold isD at h
 simpa only [Bool.and_eq_true, decide_eq_true_eq] using h
theorem numF_lt (l : List UInt8) : ∀ (a k : Nat), l.all isD = true → a < 10 ^ k → numF a l < 10 ^ (k + l.length) := by
 induction l with
 | nil => intro a k _ h; exact h
 | cons b l ih =>
  intro a k hd h
  rw [numF_cons]
  simp only [List.all_cons, Bool.and_eq_true] at hd
  have hb := isD_val hd.1
  have hp : 10 ^ (k + 1) = 10 ^ k * 10 := Nat.pow_succ ..
  have := ih (10 * a + (b.toNat - 48)) (k + 1) hd.2 (by omega)
  rw [List.length_cons, show k + (l.length + 1) = k + 1 + l.length by omega]
  exact this
theorem numV_lt {l : List UInt8} (h : l.all isD = true) : numV l < 10 ^ l.length := by
 have := numF_lt l 0 0 h (by decide)
 simpa [numV] using this
theorem dig {b : UInt8} (h : isD b = true) : Go.Lib.digitVal b = some (b.toNat - 48) := by
 unfold isD at h
 simp only [Bool.and_eq_true, decide_eq_true_eq] at h
 unfold Go.Lib.digitVal
 rw [if_pos h]
theorem decFrom_numF : ∀ (l : List UInt8) (a : Nat), l.all isD = true → Go.Lib.decFrom a l = some (numF a l)
 | [], a, _ => rfl
 | b :: l, a, h => by
  simp only [List.all_cons, Bool.and_eq_true] at h
  unfold Go.Lib.decFrom
  rw [dig h.1, numF_cons, Nat.mul_comm 10 a]
  exact decFrom_numF l _ h.2
theorem atoi_num {l : List UInt8} (h : l.all isD = true) (hn : 1 ≤ l.length) : Go.Lib.atoi l = some (numV l : Int) := by
 match l, h, hn with
 | b :: r, h, _ =>
  have hb := h
  simp only [List.all_cons, Bool.and_eq_true] at hb
  have h1 : (b == 45) = false := by rw [beq_eq_false_iff_ne]; rintro rfl; exact absurd hb.1 (by decide)
  have h2 : (b == 43) = false := by rw [beq_eq_false_iff_ne]; rintro rfl; exact absurd hb.1 (by decide)
  unfold Go.Lib.atoi
  simp only [h1, h2, Bool.false_eq_true, if_false]
  unfold Go.Lib.decNat
  simp only [List.isEmpty_cons, Bool.false_eq_true, if_false]
  rw [decFrom_numF _ _ h]
  rfl
def numB (s : List UInt8) : Bool := s.all isD && wiB s.length 1 9
def numS (s : List UInt8) : Int := if numB s = true then (numV s : Int) else -1
theorem pow10_9 {k : Nat} (h : k ≤ 9) : 10 ^ k ≤ 1000000000 := Nat.le_trans (Nat.pow_le_pow_right (by decide) h) (by decide)
theorem numB_lt {s : List UInt8} (h : numB s = true) : numV s < 1000000000 ∧ 1 ≤ s.length ∧ s.length ≤ 9 ∧ s.all isD = true := by
 unfold numB wiB at h
 simp only [Bool.and_eq_true, decide_eq_true_eq] at h
 exact ⟨Nat.lt_of_lt_of_le (numV_lt h.1) (pow10_9 h.2.2), h.2.1, h.2.2, h.1⟩
section
variable {N : Nat} {s : List UInt8}
theorem m_number (hN : s.length < N) : air_number N s = some (numS s) := by
 unfold air_number numS
 rw [only_spec (predD N) s 9 hN, Option.bind_some, show (decide ((1 : Int) ≤ (s.length : Int)) && decide ((s.length : Int) ≤ (9 : Int))) = wiB s.length 1 9 from within_nat _ 1 9]
 have e : (s.all isD && wiB s.length 1 9) = numB s := rfl
 rw [e]
 cases h : numB s with
 | false => rfl
 | true =>
  have hl := numB_lt h
  rw [Bool.not_true, cond_false, if_pos rfl]
  unfold strconv_Atoi
  rw [if_pos (by omega), atoi_num hl.2.2.2 hl.2.1]
  rfl
end
def dByte (d : Nat) : UInt8 := UInt8.ofNat (48 + d)
theorem dByte_toNat {d : Nat} (h : d < 10) : (dByte d).toNat = 48 + d := by unfold dByte; rw [UInt8.toNat_ofNat']; omega
theorem dByte_D {d : Nat} (h : d < 10) : isD (dByte d) = true := by unfold isD; rw [dByte_toNat h]; simp; omega
theorem dd_small {u : Nat} (h : u < 10) : decDigits u = [dByte u] := by rw [decDigits, dif_pos h]; rfl
theorem dd_big {u : Nat} (h : ¬ u < 10) : decDigits u = decDigits (u / 10) ++ [dByte (u % 10)] := by
 conv => lhs; rw [decDigits, dif_neg h]
 rfl
theorem dd_pos (u : Nat) : 1 ≤ (decDigits u).length := by
 by_cases h : u < 10
 ·rw [dd_small h]; simp
 ·rw [dd_big h]; simp
theorem dd_all (u : Nat) : (decDigits u).all isD = true := by
 induction u using Nat.strongRecOn with
 | _ u ih =>
  by_cases h : u < 10
  ·rw [dd_small h]; simp [dByte_D h]
  ·rw [dd_big h, List.all_append, ih (u / 10) (by omega)]
   simp [dByte_D (Nat.mod_lt u (by decide : 0 < 10))]
theorem dd_num (u : Nat) : numV (decDigits u) = u := by
 induction u using Nat.strongRecOn with
 | _ u ih =>
  by_cases h : u < 10
  ·rw [dd_small h]
   show 10 * 0 + ((dByte u).toNat - 48) = u
   rw [dByte_toNat h]; omega
  ·rw [dd_big h, numV_snoc, ih (u / 10) (by omega), dByte_toNat (Nat.mod_lt u (by decide : 0 < 10))]; omega
theorem dd_len : ∀ (k u : Nat), u < 10 ^ (k + 1) → (decDigits u).length ≤ k + 1
 | 0, u, h => by rw [dd_small (by simpa using h)]; simp
 | k + 1, u, h => by
  by_cases hu : u < 10
  ·rw [dd_small hu]; simp
  ·rw [dd_big hu, List.length_append]
   have := dd_len k (u / 10) (by rw [Nat.pow_succ] at h; omega)
   simp; omega
def dP (k u : Nat) : List UInt8 := List.replicate (k - (decDigits u).length) 48 ++ decDigits u
theorem dP_all (k u : Nat) : (dP k u).all isD = true := by
 unfold dP
 rw [List.all_append, dd_all, Bool.and_true, List.all_eq_true]
 intro b hb
 rw [List.eq_of_mem_replicate hb]; decide
theorem numF_zeros (j : Nat) (l : List UInt8) : numF 0 (List.replicate j 48 ++ l) = numF 0 l := by
 induction j with
 | zero => rfl
 | succ j ih => rw [List.replicate_succ, List.cons_append, numF_cons]; exact ih
theorem dP_num (k u : Nat) : numV (dP k u) = u := by
 unfold dP numV
 rw [numF_zeros]
 exact dd_num u
theorem dP_len (k u : Nat) : k ≤ (dP k u).length ∧ 1 ≤ (dP k u).length := by
 unfold dP
 have := dd_pos u
 rw [List.length_append, List.length_replicate]
 omega
theorem dP_lenle {k j u : Nat} (h : u < 10 ^ (j + 1)) : (dP k u).length ≤ max k (j + 1) := by
 unfold dP
 have := dd_len j u h
 rw [List.length_append, List.length_replicate]
 omega
theorem repeat0 : ∀ n, Go.Lib.repeatL [48] n = List.replicate n 48
 | 0 => rfl
 | n + 1 => by unfold Go.Lib.repeatL; rw [repeat0 n]; rfl
section
variable {N : Nat}
theorem m_Itoa (u : Nat) (h : u ≤ 1000000000) : strconv_Itoa N (u : Int) = some (decDigits u) := by
 unfold strconv_Itoa
 rw [if_pos (by omega), Go.Lib.itoa_nonneg]
theorem m_padded (u k : Nat) (h : u ≤ 1000000000) (hk : k ≤ 100) : air_padded N (u : Int) (k : Int) = some (dP k u) := by
 unfold air_padded
 rw [m_Itoa u h, Option.bind_some]
 have hl : (decDigits u).length ≤ 10 := dd_len 9 u (by omega)
 rw [W64_id (by omega) (by omega)]
 have e : max (0 : Int) ((k : Int) - ((decDigits u).length : Int)) = ((k - (decDigits u).length : Nat) : Int) := by omega
 rw [e]
 unfold strings_Repeat
 rw [if_pos (by simp; omega), Option.bind_some, Int.toNat_natCast, repeat0]
 rw [sadd_some (by simp; omega)]
 rfl
end
end Go.Proofs.YtlddakefmfcblaaGreatDoor
namespace Go.Proofs.YtlddakefmfcblaaGreatDoor
open Go.Proofs
def air_PrintTime (N : Nat) (x0 : Int) : Option ((List UInt8) × Int) :=
 ((air_within N x0 0 20000).bind fun r1 => (bif (!r1) then some (([] : List UInt8), 1) else ((strconv_Itoa N (W64 ((W64 (Int.tdiv x0 1440)) + 1))).bind fun r12 => ((sadd r12 ([32] : List UInt8)).bind fun r20 => ((air_padded N (Int.tmod (W64 (Int.tdiv x0 60)) 24) 2).bind fun r23 => ((sadd r20 r23).bind fun r31 => ((air_padded N (Int.tmod x0 60) 2).bind fun r34 => ((sadd r31 r34).bind fun r42 => some (r42, 0)))))))))
theorem co_air_PrintTime : CallOk Tryz.prog 28 := fun _ _ => by kernel_rfl
set_option maxHeartbeats 4000000 in
set_option maxRecDepth 100000 in
theorem c_air_PrintTime (N : Nat) (w0 : World) (F0 : Mem) (hF : ∀ b o, F0 b = some o → w0.heap[b]? = some o) (hG : Glob F0) (x0 : Int) (r : ((List UInt8) × Int)) (h : air_PrintTime N x0 = some r) :
  Calls Tryz.prog 28 ([(vi x0)] : List Value).toArray w0 (FRet w0 F0 fun F' v => v = (.tuple #[(.string ⟨(r.1).toArray⟩), (vi r.2)])) := by
 have hs0 := HS.start hF
 refine calls_of (n := 21) (c := bodyOf Tryz.f28) Tryz.func28 (by kernel_rfl) (by kernel_rfl) (by kernel_rfl) ?_
 refine Sq (Rg [0, 1] ?_)
 refine V 2 9 (mc (.string ⟨([] : List UInt8).toArray⟩) (.string ⟨(([] : List UInt8)).toArray⟩)) ?_
 refine V 3 23 (mc (vi 0) (vi 0)) ?_
 refine Nss ?_
 refine Sq (Rg [0, 1, 2] ?_)
 refine V 4 3 (mv 0 (vi x0)) ?_
 obtain ⟨r1, hr2, h3⟩ := bind_some h
 refine Cl 5 4 73 #[(.tmp 4), (.const (vi 0)), (.const (vi 20000))] #[3, 3, 3] co_air_within hs0 (c_air_within N w0 F0 hs0.pers (x0) (0) (20000) _ hr2) ?_
 intro v4 F1 w5 hs6 le7 hp8
 obtain rfl := hp8
 refine V 6 4 (run_not (t := 4) (x := (.tmp 5)) (a := r1) rfl) ?_
 refine Nt ?_
 refine CWP.cond (t := (!r1)) (by kernel_rfl) rfl (fun hb9 => ?_) (fun hb9 => ?_)
 ·have h10 := cond_t h3 hb9
  refine Sq (Rg [0, 1] ?_)
  refine V 2 9 (mc (.string ⟨([] : List UInt8).toArray⟩) (.string ⟨(([] : List UInt8)).toArray⟩)) ?_
  refine V 3 23 (mc (vi 1) (vi 1)) ?_
  refine Nt ?_
  refine CWP.ret (by kernel_rfl) ?_
  refine thenQ_ret ?_
  have hfin := some_inj h10
  subst hfin
  exact ⟨rfl, (.tuple #[(.string ⟨(([] : List UInt8)).toArray⟩), (vi 1)]), res_of (l := [.tmp 2, .tmp 3]) (by kernel_rfl) (vs := [(.string ⟨(([] : List UInt8)).toArray⟩), (vi 1)]) ⟨rfl, ⟨rfl, trivial⟩⟩, (.tuple #[(.string ⟨(([] : List UInt8)).toArray⟩), (vi 1)]), F1, rfl, hs6.clear, rfl⟩
 ·have h11 := cond_f h3 hb9
  refine Sc ?_
  refine thenQ_nrm ?_
  refine Sq (Rg [0, 1, 2, 3, 4, 5, 6, 7, 8, 9, 10, 11, 12, 13, 14, 15] ?_)
  refine V 7 3 (mv 0 (vi x0)) ?_
  refine V 8 3 (run_quo (t := 3) (t' := 3) (x := (.tmp 7)) (y := (.const (vi 1440))) (k := .i64) (a := x0) (b := 1440) rfl rfl (by decide)) ?_
  refine V 9 3 (run_add (t := 3) (t' := 3) (x := (.tmp 8)) (y := (.const (vi 1))) (k := .i64) (a := (W64 (Int.tdiv x0 1440))) (b := 1) rfl rfl) ?_
  obtain ⟨r12, hr13, h14⟩ := bind_some h11
  refine Cl 10 9 74 #[(.tmp 9)] #[3] co_strconv_Itoa hs6 (c_strconv_Itoa N w5 F1 hs6.pers (hG.mono le7) ((W64 ((W64 (Int.tdiv x0 1440)) + 1))) _ hr13) ?_
  intro v15 F2 w16 hs17 le18 hp19
  obtain rfl := hp19
  obtain ⟨r20, hr21, h22⟩ := bind_some h14
  refine V 11 9 (run_sadd (t := 9) (t' := 9) (x := (.tmp 10)) (y := (.const (.string ⟨([32] : List UInt8).toArray⟩))) (a := r12) (b := ([32] : List UInt8)) (v := r20) rfl rfl hr21) ?_
  refine V 12 3 (mv 0 (vi x0)) ?_
  refine V 13 3 (run_quo (t := 3) (t' := 3) (x := (.tmp 12)) (y := (.const (vi 60))) (k := .i64) (a := x0) (b := 60) rfl rfl (by decide)) ?_
  refine V 14 3 (run_rem (t := 3) (t' := 3) (x := (.tmp 13)) (y := (.const (vi 24))) (k := .i64) (a := (W64 (Int.tdiv x0 60))) (b := 24) rfl rfl (by decide)) ?_
  obtain ⟨r23, hr24, h25⟩ := bind_some h22
  refine Cl 15 9 75 #[(.tmp 14), (.const (vi 2))] #[3, 3] co_air_padded hs17 (c_air_padded N w16 F2 hs17.pers (hG.mono (le7.trans le18)) ((Int.tmod (W64 (Int.tdiv x0 60)) 24)) (2) _ hr24) ?_
  intro v26 F3 w27 hs28 le29 hp30
  obtain rfl := hp30
  obtain ⟨r31, hr32, h33⟩ := bind_some h25
  refine V 16 9 (run_sadd (t := 9) (t' := 9) (x := (.tmp 11)) (y := (.tmp 15)) (a := r20) (b := r23) (v := r31) rfl rfl hr32) ?_
  refine V 17 3 (mv 0 (vi x0)) ?_
  refine V 18 3 (run_rem (t := 3) (t' := 3) (x := (.tmp 17)) (y := (.const (vi 60))) (k := .i64) (a := x0) (b := 60) rfl rfl (by decide)) ?_
  obtain ⟨r34, hr35, h36⟩ := bind_some h33
  refine Cl 19 9 75 #[(.tmp 18), (.const (vi 2))] #[3, 3] co_air_padded hs28 (c_air_padded N w27 F3 hs28.pers (hG.mono ((le7.trans le18).trans le29)) ((Int.tmod x0 60)) (2) _ hr35) ?_
  intro v37 F4 w38 hs39 le40 hp41
  obtain rfl := hp41
  obtain ⟨r42, hr43, h44⟩ := bind_some h36
  refine V 20 9 (run_sadd (t := 9) (t' := 9) (x := (.tmp 16)) (y := (.tmp 19)) (a := r31) (b := r34) (v := r42) rfl rfl hr43) ?_
  refine V 2 9 (ma 20 (.string ⟨(r42).toArray⟩)) ?_
  refine V 3 23 (mc (vi 0) (vi 0)) ?_
  refine Nt ?_
  refine CWP.ret (by kernel_rfl) ?_
  have hfin := some_inj h44
  subst hfin
  exact ⟨rfl, (.tuple #[(.string ⟨(r42).toArray⟩), (vi 0)]), res_of (l := [.tmp 2, .tmp 3]) (by kernel_rfl) (vs := [(.string ⟨(r42).toArray⟩), (vi 0)]) ⟨rfl, ⟨rfl, trivial⟩⟩, (.tuple #[(.string ⟨(r42).toArray⟩), (vi 0)]), F4, rfl, hs39.clear, rfl⟩
end Go.Proofs.YtlddakefmfcblaaGreatDoor
namespace Go.Proofs.YtlddakefmfcblaaGreatDoor
open Go.Proofs
end Go.Proofs.YtlddakefmfcblaaGreatDoor
namespace Go.Proofs.YtlddakefmfcblaaGreatDoor
open Go.Proofs
def air_ParseTime (N : Nat) (x0 : (List UInt8)) : Option (Int × Int) :=
 ((strings_Cut N x0 ([32] : List UInt8)).bind fun r1 => ((air_number N r1.1).bind fun r9 => ((air_number N r1.2.1).bind fun r17 => (bif ((decide (r9 < 1)) || ((decide (r9 > 20000)) || (decide (r17 < 0)))) then some (0, 13) else ((air_PrintTime N (W64 ((W64 ((W64 ((W64 (r9 - 1)) * 1440)) + (W64 ((W64 (Int.tdiv r17 100)) * 60)))) + (Int.tmod r17 100)))).bind fun r38 => (bif ((r38.2 != 0) || (r38.1 != x0)) then some (0, 13) else some ((W64 ((W64 ((W64 ((W64 (r9 - 1)) * 1440)) + (W64 ((W64 (Int.tdiv r17 100)) * 60)))) + (Int.tmod r17 100))), 0)))))))
theorem co_air_ParseTime : CallOk Tryz.prog 30 := fun _ _ => by kernel_rfl
set_option maxHeartbeats 4000000 in
set_option maxRecDepth 100000 in
theorem c_air_ParseTime (N : Nat) (w0 : World) (F0 : Mem) (hF : ∀ b o, F0 b = some o → w0.heap[b]? = some o) (hG : Glob F0) (x0 : (List UInt8)) (r : (Int × Int)) (h : air_ParseTime N x0 = some r) :
  Calls Tryz.prog 30 ([(.string ⟨(x0).toArray⟩)] : List Value).toArray w0 (FRet w0 F0 fun F' v => v = (.tuple #[(vi r.1), (vi r.2)])) := by
 have hs0 := HS.start hF
 refine calls_of (n := 55) (c := bodyOf Tryz.f30) Tryz.func30 (by kernel_rfl) (by kernel_rfl) (by kernel_rfl) ?_
 refine Sq (Rg [0, 1] ?_)
 refine V 2 3 (mc (vi 0) (vi 0)) ?_
 refine V 3 23 (mc (vi 0) (vi 0)) ?_
 refine Nss (Rg [0, 1, 2, 3, 4, 5, 6, 7, 8] ?_)
 refine V 13 9 (mv 0 (.string ⟨(x0).toArray⟩)) ?_
 obtain ⟨r1, hr2, h3⟩ := bind_some h
 refine Cl 14 96 77 #[(.tmp 13), (.const (.string ⟨([32] : List UInt8).toArray⟩))] #[9, 9] co_strings_Cut hs0 (c_strings_Cut N w0 F0 hs0.pers hG (x0) (([32] : List UInt8)) _ hr2) ?_
 intro v4 F1 w5 hs6 le7 hp8
 obtain rfl := hp8
 refine V 12 96 (mv 14 (.tuple #[(.string ⟨(r1.1).toArray⟩), (.string ⟨(r1.2.1).toArray⟩), (.bool r1.2.2)])) ?_
 refine V 15 9 (ex 12 0 (.string ⟨(r1.1).toArray⟩) (vs := #[(.string ⟨(r1.1).toArray⟩), (.string ⟨(r1.2.1).toArray⟩), (.bool r1.2.2)])) ?_
 refine V 16 9 (ex 12 1 (.string ⟨(r1.2.1).toArray⟩) (vs := #[(.string ⟨(r1.1).toArray⟩), (.string ⟨(r1.2.1).toArray⟩), (.bool r1.2.2)])) ?_
 refine V 17 4 (ex 12 2 (.bool r1.2.2) (vs := #[(.string ⟨(r1.1).toArray⟩), (.string ⟨(r1.2.1).toArray⟩), (.bool r1.2.2)])) ?_
 refine V 4 9 (ma 15 (.string ⟨(r1.1).toArray⟩)) ?_
 refine V 5 9 (ma 16 (.string ⟨(r1.2.1).toArray⟩)) ?_
 refine V 6 4 (ma 17 (.bool r1.2.2)) ?_
 refine Nss (Rg [0, 1, 2, 3, 4, 5] ?_)
 refine V 18 9 (mv 4 (.string ⟨(r1.1).toArray⟩)) ?_
 obtain ⟨r9, hr10, h11⟩ := bind_some h3
 refine Cl 19 3 78 #[(.tmp 18)] #[9] co_air_number hs6 (c_air_number N w5 F1 hs6.pers (r1.1) _ hr10) ?_
 intro v12 F2 w13 hs14 le15 hp16
 obtain rfl := hp16
 refine V 20 9 (mv 5 (.string ⟨(r1.2.1).toArray⟩)) ?_
 obtain ⟨r17, hr18, h19⟩ := bind_some h11
 refine Cl 21 3 78 #[(.tmp 20)] #[9] co_air_number hs14 (c_air_number N w13 F2 hs14.pers (r1.2.1) _ hr18) ?_
 intro v20 F3 w21 hs22 le23 hp24
 obtain rfl := hp24
 refine V 7 3 (ma 19 (vi r9)) ?_
 refine V 8 3 (ma 21 (vi r17)) ?_
 refine Nss ?_
 refine Sq (Rg [0, 1, 2, 3, 4, 5, 6, 7, 8, 9] ?_)
 refine RWP.cut (fun f w => ∃ (F4 : Mem), HS w0 F0 w F4 [] ∧ Mem.le F3 F4 ∧ f.d = [] ∧ f 0 = (.string ⟨(x0).toArray⟩) ∧ f 7 = (vi r9) ∧ f 8 = (vi r17) ∧ f 31 = (.bool ((decide (r9 < 1)) || ((decide (r9 > 20000)) || (decide (r17 < 0)))))) ?_ ?_
 ·refine V 22 3 (mv 7 (vi r9)) ?_
  refine V 23 4 (run_lss (t := 3) (t' := 3) (x := (.tmp 22)) (y := (.const (vi 1))) (k := .i64) (a := r9) (b := 1) rfl rfl) ?_
  refine V 24 4 (mv 23 (.bool (decide (r9 < 1)))) ?_
  refine RWP.split (decide (r9 < 1)) (fun hb33 => ?_) (fun hb33 => ?_)
  ·refine Sk [25, 26] 2 false 24 hb33 ?_
   refine V 27 4 (p1 24 (.const (.bool true)) (.tmp 26) (.bool true) hb33) ?_
   refine V 28 4 (mv 27 (.bool true)) ?_
   refine Sk [29, 30] 6 false 28 rfl ?_
   refine V 31 4 (p1 28 (.const (.bool true)) (.tmp 30) (.bool true) rfl) ?_
   exact RWP.nil ⟨rfl, F3, hs22, (Mem.le.refl _), rfl, rfl, rfl, rfl, (congrArg Value.bool (or_t hb33 (rfl)))⟩
  ·refine Vg 25 3 2 false 24 hb33 (mv 7 (vi r9)) ?_
   refine Vg 26 4 2 false 24 hb33 (run_gtr (t := 3) (t' := 3) (x := (.tmp 25)) (y := (.const (vi 20000))) (k := .i64) (a := r9) (b := 20000) rfl rfl) ?_
   refine V 27 4 (p0 24 (.const (.bool true)) (.tmp 26) (.bool (decide (r9 > 20000))) hb33) ?_
   refine V 28 4 (mv 27 (.bool (decide (r9 > 20000)))) ?_
   refine RWP.split (decide (r9 > 20000)) (fun hb34 => ?_) (fun hb34 => ?_)
   ·refine Sk [29, 30] 6 false 28 hb34 ?_
    refine V 31 4 (p1 28 (.const (.bool true)) (.tmp 30) (.bool true) hb34) ?_
    exact RWP.nil ⟨rfl, F3, hs22, (Mem.le.refl _), rfl, rfl, rfl, rfl, (congrArg Value.bool (or_f hb33 (or_t hb34 (rfl))))⟩
   ·refine Vg 29 3 6 false 28 hb34 (mv 8 (vi r17)) ?_
    refine Vg 30 4 6 false 28 hb34 (run_lss (t := 3) (t' := 3) (x := (.tmp 29)) (y := (.const (vi 0))) (k := .i64) (a := r17) (b := 0) rfl rfl) ?_
    refine V 31 4 (p0 28 (.const (.bool true)) (.tmp 30) (.bool (decide (r17 < 0))) hb34) ?_
    exact RWP.nil ⟨rfl, F3, hs22, (Mem.le.refl _), rfl, rfl, rfl, rfl, (congrArg Value.bool (or_f hb33 (or_f hb34 (rfl))))⟩
 ·rintro f w25 ⟨F4, hs26, le27, e28, e29, e30, e31, e32⟩
  refine thenQ_nrm ?_
  refine CWP.cond (t := ((decide (r9 < 1)) || ((decide (r9 > 20000)) || (decide (r17 < 0))))) (by kernel_rfl) e32 (fun hb35 => ?_) (fun hb35 => ?_)
  ·have h36 := cond_t h19 hb35
   refine Sq (Rg [0, 1] ?_)
   refine V 2 3 (mc (vi 0) (vi 0)) ?_
   refine V 3 23 (mc (vi 13) (vi 13)) ?_
   refine Nt ?_
   refine CWP.ret (by kernel_rfl) ?_
   refine thenQ_ret ?_
   have hfin := some_inj h36
   subst hfin
   exact ⟨e28, (.tuple #[(vi 0), (vi 13)]), res_of (l := [.tmp 2, .tmp 3]) (by kernel_rfl) (vs := [(vi 0), (vi 13)]) ⟨rfl, ⟨rfl, trivial⟩⟩, (.tuple #[(vi 0), (vi 13)]), F4, rfl, hs26.clear, rfl⟩
  ·have h37 := cond_f h19 hb35
   refine Sc ?_
   refine thenQ_nrm ?_
   refine Sq (Rg [0, 1, 2, 3, 4, 5, 6, 7, 8, 9, 10] ?_)
   refine V 32 3 (mv 7 (vi r9) e30) ?_
   refine V 33 3 (run_sub (t := 3) (t' := 3) (x := (.tmp 32)) (y := (.const (vi 1))) (k := .i64) (a := r9) (b := 1) rfl rfl) ?_
   refine V 34 3 (run_mul (t := 3) (t' := 3) (x := (.tmp 33)) (y := (.const (vi 1440))) (k := .i64) (a := (W64 (r9 - 1))) (b := 1440) rfl rfl) ?_
   refine V 35 3 (mv 8 (vi r17) e31) ?_
   refine V 36 3 (run_quo (t := 3) (t' := 3) (x := (.tmp 35)) (y := (.const (vi 100))) (k := .i64) (a := r17) (b := 100) rfl rfl (by decide)) ?_
   refine V 37 3 (run_mul (t := 3) (t' := 3) (x := (.tmp 36)) (y := (.const (vi 60))) (k := .i64) (a := (W64 (Int.tdiv r17 100))) (b := 60) rfl rfl) ?_
   refine V 38 3 (run_add (t := 3) (t' := 3) (x := (.tmp 34)) (y := (.tmp 37)) (k := .i64) (a := (W64 ((W64 (r9 - 1)) * 1440))) (b := (W64 ((W64 (Int.tdiv r17 100)) * 60))) rfl rfl) ?_
   refine V 39 3 (mv 8 (vi r17) e31) ?_
   refine V 40 3 (run_rem (t := 3) (t' := 3) (x := (.tmp 39)) (y := (.const (vi 100))) (k := .i64) (a := r17) (b := 100) rfl rfl (by decide)) ?_
   refine V 41 3 (run_add (t := 3) (t' := 3) (x := (.tmp 38)) (y := (.tmp 40)) (k := .i64) (a := (W64 ((W64 ((W64 (r9 - 1)) * 1440)) + (W64 ((W64 (Int.tdiv r17 100)) * 60))))) (b := (Int.tmod r17 100)) rfl rfl) ?_
   refine V 9 3 (ma 41 (vi (W64 ((W64 ((W64 ((W64 (r9 - 1)) * 1440)) + (W64 ((W64 (Int.tdiv r17 100)) * 60)))) + (Int.tmod r17 100))))) ?_
   refine Nss ?_
   refine Sq (Rg [0, 1, 2, 3, 4, 5, 6] ?_)
   refine V 43 3 (mv 9 (vi (W64 ((W64 ((W64 ((W64 (r9 - 1)) * 1440)) + (W64 ((W64 (Int.tdiv r17 100)) * 60)))) + (Int.tmod r17 100))))) ?_
   obtain ⟨r38, hr39, h40⟩ := bind_some h37
   refine Cl 44 24 28 #[(.tmp 43)] #[3] co_air_PrintTime hs26 (c_air_PrintTime N w25 F4 hs26.pers (hG.mono (((le7.trans le15).trans le23).trans le27)) ((W64 ((W64 ((W64 ((W64 (r9 - 1)) * 1440)) + (W64 ((W64 (Int.tdiv r17 100)) * 60)))) + (Int.tmod r17 100)))) _ hr39) ?_
   intro v41 F5 w42 hs43 le44 hp45
   obtain rfl := hp45
   refine V 42 24 (mv 44 (.tuple #[(.string ⟨(r38.1).toArray⟩), (vi r38.2)])) ?_
   refine V 45 9 (ex 42 0 (.string ⟨(r38.1).toArray⟩) (vs := #[(.string ⟨(r38.1).toArray⟩), (vi r38.2)])) ?_
   refine V 46 23 (ex 42 1 (vi r38.2) (vs := #[(.string ⟨(r38.1).toArray⟩), (vi r38.2)])) ?_
   refine V 10 9 (ma 45 (.string ⟨(r38.1).toArray⟩)) ?_
   refine V 11 23 (ma 46 (vi r38.2)) ?_
   refine Nss (Rg [0, 1, 2, 3, 4, 5, 6] ?_)
   refine RWP.cut (fun f w => ∃ (F6 : Mem), HS w0 F0 w F6 [] ∧ Mem.le F5 F6 ∧ f.d = [] ∧ f 9 = (vi (W64 ((W64 ((W64 ((W64 (r9 - 1)) * 1440)) + (W64 ((W64 (Int.tdiv r17 100)) * 60)))) + (Int.tmod r17 100)))) ∧ f 53 = (.bool ((r38.2 != 0) || (r38.1 != x0)))) ?_ ?_
   ·refine V 47 23 (mv 11 (vi r38.2)) ?_
    refine V 48 4 (run_neq (t := 23) (t' := 23) (x := (.tmp 47)) (y := (.const (vi 0))) (k := .i64) (a := r38.2) (b := 0) rfl rfl) ?_
    refine V 49 4 (mv 48 (.bool (r38.2 != 0))) ?_
    refine RWP.split (r38.2 != 0) (fun hb52 => ?_) (fun hb52 => ?_)
    ·refine Sk [50, 51, 52] 2 false 49 hb52 ?_
     refine V 53 4 (p1 49 (.const (.bool true)) (.tmp 52) (.bool true) hb52) ?_
     exact RWP.nil ⟨rfl, F5, hs43, (Mem.le.refl _), e28, rfl, (congrArg Value.bool (or_t hb52 (rfl)))⟩
    ·refine Vg 50 9 2 false 49 hb52 (mv 10 (.string ⟨(r38.1).toArray⟩)) ?_
     refine Vg 51 9 2 false 49 hb52 (mv 0 (.string ⟨(x0).toArray⟩) e29) ?_
     refine Vg 52 4 2 false 49 hb52 (run_scmp (t := 9) (t' := 9) (x := (.tmp 50)) (y := (.tmp 51)) (op := .neq) (a := r38.1) (b := x0) (v := (r38.1 != x0)) rfl rfl rfl) ?_
     refine V 53 4 (p0 49 (.const (.bool true)) (.tmp 52) (.bool (r38.1 != x0)) hb52) ?_
     exact RWP.nil ⟨rfl, F5, hs43, (Mem.le.refl _), e28, rfl, (congrArg Value.bool (or_f hb52 (rfl)))⟩
   ·rintro f w46 ⟨F6, hs47, le48, e49, e50, e51⟩
    refine thenQ_nrm ?_
    refine CWP.cond (t := ((r38.2 != 0) || (r38.1 != x0))) (by kernel_rfl) e51 (fun hb53 => ?_) (fun hb53 => ?_)
    ·have h54 := cond_t h40 hb53
     refine Sq (Rg [0, 1] ?_)
     refine V 2 3 (mc (vi 0) (vi 0)) ?_
     refine V 3 23 (mc (vi 13) (vi 13)) ?_
     refine Nt ?_
     refine CWP.ret (by kernel_rfl) ?_
     refine thenQ_ret ?_
     have hfin := some_inj h54
     subst hfin
     exact ⟨e49, (.tuple #[(vi 0), (vi 13)]), res_of (l := [.tmp 2, .tmp 3]) (by kernel_rfl) (vs := [(vi 0), (vi 13)]) ⟨rfl, ⟨rfl, trivial⟩⟩, (.tuple #[(vi 0), (vi 13)]), F6, rfl, hs47.clear, rfl⟩
    ·have h55 := cond_f h40 hb53
     refine Sc ?_
     refine thenQ_nrm ?_
     refine Sq (Rg [0, 1, 2] ?_)
     refine V 54 3 (mv 9 (vi (W64 ((W64 ((W64 ((W64 (r9 - 1)) * 1440)) + (W64 ((W64 (Int.tdiv r17 100)) * 60)))) + (Int.tmod r17 100)))) e50) ?_
     refine V 2 3 (ma 54 (vi (W64 ((W64 ((W64 ((W64 (r9 - 1)) * 1440)) + (W64 ((W64 (Int.tdiv r17 100)) * 60)))) + (Int.tmod r17 100))))) ?_
     refine V 3 23 (mc (vi 0) (vi 0)) ?_
     refine Nt ?_
     refine CWP.ret (by kernel_rfl) ?_
     have hfin := some_inj h55
     subst hfin
     exact ⟨e49, (.tuple #[(vi (W64 ((W64 ((W64 ((W64 (r9 - 1)) * 1440)) + (W64 ((W64 (Int.tdiv r17 100)) * 60)))) + (Int.tmod r17 100)))), (vi 0)]), res_of (l := [.tmp 2, .tmp 3]) (by kernel_rfl) (vs := [(vi (W64 ((W64 ((W64 ((W64 (r9 - 1)) * 1440)) + (W64 ((W64 (Int.tdiv r17 100)) * 60)))) + (Int.tmod r17 100)))), (vi 0)]) ⟨rfl, ⟨rfl, trivial⟩⟩, (.tuple #[(vi (W64 ((W64 ((W64 ((W64 (r9 - 1)) * 1440)) + (W64 ((W64 (Int.tdiv r17 100)) * 60)))) + (Int.tmod r17 100)))), (vi 0)]), F6, rfl, hs47.clear, rfl⟩
end Go.Proofs.YtlddakefmfcblaaGreatDoor
namespace Go.Proofs.YtlddakefmfcblaaGreatDoor
open Go.Proofs
end Go.Proofs.YtlddakefmfcblaaGreatDoor
namespace Go.Proofs.YtlddakefmfcblaaGreatDoor
open Go.Proofs
end Go.Proofs.YtlddakefmfcblaaGreatDoor
namespace Go.Proofs.YtlddakefmfcblaaGreatDoor
open Go.Proofs
end Go.Proofs.YtlddakefmfcblaaGreatDoor
namespace Go.Proofs.YtlddakefmfcblaaGreatDoor
open Go.Lib (decDigits)
def tText (u : Nat) : List UInt8 := decDigits (u / 1440 + 1) ++ 32 :: (dP 2 (u / 60 % 24) ++ dP 2 (u % 60))
def printT (x : Int) : List UInt8 × Int := if 0 ≤ x ∧ x ≤ 20000 then (tText x.toNat, 0) else ([], 1)
theorem tdivN (u k : Nat) (h : u < 4611686018427387904) : W64 (Int.tdiv (u : Int) (k : Int)) = ((u / k : Nat) : Int) := by
 have : Int.tdiv (u : Int) (k : Int) = ((u / k : Nat) : Int) := by rw [Int.tdiv_eq_ediv_of_nonneg (by omega)]; rfl
 have h2 : u / k ≤ u := Nat.div_le_self _ _
 rw [this]
 generalize u / k = v at h2
 rw [W64_id (by omega) (by omega)]
theorem tmodN (u k : Nat) : Int.tmod (u : Int) (k : Int) = ((u % k : Nat) : Int) := by
 rw [Int.tmod_eq_emod_of_nonneg (by omega)]; rfl
theorem dd_len5 {u : Nat} (h : u < 100000) : (decDigits u).length ≤ 5 := dd_len 4 u (by omega)
theorem dP2_len {u : Nat} (h : u < 100) : (dP 2 u).length = 2 := by
 have h1 := dP_len 2 u
 have h2 := dP_lenle (k := 2) (j := 1) (u := u) (by omega)
 omega
section
variable {N : Nat}
theorem s_PrintTime (x : Int) : air_PrintTime N x = some (printT x) := by
 unfold air_PrintTime printT
 rw [m_within, Option.bind_some]
 by_cases h : 0 ≤ x ∧ x ≤ 20000
 ·rw [if_pos h, decide_eq_true h.1, decide_eq_true h.2]
  obtain ⟨u, rfl⟩ : ∃ u : Nat, x = u := ⟨x.toNat, by omega⟩
  have hu : u ≤ 20000 := by omega
  simp only [Bool.and_self, Bool.not_true, cond_false]
  have e1 := tdivN u 1440 (by omega)
  have e2 := tdivN u 60 (by omega)
  simp only [Int.cast_ofNat_Int] at e1 e2
  have e3 := tmodN (u / 60) 24
  have e4 := tmodN u 60
  simp only [Int.cast_ofNat_Int] at e3 e4
  rw [e1, e2, e3, e4, w64s (u / 1440) (by omega), m_Itoa _ (by omega), Option.bind_some]
  have hl1 := dd_len5 (u := u / 1440 + 1) (by omega)
  have hl2 := dP2_len (u := u / 60 % 24) (by omega)
  have hl3 := dP2_len (u := u % 60) (by omega)
  have p1 := m_padded (N := N) (u / 60 % 24) 2 (by omega) (by omega)
  have p2 := m_padded (N := N) (u % 60) 2 (by omega) (by omega)
  simp only [Int.cast_ofNat_Int] at p1 p2
  rw [sadd_some (by simp; omega), Option.bind_some, p1, Option.bind_some, sadd_some (by simp; omega), Option.bind_some, p2, Option.bind_some, sadd_some (by simp; omega), Option.bind_some]
  unfold tText
  simp
 ·rw [if_neg h]
  have : (decide (0 ≤ x) && decide (x ≤ 20000)) = false := by
   rw [Bool.and_eq_false_iff, decide_eq_false_iff_not, decide_eq_false_iff_not]; omega
  rw [this]; rfl
def tval (p q : Nat) : Nat := (p - 1) * 1440 + q / 100 * 60 + q % 100
theorem tval_eq {p q : Nat} (h1 : 1 ≤ p) (hp : p < 1000000000) (hq : q < 1000000000) : W64 ((W64 ((W64 ((W64 ((p : Int) - 1)) * 1440)) + (W64 ((W64 (Int.tdiv (q : Int) 100)) * 60)))) + (Int.tmod (q : Int) 100)) = (tval p q : Int) := by
 have e1 := tdivN q 100 (by omega)
 have e2 := tmodN q 100
 simp only [Int.cast_ofNat_Int] at e1 e2
 rw [e1, e2, W64_id (n := (p : Int) - 1) (by omega) (by omega), W64_id (n := ((p : Int) - 1) * 1440) (by omega) (by omega), W64_id (n := ((q / 100 : Nat) : Int) * 60) (by omega) (by omega)]
 rw [W64_id (n := ((p : Int) - 1) * 1440 + ((q / 100 : Nat) : Int) * 60) (by omega) (by omega), W64_id (by omega) (by omega)]
 unfold tval
 omega
def parse2 (s a b : List UInt8) : Int × Int := if numB a && numB b && decide (1 ≤ numV a) && decide (printT (tval (numV a) (numV b)) = (s, 0)) then ((tval (numV a) (numV b) : Int), 0) else (0, 13)
def parseT (s : List UInt8) : Int × Int := match pcs 32 s with
 | [a, b] => parse2 s a b
 | _ => (0, 13)
theorem numB_no32 {s : List UInt8} (h : (32 : UInt8) ∈ s) : numB s = false := by
 cases hh : numB s with
 | false => rfl
 | true =>
  have := List.all_eq_true.1 (numB_lt hh).2.2.2 _ h
  revert this; decide
theorem numB_nil : numB [] = false := rfl
theorem ok_dec (s t : List UInt8) (e : Int) : ((e != 0) || (t != s)) = !decide ((t, e) = (s, 0)) := by
 by_cases h1 : e = 0
 ·by_cases h2 : t = s
  ·subst h1; subst h2; simp
  ·rw [decide_eq_false (fun h => h2 (by injection h))]; simp [h2]
 ·rw [decide_eq_false (fun h => h1 (by injection h))]; simp [h1]
theorem parse_air (s a b : List UInt8) (ha : a.length < N) (hb : b.length < N) :
  ((air_number N a).bind fun r9 => ((air_number N b).bind fun r17 => (bif ((decide (r9 < 1)) || ((decide (r9 > 20000)) || (decide (r17 < 0)))) then some ((0 : Int), (13 : Int)) else ((air_PrintTime N (W64 ((W64 ((W64 ((W64 (r9 - 1)) * 1440)) + (W64 ((W64 (Int.tdiv r17 100)) * 60)))) + (Int.tmod r17 100)))).bind fun r38 => (bif ((r38.2 != 0) || (r38.1 != s)) then some (0, 13) else some ((W64 ((W64 ((W64 ((W64 (r9 - 1)) * 1440)) + (W64 ((W64 (Int.tdiv r17 100)) * 60)))) + (Int.tmod r17 100))), 0)))))) = some (parse2 s a b) := by
 rw [m_number ha, m_number hb, Option.bind_some, Option.bind_some]
 unfold numS parse2
 cases hA : numB a with
 | false =>
  simp only [Bool.false_eq_true, if_false, Bool.false_and]
  rfl
 | true =>
  cases hB : numB b with
  | false =>
   simp only [Bool.false_eq_true, if_false, if_true, Bool.and_false, Bool.false_and]
   rw [show decide ((-1 : Int) < 0) = true from rfl, Bool.or_true, Bool.or_true]; rfl
  | true =>
   simp only [if_true, Bool.and_self, Bool.true_and]
   have hp := numB_lt hA
   have hq := numB_lt hB
   generalize numV a = p at hp ⊢
   generalize numV b = q at hq ⊢
   by_cases h1 : 1 ≤ p
   ·rw [decide_eq_false (show ¬ (p : Int) < 1 by omega), decide_eq_true h1, decide_eq_false (show ¬ (q : Int) < 0 by omega), Bool.false_or, Bool.or_false, Bool.true_and, tval_eq h1 hp.1 hq.1]
    by_cases h2 : p ≤ 20000
    ·rw [decide_eq_false (show ¬ (p : Int) > 20000 by omega), cond_false, s_PrintTime, Option.bind_some, ok_dec]
     have : ((printT (tval p q : Int)).1, (printT (tval p q : Int)).2) = printT (tval p q : Int) := rfl
     rw [this]
     by_cases h3 : printT (tval p q : Int) = (s, 0)
     ·rw [decide_eq_true h3, if_pos rfl]; rfl
     ·rw [decide_eq_false h3]; rfl
    ·rw [decide_eq_true (show (p : Int) > 20000 by omega), cond_true]
     have h3 : ¬ printT (tval p q : Int) = (s, 0) := by
      unfold printT tval
      rw [if_neg (by omega)]
      intro h; injection h with h1 h2; exact absurd h2 (by decide)
     rw [decide_eq_false h3]; rfl
   ·rw [decide_eq_true (show (p : Int) < 1 by omega), decide_eq_false h1]; rfl
theorem parse2_err {s a b : List UInt8} (h : numB b = false) : parse2 s a b = (0, 13) := by unfold parse2; rw [h]; simp
theorem s_ParseTime (s : List UInt8) (hs : s.length < 4294967281) (hN : 4294967300 < N) : air_ParseTime N s = some (parseT s) := by
 unfold air_ParseTime
 have hc : strings_Cut N s [32] = some (Go.Lib.cut s [32]) := by unfold strings_Cut; rw [if_pos hs]
 rw [hc, Option.bind_some]
 unfold parseT
 by_cases h : (32 : UInt8) ∈ s
 ·obtain ⟨a, t, rfl, ha⟩ := split_at_first h
  simp only [List.length_append, List.length_cons] at hs
  rw [cut_some ha, pcs_app ha]
  simp only
  rw [parse_air _ a t (by omega) (by omega)]
  by_cases ht : (32 : UInt8) ∈ t
  ·obtain ⟨a', t', rfl, ha'⟩ := split_at_first ht
   rw [pcs_app ha', parse2_err (numB_no32 ht)]
   cases hp : pcs 32 t' with
   | nil => exact absurd hp (pcs_ne 32 t')
   | cons x l => rfl
  ·rw [pcs_none ht]
 ·rw [cut_none h, pcs_none h]
  simp only
  rw [parse_air _ s [] (by omega) (by simp; omega), parse2_err numB_nil]
end
theorem numF_mul (a : Nat) (l : List UInt8) : numF a l = a * 10 ^ l.length + numF 0 l := by
 induction l generalizing a with
 | nil => simp [numF]
 | cons b l ih =>
  rw [numF_cons, numF_cons, ih (10 * a + (b.toNat - 48)), ih (10 * 0 + (b.toNat - 48)), List.length_cons, Nat.pow_succ, Nat.add_mul, Nat.mul_comm (10 ^ l.length) 10, ← Nat.mul_assoc, Nat.mul_comm a 10, Nat.mul_zero, Nat.zero_add, Nat.add_assoc]
theorem numV_app (l m : List UInt8) : numV (l ++ m) = numV l * 10 ^ m.length + numV m := by
 unfold numV
 rw [show numF 0 (l ++ m) = numF (numF 0 l) m by unfold numF; rw [List.foldl_append], numF_mul]
theorem no32 {l : List UInt8} (h : l.all isD = true) : (32 : UInt8) ∉ l := fun hm => by
 have := List.all_eq_true.1 h _ hm
 revert this; decide
theorem parse_text {u : Nat} (h : u ≤ 20000) : parseT (tText u) = ((u : Int), 0) := by
 have hl1 := dd_len5 (u := u / 1440 + 1) (by omega)
 have hl2 := dP2_len (u := u / 60 % 24) (by omega)
 have hl3 := dP2_len (u := u % 60) (by omega)
 have hall : (dP 2 (u / 60 % 24) ++ dP 2 (u % 60)).all isD = true := by rw [List.all_append, dP_all, dP_all]; rfl
 have hp : pcs 32 (tText u) = [decDigits (u / 1440 + 1), dP 2 (u / 60 % 24) ++ dP 2 (u % 60)] := by
  unfold tText
  rw [pcs_app (no32 (dd_all _)), pcs_none (no32 hall)]
 unfold parseT
 rw [hp]
 simp only
 unfold parse2
 have n1 : numB (decDigits (u / 1440 + 1)) = true := by
  unfold numB wiB; have := dd_pos (u / 1440 + 1); rw [dd_all]; simp; omega
 have n2 : numB (dP 2 (u / 60 % 24) ++ dP 2 (u % 60)) = true := by
  unfold numB wiB; rw [hall]; simp [hl2, hl3]
 have v2 : numV (dP 2 (u / 60 % 24) ++ dP 2 (u % 60)) = u / 60 % 24 * 100 + u % 60 := by
  rw [numV_app, dP_num, dP_num, hl3]
 have e : tval (u / 1440 + 1) (u / 60 % 24 * 100 + u % 60) = u := by unfold tval; omega
 have hpr : printT (u : Int) = (tText u, 0) := by unfold printT; rw [if_pos (by omega)]; rfl
 rw [n1, n2, dd_num, v2, e, hpr, decide_eq_true (show 1 ≤ u / 1440 + 1 by omega), decide_eq_true rfl]
 rfl
end Go.Proofs.YtlddakefmfcblaaGreatDoor
namespace Go.Proofs.YtlddakefmfcblaaGreatDoor
open Go.Proofs
end Go.Proofs.YtlddakefmfcblaaGreatDoor
namespace Go.Proofs.YtlddakefmfcblaaGreatDoor
open Go.Proofs
end Go.Proofs.YtlddakefmfcblaaGreatDoor
namespace Go.Proofs.YtlddakefmfcblaaGreatDoor
open Go.Proofs
end Go.Proofs.YtlddakefmfcblaaGreatDoor
namespace Go.Proofs.YtlddakefmfcblaaGreatDoor
open Go.Proofs
end Go.Proofs.YtlddakefmfcblaaGreatDoor
namespace Go.Proofs.YtlddakefmfcblaaGreatDoor
open Go.Proofs
end Go.Proofs.YtlddakefmfcblaaGreatDoor
namespace Go.Proofs.YtlddakefmfcblaaGreatDoor
open Go.Proofs
end Go.Proofs.YtlddakefmfcblaaGreatDoor
namespace Go.Proofs.YtlddakefmfcblaaGreatDoor
open Go.Proofs
end Go.Proofs.YtlddakefmfcblaaGreatDoor
namespace Go.Proofs.YtlddakefmfcblaaGreatDoor
open Go.Proofs
end Go.Proofs.YtlddakefmfcblaaGreatDoor
namespace Go.Proofs.YtlddakefmfcblaaGreatDoor
open Go.Proofs
end Go.Proofs.YtlddakefmfcblaaGreatDoor
namespace Go.Proofs.YtlddakefmfcblaaGreatDoor
open Go.Proofs
end Go.Proofs.YtlddakefmfcblaaGreatDoor
namespace Go.Proofs.YtlddakefmfcblaaGreatDoor
open Go.Proofs
end Go.Proofs.YtlddakefmfcblaaGreatDoor
namespace Go.Proofs.YtlddakefmfcblaaGreatDoor
open Go.Proofs
end Go.Proofs.YtlddakefmfcblaaGreatDoor
namespace Go.Proofs.YtlddakefmfcblaaGreatDoor
open Go.Lib (decDigits)
theorem ne_decB (s : List UInt8) : (s != []) = !decide (s = []) := by
 cases s <;> rfl
section
variable {N : Nat}
theorem m_or2 (a b : List UInt8) (hN : 4294967300 < N) : cmp_Or_string N [a, b] = some (if a = [] then b else a) := by
 obtain ⟨M, rfl⟩ : ∃ M, N = M + 3 := ⟨N - 3, by omega⟩
 unfold cmp_Or_string
 by_cases ha : a = []
 ·rw [if_pos ha]
  by_cases hb : b = []
  ·subst ha; subst hb; rfl
  ·have e1 : cmp_Or_string_L0 (M + 3) [a, b] 0 = some (.next 1) := by subst ha; rfl
   have e2 : cmp_Or_string_L0 (M + 3) [a, b] 1 = some (.ret b) := by
    show (bif (b != ([] : List UInt8)) then some (.ret b) else some (.next (W64 (1 + 1)))) = some (Flow.ret b)
    rw [ne_decB, decide_eq_false hb]; rfl
   rw [iter, e1]
   simp only
   rw [iter, e2]
   rfl
 ·rw [if_neg ha]
  have e1 : cmp_Or_string_L0 (M + 3) [a, b] 0 = some (.ret a) := by
   show (bif (a != ([] : List UInt8)) then some (.ret a) else some (.next (W64 (0 + 1)))) = some (Flow.ret a)
   rw [ne_decB, decide_eq_false ha]; rfl
  rw [iter, e1]
  rfl
def fs (L : Layout) (E : Exchange) : List (List UInt8) := (if L.Report = true then [dP 1 E.Report.toNat] else []) ++ ((if L.Serial = true then [dP 3 E.Serial.toNat] else []) ++ (if L.Zone = true then [dP 2 E.Zone.toNat] else []))
structure OkE (L : Layout) (E : Exchange) : Prop where
 r : if L.Report = true then 1 ≤ E.Report ∧ E.Report ≤ 599 else E.Report = 0
 s : if L.Serial = true then 1 ≤ E.Serial ∧ E.Serial ≤ 99999 else E.Serial = 0
 z : if L.Zone = true then 1 ≤ E.Zone ∧ E.Zone ≤ 99 else E.Zone = 0
theorem OkE.le {L : Layout} {E : Exchange} (h : OkE L E) : (0 ≤ E.Report ∧ E.Report ≤ 599) ∧ (0 ≤ E.Serial ∧ E.Serial ≤ 99999) ∧ 0 ≤ E.Zone ∧ E.Zone ≤ 99 := by
 obtain ⟨h1, h2, h3⟩ := h
 refine ⟨?_, ?_, ?_⟩
 ·split at h1 <;> omega
 ·split at h2 <;> omega
 ·split at h3 <;> omega
end
end Go.Proofs.YtlddakefmfcblaaGreatDoor
namespace Go.Proofs.YtlddakefmfcblaaGreatDoor
theorem firstN_skip {ρ : Type} {n : Nat} {f : Nat → Option ρ} : ∀ {m : Nat}, m ≤ n → (∀ j, j < m → f j = none) → firstN n f 0 = firstN n f m
 | 0, _, _ => rfl
 | m + 1, hm, h => by
  rw [firstN_skip (m := m) (by omega) (fun j hj => h j (by omega)), firstN_step (by omega), h m (by omega)]
theorem firstN_congr {ρ : Type} {n : Nat} {f g : Nat → Option ρ} : ∀ {m k : Nat}, k + m = n → (∀ j, k ≤ j → j < n → f j = g j) → firstN n f k = firstN n g k := by
 intro m
 induction m with
 | zero =>
  intro k hk _
  have : k = n := by omega
  subst this
  rw [firstN_end, firstN_end]
 | succ m ih =>
  intro k hk h
  rw [firstN_step (f := f) (k := k) (by omega), firstN_step (f := g) (k := k) (by omega), h k (Nat.le_refl _) (by omega), ih (by omega) (fun j h1 h2 => h j (by omega) h2)]
theorem firstN_map {ρ τ : Type} {n : Nat} {f : Nat → Option ρ} (g : ρ → τ) (k : Nat) : firstN n (fun i => (f i).map g) k = (firstN n f k).map g := by
 unfold firstN
 generalize (List.range n).drop k = l
 induction l with
 | nil => rfl
 | cons x l ih => rw [List.findSome?_cons, List.findSome?_cons]; cases f x <;> simp [ih]
def clashB (T : List Prefix) (i j : Nat) : Bool := decide ((pAt T i).From ≤ (pAt T j).To) && decide ((pAt T j).From ≤ (pAt T i).To)
def findJ (T : List Prefix) (i : Nat) : Option Nat := firstN T.length (fun j => if (decide (keyP (pAt T j) = keyP (pAt T i)) && (decide (i < j) && clashB T i j)) = true then some j else none) 0
def overF (T : List Prefix) (i : Nat) : Option (Int × Int × Int) := (findJ T i).map fun j : Nat => ((i : Int), (j : Int), (0 : Int))
def overS (T : List Prefix) : Int × Int × Int := if rowsB T = true then (firstN T.length (overF T) 0).elim (0, 0, 3) id else (0, 0, 12)
theorem key_dec (p q : Prefix) : decide (keyP p = keyP q) = ((p.Text == q.Text) && (p.Whole == q.Whole)) := by
 rw [Bool.eq_iff_iff]
 unfold keyP
 simp
section
variable {N : Nat} {T : List Prefix}
theorem s_Overlap (hT : fitT N T) (hN : 4294967300 < N) : air_Overlap N T = some (overS T) := by
 unfold air_Overlap overS
 rw [s_rows hT hN, Option.bind_some]
 cases hr : rowsB T with
 | false => rfl
 | true =>
  obtain ⟨h400, _⟩ := rowsB_ok hr
  obtain ⟨m, hm, hk⟩ := s_tableOf (N := N) h400 hN
  rw [Bool.not_true, cond_false, hm, Option.bind_some, if_pos rfl]
  rw [show (0 : Int) = ((0 : Nat) : Int) from rfl, iter_firstN (n := T.length) (overF T) (fun i hi => ?_) ?_ (by omega) 0 (by omega)]
  ·cases firstN T.length (overF T) 0 <;> rfl
  ·unfold air_Overlap_L0
   rw [lt_dec', cond_false]
  ·unfold air_Overlap_L0
   rw [lt_dec hi, cond_true, idx_p hi, Option.bind_some]
   have e1 : air_keyOf N (pAt T i) = some (keyP (pAt T i)) := rfl
   rw [e1, Option.bind_some]
   have hl := keyIdx_len T (keyP (pAt T i)) T.length
   rw [iter_first (l := keyIdx T (keyP (pAt T i)) T.length) (body := air_Overlap_L1 N T true m (i : Int) (pAt T i) (keyP (pAt T i))) (fun x => if (decide (i < x.toNat) && clashB T i x.toNat) = true then some ((fun j : Nat => ((i : Int), (j : Int), (0 : Int))) x.toNat) else none) (by
    intro t ht
    unfold air_Overlap_L1
    rw [hk, lt_dec ht, cond_true, idx_nat ht, Option.bind_some]
    obtain ⟨j, hj, hjn, _⟩ := keyIdx_mem (List.getElem_mem ht)
    rw [hj, idx_p hjn, w64s t (by omega), Int.toNat_natCast]
    simp only [Option.bind_some]
    have : decide ((j : Int) > (i : Int)) = decide (i < j) := by rw [decide_eq_decide]; omega
    rw [this]
    unfold clashB
    cases decide (i < j) <;> cases decide ((pAt T i).From ≤ (pAt T j).To) <;> cases decide ((pAt T j).From ≤ (pAt T i).To) <;> rfl) (by
    unfold air_Overlap_L1
    rw [hk, lt_dec', cond_false]) (by omega)]
   unfold keyIdx
   rw [filter_first (fun j => decide (keyP (pAt T j) = keyP (pAt T i))) (fun j => decide (i < j) && clashB T i j) (fun j : Nat => ((i : Int), (j : Int), (0 : Int))), w64s i (by omega)]
   have e : (List.range T.length).findSome? (fun j => if (decide (keyP (pAt T j) = keyP (pAt T i)) && (decide (i < j) && clashB T i j)) = true then some ((fun j : Nat => ((i : Int), (j : Int), (0 : Int))) j) else none) = overF T i := by
    unfold overF findJ
    rw [← firstN_map]
    unfold firstN
    rw [List.drop_zero]
    congr 1
    funext j
    cases (decide (keyP (pAt T j) = keyP (pAt T i)) && (decide (i < j) && clashB T i j)) <;> rfl
   rw [e]
   cases overF T i <;> rfl
theorem s_rOverlap (hT : fitT N T) (hN : 4294967300 < N) : ref01_Overlap N T = some (overS T) := by
 unfold ref01_Overlap overS
 rw [s_rrows hT hN, Option.bind_some]
 cases hr : rowsB T with
 | false => rfl
 | true =>
  obtain ⟨h400, _⟩ := rowsB_ok hr
  rw [Bool.not_true, cond_false, if_pos rfl]
  rw [show (0 : Int) = ((0 : Nat) : Int) from rfl, iter_firstN (n := T.length) (overF T) (fun i hi => ?_) ?_ (by omega) 0 (by omega)]
  ·cases firstN T.length (overF T) 0 <;> rfl
  ·unfold ref01_Overlap_L0
   rw [lt_dec', cond_false]
  ·unfold ref01_Overlap_L0
   rw [lt_dec hi, cond_true, w64s i (by omega)]
   rw [iter_firstN (n := T.length) (body := ref01_Overlap_L1 N T true (i : Int)) (fun j => if (decide (keyP (pAt T j) = keyP (pAt T i)) && clashB T i j) = true then some ((i : Int), (j : Int), (0 : Int)) else none) (by
    intro j hj
    unfold ref01_Overlap_L1
    rw [lt_dec hj, cond_true, idx_p hi, idx_p hj, w64s j (by omega), key_dec]
    simp only [Option.bind_some]
    have c1 : ((pAt T j).Text == (pAt T i).Text) = ((pAt T i).Text == (pAt T j).Text) := by rw [Bool.eq_iff_iff, beq_iff_eq, beq_iff_eq]; exact eq_comm
    have c2 : ((pAt T j).Whole == (pAt T i).Whole) = ((pAt T i).Whole == (pAt T j).Whole) := by rw [Bool.eq_iff_iff, beq_iff_eq, beq_iff_eq]; exact eq_comm
    rw [c1, c2]
    unfold clashB
    cases ((pAt T i).Text == (pAt T j).Text) <;> cases ((pAt T i).Whole == (pAt T j).Whole) <;> cases decide ((pAt T i).From ≤ (pAt T j).To) <;> cases decide ((pAt T j).From ≤ (pAt T i).To) <;> rfl) (by
    unfold ref01_Overlap_L1
    rw [lt_dec', cond_false]) (by omega) (i + 1) (by omega)]
   have e : firstN T.length (fun j => if (decide (keyP (pAt T j) = keyP (pAt T i)) && clashB T i j) = true then some ((i : Int), (j : Int), (0 : Int)) else none) (i + 1) = overF T i := by
    unfold overF findJ
    rw [← firstN_map, firstN_skip (m := i + 1) (by omega)]
    ·refine firstN_congr (m := T.length - (i + 1)) (by omega) (fun j h1 h2 => ?_)
     rw [decide_eq_true (show i < j by omega), Bool.true_and]
     cases (decide (keyP (pAt T j) = keyP (pAt T i)) && clashB T i j) <;> rfl
    ·intro j hj
     rw [decide_eq_false (show ¬ i < j by omega), Bool.false_and, Bool.and_false]; rfl
   rw [e]
   cases overF T i <;> rfl
def validT (T : List Prefix) : Bool := (overS T).2.2 == 3
theorem s_ValidT (hT : fitT N T) (hN : 4294967300 < N) : air_ValidTable N T = some (validT T) := by
 unfold air_ValidTable validT
 rw [s_Overlap hT hN]; rfl
theorem s_rValidT (hT : fitT N T) (hN : 4294967300 < N) : ref01_ValidTable N T = some (validT T) := by
 unfold ref01_ValidTable validT
 rw [s_rOverlap hT hN]; rfl
def Apart (T : List Prefix) : Prop := ∀ i j, i < j → j < T.length → keyP (pAt T i) = keyP (pAt T j) → ¬ ((pAt T i).From ≤ (pAt T j).To ∧ (pAt T j).From ≤ (pAt T i).To)
theorem validT_iff : validT T = true ↔ rowsB T = true ∧ Apart T := by
 unfold validT overS
 rw [beq_iff_eq]
 by_cases hr : rowsB T = true
 ·rw [if_pos hr]
  have hf : firstN T.length (overF T) 0 = none ↔ Apart T := by
   rw [firstN_none (by omega)]
   unfold overF findJ
   constructor
   ·intro h i j hij hj hk hc
    have := h i (by omega) (by omega)
    rw [Option.map_eq_none_iff, firstN_none (by omega)] at this
    have := this j (by omega) hj
    unfold clashB at this
    rw [decide_eq_true hk.symm, decide_eq_true hij, decide_eq_true hc.1, decide_eq_true hc.2] at this
    cases this
   ·intro h i _ hi
    rw [Option.map_eq_none_iff, firstN_none (by omega)]
    intro j _ hj
    have : ¬ (decide (keyP (pAt T j) = keyP (pAt T i)) && (decide (i < j) && clashB T i j)) = true := by
     unfold clashB
     simp only [Bool.and_eq_true, decide_eq_true_eq]
     rintro ⟨h1, h2, h3⟩
     exact h i j h2 hj h1.symm h3
    rw [if_neg this]
  constructor
  ·intro h
   refine ⟨hr, hf.1 ?_⟩
   cases hc : firstN T.length (overF T) 0 with
   | none => rfl
   | some r =>
    exfalso
    rw [hc] at h
    obtain ⟨i, _, _, hi, _⟩ := (firstN_some (m := T.length) (by omega)).1 hc
    unfold overF at hi
    cases hj : findJ T i with
    | none => rw [hj] at hi; cases hi
    | some j =>
     rw [hj] at hi
     injection hi with hi
     subst hi
     exact absurd (show (0 : Int) = 3 from h) (by decide)
  ·rintro ⟨_, h⟩
   rw [hf.2 h]; rfl
 ·rw [if_neg hr]
  constructor
  ·intro h; exact absurd h (by decide)
  ·rintro ⟨h, _⟩; exact absurd h hr
def bC (c : List UInt8) : List UInt8 := match callB c with
 | some t => if t.1 = [] then t.2.1 else t.1
 | none => []
def downF (T : List Prefix) (b : List UInt8) (d : Int) : Nat → Option Nat
 | 0 => none
 | k + 1 => match atK T { text_ := b.take (k + 1), whole_ := false } d with
  | some i => some i
  | none => downF T b d k
def findS (T : List Prefix) (c : List UInt8) (d : Int) : Option Nat := match atK T { text_ := c, whole_ := true } d with
 | some i => some i
 | none => downF T (bC c) d (bC c).length
def wrongT (T : List Prefix) (c : List UInt8) (d : Int) : Int := if validT T = true then (if validS c = true then (if inI d 0 99999 = true then 0 else 1) else 10) else 12
theorem bC_len (c : List UInt8) : (bC c).length ≤ 8 := by
 unfold bC
 cases h : callB c with
 | none => simp
 | some t =>
  have := ok_len (callB_some h).1
  simp only
  split <;> omega
theorem s_wrongT (hT : fitT N T) (hN : 4294967300 < N) (c : List UInt8) (d : Int) : air_wrong N T c d = some (wrongT T c d) := by
 unfold air_wrong wrongT
 rw [s_ValidT hT hN, Option.bind_some, s_Valid c hN, m_within]
 have : (decide (0 ≤ d) && decide (d ≤ 99999)) = inI d 0 99999 := rfl
 rw [this]
 cases validT T <;> cases validS c <;> cases inI d 0 99999 <;> rfl
theorem s_asked (hT : fitT N T) (hN : 4294967300 < N) (c : List UInt8) (d : Int) : ref01_asked N T c d = some (wrongT T c d) := by
 unfold ref01_asked wrongT
 rw [s_rValidT hT hN, Option.bind_some, s_rValid c hN, m_rwithin]
 have : (decide (0 ≤ d) && decide (d ≤ 99999)) = inI d 0 99999 := rfl
 rw [this]
 cases validT T <;> cases validS c <;> cases inI d 0 99999 <;> rfl
theorem toI_neg (o : Option Nat) : decide (toI o < 0) = o.isNone := by
 cases o with
 | none => rfl
 | some i => show decide ((i : Int) < 0) = false; rw [decide_eq_false (by omega)]
theorem toI_ge (o : Option Nat) : decide (toI o ≥ 0) = o.isSome := by
 cases o with
 | none => rfl
 | some i => show decide ((i : Int) ≥ 0) = true; rw [decide_eq_true (by omega)]
theorem s_table_row {m : List (air_key × List Int)} (hm : ∀ k, mgetD m k [] = keyIdx T k T.length) (h : T.length ≤ 400) (hN : 4294967300 < N) (c : List UInt8) (d : Int) : air_table_row N m T c d = some (toI (findS T c d)) := by
 unfold air_table_row findS
 rw [s_row1 hm h hN, Option.bind_some, toI_ge]
 cases ha : atK T { text_ := c, whole_ := true } d with
 | some i => rfl
 | none =>
  simp only [Option.isSome_none, cond_false]
  rw [m_split c hN, Option.bind_some]
  have e1 : (splitR c).1.Prefix ++ (splitR c).1.Suffix = match callB c with | some t => t.2.1 | none => [] := by
   unfold splitR
   cases callB c with
   | none => rfl
   | some t => exact ps_app t
  have e2 : (splitR c).1.Area = match callB c with | some t => t.1 | none => [] := by
   unfold splitR
   cases callB c <;> rfl
  have e3 : (splitR c).1.Prefix.length + (splitR c).1.Suffix.length ≤ 100 := by
   rw [← List.length_append, e1]
   cases hc : callB c with
   | none => simp
   | some t => have := ok_len (callB_some hc).1; simp only; omega
  rw [sadd_some (by omega), Option.bind_some, m_or2 _ _ hN, Option.bind_some]
  have e4 : (if (splitR c).1.Area = [] then (splitR c).1.Prefix ++ (splitR c).1.Suffix else (splitR c).1.Area) = bC c := by
   rw [e1, e2]
   unfold bC
   cases callB c <;> rfl
  rw [e4]
  have hb := bC_len c
  generalize bC c = b at hb
  have loop : ∀ k M, k < M → k ≤ b.length → ((iter (air_table_row_L0 N m T c d (toI none) (splitR c) ((splitR c).1.Prefix ++ (splitR c).1.Suffix) b) M (k : Int)).bind fun o => o.k (fun r => some r) (fun s75 => some (-1))) = some (toI (downF T b d k)) := by
   intro k
   induction k with
   | zero =>
    intro M hM _
    obtain ⟨M, rfl⟩ : ∃ M', M = M' + 1 := ⟨M - 1, by omega⟩
    rw [iter]
    have : air_table_row_L0 N m T c d (toI none) (splitR c) ((splitR c).1.Prefix ++ (splitR c).1.Suffix) b ((0 : Nat) : Int) = some (.done ((0 : Nat) : Int)) := by
     unfold air_table_row_L0
     rw [decide_eq_false (by decide), cond_false]
    rw [this]
    rfl
   | succ k ih =>
    intro M hM hk
    obtain ⟨M, rfl⟩ : ∃ M', M = M' + 1 := ⟨M - 1, by omega⟩
    rw [iter]
    have : air_table_row_L0 N m T c d (toI none) (splitR c) ((splitR c).1.Prefix ++ (splitR c).1.Suffix) b ((k + 1 : Nat) : Int) = some (match atK T { text_ := b.take (k + 1), whole_ := false } d with | some i => .ret (i : Int) | none => .next (k : Int)) := by
     unfold air_table_row_L0
     rw [decide_eq_true (by omega), cond_true, ssub0 hk, Option.bind_some, s_row1 hm h hN, Option.bind_some, toI_ge, w64p (k + 1) (by omega) (by omega)]
     cases atK T { text_ := b.take (k + 1), whole_ := false } d <;> rfl
    rw [this]
    unfold downF
    cases atK T { text_ := b.take (k + 1), whole_ := false } d with
    | some i => rfl
    | none => exact ih M (by omega) (by omega)
  exact loop b.length N (by omega) (Nat.le_refl _)
def rowOfS (T : List Prefix) (c : List UInt8) (d : Int) : Int × Int := if wrongT T c d = 0 then (match findS T c d with | some i => ((i : Int), 0) | none => (0, 3)) else (0, wrongT T c d)
theorem wrongT_ok {c : List UInt8} {d : Int} (h : wrongT T c d = 0) : validT T = true ∧ validS c = true ∧ inI d 0 99999 = true := by
 unfold wrongT at h
 split at h
 ·split at h
  ·split at h
   ·exact ⟨by assumption, by assumption, by assumption⟩
   ·omega
  ·omega
 ·omega
theorem s_RowOf (hT : fitT N T) (hN : 4294967300 < N) (c : List UInt8) (d : Int) : air_RowOf N T c d = some (rowOfS T c d) := by
 unfold air_RowOf rowOfS
 rw [s_wrongT hT hN, Option.bind_some]
 by_cases hw : wrongT T c d = 0
 ·rw [if_pos hw, hw, show ((0 : Int) != 0) = false from rfl, cond_false]
  have hr := (validT_iff.1 (wrongT_ok hw).1).1
  obtain ⟨h400, _⟩ := rowsB_ok hr
  obtain ⟨m, hm, hk⟩ := s_tableOf (N := N) h400 hN
  rw [hm, Option.bind_some, s_table_row hk h400 hN, Option.bind_some, toI_neg]
  cases findS T c d <;> rfl
 ·rw [if_neg hw, show (wrongT T c d != 0) = true by simpa using hw, cond_true]
end
end Go.Proofs.YtlddakefmfcblaaGreatDoor
