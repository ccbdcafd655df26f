/- Lemmas of the claim ClocksTried, printed by a program of the claimant and by hand. No statement of the seat is proved here. -/
import Derived.Test.YthbcnabeabcmlaaA2
set_option linter.unusedVariables false
set_option linter.unusedSimpArgs false
set_option linter.unusedSectionVars false
namespace Go.Proofs.Ythbcnabeabcmlaa
open Go.Proofs
def clocks_relax_L0 (N : Nat) (x0 : (List Bound)) (x1 : Ref) (x2 : Bool) : (Int × List (Ref × Bool)) → Option (Flow (Looped ⊕ Reached) (Int × List (Ref × Bool))) := fun s38 =>
 (bif (decide (s38.1 < (x0.length : Int))) then ((idx x0 s38.1).bind fun x69 => ((some (mput (mput s38.2 x69.From true) x69.To true)).bind fun j93 => some (.next ((W64 (s38.1 + 1)), j93)))) else some (.done (s38.1, s38.2)))
def clocks_relax_L2 (N : Nat) (x0 : (List Bound)) (x1 : Ref) (x2 : Bool) (s51 : (Int × List (Ref × Bool))) (s121 : (Int × List (Ref × Bound) × List (Ref × Int))) : (Bool × Int × List (Ref × Bound) × List (Ref × Int)) → Option (Flow (Looped ⊕ Reached) (Bool × Int × List (Ref × Bound) × List (Ref × Int))) := fun s148 =>
 (bif (decide (s148.2.1 < (x0.length : Int))) then ((idx x0 s148.2.1).bind fun x183 => ((clocks_ends N x183 x2).bind fun r202 => (bif (!(mhas s148.2.2.2 r202.1)) then some (.next (s148.1, (W64 (s148.2.1 + 1)), s148.2.2.1, s148.2.2.2)) else (bif ((mhas s148.2.2.2 r202.2) && (decide ((mgetD s148.2.2.2 r202.2 0) ≤ (W64 ((mgetD s148.2.2.2 r202.1 0) + x183.Most))))) then some (.next (s148.1, (W64 (s148.2.1 + 1)), s148.2.2.1, s148.2.2.2)) else ((some ((mput s148.2.2.2 r202.2 (W64 ((mgetD s148.2.2.2 r202.1 0) + x183.Most))), (mput s148.2.2.1 r202.2 x183))).bind fun j259 => (bif (decide (s121.1 > (s51.2.length : Int))) then ((clocks_reached_cycle N ({ at_ := j259.1, by_ := j259.2 } : Reached) r202.2 (s51.2.length : Int) x2).bind fun r290 => some (.ret (.inl ({ loop_ := r290 } : Looped)))) else some (.next (true, (W64 (s148.2.1 + 1)), j259.2, j259.1)))))))) else some (.done (s148.1, s148.2.1, s148.2.2.1, s148.2.2.2)))
def clocks_relax_L1 (N : Nat) (x0 : (List Bound)) (x1 : Ref) (x2 : Bool) (s51 : (Int × List (Ref × Bool))) : (Int × List (Ref × Bound) × List (Ref × Int)) → Option (Flow (Looped ⊕ Reached) (Int × List (Ref × Bound) × List (Ref × Int))) := fun s121 =>
 ((iter (clocks_relax_L2 N x0 x1 x2 s51 s121) N (false, 0, s121.2.1, s121.2.2)).bind fun o => o.k (fun r => some (.ret r)) (fun s163 => (bif (!s163.1) then some (.done (s121.1, s163.2.2.1, s163.2.2.2)) else some (.next ((W64 (s121.1 + 1)), s163.2.2.1, s163.2.2.2)))))
def clocks_relax (N : Nat) (x0 : (List Bound)) (x1 : Ref) (x2 : Bool) : Option (Looped ⊕ Reached) :=
 ((iter (clocks_relax_L0 N x0 x1 x2) N (0, ([] : List (Ref × Bool)))).bind fun o => o.k (fun r => some r) (fun s51 => ((iter (clocks_relax_L1 N x0 x1 x2 s51) N (0, ([] : List (Ref × Bound)), (mput ([] : List (Ref × Int)) x1 0))).bind fun o => o.k (fun r => some r) (fun s132 => some (.inr ({ at_ := s132.2.2, by_ := s132.2.1 } : Reached))))))
def clocks_relax_ok (N : Nat) (x0 : (List Bound)) (x1 : Ref) (x2 : Bool) : Option Reached := (clocks_relax N x0 x1 x2).bind fun q => match q with | .inr r => some r | .inl _ => none
theorem co_clocks_relax : CallOk Try.prog 77 := fun _ _ => by kernel_rfl
set_option maxHeartbeats 4000000 in
set_option maxRecDepth 100000 in
theorem c_clocks_relax (N : Nat) (w0 : World) (F0 : Mem) (hF : ∀ b o, F0 b = some o → w0.heap[b]? = some o) (x0 : (List Bound)) (a0_0 : Option Addr) (n0_0 : Nat) (hb0_0 : LC x0.length n0_0) (hs0_0 : SlA tBound F0 a0_0 x0) (x1 : Ref) (x2 : Bool) (r : (Looped ⊕ Reached)) (h : clocks_relax N x0 x1 x2 = some r) :
  Calls Try.prog 77 ([(.slice a0_0 x0.length n0_0), (.agg (kRef x1)), (.bool x2)] : List Value).toArray w0 (FRetP r w0 F0 (fun r F' v => ∃ (oq0_0 : Option Nat) (oq0_1 : Option Nat), v = (.agg #[(.map oq0_0), (.map oq0_1)]) ∧ MpA tRef tInt F' oq0_0 r.at_ ∧ MpA tRef tBound F' oq0_1 r.by_) (fun b F' v => ∃ v0, v = .iface 152 v0 ∧ ∃ (aq0_0 : Option Addr) (nq0_0 : Nat), v0 = (.agg #[(.slice aq0_0 b.loop_.length nq0_0)]) ∧ LC b.loop_.length nq0_0 ∧ SlA tBound F' aq0_0 b.loop_ ∧ (∀ ad, aq0_0 = some ad → w0.heap.size ≤ ad.block))) := by
 have hs0 := HS.start hF
 refine calls_of (n := 106) (c := bodyOf Try.f77) Try.func77 (by kernel_rfl) (by kernel_rfl) (by kernel_rfl) ?_
 refine Sq (Rg [0, 1] ?_)
 refine Bx 4 0 1 27 (kRef x1) hs0 (fun b1 w2 (hs3 : HS w0 F0 w2 F0 [(sb b1 (kRef x1) 27)]) => ?_)
 refine Al 6 0 95 #[(.map none), (.map none)] hs3 (fun b4 w5 (hs6 : HS w0 F0 w5 F0 [(sb b4 #[(.map none), (.map none)] 95), (sb b1 (kRef x1) 27)]) => ?_)
 refine Nt ?_
 refine CWP.scope (by kernel_rfl) ?_
 refine Sq (Rg [0, 1, 2, 3, 4, 5, 6, 7] ?_)
 refine RWP.makeMap (t := 92) (K := tRef) (T := tInt) (dst := (some 21)) (ty := 92) (g := none) (by kernel_rfl) rfl hs6 (fun b8 e9 w10 (hs11 : HS w0 F0 w10 F0 [e9, (sb b4 #[(.map none), (.map none)] 95), (sb b1 (kRef x1) 27)]) hr12 => ?_)
 refine V 22 27 (ld 27 4 b1 0 true 2 (.agg (kRef x1)) (hs11.ownAt (k := 2) rfl)) ?_
 refine RWP.mapIns kl27 (ty := 0) (g := none) (mt := 92) (k := 27) (vt := 3) (m := (.tmp 21)) (x := (.tmp 22)) (y := (.const (vi 0))) (b := b8) (kx := x1) (u := 0) (kv := (.agg (kRef x1))) (v := (vi 0)) (K := tRef) (T := tInt) (by kernel_rfl) rfl rfl rfl rfl ⟨_, rfl, rfl⟩ ⟨_, rfl, rfl⟩ (by kernel_rfl) hs11 (q := 0) rfl hr12 (fun e13 w14 (hs15 : HS w0 F0 w14 F0 [e13, (sb b4 #[(.map none), (.map none)] 95), (sb b1 (kRef x1) 27)]) hr16 => ?_)
 refine V 23 92 (mv 21 (.map (some b8))) ?_
 refine RWP.makeMap (t := 93) (K := tRef) (T := tBound) (dst := (some 24)) (ty := 93) (g := none) (by kernel_rfl) rfl hs15 (fun b18 e19 w20 (hs21 : HS w0 F0 w20 F0 [e19, e13, (sb b4 #[(.map none), (.map none)] 95), (sb b1 (kRef x1) 27)]) hr22 => ?_)
 refine V 25 95 (run_build2 (t := 95) (parts := #[(0, (.tmp 23)), (1, (.tmp 24))]) (vs := [(0, (.map (some b8))), (1, (.map (some b18)))]) (rfl) (cs := [(.map (some b8)), (.map (some b18))]) (by kernel_rfl)) ?_
 refine Al 7 0 95 #[(.map none), (.map none)] hs21 (fun b23 w24 (hs25 : HS w0 F0 w24 F0 [(sb b23 #[(.map none), (.map none)] 95), e19, e13, (sb b4 #[(.map none), (.map none)] 95), (sb b1 (kRef x1) 27)]) => ?_)
 refine RWP.store (ty := 0) (g := none) (by kernel_rfl) rfl (x := (.tmp 7)) (y := (.tmp 25)) (t := 95) (gg := true) (s := 2) (v := (.agg #[(.map (some b8)), (.map (some b18))])) (b := b23) (o := 0) (C := #[(.map none), (.map none)]) rfl rfl (by kernel_rfl) hs25 (k := 0) rfl rfl rfl rfl (C' := #[(.map (some b8)), (.map (some b18))]) rfl (fun w26 (hs27 : HS w0 F0 w26 F0 [(sb b23 #[(.map (some b8)), (.map (some b18))] 95), e19, e13, (sb b4 #[(.map none), (.map none)] 95), (sb b1 (kRef x1) 27)]) => ?_)
 refine Nss (Rg [0, 1] ?_)
 refine RWP.makeMap (t := 146) (K := tRef) (T := tBool) (dst := (some 26)) (ty := 146) (g := none) (by kernel_rfl) rfl hs27 (fun b29 e30 w31 (hs32 : HS w0 F0 w31 F0 [e30, (sb b23 #[(.map (some b8)), (.map (some b18))] 95), e19, e13, (sb b4 #[(.map none), (.map none)] 95), (sb b1 (kRef x1) 27)]) hr33 => ?_)
 refine V 8 146 (ma 26 (.map (some b29))) ?_
 refine Nss ?_
 refine Sq (Rg [0, 1, 2] ?_)
 refine V 27 57 (mv 0 (.slice a0_0 x0.length n0_0)) ?_
 refine V 28 3 (ln 27 57 a0_0 x0.length n0_0 103 7 56) ?_
 refine V 29 3 (run_move (x := (.const (vi 0))) (v := (vi 0)) rfl) ?_
 refine Nt ?_
 have hs34 : HS w0 F0 w31 F0 [e30, (sb b23 #[(.map (some b8)), (.map (some b18))] 95), e19, e13, (sb b4 #[(.map none), (.map none)] 95)] := hs32.drop 5
 obtain ⟨o35, ho36, h37⟩ := bind_some h
 refine CWP.cut (fun f w => ∃ (s51 : (Int × List (Ref × Bool))) (F2 : Mem) (es51_1 : Option Nat × Obj), o35 = .done s51 ∧ HS w0 F0 w F2 [es51_1, (sb b23 #[(.map (some b8)), (.map (some b18))] 95), e19, e13, (sb b4 #[(.map none), (.map none)] 95)] ∧ Mem.le F0 F2 ∧ f.d = [] ∧ f 0 = (.slice a0_0 x0.length n0_0) ∧ f 2 = (.bool x2) ∧ f 6 = (.pointer (some ⟨b4, 0, none⟩)) ∧ f 7 = (.pointer (some ⟨b23, 0, none⟩)) ∧ f 8 = (.map (some b29)) ∧ MapR tRef tBool F2 b29 s51.2 es51_1) ?_ ?_
 ·refine Bk ?_
  refine CWP.loop (by kernel_rfl) (fun m f w => ∃ (s38 : (Int × List (Ref × Bool))) (F1 : Mem) (es38_1 : Option Nat × Obj), iter (clocks_relax_L0 N x0 x1 x2) m s38 = some o35 ∧ HS w0 F0 w F1 [es38_1, (sb b23 #[(.map (some b8)), (.map (some b18))] 95), e19, e13, (sb b4 #[(.map none), (.map none)] 95)] ∧ Mem.le F0 F1 ∧ f.d = [] ∧ f 0 = (.slice a0_0 x0.length n0_0) ∧ f 2 = (.bool x2) ∧ f 6 = (.pointer (some ⟨b4, 0, none⟩)) ∧ f 7 = (.pointer (some ⟨b23, 0, none⟩)) ∧ f 8 = (.map (some b29)) ∧ f 27 = (.slice a0_0 x0.length n0_0) ∧ f 28 = (vi (x0.length : Int)) ∧ f 29 = (vi s38.1) ∧ MapR tRef tBool F1 b29 s38.2 es38_1) N ⟨(0, ([] : List (Ref × Bool))), F0, e30, ho36, hs34, (Mem.le.refl _), rfl, rfl, rfl, rfl, rfl, rfl, rfl, rfl, rfl, hr33⟩ ?_
  rintro m61 f w39 ⟨s38, F1, es38_1, hit62, hs40, le41, e42, e43, e44, e45, e46, e47, e48, e49, e50, hrs38_1⟩
  obtain ⟨m63, fl64, rfl, hb65, hnx66⟩ := iter_step hit62
  refine Sq (Rg [0] ?_)
  refine V 30 0 (run_lss (t := 3) (t' := 3) (x := (.tmp 29)) (y := (.tmp 28)) (k := .i64) (a := s38.1) (b := (x0.length : Int)) e50 e49) ?_
  refine Nss ?_
  refine CWP.cond (t := (decide (s38.1 < (x0.length : Int)))) (by kernel_rfl) rfl (fun hb67 => ?_) (fun hb67 => ?_)
  ·have h68 := cond_t hb65 hb67
   refine Sc ?_
   refine thenQ_nrm ?_
   refine Sq ?_
   refine Bk ?_
   refine Sq (Rg [0, 1, 2, 3] ?_)
   obtain ⟨x69, hx70, h72⟩ := bind_some h68
   obtain ⟨hi71, hx70'⟩ := idx_spec hx70
   obtain ⟨b73, o74, C75, E76, fz77, rfl, hF79, hE80⟩ := SlA.open (SlA.mono hs0_0 le41) hx70'
   have hc82 := hE80 _ _ hx70'
   refine V 31 0 (run_index (t := 57) (x := (.tmp 27)) (y := (.tmp 29)) (b := b73) (o := o74) (E := 103) (s := 7) (by_ := 56) e48 e50 (by kernel_rfl) hi71) ?_
   refine V 32 103 (lx 103 31 0 7 true 7 (.agg (kBound x69)) (hs40.pers _ _ hF79) hc82) ?_
   refine Al 10 0 103 #[(vi 0), (vi 0), (vi 0), (vi 0), (vi 0), (vi 0), (vi 0)] hs40 (fun b83 w84 (hs85 : HS w0 F0 w84 F1 [(sb b83 #[(vi 0), (vi 0), (vi 0), (vi 0), (vi 0), (vi 0), (vi 0)] 103), es38_1, (sb b23 #[(.map (some b8)), (.map (some b18))] 95), e19, e13, (sb b4 #[(.map none), (.map none)] 95)]) => ?_)
   refine RWP.store (ty := 0) (g := none) (by kernel_rfl) rfl (x := (.tmp 10)) (y := (.tmp 32)) (t := 103) (gg := true) (s := 7) (v := (.agg (kBound x69))) (b := b83) (o := 0) (C := #[(vi 0), (vi 0), (vi 0), (vi 0), (vi 0), (vi 0), (vi 0)]) rfl rfl (by kernel_rfl) hs85 (k := 0) rfl rfl rfl rfl (C' := (kBound x69)) rfl (fun w86 (hs87 : HS w0 F0 w86 F1 [(sb b83 (kBound x69) 103), es38_1, (sb b23 #[(.map (some b8)), (.map (some b18))] 95), e19, e13, (sb b4 #[(.map none), (.map none)] 95)]) => ?_)
   refine Nt ?_
   obtain ⟨j93, hj103, h104⟩ := bind_some h72
   refine CWP.regionD (by kernel_rfl) (by kernel_rfl) (by kernel_rfl) (by kernel_rfl) (z := 7) (F := F1) (Lc := [(sb b83 (kBound x69) 103), (sb b23 #[(.map (some b8)), (.map (some b18))] 95), e19, e13, (sb b4 #[(.map none), (.map none)] 95)]) (Lz := []) (l := [false, false, false, false, false, false, false, false]) (fuel := 8) (by kernel_rfl) (by kernel_rfl) hs87 (by simp) (by simp) (fun f w => ∃ (F3 : Mem) (ej93_0 : Option Nat × Obj), HS w0 F0 w F3 [ej93_0, (sb b23 #[(.map (some b8)), (.map (some b18))] 95), e19, e13, (sb b4 #[(.map none), (.map none)] 95)] ∧ Mem.le F1 F3 ∧ f.d = [] ∧ f 0 = (.slice (some ⟨b73, o74, none⟩) x0.length n0_0) ∧ f 2 = (.bool x2) ∧ f 6 = (.pointer (some ⟨b4, 0, none⟩)) ∧ f 7 = (.pointer (some ⟨b23, 0, none⟩)) ∧ f 8 = (.map (some b29)) ∧ f 27 = (.slice (some ⟨b73, o74, none⟩) x0.length n0_0) ∧ f 28 = (vi (x0.length : Int)) ∧ f 29 = (vi s38.1) ∧ MapR tRef tBool F3 b29 j93 ej93_0) (fun wd88 hw89 => ?_) ?_
   ·refine Df 0 33 146 _ (fun _ hq => mv 8 (.map (some b29)) e47) ?_
    refine Df 1 34 0 (.pointer (some ⟨b83, 0, none⟩)) (fun _ hq => fa 103 10 0 0 2 b83 0 0) ?_
    refine Df 2 35 27 _ (fun _ hq => ld 27 34 b83 0 true 2 (.agg (kRef x69.From)) (hq.1.2 0 _ _ rfl)) ?_
    refine Df 3 36 146 _ (fun _ hq => mv 8 (.map (some b29)) e47) ?_
    refine Df 4 37 0 (.pointer (some ⟨b83, 2, none⟩)) (fun _ hq => fa 103 10 1 2 2 b83 0 2) ?_
    refine Df 5 38 27 _ (fun _ hq => ld 27 37 b83 2 true 2 (.agg (kRef x69.To)) (hq.1.2 0 _ _ rfl)) ?_
    refine DWP.one (i := 6) (by kernel_rfl) ?_
    refine DStep.mapPut (l' := [true, true, true, true, true, true, true, false]) (zd := false) (by kernel_rfl) (by kernel_rfl) kl27 (ty := 0) (g := none) (mt := 146) (k := 27) (vt := 4) (m := (.tmp 33)) (x := (.tmp 35)) (y := (.const (.bool true))) (b := b29) (kx := x69.From) (u := true) (kv := (.agg (kRef x69.From))) (v := (.bool true)) (K := tRef) (T := tBool) (by kernel_rfl) rfl rfl rfl rfl ⟨_, rfl, rfl⟩ ⟨_, rfl, rfl⟩ (by kernel_rfl) hw89 (q := 1) rfl hrs38_1 (Mem.le.refl _) (fun _ => by simp) (fun _ _ => by simp) (fun e105 w106 (hs107 : HS w0 F0 w106 F1 [(sb b83 (kBound x69) 103), e105, (sb b23 #[(.map (some b8)), (.map (some b18))] 95), e19, e13, (sb b4 #[(.map none), (.map none)] 95)]) hr108 => ?_)
    refine DWP.one (i := 7) (by kernel_rfl) ?_
    refine DStep.mapPut (l' := [true, true, true, true, true, true, true, true]) (zd := true) (by kernel_rfl) (by kernel_rfl) kl27 (ty := 0) (g := none) (mt := 146) (k := 27) (vt := 4) (m := (.tmp 36)) (x := (.tmp 38)) (y := (.const (.bool true))) (b := b29) (kx := x69.To) (u := true) (kv := (.agg (kRef x69.To))) (v := (.bool true)) (K := tRef) (T := tBool) (by kernel_rfl) rfl rfl rfl rfl ⟨_, rfl, rfl⟩ ⟨_, rfl, rfl⟩ (by kernel_rfl) hs107 (q := 1) rfl hr108 (Mem.le.refl _) (fun _ => by simp) (fun e => by cases e) (fun e109 w110 (hs111 : HS w0 F0 w110 F1 [(sb b83 (kBound x69) 103), e109, (sb b23 #[(.map (some b8)), (.map (some b18))] 95), e19, e13, (sb b4 #[(.map none), (.map none)] 95)]) hr112 => ?_)
    obtain rfl := some_inj hj103
    have hs113 : HS w0 F0 w110 F1 [e109, (sb b23 #[(.map (some b8)), (.map (some b18))] 95), e19, e13, (sb b4 #[(.map none), (.map none)] 95)] := hs111.drop 0
    exact DWP.done (by kernel_rfl) ⟨F1, e109, hs113, (Mem.le.refl _), e42, e43, e44, e45, e46, e47, e48, e49, e50, hr112⟩
   ·rintro f w90 ⟨F3, ej93_0, hs91, le92, e94, e95, e96, e97, e98, e99, e100, e101, e102, hrj93_0⟩
    refine blockQ_nrm ?_
    refine thenQ_nrm ?_
    refine Rg [0, 1] ?_
    refine V 39 3 (run_add (t := 3) (t' := 3) (x := (.tmp 29)) (y := (.const (vi 1))) (k := .i64) (a := s38.1) (b := 1) e102 rfl) ?_
    refine V 29 3 (mv 39 (vi (W64 (s38.1 + 1)))) ?_
    refine RWP.nil ?_
    have hn114 := iter_next h104 hnx66
    exact ⟨m63, Nat.lt_succ_self _, ((W64 (s38.1 + 1)), j93), F3, ej93_0, hn114, hs91, (le41.trans le92), e94, e95, e96, e97, e98, e99, e100, e101, rfl, hrj93_0⟩
  ·have h115 := cond_f hb65 hb67
   refine CWP.exit (by kernel_rfl) ?_
   refine thenQ_ex ?_
   refine thenQ_ex ?_
   refine blockQ_hit rfl ?_
   have ho116 := iter_done h115 hnx66
   exact .inl ⟨rfl, (s38.1, s38.2), F1, es38_1, ho116, hs40, le41, e42, e43, e44, e45, e46, e47, hrs38_1⟩
 ·rintro f w52 ⟨s51, F2, es51_1, rfl, hs53, le54, e55, e56, e57, e58, e59, e60, hrs51_1⟩
  have h117 := k_done h37
  refine thenQ_nrm ?_
  refine Sq ?_
  refine CWP.label (by kernel_rfl) ?_
  refine thenQ_nrm ?_
  refine Sq ?_
  refine Sq (Rg [0] ?_)
  refine V 11 3 (mc (vi 0) (vi 0)) ?_
  refine Nt ?_
  obtain ⟨o118, ho119, h120⟩ := bind_some h117
  refine CWP.cut (fun f w => ∃ (s132 : (Int × List (Ref × Bound) × List (Ref × Int))) (F5 : Mem) (es132_1 : Option Nat × Obj) (es132_2 : Option Nat × Obj), o118 = .done s132 ∧ HS w0 F0 w F5 [(sb b23 #[(.map (some b8)), (.map (some b18))] 95), es132_1, es132_2, (sb b4 #[(.map none), (.map none)] 95)] ∧ Mem.le F2 F5 ∧ f.d = [] ∧ f 6 = (.pointer (some ⟨b4, 0, none⟩)) ∧ f 7 = (.pointer (some ⟨b23, 0, none⟩)) ∧ MapR tRef tBound F5 b18 s132.2.1 es132_1 ∧ MapR tRef tInt F5 b8 s132.2.2 es132_2) ?_ ?_
  ·refine Bk ?_
   refine CWP.loop (by kernel_rfl) (fun m f w => ∃ (s121 : (Int × List (Ref × Bound) × List (Ref × Int))) (F4 : Mem) (es121_1 : Option Nat × Obj) (es121_2 : Option Nat × Obj), iter (clocks_relax_L1 N x0 x1 x2 s51) m s121 = some o118 ∧ HS w0 F0 w F4 [es51_1, (sb b23 #[(.map (some b8)), (.map (some b18))] 95), es121_1, es121_2, (sb b4 #[(.map none), (.map none)] 95)] ∧ Mem.le F2 F4 ∧ f.d = [] ∧ f 0 = (.slice a0_0 x0.length n0_0) ∧ f 2 = (.bool x2) ∧ f 6 = (.pointer (some ⟨b4, 0, none⟩)) ∧ f 7 = (.pointer (some ⟨b23, 0, none⟩)) ∧ f 8 = (.map (some b29)) ∧ f 11 = (vi s121.1) ∧ MapR tRef tBound F4 b18 s121.2.1 es121_1 ∧ MapR tRef tInt F4 b8 s121.2.2 es121_2) N ⟨(0, ([] : List (Ref × Bound)), (mput ([] : List (Ref × Int)) x1 0)), F2, e19, e13, ho119, hs53, (Mem.le.refl _), e55, e56, e57, e58, e59, e60, rfl, (hr22.mono le54), (hr16.mono le54)⟩ ?_
   rintro m139 f w122 ⟨s121, F4, es121_1, es121_2, hit140, hs123, le124, e125, e126, e127, e128, e129, e130, e131, hrs121_1, hrs121_2⟩
   obtain ⟨m141, fl142, rfl, hb143, hnx144⟩ := iter_step hit140
   refine Sq ?_
   refine Bk ?_
   refine Sq (Rg [0] ?_)
   refine V 12 4 (mc (.bool false) (.bool false)) ?_
   refine Nss ?_
   refine Sq (Rg [0, 1, 2] ?_)
   refine V 42 57 (mv 0 (.slice a0_0 x0.length n0_0) e126) ?_
   refine V 43 3 (ln 42 57 a0_0 x0.length n0_0 103 7 56) ?_
   refine V 44 3 (run_move (x := (.const (vi 0))) (v := (vi 0)) rfl) ?_
   refine Nt ?_
   obtain ⟨o145, ho146, h147⟩ := bind_some hb143
   refine CWP.cut (fun f w => ∃ (s163 : (Bool × Int × List (Ref × Bound) × List (Ref × Int))) (F7 : Mem) (es163_2 : Option Nat × Obj) (es163_3 : Option Nat × Obj), o145 = .done s163 ∧ HS w0 F0 w F7 [es51_1, (sb b23 #[(.map (some b8)), (.map (some b18))] 95), es163_2, es163_3, (sb b4 #[(.map none), (.map none)] 95)] ∧ Mem.le F4 F7 ∧ f.d = [] ∧ f 0 = (.slice a0_0 x0.length n0_0) ∧ f 2 = (.bool x2) ∧ f 6 = (.pointer (some ⟨b4, 0, none⟩)) ∧ f 7 = (.pointer (some ⟨b23, 0, none⟩)) ∧ f 8 = (.map (some b29)) ∧ f 11 = (vi s121.1) ∧ f 12 = (.bool s163.1) ∧ MapR tRef tBound F7 b18 s163.2.2.1 es163_2 ∧ MapR tRef tInt F7 b8 s163.2.2.2 es163_3) ?_ ?_
   ·refine Bk ?_
    refine CWP.loop (by kernel_rfl) (fun m f w => ∃ (s148 : (Bool × Int × List (Ref × Bound) × List (Ref × Int))) (F6 : Mem) (es148_2 : Option Nat × Obj) (es148_3 : Option Nat × Obj), iter (clocks_relax_L2 N x0 x1 x2 s51 s121) m s148 = some o145 ∧ HS w0 F0 w F6 [es51_1, (sb b23 #[(.map (some b8)), (.map (some b18))] 95), es148_2, es148_3, (sb b4 #[(.map none), (.map none)] 95)] ∧ Mem.le F4 F6 ∧ f.d = [] ∧ f 0 = (.slice a0_0 x0.length n0_0) ∧ f 2 = (.bool x2) ∧ f 6 = (.pointer (some ⟨b4, 0, none⟩)) ∧ f 7 = (.pointer (some ⟨b23, 0, none⟩)) ∧ f 8 = (.map (some b29)) ∧ f 11 = (vi s121.1) ∧ f 12 = (.bool s148.1) ∧ f 42 = (.slice a0_0 x0.length n0_0) ∧ f 43 = (vi (x0.length : Int)) ∧ f 44 = (vi s148.2.1) ∧ MapR tRef tBound F6 b18 s148.2.2.1 es148_2 ∧ MapR tRef tInt F6 b8 s148.2.2.2 es148_3) N ⟨(false, 0, s121.2.1, s121.2.2), F4, es121_1, es121_2, ho146, hs123, (Mem.le.refl _), e125, e126, e127, e128, e129, e130, e131, rfl, rfl, rfl, rfl, hrs121_1, hrs121_2⟩ ?_
    rintro m175 f w149 ⟨s148, F6, es148_2, es148_3, hit176, hs150, le151, e152, e153, e154, e155, e156, e157, e158, e159, e160, e161, e162, hrs148_2, hrs148_3⟩
    obtain ⟨m177, fl178, rfl, hb179, hnx180⟩ := iter_step hit176
    refine Sq (Rg [0] ?_)
    refine V 45 0 (run_lss (t := 3) (t' := 3) (x := (.tmp 44)) (y := (.tmp 43)) (k := .i64) (a := s148.2.1) (b := (x0.length : Int)) e162 e161) ?_
    refine Nss ?_
    refine CWP.cond (t := (decide (s148.2.1 < (x0.length : Int)))) (by kernel_rfl) rfl (fun hb181 => ?_) (fun hb181 => ?_)
    ·have h182 := cond_t hb179 hb181
     refine Sc ?_
     refine thenQ_nrm ?_
     refine Sq ?_
     refine Bk ?_
     refine Sq (Rg [0, 1, 2, 3] ?_)
     obtain ⟨x183, hx184, h186⟩ := bind_some h182
     obtain ⟨hi185, hx184'⟩ := idx_spec hx184
     obtain ⟨b187, o188, C189, E190, fz191, rfl, hF193, hE194⟩ := SlA.open (SlA.mono hs0_0 ((le54.trans le124).trans le151)) hx184'
     have hc196 := hE194 _ _ hx184'
     refine V 46 0 (run_index (t := 57) (x := (.tmp 42)) (y := (.tmp 44)) (b := b187) (o := o188) (E := 103) (s := 7) (by_ := 56) e160 e162 (by kernel_rfl) hi185) ?_
     refine V 47 103 (lx 103 46 0 7 true 7 (.agg (kBound x183)) (hs150.pers _ _ hF193) hc196) ?_
     refine Al 14 0 103 #[(vi 0), (vi 0), (vi 0), (vi 0), (vi 0), (vi 0), (vi 0)] hs150 (fun b197 w198 (hs199 : HS w0 F0 w198 F6 [(sb b197 #[(vi 0), (vi 0), (vi 0), (vi 0), (vi 0), (vi 0), (vi 0)] 103), es51_1, (sb b23 #[(.map (some b8)), (.map (some b18))] 95), es148_2, es148_3, (sb b4 #[(.map none), (.map none)] 95)]) => ?_)
     refine RWP.store (ty := 0) (g := none) (by kernel_rfl) rfl (x := (.tmp 14)) (y := (.tmp 47)) (t := 103) (gg := true) (s := 7) (v := (.agg (kBound x183))) (b := b197) (o := 0) (C := #[(vi 0), (vi 0), (vi 0), (vi 0), (vi 0), (vi 0), (vi 0)]) rfl rfl (by kernel_rfl) hs199 (k := 0) rfl rfl rfl rfl (C' := (kBound x183)) rfl (fun w200 (hs201 : HS w0 F0 w200 F6 [(sb b197 (kBound x183) 103), es51_1, (sb b23 #[(.map (some b8)), (.map (some b18))] 95), es148_2, es148_3, (sb b4 #[(.map none), (.map none)] 95)]) => ?_)
     refine Nss (Rg [0, 1, 2, 3, 4, 5, 6, 7, 8, 9] ?_)
     refine V 49 103 (ld 103 14 b197 0 true 7 (.agg (kBound x183)) (hs201.ownAt (k := 0) rfl)) ?_
     refine V 50 4 (mv 2 (.bool x2) e154) ?_
     obtain ⟨r202, hr203, h204⟩ := bind_some h186
     refine Cl 51 147 121 #[(.tmp 49), (.tmp 50)] #[103, 4] co_clocks_ends hs201 (c_clocks_ends N w200 F6 hs201.pers (x183) (x2) _ hr203) ?_
     intro v205 F8 w206 hs207 le208 hp209
     obtain rfl := hp209
     refine V 48 147 (mv 51 (.tuple #[(.agg (kRef r202.1)), (.agg (kRef r202.2))])) ?_
     refine V 52 27 (ex 48 0 (.agg (kRef r202.1)) (vs := #[(.agg (kRef r202.1)), (.agg (kRef r202.2))])) ?_
     refine V 53 27 (ex 48 1 (.agg (kRef r202.2)) (vs := #[(.agg (kRef r202.1)), (.agg (kRef r202.2))])) ?_
     refine Al 15 0 27 #[(vi 0), (vi 0)] hs207 (fun b210 w211 (hs212 : HS w0 F0 w211 F8 [(sb b210 #[(vi 0), (vi 0)] 27), (sb b197 (kBound x183) 103), es51_1, (sb b23 #[(.map (some b8)), (.map (some b18))] 95), es148_2, es148_3, (sb b4 #[(.map none), (.map none)] 95)]) => ?_)
     refine Al 16 0 27 #[(vi 0), (vi 0)] hs212 (fun b213 w214 (hs215 : HS w0 F0 w214 F8 [(sb b213 #[(vi 0), (vi 0)] 27), (sb b210 #[(vi 0), (vi 0)] 27), (sb b197 (kBound x183) 103), es51_1, (sb b23 #[(.map (some b8)), (.map (some b18))] 95), es148_2, es148_3, (sb b4 #[(.map none), (.map none)] 95)]) => ?_)
     refine RWP.store (ty := 0) (g := none) (by kernel_rfl) rfl (x := (.tmp 15)) (y := (.tmp 52)) (t := 27) (gg := true) (s := 2) (v := (.agg (kRef r202.1))) (b := b210) (o := 0) (C := #[(vi 0), (vi 0)]) rfl rfl (by kernel_rfl) hs215 (k := 1) rfl rfl rfl rfl (C' := (kRef r202.1)) rfl (fun w216 (hs217 : HS w0 F0 w216 F8 [(sb b213 #[(vi 0), (vi 0)] 27), (sb b210 (kRef r202.1) 27), (sb b197 (kBound x183) 103), es51_1, (sb b23 #[(.map (some b8)), (.map (some b18))] 95), es148_2, es148_3, (sb b4 #[(.map none), (.map none)] 95)]) => ?_)
     refine RWP.store (ty := 0) (g := none) (by kernel_rfl) rfl (x := (.tmp 16)) (y := (.tmp 53)) (t := 27) (gg := true) (s := 2) (v := (.agg (kRef r202.2))) (b := b213) (o := 0) (C := #[(vi 0), (vi 0)]) rfl rfl (by kernel_rfl) hs217 (k := 0) rfl rfl rfl rfl (C' := (kRef r202.2)) rfl (fun w218 (hs219 : HS w0 F0 w218 F8 [(sb b213 (kRef r202.2) 27), (sb b210 (kRef r202.1) 27), (sb b197 (kBound x183) 103), es51_1, (sb b23 #[(.map (some b8)), (.map (some b18))] 95), es148_2, es148_3, (sb b4 #[(.map none), (.map none)] 95)]) => ?_)
     refine Nss (Rg [0, 1, 2, 3, 4, 5, 6, 7, 8] ?_)
     refine V 55 0 (fa 95 7 0 0 1 b23 0 0 e156) ?_
     refine V 56 92 (ld 92 55 b23 0 false 1 (.map (some b8)) (hs219.ownAt (k := 4) rfl)) ?_
     refine V 57 27 (ld 27 15 b210 0 true 2 (.agg (kRef r202.1)) (hs219.ownAt (k := 1) rfl)) ?_
     refine V 58 149 (run_lookV2 (mt := 92) (k := 27) (vt := 3) (m := (.tmp 56)) (x := (.tmp 57)) (kv := (.agg (kRef r202.1))) (kx := r202.1) (z := (vi 0)) (zx := 0) (K := tRef) (T := tInt) kl27 rfl rfl ⟨_, rfl, rfl⟩ (by kernel_rfl) (by kernel_rfl) ⟨_, rfl, rfl⟩ (MapR.mpw hs219 (i := 6) rfl (hrs148_3.mono le208)) (fun h => by obtain ⟨_, rfl, rfl⟩ := h; rfl)) ?_
     refine V 54 149 (mv 58 (.tuple #[(vi (mgetD s148.2.2.2 r202.1 0)), (.bool (mhas s148.2.2.2 r202.1))])) ?_
     refine V 59 3 (ex 54 0 (vi (mgetD s148.2.2.2 r202.1 0)) (vs := #[(vi (mgetD s148.2.2.2 r202.1 0)), (.bool (mhas s148.2.2.2 r202.1))])) ?_
     refine V 60 4 (ex 54 1 (.bool (mhas s148.2.2.2 r202.1)) (vs := #[(vi (mgetD s148.2.2.2 r202.1 0)), (.bool (mhas s148.2.2.2 r202.1))])) ?_
     refine V 17 3 (ma 59 (vi (mgetD s148.2.2.2 r202.1 0))) ?_
     refine V 18 4 (ma 60 (.bool (mhas s148.2.2.2 r202.1))) ?_
     refine Nss ?_
     refine Sq (Rg [0, 1] ?_)
     refine V 61 4 (mv 18 (.bool (mhas s148.2.2.2 r202.1))) ?_
     refine V 62 4 (run_not (t := 4) (x := (.tmp 61)) (a := (mhas s148.2.2.2 r202.1)) rfl) ?_
     refine Nt ?_
     refine CWP.cond (t := (!(mhas s148.2.2.2 r202.1))) (by kernel_rfl) rfl (fun hb220 => ?_) (fun hb220 => ?_)
     ·have h221 := cond_t h204 hb220
      refine CWP.exit (by kernel_rfl) ?_
      refine thenQ_ex ?_
      refine blockQ_hit rfl ?_
      refine thenQ_nrm ?_
      refine Rg [0, 1] ?_
      refine V 102 3 (run_add (t := 3) (t' := 3) (x := (.tmp 44)) (y := (.const (vi 1))) (k := .i64) (a := s148.2.1) (b := 1) e162 rfl) ?_
      refine V 44 3 (mv 102 (vi (W64 (s148.2.1 + 1)))) ?_
      refine RWP.nil ?_
      have hs222 : HS w0 F0 w218 F8 [(sb b210 (kRef r202.1) 27), (sb b197 (kBound x183) 103), es51_1, (sb b23 #[(.map (some b8)), (.map (some b18))] 95), es148_2, es148_3, (sb b4 #[(.map none), (.map none)] 95)] := hs219.drop 0
      have hs223 : HS w0 F0 w218 F8 [(sb b197 (kBound x183) 103), es51_1, (sb b23 #[(.map (some b8)), (.map (some b18))] 95), es148_2, es148_3, (sb b4 #[(.map none), (.map none)] 95)] := hs222.drop 0
      have hs224 : HS w0 F0 w218 F8 [es51_1, (sb b23 #[(.map (some b8)), (.map (some b18))] 95), es148_2, es148_3, (sb b4 #[(.map none), (.map none)] 95)] := hs223.drop 0
      have hn225 := iter_next h221 hnx180
      exact ⟨m177, Nat.lt_succ_self _, (s148.1, (W64 (s148.2.1 + 1)), s148.2.2.1, s148.2.2.2), F8, es148_2, es148_3, hn225, hs224, (le151.trans le208), e152, e153, e154, e155, e156, e157, e158, e159, e160, e161, rfl, (hrs148_2.mono le208), (hrs148_3.mono le208)⟩
     ·have h226 := cond_f h204 hb220
      refine Sc ?_
      refine thenQ_nrm ?_
      refine Sq ?_
      refine Sq (Rg [0, 1, 2, 3, 4, 5, 6, 7, 8] ?_)
      refine V 64 0 (fa 95 7 0 0 1 b23 0 0 e156) ?_
      refine V 65 92 (ld 92 64 b23 0 false 1 (.map (some b8)) (hs219.ownAt (k := 4) rfl)) ?_
      refine V 66 27 (ld 27 16 b213 0 true 2 (.agg (kRef r202.2)) (hs219.ownAt (k := 0) rfl)) ?_
      refine V 67 149 (run_lookV2 (mt := 92) (k := 27) (vt := 3) (m := (.tmp 65)) (x := (.tmp 66)) (kv := (.agg (kRef r202.2))) (kx := r202.2) (z := (vi 0)) (zx := 0) (K := tRef) (T := tInt) kl27 rfl rfl ⟨_, rfl, rfl⟩ (by kernel_rfl) (by kernel_rfl) ⟨_, rfl, rfl⟩ (MapR.mpw hs219 (i := 6) rfl (hrs148_3.mono le208)) (fun h => by obtain ⟨_, rfl, rfl⟩ := h; rfl)) ?_
      refine V 63 149 (mv 67 (.tuple #[(vi (mgetD s148.2.2.2 r202.2 0)), (.bool (mhas s148.2.2.2 r202.2))])) ?_
      refine V 68 3 (ex 63 0 (vi (mgetD s148.2.2.2 r202.2 0)) (vs := #[(vi (mgetD s148.2.2.2 r202.2 0)), (.bool (mhas s148.2.2.2 r202.2))])) ?_
      refine V 69 4 (ex 63 1 (.bool (mhas s148.2.2.2 r202.2)) (vs := #[(vi (mgetD s148.2.2.2 r202.2 0)), (.bool (mhas s148.2.2.2 r202.2))])) ?_
      refine V 19 3 (ma 68 (vi (mgetD s148.2.2.2 r202.2 0))) ?_
      refine V 20 4 (ma 69 (.bool (mhas s148.2.2.2 r202.2))) ?_
      refine Nss (Rg [0, 1, 2, 3, 4, 5, 6, 7, 8] ?_)
      refine RWP.cut (fun f w => ∃ (F9 : Mem), HS w0 F0 w F9 [(sb b213 (kRef r202.2) 27), (sb b197 (kBound x183) 103), es51_1, (sb b23 #[(.map (some b8)), (.map (some b18))] 95), es148_2, es148_3, (sb b4 #[(.map none), (.map none)] 95)] ∧ Mem.le F8 F9 ∧ f.d = [] ∧ f 0 = (.slice (some ⟨b187, o188, none⟩) x0.length n0_0) ∧ f 2 = (.bool x2) ∧ f 6 = (.pointer (some ⟨b4, 0, none⟩)) ∧ f 7 = (.pointer (some ⟨b23, 0, none⟩)) ∧ f 8 = (.map (some b29)) ∧ f 11 = (vi s121.1) ∧ f 12 = (.bool s148.1) ∧ f 14 = (.pointer (some ⟨b197, 0, none⟩)) ∧ f 16 = (.pointer (some ⟨b213, 0, none⟩)) ∧ f 17 = (vi (mgetD s148.2.2.2 r202.1 0)) ∧ f 42 = (.slice (some ⟨b187, o188, none⟩) x0.length n0_0) ∧ f 43 = (vi (x0.length : Int)) ∧ f 44 = (vi s148.2.1) ∧ f 78 = (.bool ((mhas s148.2.2.2 r202.2) && (decide ((mgetD s148.2.2.2 r202.2 0) ≤ (W64 ((mgetD s148.2.2.2 r202.1 0) + x183.Most))))))) ?_ ?_
      ·refine V 70 4 (mv 20 (.bool (mhas s148.2.2.2 r202.2))) ?_
       refine V 71 4 (mv 70 (.bool (mhas s148.2.2.2 r202.2))) ?_
       refine RWP.split (mhas s148.2.2.2 r202.2) (fun hb245 => ?_) (fun hb245 => ?_)
       ·refine Vg 72 3 1 true 71 hb245 (mv 19 (vi (mgetD s148.2.2.2 r202.2 0))) ?_
        refine Vg 73 3 1 true 71 hb245 (mv 17 (vi (mgetD s148.2.2.2 r202.1 0))) ?_
        refine Vg 74 0 1 true 71 hb245 (fa 103 14 2 4 1 b197 0 4) ?_
        refine Vg 75 3 1 true 71 hb245 (ld 3 74 b197 4 false 1 (vi x183.Most) (hs219.ownAt (k := 2) rfl)) ?_
        refine Vg 76 3 1 true 71 hb245 (run_add (t := 3) (t' := 3) (x := (.tmp 73)) (y := (.tmp 75)) (k := .i64) (a := (mgetD s148.2.2.2 r202.1 0)) (b := x183.Most) rfl rfl) ?_
        refine Vg 77 4 1 true 71 hb245 (run_leq (t := 3) (t' := 3) (x := (.tmp 72)) (y := (.tmp 76)) (k := .i64) (a := (mgetD s148.2.2.2 r202.2 0)) (b := (W64 ((mgetD s148.2.2.2 r202.1 0) + x183.Most))) rfl rfl) ?_
        refine V 78 4 (p1 71 (.tmp 77) (.const (.bool false)) (.bool (decide ((mgetD s148.2.2.2 r202.2 0) ≤ (W64 ((mgetD s148.2.2.2 r202.1 0) + x183.Most))))) hb245) ?_
        have hs246 : HS w0 F0 w218 F8 [(sb b213 (kRef r202.2) 27), (sb b197 (kBound x183) 103), es51_1, (sb b23 #[(.map (some b8)), (.map (some b18))] 95), es148_2, es148_3, (sb b4 #[(.map none), (.map none)] 95)] := hs219.drop 1
        exact RWP.nil ⟨rfl, F8, hs246, (Mem.le.refl _), e152, e153, e154, e155, e156, e157, e158, e159, rfl, rfl, rfl, e160, e161, e162, (congrArg Value.bool (and_t hb245 (rfl)))⟩
       ·refine Sk [72, 73, 74, 75, 76, 77] 1 true 71 hb245 ?_
        refine V 78 4 (p0 71 (.tmp 77) (.const (.bool false)) (.bool false) hb245) ?_
        have hs247 : HS w0 F0 w218 F8 [(sb b213 (kRef r202.2) 27), (sb b197 (kBound x183) 103), es51_1, (sb b23 #[(.map (some b8)), (.map (some b18))] 95), es148_2, es148_3, (sb b4 #[(.map none), (.map none)] 95)] := hs219.drop 1
        exact RWP.nil ⟨rfl, F8, hs247, (Mem.le.refl _), e152, e153, e154, e155, e156, e157, e158, e159, rfl, rfl, rfl, e160, e161, e162, (congrArg Value.bool (and_f hb245 (rfl)))⟩
      ·rintro f w227 ⟨F9, hs228, le229, e230, e231, e232, e233, e234, e235, e236, e237, e238, e239, e240, e241, e242, e243, e244⟩
       refine thenQ_nrm ?_
       refine CWP.cond (t := ((mhas s148.2.2.2 r202.2) && (decide ((mgetD s148.2.2.2 r202.2 0) ≤ (W64 ((mgetD s148.2.2.2 r202.1 0) + x183.Most)))))) (by kernel_rfl) e244 (fun hb248 => ?_) (fun hb248 => ?_)
       ·have h249 := cond_t h226 hb248
        refine CWP.exit (by kernel_rfl) ?_
        refine thenQ_ex ?_
        refine blockQ_hit rfl ?_
        refine thenQ_nrm ?_
        refine Rg [0, 1] ?_
        refine V 102 3 (run_add (t := 3) (t' := 3) (x := (.tmp 44)) (y := (.const (vi 1))) (k := .i64) (a := s148.2.1) (b := 1) e243 rfl) ?_
        refine V 44 3 (mv 102 (vi (W64 (s148.2.1 + 1)))) ?_
        refine RWP.nil ?_
        have hs250 : HS w0 F0 w227 F9 [(sb b197 (kBound x183) 103), es51_1, (sb b23 #[(.map (some b8)), (.map (some b18))] 95), es148_2, es148_3, (sb b4 #[(.map none), (.map none)] 95)] := hs228.drop 0
        have hs251 : HS w0 F0 w227 F9 [es51_1, (sb b23 #[(.map (some b8)), (.map (some b18))] 95), es148_2, es148_3, (sb b4 #[(.map none), (.map none)] 95)] := hs250.drop 0
        have hn252 := iter_next h249 hnx180
        exact ⟨m177, Nat.lt_succ_self _, (s148.1, (W64 (s148.2.1 + 1)), s148.2.2.1, s148.2.2.2), F9, es148_2, es148_3, hn252, hs251, ((le151.trans le208).trans le229), e230, e231, e232, e233, e234, e235, e236, e237, e241, e242, rfl, (hrs148_2.mono (le208.trans le229)), (hrs148_3.mono (le208.trans le229))⟩
       ·have h253 := cond_f h226 hb248
        refine Sc ?_
        refine thenQ_nrm ?_
        refine Sq ?_
        obtain ⟨j259, hj271, h272⟩ := bind_some h253
        refine CWP.regionD (by kernel_rfl) (by kernel_rfl) (by kernel_rfl) (by kernel_rfl) (z := 12) (F := F9) (Lc := [(sb b213 (kRef r202.2) 27), (sb b197 (kBound x183) 103), es51_1, (sb b23 #[(.map (some b8)), (.map (some b18))] 95), (sb b4 #[(.map none), (.map none)] 95)]) (Lz := [es148_2]) (l := [false, false, false, false, false, false, false, false, false, false, false, false, false]) (fuel := 13) (by kernel_rfl) (by kernel_rfl) hs228 (by simp) (by simp) (fun f w => ∃ (F10 : Mem) (ej259_0 : Option Nat × Obj) (ej259_1 : Option Nat × Obj), HS w0 F0 w F10 [(sb b213 (kRef r202.2) 27), es51_1, (sb b23 #[(.map (some b8)), (.map (some b18))] 95), ej259_1, ej259_0, (sb b4 #[(.map none), (.map none)] 95)] ∧ Mem.le F9 F10 ∧ f.d = [] ∧ f 0 = (.slice (some ⟨b187, o188, none⟩) x0.length n0_0) ∧ f 2 = (.bool x2) ∧ f 6 = (.pointer (some ⟨b4, 0, none⟩)) ∧ f 7 = (.pointer (some ⟨b23, 0, none⟩)) ∧ f 8 = (.map (some b29)) ∧ f 11 = (vi s121.1) ∧ f 16 = (.pointer (some ⟨b213, 0, none⟩)) ∧ f 42 = (.slice (some ⟨b187, o188, none⟩) x0.length n0_0) ∧ f 43 = (vi (x0.length : Int)) ∧ f 44 = (vi s148.2.1) ∧ MapR tRef tInt F10 b8 j259.1 ej259_0 ∧ MapR tRef tBound F10 b18 j259.2 ej259_1) (fun wd254 hw255 => ?_) ?_
        ·refine Df 0 79 0 (.pointer (some ⟨b23, 0, none⟩)) (fun _ hq => fa 95 7 0 0 1 b23 0 0 e234) ?_
         refine Df 1 80 92 _ (fun _ hq => ld 92 79 b23 0 false 1 (.map (some b8)) (hq.1.2 3 _ _ rfl)) ?_
         refine Df 2 81 27 _ (fun _ hq => ld 27 16 b213 0 true 2 (.agg (kRef r202.2)) (hq.1.2 0 _ _ rfl) e239) ?_
         refine Df 3 82 0 (.pointer (some ⟨b23, 1, none⟩)) (fun _ hq => fa 95 7 1 1 1 b23 0 1 e234) ?_
         refine Df 4 83 93 _ (fun _ hq => ld 93 82 b23 1 false 1 (.map (some b18)) (hq.1.2 3 _ _ rfl)) ?_
         refine Df 5 84 27 _ (fun _ hq => ld 27 16 b213 0 true 2 (.agg (kRef r202.2)) (hq.1.2 0 _ _ rfl) e239) ?_
         refine Df 6 85 3 _ (fun _ hq => mv 17 (vi (mgetD s148.2.2.2 r202.1 0)) e240) ?_
         refine Df 7 86 0 (.pointer (some ⟨b197, 4, none⟩)) (fun _ hq => fa 103 14 2 4 1 b197 0 4 e238) ?_
         refine Df 8 87 3 _ (fun _ hq => ld 3 86 b197 4 false 1 (vi x183.Most) (hq.1.2 1 _ _ rfl)) ?_
         refine Df 9 88 3 (vi (W64 ((mgetD s148.2.2.2 r202.1 0) + x183.Most))) (fun _ hq => run_add (t := 3) (t' := 3) (x := (.tmp 85)) (y := (.tmp 87)) (k := .i64) (a := (mgetD s148.2.2.2 r202.1 0)) (b := x183.Most) rfl rfl) ?_
         refine Df 10 89 103 _ (fun _ hq => ld 103 14 b197 0 true 7 (.agg (kBound x183)) (hq.1.2 1 _ _ rfl) e238) ?_
         refine DWP.one (i := 11) (by kernel_rfl) ?_
         refine DStep.mapPut (l' := [true, true, true, true, true, true, true, true, true, true, true, true, false]) (zd := false) (by kernel_rfl) (by kernel_rfl) kl27 (ty := 0) (g := none) (mt := 92) (k := 27) (vt := 3) (m := (.tmp 80)) (x := (.tmp 81)) (y := (.tmp 88)) (b := b8) (kx := r202.2) (u := (W64 ((mgetD s148.2.2.2 r202.1 0) + x183.Most))) (kv := (.agg (kRef r202.2))) (v := (vi (W64 ((mgetD s148.2.2.2 r202.1 0) + x183.Most)))) (K := tRef) (T := tInt) (by kernel_rfl) rfl rfl rfl rfl ⟨_, rfl, rfl⟩ ⟨_, rfl, rfl⟩ (by kernel_rfl) hw255 (q := 5) rfl (hrs148_3.mono (le208.trans le229)) (Mem.le.refl _) (fun _ => by simp) (fun _ _ => by simp) (fun e273 w274 (hs275 : HS w0 F0 w274 F9 [(sb b213 (kRef r202.2) 27), (sb b197 (kBound x183) 103), es51_1, (sb b23 #[(.map (some b8)), (.map (some b18))] 95), es148_2, e273, (sb b4 #[(.map none), (.map none)] 95)]) hr276 => ?_)
         refine DWP.one (i := 12) (by kernel_rfl) ?_
         refine DStep.mapPut (l' := [true, true, true, true, true, true, true, true, true, true, true, true, true]) (zd := true) (by kernel_rfl) (by kernel_rfl) kl27 (ty := 0) (g := none) (mt := 93) (k := 27) (vt := 103) (m := (.tmp 83)) (x := (.tmp 84)) (y := (.tmp 89)) (b := b18) (kx := r202.2) (u := x183) (kv := (.agg (kRef r202.2))) (v := (.agg (kBound x183))) (K := tRef) (T := tBound) (by kernel_rfl) rfl rfl rfl rfl ⟨_, rfl, rfl⟩ ⟨_, rfl, rfl⟩ (by kernel_rfl) hs275 (q := 4) rfl (hrs148_2.mono (le208.trans le229)) (Mem.le.refl _) (fun _ => by simp) (fun e => by cases e) (fun e277 w278 (hs279 : HS w0 F0 w278 F9 [(sb b213 (kRef r202.2) 27), (sb b197 (kBound x183) 103), es51_1, (sb b23 #[(.map (some b8)), (.map (some b18))] 95), e277, e273, (sb b4 #[(.map none), (.map none)] 95)]) hr280 => ?_)
         obtain rfl := some_inj hj271
         have hs281 : HS w0 F0 w278 F9 [(sb b213 (kRef r202.2) 27), es51_1, (sb b23 #[(.map (some b8)), (.map (some b18))] 95), e277, e273, (sb b4 #[(.map none), (.map none)] 95)] := hs279.drop 1
         exact DWP.done (by kernel_rfl) ⟨F9, e273, e277, hs281, (Mem.le.refl _), e230, e231, e232, e233, e234, e235, e236, e239, e241, e242, e243, hr276, hr280⟩
        ·rintro f w256 ⟨F10, ej259_0, ej259_1, hs257, le258, e260, e261, e262, e263, e264, e265, e266, e267, e268, e269, e270, hrj259_0, hrj259_1⟩
         refine thenQ_nrm ?_
         refine Sq (Rg [0] ?_)
         refine V 12 4 (mc (.bool true) (.bool true)) ?_
         refine Nss (Rg [0, 1, 2, 3] ?_)
         refine V 90 3 (mv 11 (vi s121.1) e266) ?_
         refine V 91 146 (mv 8 (.map (some b29)) e265) ?_
         refine V 92 3 (run_len_map' (x := (.tmp 91)) (ats := #[146]) (K := tRef) (T := tBool) (k := 27) (vt := 4) (l := s51.2) rfl rfl (by kernel_rfl) (MapR.mpw hs257 (i := 1) rfl (hrs51_1.mono ((((le124.trans le151).trans le208).trans le229).trans le258)))) ?_
         refine V 93 4 (run_gtr (t := 3) (t' := 3) (x := (.tmp 90)) (y := (.tmp 92)) (k := .i64) (a := s121.1) (b := (s51.2.length : Int)) rfl rfl) ?_
         refine Nt ?_
         refine CWP.cond (t := (decide (s121.1 > (s51.2.length : Int)))) (by kernel_rfl) rfl (fun hb282 => ?_) (fun hb282 => ?_)
         ·have h283 := cond_t h272 hb282
          refine Rg [0, 1, 2, 3, 4, 5, 6, 7, 8] ?_
          refine V 94 95 (ld 95 7 b23 0 true 2 (.agg #[(.map (some b8)), (.map (some b18))]) (hs257.ownAt (k := 2) rfl) e264) ?_
          refine V 95 27 (ld 27 16 b213 0 true 2 (.agg (kRef r202.2)) (hs257.ownAt (k := 0) rfl) e267) ?_
          refine V 96 146 (mv 8 (.map (some b29)) e265) ?_
          refine V 97 3 (run_len_map' (x := (.tmp 96)) (ats := #[146]) (K := tRef) (T := tBool) (k := 27) (vt := 4) (l := s51.2) rfl rfl (by kernel_rfl) (MapR.mpw hs257 (i := 1) rfl (hrs51_1.mono ((((le124.trans le151).trans le208).trans le229).trans le258)))) ?_
          refine V 98 4 (mv 2 (.bool x2) e262) ?_
          obtain ⟨F11, hs284, le285, hm286⟩ : ∃ Fq, HS w0 F0 w256 Fq [(sb b213 (kRef r202.2) 27), es51_1, (sb b23 #[(.map (some b8)), (.map (some b18))] 95), ej259_1, (sb b4 #[(.map none), (.map none)] 95)] ∧ Mem.le F10 Fq ∧ MpA tRef tInt Fq (some b8) j259.1 := HS.freezeMap hs257 (i := 4) rfl hrj259_0
          obtain ⟨F12, hs287, le288, hm289⟩ : ∃ Fq, HS w0 F0 w256 Fq [(sb b213 (kRef r202.2) 27), es51_1, (sb b23 #[(.map (some b8)), (.map (some b18))] 95), (sb b4 #[(.map none), (.map none)] 95)] ∧ Mem.le F11 Fq ∧ MpA tRef tBound Fq (some b18) j259.2 := HS.freezeMap hs284 (i := 3) rfl (hrj259_1.mono le285)
          obtain ⟨r290, hr291, h292⟩ := bind_some h283
          refine RWP.callO (dst := (some 99)) (ty := 57) (g := none) (by kernel_rfl) rfl (f0 := (.func 122)) (aos := #[(.tmp 94), (.tmp 95), (.tmp 97), (.tmp 98)]) (ats := #[95, 27, 3, 4]) (fid := 122) (first := #[]) (cap := #[]) (args := [(.agg #[(.map (some b8)), (.map (some b18))]), (.agg (kRef r202.2)), (vi (s51.2.length : Int)), (.bool x2)]) rfl co_clocks_reached_cycle (rfl) hs287 (c_clocks_reached_cycle N w256 F12 hs287.pers (({ at_ := j259.1, by_ := j259.2 } : Reached)) (some b8) (MpA.mono hm286 le288) (some b18) hm289 (r202.2) ((s51.2.length : Int)) (x2) _ hr291) ?_
          rintro _ F13 w294 _ hs295 le296 ⟨a298, n299, e300, rfl, rfl, hr301⟩
          have hs303 : HS w0 F0 w294 F13 [e300, (sb b213 (kRef r202.2) 27), es51_1, (sb b23 #[(.map (some b8)), (.map (some b18))] 95), (sb b4 #[(.map none), (.map none)] 95)] := hs295
          refine V 100 152 (run_build2 (t := 152) (parts := #[(0, (.tmp 99))]) (vs := [(0, (.slice a298 r290.length n299))]) (rfl) (cs := [(.slice a298 r290.length n299)]) (by kernel_rfl)) ?_
          have hb307 := RowR.bound hr301
          have fr308 := RowR.fresh hs303 (k := 0) rfl hr301
          obtain ⟨F14, hs304, le305, hs306⟩ : ∃ Fq, HS w0 F0 w294 Fq [(sb b213 (kRef r202.2) 27), es51_1, (sb b23 #[(.map (some b8)), (.map (some b18))] 95), (sb b4 #[(.map none), (.map none)] 95)] ∧ Mem.le F13 Fq ∧ SlA tBound Fq a298 r290 := HS.freezeRow hs303 (k := 0) rfl hr301
          refine V 101 20 (run_mkIface' (t := 152) (x := (.tmp 100)) (v := (.agg #[(.slice a298 r290.length n299)])) rfl (by kernel_rfl)) ?_
          refine RWP.panics (dst := none) (ty := 0) (g := none) (by kernel_rfl) rfl (run_panic (x := (.tmp 101)) (t := 152) (v := (.agg #[(.slice a298 r290.length n299)])) rfl) rfl ?_
          refine blockQ_pan ?_
          refine thenQ_pan ?_
          refine thenQ_pan ?_
          refine blockQ_pan ?_
          have hret := iter_ret h292 hnx180
          subst hret
          refine .inr ?_
          refine thenQ_pan ?_
          refine blockQ_pan ?_
          refine thenQ_pan ?_
          refine thenQ_pan ?_
          refine blockQ_pan ?_
          have hret := iter_ret h147 hnx144
          subst hret
          refine .inr ?_
          refine thenQ_pan ?_
          refine scopeQ_pan ?_
          have hfin := some_inj h120
          subst hfin
          exact ⟨e260, .inr ⟨_, _, F14, rfl, rfl, hs304.clear, ⟨_, rfl, a298, n299, rfl, hb307, hs306, fr308⟩⟩⟩
         ·have h309 := cond_f h272 hb282
          refine Sc ?_
          refine blockQ_nrm ?_
          refine thenQ_nrm ?_
          refine Rg [0, 1] ?_
          refine V 102 3 (run_add (t := 3) (t' := 3) (x := (.tmp 44)) (y := (.const (vi 1))) (k := .i64) (a := s148.2.1) (b := 1) e270 rfl) ?_
          refine V 44 3 (mv 102 (vi (W64 (s148.2.1 + 1)))) ?_
          refine RWP.nil ?_
          have hs310 : HS w0 F0 w256 F10 [es51_1, (sb b23 #[(.map (some b8)), (.map (some b18))] 95), ej259_1, ej259_0, (sb b4 #[(.map none), (.map none)] 95)] := hs257.drop 0
          have hn311 := iter_next h309 hnx180
          exact ⟨m177, Nat.lt_succ_self _, (true, (W64 (s148.2.1 + 1)), j259.2, j259.1), F10, ej259_1, ej259_0, hn311, hs310, (((le151.trans le208).trans le229).trans le258), e260, e261, e262, e263, e264, e265, e266, rfl, e268, e269, rfl, hrj259_1, hrj259_0⟩
    ·have h312 := cond_f hb179 hb181
     refine CWP.exit (by kernel_rfl) ?_
     refine thenQ_ex ?_
     refine thenQ_ex ?_
     refine blockQ_hit rfl ?_
     have ho313 := iter_done h312 hnx180
     exact .inl ⟨rfl, (s148.1, s148.2.1, s148.2.2.1, s148.2.2.2), F6, es148_2, es148_3, ho313, hs150, le151, e152, e153, e154, e155, e156, e157, e158, e159, hrs148_2, hrs148_3⟩
   ·rintro f w164 ⟨s163, F7, es163_2, es163_3, rfl, hs165, le166, e167, e168, e169, e170, e171, e172, e173, e174, hrs163_2, hrs163_3⟩
    have h314 := k_done h147
    refine thenQ_nrm ?_
    refine Sq (Rg [0, 1] ?_)
    refine V 103 4 (mv 12 (.bool s163.1) e174) ?_
    refine V 104 4 (run_not (t := 4) (x := (.tmp 103)) (a := s163.1) rfl) ?_
    refine Nt ?_
    refine CWP.cond (t := (!s163.1)) (by kernel_rfl) rfl (fun hb315 => ?_) (fun hb315 => ?_)
    ·have h316 := cond_t h314 hb315
     refine CWP.exit (by kernel_rfl) ?_
     refine blockQ_miss (by decide) ?_
     refine thenQ_ex ?_
     refine thenQ_ex ?_
     refine blockQ_hit rfl ?_
     have hs317 : HS w0 F0 w164 F7 [(sb b23 #[(.map (some b8)), (.map (some b18))] 95), es163_2, es163_3, (sb b4 #[(.map none), (.map none)] 95)] := hs165.drop 0
     have ho318 := iter_done h316 hnx144
     exact .inl ⟨rfl, (s121.1, s163.2.2.1, s163.2.2.2), F7, es163_2, es163_3, ho318, hs317, (le124.trans le166), e167, e170, e171, hrs163_2, hrs163_3⟩
    ·have h319 := cond_f h314 hb315
     refine Sc ?_
     refine blockQ_nrm ?_
     refine thenQ_nrm ?_
     refine Rg [0, 1, 2] ?_
     refine V 40 3 (mv 11 (vi s121.1) e173) ?_
     refine V 41 3 (run_add (t := 3) (t' := 3) (x := (.tmp 40)) (y := (.const (vi 1))) (k := .i64) (a := s121.1) (b := 1) rfl rfl) ?_
     refine V 11 3 (ma 41 (vi (W64 (s121.1 + 1)))) ?_
     refine RWP.nil ?_
     have hn320 := iter_next h319 hnx144
     exact ⟨m141, Nat.lt_succ_self _, ((W64 (s121.1 + 1)), s163.2.2.1, s163.2.2.2), F7, es163_2, es163_3, hn320, hs165, (le124.trans le166), e167, e168, e169, e170, e171, e172, rfl, hrs163_2, hrs163_3⟩
  ·rintro f w133 ⟨s132, F5, es132_1, es132_2, rfl, hs134, le135, e136, e137, e138, hrs132_1, hrs132_2⟩
   have h321 := k_done h120
   refine thenQ_nrm ?_
   refine Sq (Rg [0, 1] ?_)
   refine V 105 95 (ld 95 7 b23 0 true 2 (.agg #[(.map (some b8)), (.map (some b18))]) (hs134.ownAt (k := 0) rfl) e138) ?_
   refine RWP.store (ty := 0) (g := none) (by kernel_rfl) rfl (x := (.tmp 6)) (y := (.tmp 105)) (t := 95) (gg := true) (s := 2) (v := (.agg #[(.map (some b8)), (.map (some b18))])) (b := b4) (o := 0) (C := #[(.map none), (.map none)]) e137 rfl (by kernel_rfl) hs134 (k := 3) rfl rfl rfl rfl (C' := #[(.map (some b8)), (.map (some b18))]) rfl (fun w322 (hs323 : HS w0 F0 w322 F5 [(sb b23 #[(.map (some b8)), (.map (some b18))] 95), es132_1, es132_2, (sb b4 #[(.map (some b8)), (.map (some b18))] 95)]) => ?_)
   refine Nt ?_
   refine CWP.ret (by kernel_rfl) ?_
   refine scopeQ_ret ?_
   obtain ⟨F15, hs324, le325, hm326⟩ : ∃ Fq, HS w0 F0 w322 Fq [(sb b23 #[(.map (some b8)), (.map (some b18))] 95), es132_1, (sb b4 #[(.map (some b8)), (.map (some b18))] 95)] ∧ Mem.le F5 Fq ∧ MpA tRef tInt Fq (some b8) s132.2.2 := HS.freezeMap hs323 (i := 2) rfl hrs132_2
   obtain ⟨F16, hs327, le328, hm329⟩ : ∃ Fq, HS w0 F0 w322 Fq [(sb b23 #[(.map (some b8)), (.map (some b18))] 95), (sb b4 #[(.map (some b8)), (.map (some b18))] 95)] ∧ Mem.le F15 Fq ∧ MpA tRef tBound Fq (some b18) s132.2.1 := HS.freezeMap hs324 (i := 1) rfl (hrs132_1.mono le325)
   have hfin := some_inj h321
   subst hfin
   exact ⟨e136, (.agg #[(.map (some b8)), (.map (some b18))]), res_of (l := [.cell 6 95]) (by kernel_rfl) (vs := [(.agg #[(.map (some b8)), (.map (some b18))])]) ⟨b4, 0, e137, run_loadVar' (t := 95) (g := true) (s := 2) (by kernel_rfl) (hs327.ownAt (k := 1) rfl) rfl (by decide), trivial⟩, .inl ⟨_, (.agg #[(.map (some b8)), (.map (some b18))]), F16, rfl, rfl, hs327.clear, ⟨(some b8), (some b18), rfl, (MpA.mono hm326 le328), hm329⟩⟩⟩
theorem c_clocks_relax_ok (N : Nat) (w0 : World) (F0 : Mem) (hF : ∀ b o, F0 b = some o → w0.heap[b]? = some o) (x0 : (List Bound)) (a0_0 : Option Addr) (n0_0 : Nat) (hb0_0 : LC x0.length n0_0) (hs0_0 : SlA tBound F0 a0_0 x0) (x1 : Ref) (x2 : Bool) (r : Reached) (h : clocks_relax_ok N x0 x1 x2 = some r) :
  Calls Try.prog 77 ([(.slice a0_0 x0.length n0_0), (.agg (kRef x1)), (.bool x2)] : List Value).toArray w0 (FRet w0 F0 fun F' v => ∃ (oq0_0 : Option Nat) (oq0_1 : Option Nat), v = (.agg #[(.map oq0_0), (.map oq0_1)]) ∧ MpA tRef tInt F' oq0_0 r.at_ ∧ MpA tRef tBound F' oq0_1 r.by_) := by
 obtain ⟨q, hq, h⟩ := bind_some h
 cases q with
 | inl b => cases h
 | inr q =>
  cases h
  refine (c_clocks_relax N w0 F0 hF x0 a0_0 n0_0 hb0_0 hs0_0 x1 x2 _ hq).mono ?_
  rintro e w (⟨r, v, F', e1, e2, hs, hp⟩ | ⟨b, v, F', e1, _⟩)
  · cases e1; exact ⟨v, F', e2, hs, hp⟩
  · cases e1
end Go.Proofs.Ythbcnabeabcmlaa
namespace Go.Proofs.Ythbcnabeabcmlaa
open BF
theorem mget_mput {α β : Type} [DecidableEq α] (l : List (α × β)) (k x : α) (v : β) : mget (mput l k v) x = if x = k then some v else mget l x := by
 induction l with
 | nil => simp [mput, mget]
 | cons p l ih =>
  unfold mput
  by_cases h : k = p.1
  ·subst h
   simp only [if_true, mget]
   by_cases hx : x = p.1 <;> simp [hx]
  ·simp only [h, if_false, mget, ih]
   by_cases hx : x = p.1
   ·have : x ≠ k := fun e => h (e.symm.trans hx)
    have h' : ¬ p.1 = k := fun e => h e.symm
    simp [hx, h']
   ·simp [hx]
theorem mput_len {α β : Type} [DecidableEq α] (l : List (α × β)) (k : α) (v : β) : (mput l k v).length ≤ l.length + 1 := by
 induction l with
 | nil => simp [mput]
 | cons p l ih =>
  unfold mput
  split
  ·simp
  ·simp only [List.length_cons]; omega
theorem mget_mem {α β : Type} [DecidableEq α] {l : List (α × β)} {k : α} {v : β} (h : mget l k = some v) : k ∈ l.map (·.1) := by
 induction l with
 | nil => cases h
 | cons p l ih =>
  unfold mget at h
  split at h
  ·rename_i hk; subst hk; simp
  ·simp only [List.map_cons, List.mem_cons]; exact .inr (ih h)
def srcB (tu : Bool) (b : Bound) : Ref := bif tu then b.To else b.From
def dstB (tu : Bool) (b : Bound) : Ref := bif tu then b.From else b.To
theorem ends_eq (N : Nat) (b : Bound) (tu : Bool) : clocks_ends N b tu = some (srcB tu b, dstB tu b) := by cases tu <;> rfl
def zb : Bound := { From := { Log := 0, Line := 0 }, To := { Log := 0, Line := 0 }, Most := 0, Kind := 0, ID := 0 }
def stO (by_ : List (Ref × Bound)) (at_ : List (Ref × Int)) : St Ref Bound := ⟨fun x => mget at_ x, fun x => mget by_ x⟩
abbrev d0 : Ref := { Log := 0, Line := 0 }
theorem parB (tu : Bool) (by_ : List (Ref × Bound)) (at_ : List (Ref × Int)) (x : Ref) : srcB tu (mgetD by_ x zb) = parV (srcB tu) d0 (stO by_ at_) x := by
 unfold mgetD parV stO
 simp only
 cases mget by_ x with
 | none => cases tu <;> rfl
 | some e => rfl
theorem stO_put {tu : Bool} {by_ : List (Ref × Bound)} {at_ : List (Ref × Int)} {e : Bound} {n : Int} (h : mget at_ (srcB tu e) = some n) :
  BF.put (srcB tu) (dstB tu) Bound.Most (stO by_ at_) e = stO (mput by_ (dstB tu e) e) (mput at_ (dstB tu e) (n + e.Most)) := by
 unfold BF.put
 have : (stO by_ at_).at_ (srcB tu e) = some n := h
 rw [this]
 simp only [stO, mget_mput]
def backL (tu : Bool) (by_ : List (Ref × Bound)) (at_ : List (Ref × Int)) : Nat → Ref → List Bound
 | 0, _ => []
 | q + 1, x => mgetD by_ x zb :: backL tu by_ at_ q (parV (srcB tu) d0 (stO by_ at_) x)
theorem backL_snoc (tu : Bool) (by_ : List (Ref × Bound)) (at_ : List (Ref × Int)) : ∀ (q : Nat) (x : Ref), backL tu by_ at_ (q + 1) x = backL tu by_ at_ q x ++ [mgetD by_ (itr (parV (srcB tu) d0 (stO by_ at_)) q x) zb]
 | 0, _ => rfl
 | q + 1, x => by
  rw [backL, backL_snoc tu by_ at_ q]
  rfl
theorem backL_len (tu : Bool) (by_ : List (Ref × Bound)) (at_ : List (Ref × Int)) : ∀ (q : Nat) (x : Ref), (backL tu by_ at_ q x).length = q
 | 0, _ => rfl
 | q + 1, x => by rw [backL, List.length_cons, backL_len tu by_ at_ q]
theorem back_eq {N : Nat} {tu : Bool} {by_ : List (Ref × Bound)} {at_ : List (Ref × Int)} {x : Ref} {u : Ref → Option Bool} {uB : Ref → Bool} (hu : ∀ r, u r = some (uB r)) {q : Nat} (hq : 1 ≤ q)
  (h1 : ∀ i, 1 ≤ i → i < q → uB (itr (parV (srcB tu) d0 (stO by_ at_)) i x) = false) (h2 : uB (itr (parV (srcB tu) d0 (stO by_ at_)) q x) = true) (hN : q < N) (hs : q < 4294967295) :
  clocks_reached_back N { at_ := at_, by_ := by_ } x tu u = some (backL tu by_ at_ q x) := by
 unfold clocks_reached_back
 obtain ⟨o, ho, rfl⟩ := iter_ex (body := clocks_reached_back_L0 N { at_ := at_, by_ := by_ } x tu u) q
  (fun i s => s = (backL tu by_ at_ i x, decide (i = 0), (itr (parV (srcB tu) d0 (stO by_ at_)) i x).Log, (itr (parV (srcB tu) d0 (stO by_ at_)) i x).Line))
  (fun o => o = .done (backL tu by_ at_ q x, false, (itr (parV (srcB tu) d0 (stO by_ at_)) q x).Log, (itr (parV (srcB tu) d0 (stO by_ at_)) q x).Line)) (by
  rintro i s hi rfl
  unfold clocks_reached_back_L0
  simp only
  by_cases hiq : i = q
  ·subst hiq
   right
   have h0 : decide (i = 0) = false := by simp; omega
   refine ⟨_, ?_, fun _ h => (by cases h), rfl⟩
   simp only [h0, cond_false, hu, Option.bind_some]
   rw [show ({ Log := (itr (parV (srcB tu) d0 (stO by_ at_)) i x).Log, Line := (itr (parV (srcB tu) d0 (stO by_ at_)) i x).Line } : Ref) = itr (parV (srcB tu) d0 (stO by_ at_)) i x from rfl, h2]
   rfl
  ·left
   have hc : (bif decide (i = 0) then some true else (u ({ Log := (itr (parV (srcB tu) d0 (stO by_ at_)) i x).Log, Line := (itr (parV (srcB tu) d0 (stO by_ at_)) i x).Line } : Ref)).bind fun r52 => some (!r52)) = some true := by
    by_cases h0 : i = 0
    ·simp [h0]
    ·have : decide (i = 0) = false := by simp [h0]
     rw [this, cond_false, hu]
     rw [show ({ Log := (itr (parV (srcB tu) d0 (stO by_ at_)) i x).Log, Line := (itr (parV (srcB tu) d0 (stO by_ at_)) i x).Line } : Ref) = itr (parV (srcB tu) d0 (stO by_ at_)) i x from rfl, h1 i (by omega) (by omega)]
     rfl
   rw [hc]
   simp only [Option.bind_some, cond_true]
   rw [apnd_ok (by rw [backL_len]; simp; omega)]
   simp only [Option.bind_some, ends_eq]
   refine ⟨_, rfl, ?_, by omega⟩
   rw [backL_snoc, itr_succ, ← parB tu by_ at_]
   have : decide (i + 1 = 0) = false := by simp
   rw [this]
   rfl) q N 0 ([], true, x.Log, x.Line) (by omega) rfl hN
 rw [ho]
 rfl
theorem rev_eq {N : Nat} {x : List Bound} (hN : x.length < N) (hl : x.length < 4611686018427387904) : slices_Reverse_api_Bound_api_Bound N x = some x.reverse := by
 unfold slices_Reverse_api_Bound_api_Bound
 let good (i : Nat) (s : List Bound) : Prop := s.length = x.length ∧ ∀ p, s[p]? = if p < i ∨ x.length ≤ p + i then (if p < x.length then x[x.length - 1 - p]? else none) else x[p]?
 obtain ⟨o, ho, i, s, rfl, hg, hfin⟩ := iter_ex (body := slices_Reverse_api_Bound_api_Bound_L0 N x) (x.length / 2)
  (fun i q => q.1 = (i : Int) ∧ q.2.1 = (x.length : Int) - 1 - i ∧ good i q.2.2)
  (fun o => ∃ (i : Nat) (s : List Bound), o = .done ((i : Int), (x.length : Int) - 1 - i, s) ∧ good i s ∧ x.length ≤ 2 * i + 1) (by
  rintro i ⟨a, b, s⟩ hi ⟨ha, hb, hlen, hg⟩
  simp only at ha hb hlen hg
  subst ha; subst hb
  unfold slices_Reverse_api_Bound_api_Bound_L0
  simp only
  by_cases hlt : (i : Int) < (x.length : Int) - 1 - i
  ·left
   have hj : (x.length : Int) - 1 - i = ((x.length - 1 - i : Nat) : Int) := by omega
   have hi1 : i < s.length := by omega
   have hj1 : x.length - 1 - i < s.length := by omega
   have hb : decide ((i : Int) < (x.length : Int) - 1 - i) = true := by simpa using hlt
   rw [hb, cond_true]
   rw [hj]
   simp only [idx_nat hi1, idx_nat hj1, Option.bind_some, Int.toNat_natCast]
   have hj2 : x.length - 1 - i < (s.set i s[x.length - 1 - i]).length := by simpa using hj1
   simp only [idx_nat hj2, Option.bind_some]
   refine ⟨_, rfl, ⟨?_, ?_, ?_, ?_⟩, by omega⟩
   ·rw [W64_succ (by omega)]
   ·simp only; rw [W64_id (by omega) (by omega)]; omega
   ·simp [hlen]
   ·intro p
    have e1 : some s[x.length - 1 - i] = x[x.length - 1 - i]? := by
     have := hg (x.length - 1 - i)
     rw [if_neg (by omega)] at this
     rw [← this, List.getElem?_eq_getElem hj1]
    have e2 : some s[i] = x[i]? := by
     have := hg i
     rw [if_neg (by omega)] at this
     rw [← this, List.getElem?_eq_getElem hi1]
    simp only [List.getElem?_set]
    by_cases hp1 : x.length - 1 - i = p
    ·subst hp1
     simp only [if_true, List.length_set, hj1]
     rw [if_pos (show x.length - 1 - i < i + 1 ∨ x.length ≤ x.length - 1 - i + (i + 1) by omega), if_pos (show x.length - 1 - i < x.length by omega), e2]
     congr 1; omega
    ·simp only [hp1, if_false]
     by_cases hp2 : i = p
     ·subst hp2
      simp only [if_true, hi1]
      rw [if_pos (show i < i + 1 ∨ x.length ≤ i + (i + 1) by omega), if_pos (show i < x.length by omega), e1]
     ·simp only [hp2, if_false]
      rw [hg p]
      by_cases hc : p < i ∨ x.length ≤ p + i
      ·rw [if_pos hc, if_pos (show p < i + 1 ∨ x.length ≤ p + (i + 1) by omega)]
      ·rw [if_neg hc, if_neg (show ¬ (p < i + 1 ∨ x.length ≤ p + (i + 1)) by omega)]
  ·right
   have hb : decide ((i : Int) < (x.length : Int) - 1 - i) = false := by simpa using hlt
   rw [hb, cond_false]
   exact ⟨_, rfl, (fun _ h => by cases h), i, s, rfl, ⟨hlen, hg⟩, by omega⟩) (x.length / 2) N 0 (0, W64 ((x.length : Int) - 1), x) (by omega) (by
    refine ⟨rfl, ?_, rfl, fun p => ?_⟩
    ·simp only; rw [W64_id (by omega) (by omega)]; omega
    ·by_cases hp : p < x.length
     ·rw [if_neg (show ¬ (p < 0 ∨ x.length ≤ p + 0) by omega)]
     ·rw [if_pos (show p < 0 ∨ x.length ≤ p + 0 by omega), if_neg hp]; exact List.getElem?_eq_none (Nat.le_of_not_lt hp)) (by omega)
 rw [ho]
 simp only [Option.bind_some, Flow.k]
 congr 1
 apply List.ext_getElem?
 intro p
 rw [hg.2 p]
 by_cases hp : p < x.length
 ·rw [List.getElem?_reverse hp]
  by_cases hc : p < i ∨ x.length ≤ p + i
  ·rw [if_pos hc, if_pos hp]
  ·rw [if_neg hc]
   congr 1; omega
 ·rw [List.getElem?_eq_none (l := x.reverse) (by simp; omega)]
  by_cases hc : p < i ∨ x.length ≤ p + i
  ·rw [if_pos hc, if_neg hp]
  ·omega
def chainT : List Bound → Ref → Ref → Prop
 | [], a, z => a = z
 | b :: r, a, z => b.From = a ∧ chainT r b.To z
theorem chainT_append {l m : List Bound} {a b c : Ref} (h : chainT l a b) (k : chainT m b c) : chainT (l ++ m) a c := by
 induction l generalizing a with
 | nil => cases (show a = b from h); exact k
 | cons e l ih => exact ⟨h.1, ih h.2⟩
def sumB (l : List Bound) : Int := (l.map Bound.Most).foldr (· + ·) 0
theorem sumB_cons (b : Bound) (l : List Bound) : sumB (b :: l) = b.Most + sumB l := rfl
theorem sumB_append (l m : List Bound) : sumB (l ++ m) = sumB l + sumB m := by
 induction l with
 | nil => simp [sumB]
 | cons b l ih => rw [List.cons_append, sumB_cons, sumB_cons, ih]; omega
structure IsChain (l c : List Bound) (a z : Ref) (n : Int) : Prop where
 ch : chainT c a z
 sub : ∀ b, b ∈ c → b ∈ l
 sum : sumB c = n
def BadLoop (l c : List Bound) : Prop := c ≠ [] ∧ ∃ a n, IsChain l c a a n ∧ n < 0
def turnL (tu : Bool) (l : List Bound) : List Bound := bif tu then l else l.reverse
theorem back_chain {tu : Bool} {l : List Bound} {by_ : List (Ref × Bound)} {at_ : List (Ref × Int)} (hp : ∀ x e, mget by_ x = some e → e ∈ l ∧ dstB tu e = x) :
  ∀ (q : Nat) (x : Ref), (∀ i, i < q → ∃ e, mget by_ (itr (parV (srcB tu) d0 (stO by_ at_)) i x) = some e) →
   IsChain l (turnL tu (backL tu by_ at_ q x)) (bif tu then x else itr (parV (srcB tu) d0 (stO by_ at_)) q x) (bif tu then itr (parV (srcB tu) d0 (stO by_ at_)) q x else x) (backSum Bound.Most (srcB tu) d0 (stO by_ at_) q x)
 | 0, x, _ => by cases tu <;> exact ⟨rfl, (fun b hb => by cases hb), rfl⟩
 | q + 1, x, h => by
  obtain ⟨e, he⟩ := h 0 (by omega)
  simp only [itr] at he
  obtain ⟨h1, h2⟩ := hp x e he
  have hpar : parV (srcB tu) d0 (stO by_ at_) x = srcB tu e := parV_eq (show (stO by_ at_).by_ x = some e from he)
  have ih := back_chain hp q (srcB tu e) (fun i hi => by
   have := h (i + 1) (by omega)
   simp only [itr, hpar] at this
   exact this)
  have hm : mgetD by_ x zb = e := by unfold mgetD; rw [he]; rfl
  have hbs : backSum Bound.Most (srcB tu) d0 (stO by_ at_) (q + 1) x = e.Most + backSum Bound.Most (srcB tu) d0 (stO by_ at_) q (srcB tu e) := by
   simp only [backSum, hpar]
   rw [show (stO by_ at_).by_ x = some e from he]
  rw [hbs]
  simp only [backL, hm, hpar, itr]
  cases tu with
  | true =>
   refine ⟨⟨h2, ih.ch⟩, fun b hb => ?_, ?_⟩
   ·rcases List.mem_cons.1 hb with rfl | hb
    ·exact h1
    ·exact ih.sub b hb
   ·rw [← ih.sum]; rfl
  | false =>
   simp only [turnL, cond_false, List.reverse_cons] at ih ⊢
   refine ⟨chainT_append ih.ch ⟨rfl, h2⟩, fun b hb => ?_, ?_⟩
   ·rcases List.mem_append.1 hb with hb | hb
    ·exact ih.sub b hb
    ·rw [List.mem_singleton] at hb; subst hb; exact h1
   ·rw [sumB_append, ih.sum]; simp [sumB]; omega
abbrev IV (tu : Bool) (l : List Bound) (frm : Ref) (k : Nat) (pre suf : List Bound) (by_ : List (Ref × Bound)) (at_ : List (Ref × Int)) (ts rd : Ref → Nat) (now : Nat) : Prop :=
 Inv (srcB tu) (dstB tu) Bound.Most frm l k pre suf (stO by_ at_) ts rd now
theorem period_small {tu : Bool} {by_ : List (Ref × Bound)} {at_ : List (Ref × Int)} {c : Ref} {p : Nat} (hp : 1 ≤ p) (hc : itr (parV (srcB tu) d0 (stO by_ at_)) p c = c) {nodes : List Ref} (hn : ∀ i, itr (parV (srcB tu) d0 (stO by_ at_)) i c ∈ nodes) :
  ∃ q, 1 ≤ q ∧ q ≤ nodes.length ∧ itr (parV (srcB tu) d0 (stO by_ at_)) q c = c ∧ ∀ i, 1 ≤ i → i < q → itr (parV (srcB tu) d0 (stO by_ at_)) i c ≠ c := by
 generalize hf : parV (srcB tu) d0 (stO by_ at_) = f at *
 obtain ⟨i, j, hij, hj, he⟩ := pigeon nodes (fun i => itr f i c) (fun i _ => hn i)
 have hmul : ∀ m, itr f (p * m) c = c := by
  intro m
  induction m with
  | zero => rfl
  | succ m ih => rw [Nat.mul_succ, itr_add, ih, hc]
 have hper : itr f (j - i) c = c := by
  have h1 := (itr_per f hij he (p * (i + 1)) (by have := Nat.le_mul_of_pos_left (i + 1) hp; omega)).1
  rw [hmul] at h1; exact h1
 have hfirst : ∀ p, 1 ≤ p → itr f p c = c → ∃ q, 1 ≤ q ∧ q ≤ p ∧ itr f q c = c ∧ ∀ i, 1 ≤ i → i < q → itr f i c ≠ c := by
  intro p
  induction p using Nat.strongRecOn with
  | ind p ih =>
   intro h1 hp
   by_cases hq : ∃ q, 1 ≤ q ∧ q < p ∧ itr f q c = c
   ·obtain ⟨q, h0, h1, h2⟩ := hq
    obtain ⟨r, h3, h4, h5⟩ := ih q h1 h0 h2
    exact ⟨r, h3, by omega, h5⟩
   ·exact ⟨p, h1, Nat.le_refl _, hp, fun i hi hlt he => hq ⟨i, hi, hlt, he⟩⟩
 obtain ⟨q, h1, h2, h3⟩ := hfirst (j - i) (by omega) hper
 exact ⟨q, h1, by omega, h3⟩
theorem cycle_eq {N : Nat} {tu : Bool} {l : List Bound} {frm : Ref} {k : Nat} {pre suf : List Bound} {by_ : List (Ref × Bound)} {at_ : List (Ref × Int)} {ts rd : Ref → Nat} {now : Nat}
  (h : IV tu l frm k pre suf by_ at_ ts rd now) {keys nodes : List Ref} (hk : ∀ e, e ∈ l → dstB tu e ∈ keys) (hn : ∀ e, e ∈ l → dstB tu e ∈ nodes) {z : Ref} (hz : keys.length + 1 ≤ rd z)
  (hN1 : keys.length + 1 < N) (hN2 : nodes.length < N) (hs : keys.length < 4294967295) (hs2 : nodes.length < 4294967295) :
  ∃ c, clocks_reached_cycle N { at_ := at_, by_ := by_ } z (keys.length : Int) tu = some c ∧ BadLoop l c ∧ c.length ≤ nodes.length := by
 obtain ⟨p, h1, h2, h3⟩ := h.loop d0 hk hz
 obtain ⟨hby, hper⟩ := h3 (keys.length + 1) (by omega)
 obtain ⟨q, hq1, hq2, hq3, hq4⟩ := period_small h1 hper (nodes := nodes) (fun i => by
  obtain ⟨e, he⟩ := hby i
  obtain ⟨e1, e2, _⟩ := h.par _ e he
  have := hn e e1
  rw [e2] at this
  exact this)
 have hbc := back_chain (tu := tu) (l := l) (by_ := by_) (at_ := at_) (fun x e he => by
  obtain ⟨e1, e2, _⟩ := h.par x e he
  exact ⟨e1, e2⟩) q (itr (parV (srcB tu) d0 (stO by_ at_)) (keys.length + 1) z) (fun i _ => hby i)
 have hneg := h.cycle_neg d0 hq1 (fun i _ => hby i) hq3
 refine ⟨turnL tu (backL tu by_ at_ q (itr (parV (srcB tu) d0 (stO by_ at_)) (keys.length + 1) z)), ?_, ⟨?_, ?_⟩, ?_⟩
 ·unfold clocks_reached_cycle
  obtain ⟨o, ho, rfl⟩ := iter_ex (body := clocks_reached_cycle_L0 N { at_ := at_, by_ := by_ } z (keys.length : Int) tu) (keys.length + 1)
   (fun i s => s = ((i : Int), (itr (parV (srcB tu) d0 (stO by_ at_)) i z).Log, (itr (parV (srcB tu) d0 (stO by_ at_)) i z).Line))
   (fun o => o = .done (((keys.length + 1 : Nat) : Int), (itr (parV (srcB tu) d0 (stO by_ at_)) (keys.length + 1) z).Log, (itr (parV (srcB tu) d0 (stO by_ at_)) (keys.length + 1) z).Line)) (by
   rintro i s hi rfl
   unfold clocks_reached_cycle_L0
   simp only
   rw [W64_succ (by omega)]
   by_cases hlt : i < keys.length + 1
   ·left
    rw [lt_t hlt, cond_true, ends_eq, Option.bind_some, W64_succ (by omega)]
    refine ⟨_, rfl, ?_, hlt⟩
    rw [itr_succ, ← parB tu by_ at_]
    rfl
   ·have : i = keys.length + 1 := by omega
    subst this
    right
    rw [lt_f, cond_false]
    exact ⟨_, rfl, (fun _ h => by cases h), rfl⟩) (keys.length + 1) N 0 (0, z.Log, z.Line) (by omega) rfl hN1
  rw [ho]
  simp only [Option.bind_some, Flow.k]
  rw [back_eq (q := q) (uB := fun y => decide (y = itr (parV (srcB tu) d0 (stO by_ at_)) (keys.length + 1) z)) (fun r => by
   unfold clocks_reached_cycle_1
   obtain ⟨a, b⟩ := r
   generalize itr (parV (srcB tu) d0 (stO by_ at_)) (keys.length + 1) z = c
   obtain ⟨c1, c2⟩ := c
   simp only [Bool.and_true, Option.some.injEq, Ref.mk.injEq]
   rw [Bool.eq_iff_iff]
   simp) hq1 (fun i hi hlt => by simpa using hq4 i hi hlt) (by simpa using hq3) (by omega) (by omega)]
  simp only [Option.bind_some]
  cases tu with
  | true => rfl
  | false =>
   simp only [Bool.not_false, cond_true]
   rw [rev_eq (by rw [backL_len]; omega) (by rw [backL_len]; omega)]
   rfl
 ·intro he
  have := congrArg List.length he
  unfold turnL at this
  cases tu <;> simp [backL_len] at this <;> omega
 ·rw [hq3] at hbc
  cases tu <;> exact ⟨_, _, hbc, hneg⟩
 ·unfold turnL
  cases tu <;> simp [backL_len] <;> omega
end Go.Proofs.Ythbcnabeabcmlaa
namespace Go.Proofs.Ythbcnabeabcmlaa
open BF
def Fin (tu : Bool) (l : List Bound) (frm : Ref) (r : Reached) : Prop :=
 (∃ k pre ts rd now, IV tu l frm k pre [] r.by_ r.at_ ts rd now) ∧ ∀ e, e ∈ l → Closed (srcB tu) (dstB tu) Bound.Most (stO r.by_ r.at_) e
def AtB (at_ : List (Ref × Int)) (T : Nat) : Prop := ∀ x n, mget at_ x = some n → -(50000 * (T : Int)) ≤ n ∧ n ≤ 50000 * (T : Int)
theorem AtB.mono {at_ : List (Ref × Int)} {T T' : Nat} (h : AtB at_ T) (hle : T ≤ T') : AtB at_ T' := fun x n hx => by
 have := h x n hx; omega
section
variable {N : Nat} {l : List Bound} {frm : Ref} {tu : Bool}
theorem relax_inner (hM : ∀ b, b ∈ l → -50000 ≤ b.Most ∧ b.Most ≤ 50000) (hlen : l.length ≤ 200000) (hN : 1000000 ≤ N) {s51 : Int × List (Ref × Bool)} (hL : s51.2.length ≤ 400000)
    (hk : ∀ e, e ∈ l → dstB tu e ∈ s51.2.map (·.1)) {nodes : List Ref} (hn : ∀ e, e ∈ l → dstB tu e ∈ nodes) (hns : nodes.length ≤ 400000) {k T : Nat} (hT : T ≤ 100000000000) {by0 : List (Ref × Bound)} {at0 : List (Ref × Int)}
    (hI : ∃ ts rd now, IV tu l frm k [] l by0 at0 ts rd now) (hB : AtB at0 T) :
    ∃ o, iter (clocks_relax_L2 N l frm tu s51 ((k : Int), by0, at0)) N (false, 0, by0, at0) = some o ∧
      ((∃ by_ at_, o = .done (false, (l.length : Int), by_, at_) ∧ Fin tu l frm { at_ := at_, by_ := by_ }) ∨
       (∃ by_ at_, o = .done (true, (l.length : Int), by_, at_) ∧ k ≤ s51.2.length ∧ (∃ pre ts rd now, IV tu l frm k pre [] by_ at_ ts rd now ∧ ∀ e, e ∈ l → e ∈ pre) ∧ AtB at_ (T + l.length)) ∨
       (∃ c, o = .ret (.inl { loop_ := c }) ∧ BadLoop l c ∧ c.length ≤ nodes.length)) := by
  refine iter_ex (body := clocks_relax_L2 N l frm tu s51 ((k : Int), by0, at0)) l.length
    (fun i q => q.2.1 = (i : Int) ∧ AtB q.2.2.2 (T + i) ∧ (q.1 = true → k ≤ s51.2.length) ∧ ∃ pre ts rd now, IV tu l frm k pre (l.drop i) q.2.2.1 q.2.2.2 ts rd now ∧ (∀ e, e ∈ l.take i → e ∈ pre) ∧
      (q.1 = false → ∀ e, e ∈ pre → Closed (srcB tu) (dstB tu) Bound.Most (stO q.2.2.1 q.2.2.2) e)) _ ?_ l.length N 0 (false, 0, by0, at0) (by omega) ?_ (by omega)
  · rintro i ⟨ch, j, by_, at_⟩ hi ⟨hj, hAt, hch, pre, ts, rd, now, hInv, hpre, hcl⟩
    simp only at hj hAt hch hInv hcl
    subst hj
    unfold clocks_relax_L2
    simp only
    by_cases hlt : i < l.length
    · rw [lt_t hlt, cond_true, idx_nat hlt, Option.bind_some, ends_eq, Option.bind_some, W64_succ (by omega)]
      simp only
      have hd : l.drop i = l[i] :: l.drop (i + 1) := List.drop_eq_getElem_cons hlt
      rw [hd] at hInv
      have hmem : l[i] ∈ l := List.getElem_mem hlt
      have htake : ∀ e, e ∈ l.take (i + 1) → e ∈ l[i] :: pre := by
        intro e he
        rw [List.take_succ_eq_append_getElem hlt, List.mem_append, List.mem_singleton] at he
        rcases he with he | rfl
        · exact List.mem_cons_of_mem _ (hpre e he)
        · exact List.mem_cons_self ..
      have hcold : BF.hot (srcB tu) (dstB tu) Bound.Most (stO by_ at_) l[i] = false → ∃ pre' ts rd now, IV tu l frm k pre' (l.drop (i + 1)) by_ at_ ts rd now ∧ (∀ e, e ∈ l.take (i + 1) → e ∈ pre') ∧
          (ch = false → ∀ e, e ∈ pre' → Closed (srcB tu) (dstB tu) Bound.Most (stO by_ at_) e) := by
        intro hc
        refine ⟨l[i] :: pre, ts, rd, now, hInv.cold hc, htake, fun h0 e he => ?_⟩
        rcases List.mem_cons.1 he with rfl | he
        · exact closed_of_cold hc
        · exact hcl h0 e he
      cases hsrc : mget at_ (srcB tu l[i]) with
      | none =>
        left
        have e1 : mhas at_ (srcB tu l[i]) = false := by unfold mhas; rw [hsrc]; rfl
        rw [e1]
        refine ⟨_, rfl, ⟨rfl, hAt.mono (by omega), hch, hcold ?_⟩, hlt⟩
        unfold BF.hot
        rw [show (stO by_ at_).at_ (srcB tu l[i]) = none from hsrc]
      | some n =>
        have e1 : mhas at_ (srcB tu l[i]) = true := by unfold mhas; rw [hsrc]; rfl
        have e2 : mgetD at_ (srcB tu l[i]) 0 = n := by unfold mgetD; rw [hsrc]; rfl
        have hb := hM _ hmem
        have hnb := hAt _ _ hsrc
        have hw : W64 (n + l[i].Most) = n + l[i].Most := W64_id (by omega) (by omega)
        rw [e1, e2, hw]
        simp only [Bool.not_true, cond_false]
        cases hc : (mhas at_ (dstB tu l[i]) && decide (mgetD at_ (dstB tu l[i]) 0 ≤ n + l[i].Most)) with
        | true =>
          left
          rw [cond_true]
          refine ⟨_, rfl, ⟨rfl, hAt.mono (by omega), hch, hcold ?_⟩, hlt⟩
          unfold BF.hot
          rw [show (stO by_ at_).at_ (srcB tu l[i]) = some n from hsrc]
          simp only
          cases hdst : mget at_ (dstB tu l[i]) with
          | none => unfold mhas at hc; rw [hdst] at hc; simp at hc
          | some m =>
            rw [show (stO by_ at_).at_ (dstB tu l[i]) = some m from hdst]
            unfold mgetD at hc
            rw [hdst] at hc
            simp at hc
            simpa using hc.2
        | false =>
          rw [cond_false, Option.bind_some]
          have hhot : BF.hot (srcB tu) (dstB tu) Bound.Most (stO by_ at_) l[i] = true := by
            unfold BF.hot
            rw [show (stO by_ at_).at_ (srcB tu l[i]) = some n from hsrc]
            simp only
            cases hdst : mget at_ (dstB tu l[i]) with
            | none => rw [show (stO by_ at_).at_ (dstB tu l[i]) = none from hdst]
            | some m =>
              rw [show (stO by_ at_).at_ (dstB tu l[i]) = some m from hdst]
              unfold mgetD mhas at hc
              rw [hdst] at hc
              simp at hc
              simpa using hc
          have hnew := hInv.hot hhot
          rw [stO_put hsrc] at hnew
          by_cases hlate : k > s51.2.length
          · right
            have hdl : decide ((k : Int) > (s51.2.length : Int)) = true := by simpa using hlate
            rw [hdl, cond_true]
            obtain ⟨c, hc1, hc2, hc3⟩ := cycle_eq (N := N) hnew (keys := s51.2.map (·.1)) (nodes := nodes) hk hn (z := dstB tu l[i]) (by simp; omega) (by simp; omega) (by omega) (by simp; omega) (by omega)
            rw [List.length_map] at hc1
            rw [hc1]
            exact ⟨_, rfl, (fun _ h => by cases h), .inr (.inr ⟨c, rfl, hc2, hc3⟩)⟩
          · left
            have hdl : decide ((k : Int) > (s51.2.length : Int)) = false := by simpa using hlate
            rw [hdl, cond_false]
            refine ⟨_, rfl, ⟨rfl, ?_, fun _ => by omega, l[i] :: pre, _, _, _, hnew, htake, fun h => by cases h⟩, hlt⟩
            intro x m hx
            simp only [mget_mput] at hx
            by_cases hxd : x = dstB tu l[i]
            · simp only [hxd, if_true, Option.some.injEq] at hx
              omega
            · simp only [hxd, if_false] at hx
              have := hAt x m hx
              omega
    · have : i = l.length := by omega
      subst this
      right
      rw [lt_f, cond_false]
      have hd : l.drop l.length = [] := by simp
      rw [hd] at hInv
      have hall : ∀ e, e ∈ l → e ∈ pre := fun e he => hpre e (by simpa using he)
      cases ch with
      | false => exact ⟨_, rfl, (fun _ h => by cases h), .inl ⟨by_, at_, rfl, ⟨k, pre, ts, rd, now, hInv⟩, fun e he => hcl rfl e (hall e he)⟩⟩
      | true => exact ⟨_, rfl, (fun _ h => by cases h), .inr (.inl ⟨by_, at_, rfl, hch rfl, ⟨pre, ts, rd, now, hInv, hall⟩, hAt⟩)⟩
  · obtain ⟨ts, rd, now, h⟩ := hI
    exact ⟨rfl, hB, (fun h => by cases h), [], ts, rd, now, h, (fun e he => by simp at he), fun _ e he => by cases he⟩
theorem lines_eq (hlen : l.length < N) (hs : l.length < 1000000000) (x1 : Ref) : ∃ m, iter (clocks_relax_L0 N l x1 tu) N (0, ([] : List (Ref × Bool))) = some (.done ((l.length : Int), m)) ∧ m.length ≤ 2 * l.length ∧ ∀ e, e ∈ l → e.From ∈ m.map (·.1) ∧ e.To ∈ m.map (·.1) := by
 obtain ⟨o, ho, m, rfl, h1, h2⟩ := iter_ex (body := clocks_relax_L0 N l x1 tu) l.length
  (fun i q => q.1 = (i : Int) ∧ q.2.length ≤ 2 * i ∧ ∀ e, e ∈ l.take i → (∃ v, mget q.2 e.From = some v) ∧ ∃ v, mget q.2 e.To = some v)
  (fun o => ∃ m, o = .done ((l.length : Int), m) ∧ m.length ≤ 2 * l.length ∧ ∀ e, e ∈ l → (∃ v, mget m e.From = some v) ∧ ∃ v, mget m e.To = some v) (by
  rintro i ⟨j, m⟩ hi ⟨hj, hml, hm⟩
  simp only at hj hml hm
  subst hj
  unfold clocks_relax_L0
  simp only
  by_cases hlt : i < l.length
  ·left
   rw [lt_t hlt, cond_true, idx_nat hlt, Option.bind_some, Option.bind_some, W64_succ (by omega)]
   refine ⟨_, rfl, ⟨rfl, ?_, ?_⟩, hlt⟩
   ·have h1 := mput_len (mput m l[i].From true) l[i].To true
    have h2 := mput_len m l[i].From true
    simp only; omega
   ·intro e he
    have hput : ∀ x, (∃ v, mget m x = some v) ∨ x = l[i].From ∨ x = l[i].To → ∃ v, mget (mput (mput m l[i].From true) l[i].To true) x = some v := by
     intro x hx
     rw [mget_mput, mget_mput]
     by_cases h1 : x = l[i].To
     ·exact ⟨true, by simp [h1]⟩
     ·by_cases h2 : x = l[i].From
      ·exact ⟨true, by simp [h2]⟩
      ·rcases hx with ⟨v, hv⟩ | hx | hx
       ·exact ⟨v, by simp [h1, h2, hv]⟩
       ·exact absurd hx h2
       ·exact absurd hx h1
    rw [List.take_succ_eq_append_getElem hlt, List.mem_append, List.mem_singleton] at he
    rcases he with he | rfl
    ·exact ⟨hput _ (.inl (hm e he).1), hput _ (.inl (hm e he).2)⟩
    ·exact ⟨hput _ (.inr (.inl rfl)), hput _ (.inr (.inr rfl))⟩
  ·have : i = l.length := by omega
   subst this
   right
   rw [lt_f, cond_false]
   exact ⟨_, rfl, (fun _ h => by cases h), m, rfl, hml, fun e he => hm e (by simpa using he)⟩) l.length N 0 (0, []) (by omega) ⟨rfl, by simp, fun e he => by simp at he⟩ hlen
 refine ⟨m, ho, h1, fun e he => ?_⟩
 obtain ⟨⟨v, hv⟩, ⟨v', hv'⟩⟩ := h2 e he
 exact ⟨mget_mem hv, mget_mem hv'⟩
theorem relax_eq (hM : ∀ b, b ∈ l → -50000 ≤ b.Most ∧ b.Most ≤ 50000) (hlen : l.length ≤ 200000) (hN : 1000000 ≤ N) {nodes : List Ref} (hn : ∀ e, e ∈ l → e.From ∈ nodes ∧ e.To ∈ nodes) (hns : nodes.length ≤ 400000) (frm : Ref) (tu : Bool) :
  (∃ c, clocks_relax N l frm tu = some (.inl { loop_ := c }) ∧ BadLoop l c ∧ c.length ≤ nodes.length) ∨ (∃ r, clocks_relax N l frm tu = some (.inr r) ∧ Fin tu l frm r) := by
 obtain ⟨m, hm1, hm2, hm3⟩ := lines_eq (N := N) (l := l) (tu := tu) (by omega) (by omega) frm
 have hk : ∀ e, e ∈ l → dstB tu e ∈ m.map (·.1) := fun e he => by cases tu; exact (hm3 e he).2; exact (hm3 e he).1
 have hn' : ∀ e, e ∈ l → dstB tu e ∈ nodes := fun e he => by cases tu; exact (hn e he).2; exact (hn e he).1
 unfold clocks_relax
 rw [hm1]
 simp only [Option.bind_some, Flow.k]
 have hLm : m.length ≤ 400000 := by omega
 obtain ⟨o, ho, hR⟩ := iter_ex (body := clocks_relax_L1 N l frm tu ((l.length : Int), m)) (m.length + 1)
  (fun k q => q.1 = (k : Int) ∧ (∃ ts rd now, IV tu l frm k [] l q.2.1 q.2.2 ts rd now) ∧ AtB q.2.2 (k * l.length))
  (fun o => (∃ c, o = .ret (.inl { loop_ := c }) ∧ BadLoop l c ∧ c.length ≤ nodes.length) ∨ (∃ k by_ at_, o = .done (k, by_, at_) ∧ Fin tu l frm { at_ := at_, by_ := by_ })) (by
  rintro k ⟨j, by0, at0⟩ hkk ⟨hj, hI, hB⟩
  simp only at hj hI hB
  subst hj
  have hT : k * l.length ≤ 100000000000 := by
   have := Nat.mul_le_mul (show k ≤ 400001 by omega) hlen
   omega
  obtain ⟨o, ho, hcase⟩ := relax_inner (N := N) hM hlen hN (s51 := ((l.length : Int), m)) hLm hk hn' hns hT hI hB
  unfold clocks_relax_L1
  simp only at ho ⊢
  rw [ho]
  rcases hcase with ⟨by_, at_, rfl, hfin⟩ | ⟨by_, at_, rfl, hkl, ⟨pre, ts, rd, now, hInv, hall⟩, hB'⟩ | ⟨c, rfl, hb, hcl⟩
  ·exact .inr ⟨_, rfl, (fun _ h => by cases h), .inr ⟨_, by_, at_, rfl, hfin⟩⟩
  ·left
   simp only at hkl
   refine ⟨((k + 1 : Nat), by_, at_), ?_, ⟨rfl, ⟨ts, rd, now, hInv.next hall⟩, ?_⟩, by omega⟩
   ·simp only [Option.bind_some, Flow.k, Bool.not_true, cond_false]
    rw [W64_succ (by omega)]
   ·rw [Nat.succ_mul]; exact hB'
  ·exact .inr ⟨_, rfl, (fun _ h => by cases h), .inl ⟨c, rfl, hb, hcl⟩⟩) (m.length + 1) N 0 (0, [], mput [] frm 0) (by omega) (by
   refine ⟨rfl, ⟨fun _ => 0, fun _ => 0, 0, ?_⟩, ?_⟩
   ·have := Inv.init (src := srcB tu) (dst := dstB tu) (w := Bound.Most) frm l
    have e : BF.init frm = stO [] (mput ([] : List (Ref × Int)) frm 0) := by
     unfold BF.init stO
     simp only [mput, mget]
    rw [e] at this
    exact this
   ·intro x n hx
    simp only [mput, mget] at hx
    split at hx
    ·cases hx; omega
    ·cases hx) (by omega)
 rw [ho]
 rcases hR with ⟨c, rfl, hb, hcl⟩ | ⟨k, by_, at_, rfl, hfin⟩
 ·exact .inl ⟨c, rfl, hb, hcl⟩
 ·exact .inr ⟨_, rfl, hfin⟩
end
end Go.Proofs.Ythbcnabeabcmlaa
namespace Go.Proofs.Ythbcnabeabcmlaa
open Go.Proofs
section
variable {P : Program} {ro : Option Nat} {n : Nat} {R : Array Oper} {Q : Exit → Fr → World → Prop} {w w0 : World} {F0 F : Mem} {L : Own} {f : Fr} {i : Nat} {rest : List Nat} {dst : Option Nat} {ty : TypeId} {g : Option (Nat × Bool)} {ρ : Operand → Value}
theorem run_defer0 {x : Operand} {q : FuncId} {cap : Array Value} {ats : Array TypeId} (hx : ρ x = .func (.func q) #[] cap) :
  (execB ρ (.defer { callee := .value x, args := #[], argTypes := ats }) ty).run P w = .ok (.defer { target := .fn (.func q) cap, args := #[] }) w := by
 have e : execB ρ (.defer { callee := .value x, args := #[], argTypes := ats }) ty = (do pure (Next.defer (← Deferred.ofValue (ρ x) (Array.map ρ #[])))) := rfl
 rw [e, hx]
 simp [Deferred.ofValue]
theorem RWP.defer0 {x : Operand} {q : FuncId} {cap : Array Value} {ats : Array TypeId} (ho : opq R i = some (none, .defer { callee := .value x, args := #[], argTypes := ats }, ty, g)) (hg : gd R f g = true) (hx : fev f x = .func (.func q) #[] cap)
  (k : RWP P none n R Q rest ⟨f.v, { target := .fn (.func q) cap, args := #[] } :: f.d⟩ w) : RWP P none n R Q (i :: rest) f w := by
 intro hok a ha
 obtain ⟨o, hR, hd, hop, hty, hgd⟩ := opq_spec ho
 rw [wpOpsIn]
 simp only [hR]
 rw [ha.wanted R o, hgd, hg]
 simp only [if_true]
 refine ⟨about_wide, ?_⟩
 show o.uponIn (FW none) 0 P a _ _ ((execOp a.eval o).run P w)
 rw [execOp_eq, ha.evalF, hop, hty, run_defer0 hx]
 simp only [Oper.uponIn]
 rw [hd]
 exact k hok _ ⟨ha.size, ha.at_, by simp [Act.put, ha.defers]⟩
end
def slv : Option (Option Addr × Nat × Nat) → Value
 | none => .slice none 0 0
 | some (a, n, c) => .slice a n c
abbrev boxv (v : Value) : Obj := .cells #[v] 57 (0, 0)
section
variable {wb w : World} {Fb F : Mem} {Lf : Own}
theorem run_eqNil {ρ : Operand → Value} {x : Operand} {t t' : TypeId} {ty : TypeId} {u : Value} {b : Bool} (hx : ρ x = u) (hy : ρ (.const .nilIface) = .nilIface) (hu : (match Try.prog.underlying t with | some (.interface _) => true | _ => false) = true)
  (hb : (u = .nilIface ∧ b = true) ∨ (∃ q v, u = .iface q v) ∧ b = false) :
  (execB ρ (.binOp .eql t x (.const .nilIface) t') ty).run Try.prog w = .ok (.value (.bool b)) w := by
 have e : execB ρ (.binOp .eql t x (.const .nilIface) t') ty = (do pure (Next.value (← (do eqGuard .eql t x (.const .nilIface) (ρ x) (ρ (.const .nilIface)); binOp .eql t (ρ x) (ρ (.const .nilIface)))))) := rfl
 rw [e, hx, hy]
 cases hd : Try.prog.underlying t with
 | none => rw [hd] at hu; cases hu
 | some d =>
  rw [hd] at hu
  cases d <;> simp at hu
  have hg : (eqGuard .eql t x (.const .nilIface) u .nilIface).run Try.prog w = .ok () w := by
   rcases hb with ⟨rfl, _⟩ | ⟨⟨q, v, rfl⟩, _⟩ <;> simp [eqGuard]
  have he0 : ∀ d, (Op.equalIn (d + 1) t u .nilIface).run Try.prog w = .ok b w := by
   intro d
   rcases hb with ⟨rfl, rfl⟩ | ⟨⟨q, v, rfl⟩, rfl⟩ <;> simp [Op.equalIn, run_underlying hd, Result.andThen]
  have he := he0 9999
  have e2 : binOp .eql t u .nilIface = (do pure (Value.bool (← Op.equalIn (9999 + 1) t u .nilIface))) := by
   rcases hb with ⟨rfl, _⟩ | ⟨⟨q, v, rfl⟩, _⟩ <;> rfl
  simp only [Sem.run_bind, hg, e2, Sem.run_pure, Result.andThen_ok, he]
theorem run_typeAssert {ρ : Operand → Value} {x : Operand} {t q : TypeId} {ty : TypeId} {v : Value} (hx : ρ x = .iface q v) (hu : notIface Try.prog q = true) :
  (execB ρ (.typeAssert x t q true) ty).run Try.prog w = .ok (.value (.tuple #[v, .bool true])) w := by
 have e : execB ρ (.typeAssert x t q true) ty = (do pure (Next.value (← Instr.typeAssert (ρ x) t q true))) := rfl
 rw [e, hx]
 unfold notIface at hu
 split at hu
 ·cases hu
 ·rename_i d h1 h2
  cases d <;> first | exact (h1 _ rfl).elim | simp [Instr.typeAssert, run_underlying h2, Result.andThen]
 ·cases hu
theorem wpOpsS_recover {P : Program} {ops : Array Oper} {Q : Exit → Act → List Frame → World → Prop} {a : Act} {cs : List Frame} {w : World} {d : Nat} {ty : TypeId}
  (ho : opq ops 0 = some (some d, .call { callee := .builtin .recover, args := #[], argTypes := #[] }, ty, none)) (hl : ops.size = 1)
  (h : match recoverD cs with | some (v, cs') => Q .normal (a.put (some d) v) cs' w | none => Q .normal (a.put (some d) .nilIface) cs w) : wpOpsS P ops Q (List.range ops.size) a cs w := by
 rw [hl]
 obtain ⟨o, hR, hd, hop, hty, hgd⟩ := opq_spec ho
 show wpOpsS P ops Q [0] a cs w
 simp only [wpOpsS, hR]
 have hw : Region.wanted o (yielded ops a.tmps) = true := by unfold Region.wanted; rw [hgd]
 rw [if_pos hw]
 have hx : (execOp a.eval o).run P w = .ok .recover w := by rw [execOp_eq, hop]; rfl
 rw [hx]
 simp only
 cases hr : recoverD cs with
 | none => rw [hr] at h; simp only at h ⊢; rw [hd]; exact h
 | some p => obtain ⟨v, cs'⟩ := p; rw [hr] at h; simp only at h ⊢; rw [hd]; exact h
theorem restS {P : Program} {n : Nat} {c : Code} {f : Fr} {w : World} {a : Act} {cs : List Frame} {Q' : Exit → Fr → World → Prop} {QS : Exit → Act → List Frame → World → Prop} (h : CWP P none n c Q' f w) (hf : Fits n f a)
  (hq : ∀ e a' w', lq n Q' e a' w' → QS e a' cs w') : c.wpS P QS a cs w := wpS_of_wp (wp_mono (wpIn_wide.1 (h a hf)) hq)
theorem fits0 {n : Nat} {args : List Value} (hsz : decide (args.length ≤ n) = true) : Fits n (f0 args) { tmps := args.toArray ++ Array.replicate (n - args.toArray.size) undef, defers := [] } := by
 have hsz' : args.length ≤ n := by simpa using hsz
 refine ⟨?_, ?_, rfl⟩
 ·simp; omega
 ·intro i
  simp only [f0]
  rw [Array.getD_eq_getD_getElem?]
  by_cases hi : i < args.length
  ·simp [Array.getElem?_append, hi]
  ·rw [Array.getElem?_append_right (by simp; omega)]
   rw [List.getD_eq_getElem?_getD, List.getElem?_eq_none (by omega)]
   simp only [List.getElem?_toArray, Array.getElem?_replicate]
   split <;> rfl
theorem code134 : ∃ id ops, cs1 (bodyOf Try.f134) = .region id ops false ∧ bodyOf Try.f134 = .seq (cs1 (bodyOf Try.f134)) (cs2 (bodyOf Try.f134)) := ⟨_, _, rfl, rfl⟩
theorem wpS_code134 {Q : Exit → Act → List Frame → World → Prop} {a : Act} {cs : List Frame} {w : World} (h : wpOpsS Try.prog (cops (cs1 (bodyOf Try.f134))) (Exit.thenS ((cs2 (bodyOf Try.f134)).wpS Try.prog Q) Q) (List.range (cops (cs1 (bodyOf Try.f134))).size) a cs w) : (bodyOf Try.f134).wpS Try.prog Q a cs w := by
 obtain ⟨id, ops, h1, h2⟩ := code134
 rw [h2]
 refine wpS_seq ?_
 rw [h1] at h ⊢
 exact wpS_region h
theorem c_closing1_ret {b : Nat} : CallsD Try.prog 134 #[.pointer (some ⟨b, 0, none⟩)] .returning w fun e u' w' => u' = .returning ∧ e = .returned (.tuple #[]) ∧ w' = w := by
 refine callsD_of_wpS (fn := Try.f134) (c := bodyOf Try.f134) Try.func134 (by kernel_rfl) fun c0 cs hu => wpS_code134 (wpOpsS_recover (d := 4) (ty := 20) (by kernel_rfl) (by kernel_rfl) ?_)
 have hr : recoverD (c0 :: cs) = none := by simp [recoverD, hu]
 rw [hr]
 simp only
 refine restS (n := 12) (f := upd (f0 [.pointer (some ⟨b, 0, none⟩)]) 4 .nilIface) (Q' := fun e f w' => e = .normal ∧ w' = w ∧ f.d = []) ?_ ((fits0 (n := 12) (args := [.pointer (some ⟨b, 0, none⟩)]) rfl).put (dst := some 4) (by decide) .nilIface) ?_
 ·refine CWP.block (by kernel_rfl) ?_
  refine CWP.seq (by kernel_rfl) ?_
  refine CWP.region (l := [0]) (by kernel_rfl) (by kernel_rfl) (by kernel_rfl) ?_
  refine RWP.val (dst := some 6) (ty := 4) (g := none) (by kernel_rfl) rfl (run_eqNil (t := 20) (t' := 20) (x := .tmp 4) (u := .nilIface) (b := true) rfl rfl (by kernel_rfl) (.inl ⟨rfl, rfl⟩)) ?_
  refine RWP.nil ?_
  refine thenQ_nrm ?_
  refine CWP.cond1 (t := true) (by kernel_rfl) rfl rfl ?_
  refine CWP.region (l := [0]) (by kernel_rfl) (by kernel_rfl) (by kernel_rfl) ?_
  refine RWP.val (dst := some 1) (ty := 20) (g := none) (by kernel_rfl) rfl (run_assign (x := .tmp 4) (v := .nilIface) rfl) ?_
  refine RWP.nil ?_
  refine blockQ_nrm ?_
  exact ⟨rfl, rfl, rfl⟩
 ·rintro e a' w' ⟨f, hf, rfl, rfl, hd⟩
  refine ⟨hf.defers.trans hd, .returning, by rw [← hu], .tuple #[], ?_, rfl, rfl, rfl⟩
  rw [hf.results Try.f134]
  exact res_of (l := []) (by kernel_rfl) (vs := []) trivial
theorem c_closing1_pan {b : Nat} {a : Option Addr} {n c : Nat} (hs : HS wb Fb w F ((some b, boxv (.slice none 0 0)) :: Lf)) :
  CallsD Try.prog 134 #[.pointer (some ⟨b, 0, none⟩)] (.panicking [{ v := .iface 152 (.agg #[.slice a n c]), recovered := false }]) w fun e u' w' =>
   settle u' = .returning ∧ e = .returned (.tuple #[]) ∧ HS wb Fb w' F ((some b, boxv (.slice a n c)) :: Lf) := by
 refine callsD_of_wpS (fn := Try.f134) (c := bodyOf Try.f134) Try.func134 (by kernel_rfl) fun c0 cs hu => wpS_code134 (wpOpsS_recover (d := 4) (ty := 20) (by kernel_rfl) (by kernel_rfl) ?_)
 have hr : recoverD (c0 :: cs) = some (.iface 152 (.agg #[.slice a n c]), { c0 with mode := .panicking [{ v := .iface 152 (.agg #[.slice a n c]), recovered := true }] } :: cs) := by simp [recoverD, hu]
 rw [hr]
 simp only
 refine restS (n := 12) (f := upd (f0 [.pointer (some ⟨b, 0, none⟩)]) 4 (.iface 152 (.agg #[.slice a n c]))) (Q' := fun e f w' => e = .normal ∧ f.d = [] ∧ HS wb Fb w' F ((some b, boxv (.slice a n c)) :: Lf)) ?_ ((fits0 (n := 12) (args := [.pointer (some ⟨b, 0, none⟩)]) rfl).put (dst := some 4) (by decide) _) ?_
 ·refine CWP.block (by kernel_rfl) ?_
  refine CWP.seq (by kernel_rfl) ?_
  refine CWP.region (l := [0]) (by kernel_rfl) (by kernel_rfl) (by kernel_rfl) ?_
  refine RWP.val (dst := some 6) (ty := 4) (g := none) (by kernel_rfl) rfl (run_eqNil (t := 20) (t' := 20) (x := .tmp 4) (u := .iface 152 (.agg #[.slice a n c])) (b := false) rfl rfl (by kernel_rfl) (.inr ⟨⟨_, _, rfl⟩, rfl⟩)) ?_
  refine RWP.nil ?_
  refine thenQ_nrm ?_
  refine CWP.cond0 (t := false) (by kernel_rfl) rfl rfl ?_
  refine CWP.seq (by kernel_rfl) ?_
  refine CWP.region (l := [0, 1, 2]) (by kernel_rfl) (by kernel_rfl) (by kernel_rfl) ?_
  refine RWP.val (dst := some 7) (ty := 0) (g := none) (by kernel_rfl) rfl (run_typeAssert (x := .tmp 4) (t := 20) (q := 152) (v := .agg #[.slice a n c]) rfl (by kernel_rfl)) ?_
  refine RWP.val (dst := some 8) (ty := 4) (g := none) (by kernel_rfl) rfl (run_extract (x := .tmp 7) (vs := #[.agg #[.slice a n c], .bool true]) (i := 1) (v := .bool true) rfl rfl) ?_
  refine RWP.val (dst := some 9) (ty := 152) (g := none) (by kernel_rfl) rfl (run_extract (x := .tmp 7) (vs := #[.agg #[.slice a n c], .bool true]) (i := 0) (v := .agg #[.slice a n c]) rfl rfl) ?_
  refine RWP.nil ?_
  refine thenQ_nrm ?_
  refine CWP.cond1 (t := true) (by kernel_rfl) rfl rfl ?_
  refine CWP.seq (by kernel_rfl) ?_
  refine CWP.region (l := [0, 1]) (by kernel_rfl) (by kernel_rfl) (by kernel_rfl) ?_
  refine RWP.alloc (dst := some 2) (ty := 0) (g := none) (by kernel_rfl) rfl (t := 152) (z := .agg #[.slice none 0 0]) (by kernel_rfl) (C := #[.slice none 0 0]) rfl hs (fun b2 w2 hs2 => ?_)
  refine RWP.store (ty := 0) (g := none) (by kernel_rfl) rfl (x := .tmp 2) (y := .tmp 9) (t := 152) (gg := true) (s := 1) (v := .agg #[.slice a n c]) (b := b2) (o := 0) (C := #[.slice none 0 0]) rfl rfl (by kernel_rfl) hs2 (k := 0) rfl rfl rfl rfl (C' := #[.slice a n c]) rfl (fun w3 hs3 => ?_)
  refine RWP.nil ?_
  refine thenQ_nrm ?_
  refine CWP.region (l := [0, 1, 2]) (by kernel_rfl) (by kernel_rfl) (by kernel_rfl) ?_
  refine RWP.val (dst := some 10) (ty := 0) (g := none) (by kernel_rfl) rfl (run_fieldAddr (s := 152) (x := .tmp 2) (i := 0) (o := 0) (k := 1) (b := b2) (o0 := 0) rfl (by kernel_rfl) rfl (o1 := 0) rfl) ?_
  refine RWP.val (dst := some 11) (ty := 57) (g := none) (by kernel_rfl) rfl (run_load' (t := 57) (x := .tmp 10) (b := b2) (o := 0) (g := false) (s := 1) (C := #[.slice a n c]) (v := .slice a n c) rfl (by kernel_rfl) (hs3.ownAt (k := 0) rfl) rfl rfl rfl) ?_
  refine RWP.store (ty := 0) (g := none) (by kernel_rfl) rfl (x := .tmp 0) (y := .tmp 11) (t := 57) (gg := false) (s := 1) (v := .slice a n c) (b := b) (o := 0) (C := #[.slice none 0 0]) rfl rfl (by kernel_rfl) hs3 (k := 1) rfl rfl rfl rfl (C' := #[.slice a n c]) rfl (fun w4 hs4 => ?_)
  refine RWP.nil ?_
  refine blockQ_nrm ?_
  exact ⟨rfl, rfl, hs4.drop 0⟩
 ·rintro e a' w' ⟨f, hf, rfl, hd, hs'⟩
  refine ⟨hf.defers.trans hd, _, rfl, .tuple #[], ?_, rfl, rfl, hs'⟩
  rw [hf.results Try.f134]
  exact res_of (l := []) (by kernel_rfl) (vs := []) trivial
theorem inv134 (b : Nat) (w' : World) : (invoke (.fn (.func 134) #[.pointer (some ⟨b, 0, none⟩)]) #[]).run Try.prog w' = .ok (.enter 134 #[.pointer (some ⟨b, 0, none⟩)]) w' := by
 have co : CallOk Try.prog 134 := fun _ _ => by kernel_rfl
 simp only [invoke]; rw [co]; rfl
theorem co_clocks_closing : CallOk Try.prog 115 := fun _ _ => by kernel_rfl
theorem c_clocks_closing (hs : HS wb Fb w F Lf) {g : FuncId} {cap : List Value} (hok : CallOk Try.prog g) (K : Option (Option Addr × Nat × Nat) → Mem → Own → Prop)
  (hrun : ∀ w1 b, HS wb Fb w1 F ((some b, boxv (.slice none 0 0)) :: Lf) → Calls Try.prog g cap.toArray w1 (fun e w2 =>
   (∃ v F2 Lf2, e = .returned v ∧ HS wb Fb w2 F2 ((some b, boxv (.slice none 0 0)) :: Lf2) ∧ Mem.le F F2 ∧ K none F2 Lf2) ∨
   (∃ a n c F2 Lf2, e = .panicked [{ v := .iface 152 (.agg #[.slice a n c]), recovered := false }] ∧ HS wb Fb w2 F2 ((some b, boxv (.slice none 0 0)) :: Lf2) ∧ Mem.le F F2 ∧ K (some (a, n, c)) F2 Lf2))) :
  Calls Try.prog 115 ([.func (.func g) #[] cap.toArray] : List Value).toArray w (fun e w' => ∃ o F' Lf', e = .returned (slv o) ∧ HS wb Fb w' F' Lf' ∧ Mem.le F F' ∧ K o F' Lf') := by
 refine calls_of_wp_defers (fn := Try.f115) (c := bodyOf Try.f115) Try.func115 (by kernel_rfl) ?_
 have key : CWP Try.prog none 6 (bodyOf Try.f115) (fun e f w' =>
   (e = .ret ∧ ∃ b F' Lf', f 2 = .pointer (some ⟨b, 0, none⟩) ∧ f.d = [{ target := .fn (.func 134) #[.pointer (some ⟨b, 0, none⟩)], args := #[] }] ∧ HS wb Fb w' F' ((some b, boxv (.slice none 0 0)) :: Lf') ∧ Mem.le F F' ∧ K none F' Lf') ∨
   (∃ a n c b F' Lf', e = .panic [{ v := .iface 152 (.agg #[.slice a n c]), recovered := false }] ∧ f 2 = .pointer (some ⟨b, 0, none⟩) ∧ f.d = [{ target := .fn (.func 134) #[.pointer (some ⟨b, 0, none⟩)], args := #[] }] ∧ HS wb Fb w' F' ((some b, boxv (.slice none 0 0)) :: Lf') ∧ Mem.le F F' ∧ K (some (a, n, c)) F' Lf')) (f0 [.func (.func g) #[] cap.toArray]) w := by
  refine CWP.seq (by kernel_rfl) ?_
  refine CWP.region (l := [0]) (by kernel_rfl) (by kernel_rfl) (by kernel_rfl) ?_
  refine RWP.alloc (dst := some 2) (ty := 0) (g := none) (by kernel_rfl) rfl (t := 57) (z := .slice none 0 0) (by kernel_rfl) (C := #[.slice none 0 0]) rfl hs (fun b w2 hs2 => ?_)
  refine RWP.nil ?_
  refine thenQ_nrm ?_
  refine CWP.seq (by kernel_rfl) ?_
  refine CWP.region (l := [0, 1]) (by kernel_rfl) (by kernel_rfl) (by kernel_rfl) ?_
  refine RWP.val (dst := some 3) (ty := 1) (g := none) (by kernel_rfl) rfl (run_makeFunc (fn := .func 134) (first := #[]) (cap := #[.tmp 2]) (fl := []) (cl := [.pointer (some ⟨b, 0, none⟩)]) rfl rfl) ?_
  refine RWP.defer0 (ty := 0) (g := none) (x := .tmp 3) (q := 134) (cap := #[.pointer (some ⟨b, 0, none⟩)]) (ats := #[]) (by kernel_rfl) rfl rfl ?_
  refine RWP.nil ?_
  refine thenQ_nrm ?_
  refine CWP.seq (by kernel_rfl) ?_
  refine CWP.region (l := [0, 1]) (by kernel_rfl) (by kernel_rfl) (by kernel_rfl) ?_
  refine RWP.val (dst := some 4) (ty := 1) (g := none) (by kernel_rfl) rfl (run_move (x := .tmp 0) (v := .func (.func g) #[] cap.toArray) rfl) ?_
  refine RWP.enter (dst := some 5) (ty := 0) (g := none) (by kernel_rfl) rfl (run_call (f := .tmp 4) (aos := #[]) (ats := #[]) (g := g) (first := #[]) (cap := cap.toArray) (args := cap) rfl hok (by simp)) (hrun _ b hs2) ?_
  rintro e w3 (⟨v, F2, Lf2, rfl, hs3, hle, hK⟩ | ⟨a, n, c, F2, Lf2, rfl, hs3, hle, hK⟩)
  ·refine RWP.nil ?_
   refine thenQ_nrm ?_
   refine CWP.seq (by kernel_rfl) ?_
   refine CWP.region (l := [0]) (by kernel_rfl) (by kernel_rfl) (by kernel_rfl) ?_
   refine RWP.store (ty := 0) (g := none) (by kernel_rfl) rfl (x := .tmp 2) (y := .const (.slice none 0 0)) (t := 57) (gg := false) (s := 1) (v := .slice none 0 0) (b := b) (o := 0) (C := #[.slice none 0 0]) rfl rfl (by kernel_rfl) hs3 (k := 0) rfl rfl rfl rfl (C' := #[.slice none 0 0]) rfl (fun w4 hs4 => ?_)
   refine RWP.nil ?_
   refine thenQ_nrm ?_
   refine CWP.ret (by kernel_rfl) ?_
   exact .inl ⟨rfl, b, F2, Lf2, rfl, rfl, hs4, hle, hK⟩
  ·exact .inr ⟨a, n, c, b, F2, Lf2, rfl, rfl, rfl, hs3, hle, hK⟩
 refine wp_mono (wpIn_wide.1 (key _ (fits0 (n := 6) (args := [.func (.func g) #[] cap.toArray]) rfl))) ?_
 have hres : ∀ {f : Fr} {b : Nat} {v : Value} {w' : World} {F' : Mem} {L' : Own}, f 2 = .pointer (some ⟨b, 0, none⟩) → HS wb Fb w' F' ((some b, boxv v) :: L') → v.cells = #[v] → (resultsF Try.f115.results f).run Try.prog w' = .ok v w' := by
  intro f b v w' F' L' hf hs' hv
  exact res_of (l := [.cell 2 57]) (by kernel_rfl) (vs := [v]) ⟨b, 0, hf, run_loadVar' (t := 57) (g := false) (s := 1) (by kernel_rfl) (hs'.ownAt (k := 0) rfl) rfl (by decide), trivial⟩
 rintro e a w' ⟨f, hf, (⟨rfl, b, F', Lf', h2, hd, hs', hle, hK⟩ | ⟨a0, n, c, b, F', Lf', rfl, h2, hd, hs', hle, hK⟩)⟩
 ·show Leaves _ _ _ _ _ _ _
  rw [hf.defers, hd]
  refine ⟨by simp, _, _, 134, _, rfl, inv134 b w', ?_⟩
  intro c0 cs hc0
  obtain ⟨e, u', w2, fr, hR, hrest⟩ := c_closing1_ret (w := w') (b := b) c0 cs hc0
  refine ⟨e, u', w2, fr, ?_, hrest⟩
  obtain ⟨rfl, rfl, rfl⟩ := hR
  show Leaves _ _ _ _ _ _ _
  refine ⟨.slice none 0 0, by rw [hf.results Try.f115]; exact hres h2 hs' rfl, none, F', Lf', rfl, hs'.drop 0, hle, hK⟩
 ·show Leaves _ _ _ _ _ _ _
  rw [hf.defers, hd]
  refine ⟨by simp, _, _, 134, _, rfl, inv134 b w', ?_⟩
  intro c0 cs hc0
  obtain ⟨e, u', w2, fr, hR, hrest⟩ := c_closing1_pan (w := w') (b := b) (a := a0) (n := n) (c := c) hs' c0 cs hc0
  refine ⟨e, u', w2, fr, ?_, hrest⟩
  obtain ⟨hu, rfl, hs2⟩ := hR
  show Leaves _ _ _ _ _ _ _
  rw [hu]
  refine ⟨.slice a0 n c, by rw [hf.results Try.f115]; exact hres h2 hs2 rfl, some (a0, n, c), F', Lf', rfl, hs2.drop 0, hle, hK⟩
end
end Go.Proofs.Ythbcnabeabcmlaa
namespace Go.Proofs.Ythbcnabeabcmlaa
open Go.Proofs
def clocks_bounds (N : Nat) (x0 : System) : Option System :=
 some x0
theorem co_clocks_bounds : CallOk Try.prog 76 := fun _ _ => by kernel_rfl
set_option maxHeartbeats 4000000 in
set_option maxRecDepth 100000 in
theorem c_clocks_bounds (N : Nat) (w0 : World) (F0 : Mem) (hF : ∀ b o, F0 b = some o → w0.heap[b]? = some o) (x0 : System) (a0_0 : Option Addr) (n0_0 : Nat) (hb0_0 : LC x0.Tracks.length n0_0) (hs0_0 : SlA tTrack F0 a0_0 x0.Tracks) (a0_1 : Option Addr) (n0_1 : Nat) (hb0_1 : LC x0.Ties.length n0_1) (hs0_1 : SlA tTie F0 a0_1 x0.Ties) (r : System) (h : clocks_bounds N x0 = some r) :
  Calls Try.prog 76 ([(.agg (kSystem x0 a0_0 n0_0 a0_1 n0_1))] : List Value).toArray w0 (FRet w0 F0 fun F' v => ∃ (aq0_0_0 : Option Addr) (nq0_0_0 : Nat) (aq0_0_1 : Option Addr) (nq0_0_1 : Nat) (bq0_0 : Nat), v = (.func (.func 120) #[] #[(.pointer (some ⟨bq0_0, 0, none⟩))]) ∧ LC r.Tracks.length nq0_0_0 ∧ SlA tTrack F' aq0_0_0 r.Tracks ∧ LC r.Ties.length nq0_0_1 ∧ SlA tTie F' aq0_0_1 r.Ties ∧ F' bq0_0 = some (oc (kSystem r aq0_0_0 nq0_0_0 aq0_0_1 nq0_0_1) 25)) := by
 have hs0 := HS.start hF
 refine calls_of (n := 4) (c := bodyOf Try.f76) Try.func76 (by kernel_rfl) (by kernel_rfl) (by kernel_rfl) ?_
 refine Sq (Rg [0, 1] ?_)
 refine Bx 1 0 0 25 (kSystem x0 a0_0 n0_0 a0_1 n0_1) hs0 (fun b1 w2 (hs3 : HS w0 F0 w2 F0 [(sb b1 (kSystem x0 a0_0 n0_0 a0_1 n0_1) 25)]) => ?_)
 refine V 2 105 (mc .nilFunc .nilFunc) ?_
 refine Nss (Rg [0, 1] ?_)
 refine V 3 104 (run_makeFunc (fn := .func 120) (first := #[]) (cap := #[(.tmp 1)]) (fl := []) (cl := [(.pointer (some ⟨b1, 0, none⟩))]) rfl (rfl)) ?_
 refine V 2 105 (ma 3 (.func (.func 120) #[] #[(.pointer (some ⟨b1, 0, none⟩))])) ?_
 refine Nt ?_
 refine CWP.ret (by kernel_rfl) ?_
 obtain ⟨F1, hs4, le5, hF6⟩ : ∃ Fq, HS w0 F0 w2 Fq [] ∧ Mem.le F0 Fq ∧ Fq b1 = some (oc (kSystem x0 a0_0 n0_0 a0_1 n0_1) 25) := HS.freezeC hs3 (k := 0) rfl
 have hfin := some_inj h
 subst hfin
 exact ⟨rfl, (.func (.func 120) #[] #[(.pointer (some ⟨b1, 0, none⟩))]), res_of (l := [.tmp 2]) (by kernel_rfl) (vs := [(.func (.func 120) #[] #[(.pointer (some ⟨b1, 0, none⟩))])]) ⟨rfl, trivial⟩, (.func (.func 120) #[] #[(.pointer (some ⟨b1, 0, none⟩))]), F1, rfl, hs4.clear, ⟨a0_0, n0_0, a0_1, n0_1, b1, rfl, hb0_0, (SlA.mono hs0_0 le5), hb0_1, (SlA.mono hs0_1 le5), hF6⟩⟩
end Go.Proofs.Ythbcnabeabcmlaa
namespace Go.Proofs.Ythbcnabeabcmlaa
open Go.Proofs
def clocks_loopOf_1 (N : Nat) (z0 : System) : Option (Looped ⊕ Unit) :=
 ((clocks_bounds N z0).bind fun r1 => ((slices_Collect_api_Bound N r1).bind fun r9 => ((clocks_beginning N ).bind fun r17 => ((clocks_relax N r9 r17 false).bind fun r25 => sk r25 (fun b35 => some (.inl b35)) (fun r33 => some (.inr ()))))))
theorem co_clocks_loopOf_1 : CallOk Try.prog 133 := fun _ _ => by kernel_rfl
set_option maxHeartbeats 4000000 in
set_option maxRecDepth 100000 in
theorem c_clocks_loopOf_1 (N : Nat) (w0 : World) (F0 : Mem) (hF : ∀ b o, F0 b = some o → w0.heap[b]? = some o) (bz0 : Nat) (z0 : System) (az0_0 : Option Addr) (nz0_0 : Nat) (hbz0_0 : LC z0.Tracks.length nz0_0) (hsz0_0 : SlA tTrack F0 az0_0 z0.Tracks) (az0_1 : Option Addr) (nz0_1 : Nat) (hbz0_1 : LC z0.Ties.length nz0_1) (hsz0_1 : SlA tTie F0 az0_1 z0.Ties) (hz0 : F0 bz0 = some (oc (kSystem z0 az0_0 nz0_0 az0_1 nz0_1) 25)) (r : (Looped ⊕ Unit)) (h : clocks_loopOf_1 N z0 = some r) :
  Calls Try.prog 133 ([(.pointer (some ⟨bz0, 0, none⟩))] : List Value).toArray w0 (FRetP r w0 F0 (fun r F' v => v = (.tuple #[])) (fun b F' v => ∃ v0, v = .iface 152 v0 ∧ ∃ (aq0_0 : Option Addr) (nq0_0 : Nat), v0 = (.agg #[(.slice aq0_0 b.loop_.length nq0_0)]) ∧ LC b.loop_.length nq0_0 ∧ SlA tBound F' aq0_0 b.loop_ ∧ (∀ ad, aq0_0 = some ad → w0.heap.size ≤ ad.block))) := by
 have hs0 := HS.start hF
 refine calls_of (n := 6) (c := bodyOf Try.f133) Try.func133 (by kernel_rfl) (by kernel_rfl) (by kernel_rfl) ?_
 refine Rg [0, 1, 2, 3, 4] ?_
 refine V 1 25 (ld 25 0 bz0 0 true 3 (.agg (kSystem z0 az0_0 nz0_0 az0_1 nz0_1)) (hs0.pers _ _ hz0)) ?_
 obtain ⟨r1, hr2, h3⟩ := bind_some h
 refine Cl 2 105 76 #[(.tmp 1)] #[25] co_clocks_bounds hs0 (c_clocks_bounds N w0 F0 hs0.pers (z0) az0_0 nz0_0 hbz0_0 hsz0_0 az0_1 nz0_1 hbz0_1 hsz0_1 _ hr2) ?_
 intro v4 F1 w5 hs6 le7 hp8
 obtain ⟨ar1_0_0_0, nr1_0_0_0, ar1_0_0_1, nr1_0_0_1, br1_0_0, rfl, hbr1_0_0_0, hsr1_0_0_0, hbr1_0_0_1, hsr1_0_0_1, hFr1_0_0⟩ := hp8
 obtain ⟨r9, hr10, h11⟩ := bind_some h3
 refine Cl 3 57 75 #[(.tmp 2)] #[105] co_slices_Collect_api_Bound hs6 (c_slices_Collect_api_Bound N w5 F1 hs6.pers (r1) ar1_0_0_0 nr1_0_0_0 hbr1_0_0_0 hsr1_0_0_0 ar1_0_0_1 nr1_0_0_1 hbr1_0_0_1 hsr1_0_0_1 br1_0_0 hFr1_0_0 _ hr10) ?_
 intro v12 F2 w13 hs14 le15 hp16
 obtain ⟨ar9_0_0, nr9_0_0, rfl, hbr9_0_0, hsr9_0_0⟩ := hp16
 obtain ⟨r17, hr18, h19⟩ := bind_some h11
 refine Cl 4 27 108 #[] #[] co_clocks_beginning hs14 (c_clocks_beginning N w13 F2 hs14.pers  _ hr18) ?_
 intro v20 F3 w21 hs22 le23 hp24
 obtain rfl := hp24
 obtain ⟨r25, hr26, h27⟩ := bind_some h19
 refine RWP.callP (dst := (some 5)) (ty := 95) (g := none) (by kernel_rfl) rfl (f0 := (.func 77)) (aos := #[(.tmp 3), (.tmp 4), (.const (.bool false))]) (ats := #[57, 27, 4]) (fid := 77) (first := #[]) (cap := #[]) (args := [(.slice ar9_0_0 r9.length nr9_0_0), (.agg (kRef r17)), (.bool false)]) rfl co_clocks_relax (rfl) hs22 (c_clocks_relax N w21 F3 hs22.pers (r9) ar9_0_0 nr9_0_0 hbr9_0_0 (SlA.mono hsr9_0_0 le23) (r17) (false) _ hr26) ?_ ?_
 ·rintro r33 v28 F4 w29 rfl hs30 le31 hp32
  obtain ⟨or33_0_0, or33_0_1, rfl, hmr33_0_0, hmr33_0_1⟩ := hp32
  have h34 := sk_r h27
  refine RWP.nil ?_
  have hfin := some_inj h34
  subst hfin
  exact ⟨rfl, (.tuple #[]), res_of (l := []) (by kernel_rfl) (vs := []) trivial, .inl ⟨_, (.tuple #[]), F4, rfl, rfl, hs30.clear, rfl⟩⟩
 ·rintro b35 _ F5 w37 rfl hs38 le39 ⟨_, rfl, ab35_0_0, nb35_0_0, rfl, hbb35_0_0, hsb35_0_0, fr40⟩
  have h41 := sk_l h27
  have hfin := some_inj h41
  subst hfin
  exact ⟨rfl, .inr ⟨_, _, F5, rfl, rfl, hs38.clear, ⟨_, rfl, ab35_0_0, nb35_0_0, rfl, hbb35_0_0, hsb35_0_0, (fun ad e => Nat.le_trans hs22.size (fr40 ad e))⟩⟩⟩
end Go.Proofs.Ythbcnabeabcmlaa
namespace Go.Proofs.Ythbcnabeabcmlaa
open Go.Proofs
theorem back_ne {N : Nat} {x : Reached} {a : Ref} {t : Bool} {f : Ref → Option Bool} {r : List Bound} (h : clocks_reached_back N x a t f = some r) : r ≠ [] := by
 unfold clocks_reached_back at h
 obtain ⟨o, ho, h⟩ := bind_some h
 obtain ⟨s1, hI, hb, _⟩ := iter_inv (fun s => s.2.1 = true ∨ s.1 ≠ []) (fun s s' hI hs => by
  unfold clocks_reached_back_L0 at hs
  obtain ⟨j, hj, hs⟩ := bind_some hs
  rcases cond_some hs with ⟨_, hs⟩ | ⟨_, hs⟩
  ·obtain ⟨r1, hr1, hs⟩ := bind_some hs
   obtain ⟨_, _, hs⟩ := bind_some hs
   cases hs
   right
   obtain ⟨_, rfl⟩ := apnd_spec hr1
   simp
  ·cases hs) (.inl rfl) ho
 unfold clocks_reached_back_L0 at hb
 obtain ⟨j, hj, hb⟩ := bind_some hb
 rcases cond_some hb with ⟨_, hb⟩ | ⟨hjf, hb⟩
 ·obtain ⟨_, _, hb⟩ := bind_some hb
  obtain ⟨_, _, hb⟩ := bind_some hb
  cases hb; cases h
 ·cases hb
  cases h
  rcases hI with hI | hI
  ·rw [hI] at hj; simp at hj; rw [hj] at hjf; cases hjf
  ·exact hI
theorem cycle_ne {N : Nat} {x : Reached} {a : Ref} {n : Int} {t : Bool} {r : List Bound} (h : clocks_reached_cycle N x a n t = some r) : r ≠ [] := by
 unfold clocks_reached_cycle at h
 obtain ⟨o, ho, h⟩ := bind_some h
 rcases k_some h with ⟨s, rfl, h⟩ | ⟨y, rfl, h⟩
 ·obtain ⟨r1, h1, h⟩ := bind_some h
  obtain ⟨j, hj, h⟩ := bind_some h
  cases h
  rcases cond_some hj with ⟨_, hj⟩ | ⟨_, hj⟩
  ·obtain ⟨r2, h2, hj⟩ := bind_some hj
   cases hj
   intro e
   have := ml_slices_Reverse_api_Bound_api_Bound h2
   rw [e] at this
   exact back_ne h1 (List.eq_nil_of_length_eq_zero this.symm)
  ·cases hj; exact back_ne h1
 ·obtain ⟨s1, _, hb, _⟩ := iter_inv (fun _ => True) (fun _ _ _ _ => trivial) trivial ho
  unfold clocks_reached_cycle_L0 at hb
  rcases cond_some hb with ⟨_, hb⟩ | ⟨_, hb⟩
  ·obtain ⟨_, _, hb⟩ := bind_some hb; cases hb
  ·cases hb
theorem relax_ne {N : Nat} {l : List Bound} {a : Ref} {t : Bool} {b : Looped} (h : clocks_relax N l a t = some (.inl b)) : b.loop_ ≠ [] := by
 unfold clocks_relax at h
 obtain ⟨o, ho, h⟩ := bind_some h
 rcases k_some h with ⟨s, rfl, h⟩ | ⟨y, rfl, h⟩
 ·obtain ⟨o2, ho2, h⟩ := bind_some h
  rcases k_some h with ⟨s2, rfl, h⟩ | ⟨y, rfl, h⟩
  ·cases h
  ·cases h
   obtain ⟨s1, _, hb, _⟩ := iter_inv (fun _ => True) (fun _ _ _ _ => trivial) trivial ho2
   unfold clocks_relax_L1 at hb
   obtain ⟨o3, ho3, hb⟩ := bind_some hb
   rcases k_some hb with ⟨s3, rfl, hb⟩ | ⟨y, rfl, hb⟩
   ·rcases cond_some hb with ⟨_, hb⟩ | ⟨_, hb⟩ <;> cases hb
   ·cases hb
    obtain ⟨s4, _, hb, _⟩ := iter_inv (fun _ => True) (fun _ _ _ _ => trivial) trivial ho3
    unfold clocks_relax_L2 at hb
    rcases cond_some hb with ⟨_, hb⟩ | ⟨_, hb⟩
    ·obtain ⟨_, _, hb⟩ := bind_some hb
     obtain ⟨_, _, hb⟩ := bind_some hb
     rcases cond_some hb with ⟨_, hb⟩ | ⟨_, hb⟩
     ·cases hb
     ·rcases cond_some hb with ⟨_, hb⟩ | ⟨_, hb⟩
      ·cases hb
      ·obtain ⟨_, _, hb⟩ := bind_some hb
       rcases cond_some hb with ⟨_, hb⟩ | ⟨_, hb⟩
       ·obtain ⟨r, hr, hb⟩ := bind_some hb
        cases hb
        exact cycle_ne hr
       ·cases hb
    ·cases hb
 ·obtain ⟨s1, _, hb, _⟩ := iter_inv (fun _ => True) (fun _ _ _ _ => trivial) trivial ho
  unfold clocks_relax_L0 at hb
  rcases cond_some hb with ⟨_, hb⟩ | ⟨_, hb⟩
  ·obtain ⟨_, _, hb⟩ := bind_some hb
   obtain ⟨_, _, hb⟩ := bind_some hb
   cases hb
  ·cases hb
theorem loopOf_1_ne {N : Nat} {s : System} {b : Looped} (h : clocks_loopOf_1 N s = some (.inl b)) : b.loop_ ≠ [] := by
 unfold clocks_loopOf_1 at h
 obtain ⟨_, _, h⟩ := bind_some h
 obtain ⟨_, _, h⟩ := bind_some h
 obtain ⟨_, _, h⟩ := bind_some h
 obtain ⟨q, hq, h⟩ := bind_some h
 cases q with
 | inl b' => cases h; exact relax_ne hq
 | inr x => cases h
def clocks_loopOf (N : Nat) (x0 : System) : Option (List Bound) := (clocks_loopOf_1 N x0).bind fun q => sk q (fun b => some b.loop_) (fun _ => some [])
theorem co_clocks_loopOf : CallOk Try.prog 103 := fun _ _ => by kernel_rfl
set_option maxRecDepth 100000 in
theorem c_clocks_loopOf (N : Nat) (w0 : World) (F0 : Mem) (hF : ∀ b o, F0 b = some o → w0.heap[b]? = some o) (x0 : System) (a0_0 : Option Addr) (n0_0 : Nat) (hb0_0 : LC x0.Tracks.length n0_0) (hs0_0 : SlA tTrack F0 a0_0 x0.Tracks) (a0_1 : Option Addr) (n0_1 : Nat) (hb0_1 : LC x0.Ties.length n0_1) (hs0_1 : SlA tTie F0 a0_1 x0.Ties) (r : List Bound) (h : clocks_loopOf N x0 = some r) :
  Calls Try.prog 103 ([(.agg (kSystem x0 a0_0 n0_0 a0_1 n0_1))] : List Value).toArray w0 (FRet w0 F0 fun F' v => ∃ (a : Option Addr) (n : Nat), v = (.slice a r.length n) ∧ LC r.length n ∧ SlA tBound F' a r ∧ (r = [] → a = none) ∧ (∀ ad, a = some ad → w0.heap.size ≤ ad.block)) := by
 have hs0 := HS.start hF
 obtain ⟨q, hq, h⟩ := bind_some h
 refine calls_of (n := 5) (c := bodyOf Try.f103) Try.func103 (by kernel_rfl) (by kernel_rfl) (by kernel_rfl) ?_
 refine CWP.seq (by kernel_rfl) ?_
 refine CWP.region (l := [0, 1]) (by kernel_rfl) (by kernel_rfl) (by kernel_rfl) ?_
 refine RWP.box (dst := (some 1)) (ty := 0) (g := none) (by kernel_rfl) rfl (x := (.tmp 0)) (t := 25) (v := (.agg (kSystem x0 a0_0 n0_0 a0_1 n0_1))) rfl (C := (kSystem x0 a0_0 n0_0 a0_1 n0_1)) rfl hs0 (fun b1 w1 hs1 => ?_)
 refine RWP.val (dst := (some 2)) (ty := 57) (g := none) (by kernel_rfl) rfl (run_assign (x := (.const (.slice none 0 0))) (v := (.slice none 0 0)) rfl) ?_
 refine RWP.nil ?_
 refine thenQ_nrm ?_
 refine CWP.seq (by kernel_rfl) ?_
 obtain ⟨F1, hs2, le1, hF1⟩ : ∃ Fq, HS w0 F0 w1 Fq [] ∧ Mem.le F0 Fq ∧ Fq b1 = some (oc (kSystem x0 a0_0 n0_0 a0_1 n0_1) 25) := HS.freezeC hs1 (k := 0) rfl
 refine CWP.region (l := [0, 1, 2]) (by kernel_rfl) (by kernel_rfl) (by kernel_rfl) ?_
 refine RWP.val (dst := some 3) (ty := 1) (g := none) (by kernel_rfl) rfl (run_makeFunc (fn := .func 133) (first := #[]) (cap := #[.tmp 1]) (fl := []) (cl := [.pointer (some ⟨b1, 0, none⟩)]) rfl rfl) ?_
 refine RWP.callS (dst := some 4) (ty := 57) (g := none) (by kernel_rfl) rfl (f0 := .func 115) (aos := #[.tmp 3]) (ats := #[1]) (fid := 115) (first := #[]) (cap := #[]) (args := [.func (.func 133) #[] #[.pointer (some ⟨b1, 0, none⟩)]]) rfl co_clocks_closing rfl
  (c_clocks_closing (hs := hs2) (g := 133) (cap := [.pointer (some ⟨b1, 0, none⟩)]) co_clocks_loopOf_1
   (fun o F' Lf' => Lf' = [] ∧ match o with
    | none => q = .inr ()
    | some (a, n, c) => ∃ b : Looped, q = .inl b ∧ n = b.loop_.length ∧ LC b.loop_.length c ∧ SlA tBound F' a b.loop_ ∧ (∀ ad, a = some ad → w0.heap.size ≤ ad.block)) ?_) ?_
 ·intro w2 b hs3
  refine (c_clocks_loopOf_1 N w2 F1 hs3.pers b1 x0 a0_0 n0_0 hb0_0 (hs0_0.mono le1) a0_1 n0_1 hb0_1 (hs0_1.mono le1) hF1 q hq).mono ?_
  rintro e w3 (⟨u, v, F', rfl, rfl, hs4, rfl⟩ | ⟨b', v, F', rfl, rfl, hs4, v0, rfl, a, n, rfl, hlc, hsl, hfr⟩)
  ·exact .inl ⟨_, F', [], rfl, hs3.call hs4, hs4.le, rfl, rfl⟩
  ·exact .inr ⟨a, _, n, F', [], rfl, hs3.call hs4, hs4.le, rfl, b', rfl, rfl, hlc, hsl, fun ad e => Nat.le_trans hs3.size (hfr ad e)⟩
 ·rintro _ w4 ⟨o, F2, Lf', rfl, hs5, le2, rfl, hK⟩
  refine ⟨_, rfl, ?_⟩
  refine RWP.val (dst := (some 2)) (ty := 57) (g := none) (by kernel_rfl) rfl (run_assign (x := (.tmp 4)) (v := slv o) rfl) ?_
  refine RWP.nil ?_
  refine thenQ_nrm ?_
  refine CWP.ret (by kernel_rfl) ?_
  refine ⟨rfl, slv o, res_of (l := [.tmp 2]) (by kernel_rfl) (vs := [slv o]) ⟨rfl, trivial⟩, slv o, F2, rfl, hs5.clear, ?_⟩
  cases o with
  | none =>
   simp only at hK
   subst hK
   cases h
   exact ⟨none, 0, rfl, LC.nil, .inl rfl, fun _ => rfl, fun _ e => by cases e⟩
  | some p =>
   obtain ⟨a, n, c⟩ := p
   simp only at hK
   obtain ⟨b, rfl, rfl, h1, h2, h3⟩ := hK
   cases h
   exact ⟨a, c, rfl, h1, h2, fun e => absurd e (loopOf_1_ne hq), h3⟩
end Go.Proofs.Ythbcnabeabcmlaa
namespace Go.Proofs.Ythbcnabeabcmlaa
open BF
theorem mem_cat {α : Type} {n : Nat} {f : Nat → List α} {x : α} : x ∈ cat n f ↔ ∃ i, i < n ∧ x ∈ f i := by
 unfold cat
 rw [List.mem_flatMap]
 simp [List.mem_range]
def gap (t : Track) (j : Nat) : Int := t.Times.getD (j + 1) 0 - t.Times.getD j 0
def wid (t : Track) (j : Nat) : Int := 1 + Int.tdiv (t.Clock.Drift * gap t j + 999) 1000
abbrev li (i j : Nat) : Ref := { Log := (i : Int), Line := (j : Int) }
inductive InB (s : System) : Bound → Prop
 | up {i : Nat} {t : Track} {j : Nat} (ht : s.Tracks[i]? = some t) (hj : j < t.Times.length) : InB s { From := beg, To := li i j, Most := t.Times.getD j 0 + t.Clock.Slip, Kind := 1, ID := (j : Int) }
 | down {i : Nat} {t : Track} {j : Nat} (ht : s.Tracks[i]? = some t) (hj : j < t.Times.length) : InB s { From := li i j, To := beg, Most := t.Clock.Slip - t.Times.getD j 0, Kind := 1, ID := (j : Int) }
 | ord {i : Nat} {t : Track} {j : Nat} (ht : s.Tracks[i]? = some t) (hj : j + 1 < t.Times.length) : InB s { From := li i (j + 1), To := li i j, Most := 0, Kind := 2, ID := (j : Int) }
 | fwd {i : Nat} {t : Track} {j : Nat} (ht : s.Tracks[i]? = some t) (hj : j + 1 < t.Times.length) (hn : jmp t.Clock.Jumps (t.Times.getD j 0) (t.Times.getD (j + 1) 0) = false) : InB s { From := li i j, To := li i (j + 1), Most := gap t j + wid t j, Kind := 3, ID := (j : Int) }
 | bwd {i : Nat} {t : Track} {j : Nat} (ht : s.Tracks[i]? = some t) (hj : j + 1 < t.Times.length) (hn : jmp t.Clock.Jumps (t.Times.getD j 0) (t.Times.getD (j + 1) 0) = false) : InB s { From := li i (j + 1), To := li i j, Most := wid t j - gap t j, Kind := 3, ID := (j : Int) }
 | tab {j : Nat} {t : Tie} (ht : s.Ties[j]? = some t) : InB s { From := t.A, To := t.B, Most := s.Window, Kind := 4, ID := (j : Int) }
 | tba {j : Nat} {t : Tie} (ht : s.Ties[j]? = some t) : InB s { From := t.B, To := t.A, Most := s.Window, Kind := 4, ID := (j : Int) }
theorem track_at {s : System} (h : vCheck s = 0) {i : Nat} {t : Track} (ht : s.Tracks[i]? = some t) : vTrack t = true := (check_ok h).2.2.1 t (List.mem_of_getElem? ht)
theorem slip_in {t : Track} (h : vTrack t = true) : 0 ≤ t.Clock.Slip ∧ t.Clock.Slip ≤ 1440 ∧ 0 ≤ t.Clock.Drift ∧ t.Clock.Drift ≤ 100 := (clock_facts (track_facts h).2.1).2.2
theorem gap_in {t : Track} (h : vTrack t = true) {j : Nat} (hj : j + 1 < t.Times.length) : 0 ≤ gap t j ∧ gap t j ≤ 20000 := by
 have h1 := times_up h hj
 have h2 := times_in h hj
 have h3 := times_in h (show j < t.Times.length by omega)
 unfold gap
 rw [getD_at hj, getD_at (show j < t.Times.length by omega)]
 omega
theorem drift_in {t : Track} (h : vTrack t = true) {j : Nat} (hj : j + 1 < t.Times.length) : 0 ≤ t.Clock.Drift * gap t j ∧ t.Clock.Drift * gap t j ≤ 2000000 := by
 have h1 := gap_in h hj
 have h2 := slip_in h
 have h3 := Int.mul_le_mul h2.2.2.2 h1.2 h1.1 (by omega : (0 : Int) ≤ 100)
 exact ⟨Int.mul_nonneg h2.2.2.1 h1.1, by omega⟩
theorem wid_in {t : Track} (h : vTrack t = true) {j : Nat} (hj : j + 1 < t.Times.length) : 1 ≤ wid t j ∧ wid t j ≤ 2001 := by
 have h1 := drift_in h hj
 unfold wid
 rw [Int.tdiv_eq_ediv_of_nonneg (by omega)]
 omega
theorem gapB_eq {t : Track} (h : vTrack t = true) {j : Nat} (hj : j + 1 < t.Times.length) : gapB t j = gap t j := by
 have h1 := gap_in h hj
 unfold gapB
 exact W64_id (by unfold gap at h1; omega) (by unfold gap at h1; omega)
theorem widB_eq {t : Track} (h : vTrack t = true) {j : Nat} (hj : j + 1 < t.Times.length) : widB t j = wid t j := by
 have h1 := drift_in h hj
 have h2 := wid_in h hj
 unfold widB
 rw [gapB_eq h hj, W64_id (n := t.Clock.Drift * gap t j) (by omega) (by omega), W64_id (n := t.Clock.Drift * gap t j + 999) (by omega) (by omega)]
 unfold wid at h2 ⊢
 rw [W64_id (n := Int.tdiv _ _) (by omega) (by omega), W64_id (by omega) (by omega)]
theorem mem_bnds {s : System} (h : vCheck s = 0) {b : Bound} : b ∈ bnds s ↔ InB s b := by
 unfold bnds
 rw [List.mem_append, List.mem_append, mem_cat, mem_cat, mem_cat]
 constructor
 ·rintro (⟨i, hi, hb⟩ | ⟨i, hi, hb⟩ | ⟨j, hj, hb⟩)
  ·unfold slips at hb
   have ht := List.getElem?_eq_getElem hi
   rw [ht] at hb
   simp only [mem_cat] at hb
   obtain ⟨j, hj, hb⟩ := hb
   have hv := track_at h ht
   have h1 := times_in hv hj
   have h2 := slip_in hv
   unfold slipB at hb
   simp only [List.mem_cons, List.not_mem_nil, or_false] at hb
   have e := getD_at hj (0 : Int)
   rw [W64_id (by omega) (by omega), W64_id (by omega) (by omega)] at hb
   rcases hb with rfl | rfl
   ·exact .up ht hj
   ·exact .down ht hj
  ·unfold ords at hb
   have ht := List.getElem?_eq_getElem hi
   rw [ht] at hb
   simp only [mem_cat] at hb
   obtain ⟨j, hj, hb⟩ := hb
   have hj' : j + 1 < s.Tracks[i].Times.length := by omega
   have hv := track_at h ht
   have h1 := gap_in hv hj'
   have h2 := wid_in hv hj'
   unfold ordB at hb
   rw [gapB_eq hv hj', widB_eq hv hj', W64_id (by omega) (by omega), W64_id (by omega) (by omega)] at hb
   rcases List.mem_cons.1 hb with rfl | hb
   ·exact .ord ht hj'
   ·cases hc : jmp s.Tracks[i].Clock.Jumps (s.Tracks[i].Times.getD j 0) (s.Tracks[i].Times.getD (j + 1) 0) with
    | true => rw [hc] at hb; cases hb
    | false =>
     rw [hc] at hb
     simp only [cond_false, List.mem_cons, List.not_mem_nil, or_false] at hb
     rcases hb with rfl | rfl
     ·exact .fwd ht hj' hc
     ·exact .bwd ht hj' hc
  ·unfold tieB at hb
   have ht := List.getElem?_eq_getElem hj
   rw [ht] at hb
   simp only [List.mem_cons, List.not_mem_nil, or_false] at hb
   rcases hb with rfl | rfl
   ·exact .tab ht
   ·exact .tba ht
 ·have lt_of : ∀ {α : Type} {l : List α} {i : Nat} {x : α}, l[i]? = some x → i < l.length := fun {α l i x} hx => by
   rcases Nat.lt_or_ge i l.length with h | h
   ·exact h
   ·rw [List.getElem?_eq_none h] at hx; cases hx
  intro hb
  cases hb with
  | @up i t j ht hj =>
   have hv := track_at h ht
   have h1 := times_in hv hj
   have h2 := slip_in hv
   refine .inl ⟨i, lt_of ht, ?_⟩
   unfold slips; rw [ht]
   refine mem_cat.2 ⟨j, hj, ?_⟩
   unfold slipB
   have e := getD_at hj (0 : Int)
   rw [W64_id (by omega) (by omega)]
   exact List.mem_cons_self ..
  | @down i t j ht hj =>
   have hv := track_at h ht
   have h1 := times_in hv hj
   have h2 := slip_in hv
   refine .inl ⟨i, lt_of ht, ?_⟩
   unfold slips; rw [ht]
   refine mem_cat.2 ⟨j, hj, ?_⟩
   unfold slipB
   have e := getD_at hj (0 : Int)
   rw [W64_id (n := t.Clock.Slip - _) (by omega) (by omega)]
   exact List.mem_cons_of_mem _ (List.mem_cons_self ..)
  | @ord i t j ht hj =>
   refine .inr (.inl ⟨i, lt_of ht, ?_⟩)
   unfold ords; rw [ht]
   refine mem_cat.2 ⟨j, by omega, ?_⟩
   exact List.mem_cons_self ..
  | @fwd i t j ht hj hc =>
   have hv := track_at h ht
   have h1 := gap_in hv hj
   have h2 := wid_in hv hj
   refine .inr (.inl ⟨i, lt_of ht, ?_⟩)
   unfold ords; rw [ht]
   refine mem_cat.2 ⟨j, by omega, ?_⟩
   unfold ordB
   rw [hc, gapB_eq hv hj, widB_eq hv hj, W64_id (by omega) (by omega)]
   exact List.mem_cons_of_mem _ (List.mem_cons_self ..)
  | @bwd i t j ht hj hc =>
   have hv := track_at h ht
   have h1 := gap_in hv hj
   have h2 := wid_in hv hj
   refine .inr (.inl ⟨i, lt_of ht, ?_⟩)
   unfold ords; rw [ht]
   refine mem_cat.2 ⟨j, by omega, ?_⟩
   unfold ordB
   rw [hc, gapB_eq hv hj, widB_eq hv hj, W64_id (n := wid t j - gap t j) (by omega) (by omega)]
   exact List.mem_cons_of_mem _ (List.mem_cons_of_mem _ (List.mem_cons_self ..))
  | @tab j t ht =>
   refine .inr (.inr ⟨j, lt_of ht, ?_⟩)
   unfold tieB; rw [ht]
   exact List.mem_cons_self ..
  | @tba j t ht =>
   refine .inr (.inr ⟨j, lt_of ht, ?_⟩)
   unfold tieB; rw [ht]
   exact List.mem_cons_of_mem _ (List.mem_cons_self ..)
theorem has_li {s : System} {i : Nat} {t : Track} {j : Nat} (ht : s.Tracks[i]? = some t) (hj : j < t.Times.length) : vHas s (li i j) = true := by
 unfold vHas
 simp only [Int.toNat_natCast, ht]
 simp; omega
theorem li_has {s : System} {r : Ref} (h : vHas s r = true) : ∃ i t j, r = li i j ∧ s.Tracks[i]? = some t ∧ j < t.Times.length := by
 unfold vHas at h
 simp only [Bool.and_eq_true, decide_eq_true_eq] at h
 obtain ⟨h0, h1⟩ := h
 cases ht : s.Tracks[r.Log.toNat]? with
 | none => rw [ht] at h1; cases h1
 | some t =>
  rw [ht] at h1
  simp only [Bool.and_eq_true, decide_eq_true_eq] at h1
  refine ⟨r.Log.toNat, t, r.Line.toNat, ?_, ht, by omega⟩
  obtain ⟨a, b⟩ := r
  simp only [li, Ref.mk.injEq]
  simp only at h0 h1
  omega
def Nd (s : System) (r : Ref) : Prop := r = beg ∨ vHas s r = true
def nodesOf (s : System) : List Ref := beg :: cat s.Tracks.length fun i => match s.Tracks[i]? with
 | none => []
 | some t => (List.range t.Times.length).map fun j => li i j
theorem mem_nodes {s : System} {r : Ref} : r ∈ nodesOf s ↔ Nd s r := by
 unfold nodesOf Nd
 rw [List.mem_cons, mem_cat]
 constructor
 ·rintro (h | ⟨i, hi, hr⟩)
  ·exact .inl h
  ·have ht := List.getElem?_eq_getElem hi
   rw [ht] at hr
   simp only [List.mem_map, List.mem_range] at hr
   obtain ⟨j, hj, rfl⟩ := hr
   exact .inr (has_li ht hj)
 ·rintro (h | h)
  ·exact .inl h
  ·obtain ⟨i, t, j, rfl, ht, hj⟩ := li_has h
   refine .inr ⟨i, ?_, ?_⟩
   ·rcases Nat.lt_or_ge i s.Tracks.length with h | h
    ·exact h
    ·rw [List.getElem?_eq_none h] at ht; cases ht
   ·rw [ht]; simp only [List.mem_map, List.mem_range]; exact ⟨j, hj, rfl⟩
theorem nodes_len {s : System} (h : vCheck s = 0) : (nodesOf s).length ≤ 25601 := by
 unfold nodesOf
 have h1 := cat_le (n := s.Tracks.length) (K := 400) (f := fun i => match s.Tracks[i]? with
  | none => []
  | some t => (List.range t.Times.length).map fun j => li i j) (fun i hi => by
   rw [List.getElem?_eq_getElem hi]
   simp only [List.length_map, List.length_range]
   exact (track_facts ((check_ok h).2.2.1 _ (List.getElem_mem hi))).2.2)
 have := (check_ok h).1
 rw [List.length_cons]
 omega
theorem bnd_ends {s : System} (h : vCheck s = 0) {b : Bound} (hb : b ∈ bnds s) : Nd s b.From ∧ Nd s b.To := by
 have htie : ∀ {j : Nat} {t : Tie}, s.Ties[j]? = some t → Nd s t.A ∧ Nd s t.B := fun {j t} ht => by
  have := (check_ok h).2.2.2.2.2 t (List.mem_of_getElem? ht)
  unfold vTie at this
  simp only [Bool.and_eq_true] at this
  exact ⟨.inr this.1, .inr this.2.1⟩
 cases (mem_bnds h).1 hb with
 | up ht hj => exact ⟨.inl rfl, .inr (has_li ht hj)⟩
 | down ht hj => exact ⟨.inr (has_li ht hj), .inl rfl⟩
 | ord ht hj => exact ⟨.inr (has_li ht hj), .inr (has_li ht (by omega))⟩
 | fwd ht hj => exact ⟨.inr (has_li ht (by omega)), .inr (has_li ht hj)⟩
 | bwd ht hj => exact ⟨.inr (has_li ht hj), .inr (has_li ht (by omega))⟩
 | tab ht => exact htie ht
 | tba ht => exact ⟨(htie ht).2, (htie ht).1⟩
theorem bnd_most {s : System} (h : vCheck s = 0) (b : Bound) (hb : b ∈ bnds s) : -50000 ≤ b.Most ∧ b.Most ≤ 50000 := by
 obtain ⟨_, _, _, h4, h5, _⟩ := check_ok h
 cases (mem_bnds h).1 hb with
 | up ht hj => have h1 := times_in (track_at h ht) hj; have h2 := slip_in (track_at h ht); have e := getD_at hj (0 : Int); simp only; omega
 | down ht hj => have h1 := times_in (track_at h ht) hj; have h2 := slip_in (track_at h ht); have e := getD_at hj (0 : Int); simp only; omega
 | ord ht hj => simp only; omega
 | fwd ht hj => have h1 := gap_in (track_at h ht) hj; have h2 := wid_in (track_at h ht) hj; simp only; omega
 | bwd ht hj => have h1 := gap_in (track_at h ht) hj; have h2 := wid_in (track_at h ht) hj; simp only; omega
 | tab ht => simp only; omega
 | tba ht => simp only; omega
theorem bnds_len' {s : System} (h : vCheck s = 0) : (bnds s).length ≤ 128800 := by
 obtain ⟨k1, k2, _⟩ := check_ok h
 unfold bnds
 have h1 := cat_le (n := s.Tracks.length) (K := 800) (f := slips s) (fun i hi => slips_len h hi)
 have h2 := cat_le (n := s.Tracks.length) (K := 1200) (f := ords s) (fun i hi => ords_len h hi)
 have h3 := cat_le (n := s.Ties.length) (K := 2) (f := tieB s) (fun j _ => tieB_len s j)
 simp only [List.length_append]
 omega
abbrev WK (s : System) : Ref → Ref → Int → Prop := Walk Bound.From Bound.To Bound.Most (bnds s)
abbrev Dst (s : System) : Ref → Ref → Int → Prop := IsDist Bound.From Bound.To Bound.Most (bnds s)
abbrev Cls (s : System) : Prop := NoNeg Bound.From Bound.To Bound.Most (bnds s)
theorem to_beg {s : System} (h : vCheck s = 0) {r : Ref} (hr : Nd s r) : ∃ n, WK s r beg n := by
 rcases hr with rfl | hr
 ·exact ⟨0, .nil _⟩
 ·obtain ⟨i, t, j, rfl, ht, hj⟩ := li_has hr
  exact ⟨_, Walk.one ((mem_bnds h).2 (.down ht hj))⟩
theorem from_beg {s : System} (h : vCheck s = 0) {r : Ref} (hr : Nd s r) : ∃ n, WK s beg r n := by
 rcases hr with rfl | hr
 ·exact ⟨0, .nil _⟩
 ·obtain ⟨i, t, j, rfl, ht, hj⟩ := li_has hr
  exact ⟨_, Walk.one ((mem_bnds h).2 (.up ht hj))⟩
theorem walk_any {s : System} (h : vCheck s = 0) {a b : Ref} (ha : Nd s a) (hb : Nd s b) : ∃ n, WK s a b n := by
 obtain ⟨n, hn⟩ := to_beg h ha
 obtain ⟨m, hm⟩ := from_beg h hb
 exact ⟨_, hn.trans hm⟩
theorem chain_walk {l c : List Bound} : ∀ {a z : Ref} {n : Int}, IsChain l c a z n → Walk Bound.From Bound.To Bound.Most l a z n := by
 induction c with
 | nil => intro a z n h; have h1 : a = z := h.ch; have h2 := h.sum; subst h1; rw [← h2]; exact .nil _
 | cons b c ih =>
  intro a z n h
  obtain ⟨h1, h2⟩ := h.ch
  subst h1
  rw [← h.sum, sumB_cons]
  exact (Walk.one (h.sub b (List.mem_cons_self ..))).trans (ih ⟨h2, fun x hx => h.sub x (List.mem_cons_of_mem _ hx), rfl⟩)
theorem BadLoop.not {l c : List Bound} (h : BadLoop l c) : ¬ NoNeg Bound.From Bound.To Bound.Most l := by
 obtain ⟨_, a, n, hc, hn⟩ := h
 intro hno
 have := hno _ _ (chain_walk hc)
 omega
theorem Fin.at {s : System} {tu : Bool} {frm : Ref} {r : Reached} (h : Fin tu (bnds s) frm r) {x : Ref} {n : Int} : mget r.at_ x = some n ↔ (bif tu then Dst s x frm n else Dst s frm x n) := by
 obtain ⟨⟨k, pre, ts, rd, now, hI⟩, hc⟩ := h
 have := hI.dist hc (x := x) (n := n)
 cases tu with
 | false => exact this
 | true => exact this.trans dist_turn
section
variable {N : Nat} {s : System}
theorem relax_s (hN : 1000000 ≤ N) (h : vCheck s = 0) (frm : Ref) (tu : Bool) :
  (∃ c, clocks_relax N (bnds s) frm tu = some (.inl { loop_ := c }) ∧ BadLoop (bnds s) c ∧ c.length ≤ (nodesOf s).length) ∨ (∃ r, clocks_relax N (bnds s) frm tu = some (.inr r) ∧ Fin tu (bnds s) frm r) :=
 relax_eq (bnd_most h) (by have := bnds_len' h; omega) hN (nodes := nodesOf s) (fun e he => ⟨mem_nodes.2 (bnd_ends h he).1, mem_nodes.2 (bnd_ends h he).2⟩) (by have := nodes_len h; omega) frm tu
theorem relax_ok (hN : 1000000 ≤ N) (h : vCheck s = 0) (hc : Cls s) (frm : Ref) (tu : Bool) : ∃ r, clocks_relax N (bnds s) frm tu = some (.inr r) ∧ Fin tu (bnds s) frm r := by
 rcases relax_s hN h frm tu with ⟨c, _, hb, _⟩ | h
 ·exact absurd hc hb.not
 ·exact h
theorem Fin.closes {tu : Bool} {r : Reached} (h : vCheck s = 0) (hf : Fin tu (bnds s) beg r) : Cls s := by
 obtain ⟨⟨k, pre, ts, rd, now, hI⟩, hc⟩ := hf
 have h0 := hI.frm_zero hc
 have := noNeg_of_closed hc (fun e he => by
  cases tu with
  | false =>
   obtain ⟨n, hn⟩ := from_beg h (bnd_ends h he).2
   obtain ⟨m, hm, _⟩ := walk_closed hc hn h0
   exact ⟨m, hm⟩
  | true =>
   obtain ⟨n, hn⟩ := to_beg h (bnd_ends h he).1
   obtain ⟨m, hm, _⟩ := walk_closed hc hn.turn h0
   exact ⟨m, hm⟩)
 cases tu with
 | false => exact this
 | true => exact noNeg_turn.1 this
theorem loopOf_eq (hN : 1000000 ≤ N) (hf : FitS N s) (h : vCheck s = 0) : (Cls s ∧ clocks_loopOf N s = some []) ∨ (¬ Cls s ∧ ∃ c, clocks_loopOf N s = some c ∧ BadLoop (bnds s) c ∧ c.length ≤ (nodesOf s).length) := by
 unfold clocks_loopOf clocks_loopOf_1 clocks_bounds clocks_beginning
 simp only [Option.bind_some, collect_c hf h]
 rw [show ({ Log := -1, Line := 0 } : Ref) = beg from rfl]
 rcases relax_s hN h beg false with ⟨c, h1, h2, h3⟩ | ⟨r, h1, h2⟩
 ·exact .inr ⟨h2.not, c, by rw [h1]; rfl, h2, h3⟩
 ·exact .inl ⟨h2.closes h, by rw [h1]; rfl⟩
end
end Go.Proofs.Ythbcnabeabcmlaa
namespace Go.Proofs.Ythbcnabeabcmlaa
open Go.Proofs
def clocks_solved_1 (N : Nat) (l : List Bound) : Option ((Looped × Reached) ⊕ (Reached × Reached)) :=
 (clocks_beginning N).bind fun r0 => (clocks_relax N l r0 false).bind fun q0 => sk q0 (fun b => some (.inl (b, { at_ := [], by_ := [] }))) fun x =>
  (clocks_beginning N).bind fun r1 => (clocks_relax N l r1 true).bind fun q1 => sk q1 (fun b => some (.inl (b, x))) fun y => some (.inr (x, y))
abbrev mapsO (o p : Option Nat) : Obj := .cells #[.map o, .map p] 95 (0, 0)
theorem co_clocks_solved_1 : CallOk Try.prog 116 := fun _ _ => by kernel_rfl
set_option maxRecDepth 100000 in
theorem c_clocks_solved_1 (N : Nat) {wb w : World} {Fb F : Mem} {Lf : Own} (bl b1 b2 : Nat) (l : List Bound) (a : Option Addr) (n : Nat) (hb : LC l.length n) (hsl : SlA tBound F a l) (hl : F bl = some (oc #[.slice a l.length n] 57))
  {e0 : Option Nat × Obj} (hs : HS wb Fb w F (e0 :: (some b1, mapsO none none) :: (some b2, mapsO none none) :: Lf)) (q : (Looped × Reached) ⊕ (Reached × Reached)) (h : clocks_solved_1 N l = some q) :
  Calls Try.prog 116 ([.pointer (some ⟨bl, 0, none⟩), .pointer (some ⟨b1, 0, none⟩), .pointer (some ⟨b2, 0, none⟩)] : List Value).toArray w (fun e w2 =>
   (∃ x y F2 p1 p2 p3 p4, q = .inr (x, y) ∧ e = .returned (.tuple #[]) ∧ HS wb Fb w2 F2 (e0 :: (some b1, mapsO p1 p2) :: (some b2, mapsO p3 p4) :: Lf) ∧ Mem.le F F2 ∧ MpA tRef tInt F2 p1 x.at_ ∧ MpA tRef tBound F2 p2 x.by_ ∧ MpA tRef tInt F2 p3 y.at_ ∧ MpA tRef tBound F2 p4 y.by_) ∨
   (∃ b x0 a n F2 p1 p2, q = .inl (b, x0) ∧ e = .panicked [{ v := .iface 152 (.agg #[.slice a b.loop_.length n]), recovered := false }] ∧ HS wb Fb w2 F2 (e0 :: (some b1, mapsO p1 p2) :: (some b2, mapsO none none) :: Lf) ∧ Mem.le F F2 ∧ LC b.loop_.length n ∧ SlA tBound F2 a b.loop_ ∧ (b.loop_ ≠ []) ∧ MpA tRef tInt F2 p1 x0.at_ ∧ MpA tRef tBound F2 p2 x0.by_)) := by
 obtain ⟨r0, hr0, h⟩ := bind_some h
 obtain ⟨q0, hq0, h⟩ := bind_some h
 refine calls_of (n := 9) (c := bodyOf Try.f116) Try.func116 (by kernel_rfl) (by kernel_rfl) (by kernel_rfl) ?_
 refine CWP.seq (by kernel_rfl) ?_
 refine CWP.regionDP (by kernel_rfl) (by kernel_rfl) (by kernel_rfl) (by kernel_rfl) (z := 4) (F := F) (Lc := []) (Lz := []) (l := [false, false, false, false]) (fuel := 4) (by kernel_rfl) (by kernel_rfl) hs (by simp) (by simp)
  (fun c d w2 => d = [] ∧ ∃ b x0 a n F2 p1 p2, q = .inl (b, x0) ∧ c = [{ v := .iface 152 (.agg #[.slice a b.loop_.length n]), recovered := false }] ∧ HS wb Fb w2 F2 (e0 :: (some b1, mapsO p1 p2) :: (some b2, mapsO none none) :: Lf) ∧ Mem.le F F2 ∧ LC b.loop_.length n ∧ SlA tBound F2 a b.loop_ ∧ (b.loop_ ≠ []) ∧ MpA tRef tInt F2 p1 x0.at_ ∧ MpA tRef tBound F2 p2 x0.by_)
  (fun f w2 => f.d = [] ∧ f 0 = .pointer (some ⟨bl, 0, none⟩) ∧ f 1 = .pointer (some ⟨b1, 0, none⟩) ∧ f 2 = .pointer (some ⟨b2, 0, none⟩) ∧ ∃ x F2 p1 p2, q0 = .inr x ∧ HS wb Fb w2 F2 (e0 :: (some b1, mapsO p1 p2) :: (some b2, mapsO none none) :: Lf) ∧ Mem.le F F2 ∧ MpA tRef tInt F2 p1 x.at_ ∧ MpA tRef tBound F2 p2 x.by_) (fun w1 hs1 => ?_) ?_ ?_
 ·refine DWP.take (i := 0) (v := .slice a l.length n) (zd := true) (dst := some 3) (ty := 57) (g := none) (by kernel_rfl) (by kernel_rfl) (by kernel_rfl) (by kernel_rfl) (by kernel_rfl) rfl (fun wq hq => run_load' (t := 57) (x := .tmp 0) (b := bl) (o := 0) (g := false) (s := 1) (C := #[.slice a l.length n]) (v := .slice a l.length n) rfl (by kernel_rfl) (hq.1.1 _ _ hl) rfl rfl rfl) (l' := [true, false, false, false]) (by kernel_rfl) ?_
  refine DWP.one (i := 1) (by kernel_rfl) ?_
  refine DStep.call (l' := [true, true, false, false]) (zd := true) (by kernel_rfl) (by kernel_rfl) (by kernel_rfl) (dst := some 4) (ty := 27) (g := none) (by kernel_rfl) rfl (f0 := .func 108) (aos := #[]) (ats := #[]) (fid := 108) (first := #[]) (cap := #[]) (args := []) rfl co_clocks_beginning rfl hs1 (c_clocks_beginning N w1 F hs1.pers _ hr0) ?_
  intro v F1 w2 hs2 le2 hp
  obtain rfl := hp
  refine DWP.one (i := 2) (by kernel_rfl) ?_
  refine DStep.callP (l' := [true, true, true, false]) (zd := true) (by kernel_rfl) (by kernel_rfl) (by kernel_rfl) (dst := some 5) (ty := 95) (g := none) (by kernel_rfl) rfl (f0 := .func 77) (aos := #[.tmp 3, .tmp 4, .const (.bool false)]) (ats := #[57, 27, 4]) (fid := 77) (first := #[]) (cap := #[]) (args := [.slice a l.length n, .agg #[.int .i64 r0.Log, .int .i64 r0.Line], .bool false]) rfl co_clocks_relax rfl hs2 (c_clocks_relax N w2 F1 hs2.pers l a n hb (hsl.mono le2) r0 false _ hq0) ?_ ?_
  ·rintro x v F3 w3 rfl hs3 le3 ⟨p1, p2, rfl, hm1, hm2⟩
   refine DWP.one (i := 3) (by kernel_rfl) ?_
   refine DStep.store (l' := [true, true, true, true]) (zd := true) (by kernel_rfl) (by kernel_rfl) (ty := 0) (g := none) (by kernel_rfl) rfl (x := .tmp 1) (y := .tmp 5) (t := 95) (gg := true) (s := 2) (v := .agg #[.map p1, .map p2]) (b := b1) (o := 0) (C := #[.map none, .map none]) rfl rfl (by kernel_rfl) hs3 (k := 1) rfl rfl rfl rfl (C' := #[.map p1, .map p2]) rfl (le2.trans le3) (by simp) (fun e => by cases e) (fun w4 hs4 => ?_)
   exact DWP.done (by kernel_rfl) ⟨rfl, rfl, rfl, rfl, x, F3, p1, p2, rfl, hs4, le2.trans le3, hm1, hm2⟩
  ·rintro b v F3 w3 rfl hs3 le3 ⟨_, rfl, a', n', rfl, h1, h2, _⟩
   cases h
   exact ⟨rfl, b, _, a', n', F3, none, none, rfl, rfl, hs3, le2.trans le3, h1, h2, relax_ne hq0, MpA.nil, MpA.nil⟩
 ·rintro f w2 ⟨hd, e0', e1, e2, x, F2, p1, p2, rfl, hs2, le2, hm1, hm2⟩
  refine thenQ_nrm ?_
  have h := sk_r h
  obtain ⟨r1, hr1, h⟩ := bind_some h
  obtain ⟨q1, hq1, h⟩ := bind_some h
  have hl2 := le2 _ _ hl
  refine CWP.regionDP (by kernel_rfl) (by kernel_rfl) (by kernel_rfl) (by kernel_rfl) (z := 4) (F := F2) (Lc := []) (Lz := []) (l := [false, false, false, false]) (fuel := 4) (by kernel_rfl) (by kernel_rfl) hs2 (by simp) (by simp)
   (fun c d w2 => d = [] ∧ ∃ b x0 a n F2 p1 p2, q = .inl (b, x0) ∧ c = [{ v := .iface 152 (.agg #[.slice a b.loop_.length n]), recovered := false }] ∧ HS wb Fb w2 F2 (e0 :: (some b1, mapsO p1 p2) :: (some b2, mapsO none none) :: Lf) ∧ Mem.le F F2 ∧ LC b.loop_.length n ∧ SlA tBound F2 a b.loop_ ∧ (b.loop_ ≠ []) ∧ MpA tRef tInt F2 p1 x0.at_ ∧ MpA tRef tBound F2 p2 x0.by_)
   (fun f w2 => f.d = [] ∧ ∃ y F3 p3 p4, q1 = .inr y ∧ HS wb Fb w2 F3 (e0 :: (some b1, mapsO p1 p2) :: (some b2, mapsO p3 p4) :: Lf) ∧ Mem.le F2 F3 ∧ MpA tRef tInt F3 p3 y.at_ ∧ MpA tRef tBound F3 p4 y.by_) (fun w1 hs1 => ?_) ?_ ?_
  ·refine DWP.take (i := 0) (v := .slice a l.length n) (zd := true) (dst := some 6) (ty := 57) (g := none) (by kernel_rfl) (by kernel_rfl) (by kernel_rfl) (by kernel_rfl) (by kernel_rfl) rfl (fun wq hq => run_load' (t := 57) (x := .tmp 0) (b := bl) (o := 0) (g := false) (s := 1) (C := #[.slice a l.length n]) (v := .slice a l.length n) e0' (by kernel_rfl) (hq.1.1 _ _ hl2) rfl rfl rfl) (l' := [true, false, false, false]) (by kernel_rfl) ?_
   refine DWP.one (i := 1) (by kernel_rfl) ?_
   refine DStep.call (l' := [true, true, false, false]) (zd := true) (by kernel_rfl) (by kernel_rfl) (by kernel_rfl) (dst := some 7) (ty := 27) (g := none) (by kernel_rfl) rfl (f0 := .func 108) (aos := #[]) (ats := #[]) (fid := 108) (first := #[]) (cap := #[]) (args := []) rfl co_clocks_beginning rfl hs1 (c_clocks_beginning N w1 F2 hs1.pers _ hr1) ?_
   intro v F1 w2 hs2 le3 hp
   obtain rfl := hp
   refine DWP.one (i := 2) (by kernel_rfl) ?_
   refine DStep.callP (l' := [true, true, true, false]) (zd := true) (by kernel_rfl) (by kernel_rfl) (by kernel_rfl) (dst := some 8) (ty := 95) (g := none) (by kernel_rfl) rfl (f0 := .func 77) (aos := #[.tmp 6, .tmp 7, .const (.bool true)]) (ats := #[57, 27, 4]) (fid := 77) (first := #[]) (cap := #[]) (args := [.slice a l.length n, .agg #[.int .i64 r1.Log, .int .i64 r1.Line], .bool true]) rfl co_clocks_relax rfl hs2 (c_clocks_relax N w2 F1 hs2.pers l a n hb ((hsl.mono le2).mono le3) r1 true _ hq1) ?_ ?_
   ·rintro y v F3 w3 rfl hs3 le4 ⟨p3, p4, rfl, hm3, hm4⟩
    refine DWP.one (i := 3) (by kernel_rfl) ?_
    refine DStep.store (l' := [true, true, true, true]) (zd := true) (by kernel_rfl) (by kernel_rfl) (ty := 0) (g := none) (by kernel_rfl) rfl (x := .tmp 2) (y := .tmp 8) (t := 95) (gg := true) (s := 2) (v := .agg #[.map p3, .map p4]) (b := b2) (o := 0) (C := #[.map none, .map none]) e2 rfl (by kernel_rfl) hs3 (k := 2) rfl rfl rfl rfl (C' := #[.map p3, .map p4]) rfl (le3.trans le4) (by simp) (fun e => by cases e) (fun w4 hs4 => ?_)
    exact DWP.done (by kernel_rfl) ⟨hd, y, F3, p3, p4, rfl, hs4, le3.trans le4, hm3, hm4⟩
   ·rintro b v F3 w3 rfl hs3 le4 ⟨_, rfl, a', n', rfl, h1, h2, _⟩
    cases h
    exact ⟨hd, b, _, a', n', F3, p1, p2, rfl, rfl, hs3, (le2.trans le3).trans le4, h1, h2, relax_ne hq1, hm1.mono (le3.trans le4), hm2.mono (le3.trans le4)⟩
  ·rintro f w3 ⟨hd, y, F3, p3, p4, rfl, hs3, le3, hm3, hm4⟩
   cases h
   exact ⟨hd, .tuple #[], res_of (l := []) (by kernel_rfl) (vs := []) trivial, .inl ⟨x, y, F3, p1, p2, p3, p4, rfl, rfl, hs3, le2.trans le3, hm1.mono le3, hm2.mono le3, hm3, hm4⟩⟩
  ·rintro c f w3 ⟨hd, b, x0, a', n', F3, p1, p2, rfl, rfl, hs3, hle, h1, h2, h3⟩
   exact ⟨hd, .inr ⟨b, x0, a', n', F3, p1, p2, rfl, rfl, hs3, hle, h1, h2, h3⟩⟩
 ·rintro c f w3 ⟨hd, b, x0, a', n', F3, p1, p2, rfl, rfl, hs3, hle, h1, h2, h3⟩
  refine thenQ_pan ?_
  exact ⟨hd, .inr ⟨b, x0, a', n', F3, p1, p2, rfl, rfl, hs3, hle, h1, h2, h3⟩⟩
end Go.Proofs.Ythbcnabeabcmlaa
namespace Go.Proofs.Ythbcnabeabcmlaa
open Go.Proofs
def clocks_solved (N : Nat) (x0 : System) : Option (Reached × Reached × Int) :=
 ((clocks_Check N x0).bind fun r10 => (bif (r10 != 0) then some (({ at_ := ([] : List (Ref × Int)), by_ := ([] : List (Ref × Bound)) } : Reached), ({ at_ := ([] : List (Ref × Int)), by_ := ([] : List (Ref × Bound)) } : Reached), r10) else ((clocks_bounds N x0).bind fun r45 => ((slices_Collect_api_Bound N r45).bind fun r53 => ((clocks_solved_1 N r53).bind fun q72 => sk q72 (fun ⟨b116, x117⟩ => (bif (!b116.loop_.isEmpty) then some (x117, ({ at_ := ([] : List (Ref × Int)), by_ := ([] : List (Ref × Bound)) } : Reached), 31) else some (x117, ({ at_ := ([] : List (Ref × Int)), by_ := ([] : List (Ref × Bound)) } : Reached), 0))) (fun ⟨x84, y85⟩ => some (x84, y85, 0)))))))
theorem co_clocks_solved : CallOk Try.prog 71 := fun _ _ => by kernel_rfl
set_option maxHeartbeats 4000000 in
set_option maxRecDepth 100000 in
theorem c_clocks_solved (N : Nat) (w0 : World) (F0 : Mem) (hF : ∀ b o, F0 b = some o → w0.heap[b]? = some o) (x0 : System) (a0_0 : Option Addr) (n0_0 : Nat) (hb0_0 : LC x0.Tracks.length n0_0) (hs0_0 : SlA tTrack F0 a0_0 x0.Tracks) (a0_1 : Option Addr) (n0_1 : Nat) (hb0_1 : LC x0.Ties.length n0_1) (hs0_1 : SlA tTie F0 a0_1 x0.Ties) (r : (Reached × Reached × Int)) (h : clocks_solved N x0 = some r) :
  Calls Try.prog 71 ([(.agg (kSystem x0 a0_0 n0_0 a0_1 n0_1))] : List Value).toArray w0 (FRet w0 F0 fun F' v => ∃ (oq0_0 : Option Nat) (oq0_1 : Option Nat) (oq1_0 : Option Nat) (oq1_1 : Option Nat), v = (.tuple #[(.agg #[(.map oq0_0), (.map oq0_1)]), (.agg #[(.map oq1_0), (.map oq1_1)]), (vi r.2.2)]) ∧ MpA tRef tInt F' oq0_0 r.1.at_ ∧ MpA tRef tBound F' oq0_1 r.1.by_ ∧ MpA tRef tInt F' oq1_0 r.2.1.at_ ∧ MpA tRef tBound F' oq1_1 r.2.1.by_) := by
 have hs0 := HS.start hF
 refine calls_of (n := 26) (c := bodyOf Try.f71) Try.func71 (by kernel_rfl) (by kernel_rfl) (by kernel_rfl) ?_
 refine Sq (Rg [0, 1, 2, 3] ?_)
 refine Bx 1 0 0 25 (kSystem x0 a0_0 n0_0 a0_1 n0_1) hs0 (fun b1 w2 (hs3 : HS w0 F0 w2 F0 [(sb b1 (kSystem x0 a0_0 n0_0 a0_1 n0_1) 25)]) => ?_)
 refine Al 2 0 95 #[(.map none), (.map none)] hs3 (fun b4 w5 (hs6 : HS w0 F0 w5 F0 [(sb b4 #[(.map none), (.map none)] 95), (sb b1 (kSystem x0 a0_0 n0_0 a0_1 n0_1) 25)]) => ?_)
 refine Al 3 0 95 #[(.map none), (.map none)] hs6 (fun b7 w8 (hs9 : HS w0 F0 w8 F0 [(sb b7 #[(.map none), (.map none)] 95), (sb b4 #[(.map none), (.map none)] 95), (sb b1 (kSystem x0 a0_0 n0_0 a0_1 n0_1) 25)]) => ?_)
 refine V 4 30 (mc (vi 0) (vi 0)) ?_
 refine Nss ?_
 refine Sq (Rg [0, 1, 2] ?_)
 refine V 8 25 (ld 25 1 b1 0 true 3 (.agg (kSystem x0 a0_0 n0_0 a0_1 n0_1)) (hs9.ownAt (k := 2) rfl)) ?_
 obtain ⟨r10, hr11, h12⟩ := bind_some h
 refine Cl 9 30 17 #[(.tmp 8)] #[25] co_clocks_Check hs9 (c_clocks_Check N w8 F0 hs9.pers (x0) a0_0 n0_0 hb0_0 hs0_0 a0_1 n0_1 hb0_1 hs0_1 _ hr11) ?_
 intro v13 F1 w14 hs15 le16 hp17
 obtain rfl := hp17
 refine V 5 30 (ma 9 (vi r10)) ?_
 refine Nss (Rg [0, 1] ?_)
 refine V 10 30 (mv 5 (vi r10)) ?_
 refine V 11 4 (run_neq (t := 30) (t' := 30) (x := (.tmp 10)) (y := (.const (vi 0))) (k := .i64) (a := r10) (b := 0) rfl rfl) ?_
 refine Nt ?_
 refine CWP.cond (t := (r10 != 0)) (by kernel_rfl) rfl (fun hb18 => ?_) (fun hb18 => ?_)
 ·have h19 := cond_t h12 hb18
  refine Sq ?_
  refine CWP.regionD (by kernel_rfl) (by kernel_rfl) (by kernel_rfl) (by kernel_rfl) (z := 6) (F := F1) (Lc := [(sb b1 (kSystem x0 a0_0 n0_0 a0_1 n0_1) 25)]) (Lz := []) (l := [false, false, false, false, false, false]) (fuel := 6) (by kernel_rfl) (by kernel_rfl) hs15 (by simp) (by simp) (fun f w => ∃ (F2 : Mem), HS w0 F0 w F2 [(sb b7 #[(.map none), (.map none)] 95), (sb b4 #[(.map none), (.map none)] 95)] ∧ Mem.le F1 F2 ∧ f.d = [] ∧ f 2 = (.pointer (some ⟨b4, 0, none⟩)) ∧ f 3 = (.pointer (some ⟨b7, 0, none⟩)) ∧ f 4 = (vi r10)) (fun wd20 hw21 => ?_) ?_
  ·refine Dt 2 14 30 _ (fun _ hq => mv 5 (vi r10)) ?_
   refine DWP.two (i := 0) (j := 1) (by kernel_rfl) ?_ ?_
   ·refine DStep.val (l' := [true, false, true, false, false, false]) (zd := true) (by kernel_rfl) (by kernel_rfl) (dst := (some 12)) (ty := 95) (g := none) (by kernel_rfl) rfl (run_load' (t := 95) (x := (.tmp 2)) (b := b4) (o := 0) (g := true) (s := 2) (C := #[(.map none), (.map none)]) (v := (.agg #[(.map none), (.map none)])) rfl (by kernel_rfl) (hw21.ownAt (k := 1) rfl) rfl rfl rfl) (dz_of hw21 (Mem.le.refl _) (by simp) (fun e => by cases e)) ?_
    refine DWP.two (i := 1) (j := 3) (by kernel_rfl) ?_ ?_
    ·refine DStep.val (l' := [true, true, true, false, false, false]) (zd := true) (by kernel_rfl) (by kernel_rfl) (dst := (some 13)) (ty := 95) (g := none) (by kernel_rfl) rfl (run_load' (t := 95) (x := (.tmp 3)) (b := b7) (o := 0) (g := true) (s := 2) (C := #[(.map none), (.map none)]) (v := (.agg #[(.map none), (.map none)])) rfl (by kernel_rfl) (hw21.ownAt (k := 0) rfl) rfl rfl rfl) (dz_of hw21 (Mem.le.refl _) (by simp) (fun e => by cases e)) ?_
     refine DWP.one (i := 3) (by kernel_rfl) ?_
     refine DStep.store (l' := [true, true, true, true, false, false]) (zd := true) (by kernel_rfl) (by kernel_rfl) (ty := 0) (g := none) (by kernel_rfl) rfl (x := (.tmp 2)) (y := (.tmp 12)) (t := 95) (gg := true) (s := 2) (v := (.agg #[(.map none), (.map none)])) (b := b4) (o := 0) (C := #[(.map none), (.map none)]) rfl rfl (by kernel_rfl) hw21 (k := 1) rfl rfl rfl rfl (C' := #[(.map none), (.map none)]) rfl (Mem.le.refl _) (by simp) (fun e => by cases e) (fun w29 (hs30 : HS w0 F0 w29 F1 [(sb b7 #[(.map none), (.map none)] 95), (sb b4 #[(.map none), (.map none)] 95), (sb b1 (kSystem x0 a0_0 n0_0 a0_1 n0_1) 25)]) => ?_)
     refine DWP.one (i := 4) (by kernel_rfl) ?_
     refine DStep.store (l' := [true, true, true, true, true, false]) (zd := true) (by kernel_rfl) (by kernel_rfl) (ty := 0) (g := none) (by kernel_rfl) rfl (x := (.tmp 3)) (y := (.tmp 13)) (t := 95) (gg := true) (s := 2) (v := (.agg #[(.map none), (.map none)])) (b := b7) (o := 0) (C := #[(.map none), (.map none)]) rfl rfl (by kernel_rfl) hs30 (k := 0) rfl rfl rfl rfl (C' := #[(.map none), (.map none)]) rfl (Mem.le.refl _) (by simp) (fun e => by cases e) (fun w31 (hs32 : HS w0 F0 w31 F1 [(sb b7 #[(.map none), (.map none)] 95), (sb b4 #[(.map none), (.map none)] 95), (sb b1 (kSystem x0 a0_0 n0_0 a0_1 n0_1) 25)]) => ?_)
     refine Dt 5 4 30 _ (fun _ hq => ma 14 (vi r10)) ?_
     have hs33 : HS w0 F0 w31 F1 [(sb b7 #[(.map none), (.map none)] 95), (sb b4 #[(.map none), (.map none)] 95)] := hs32.drop 2
     exact DWP.done (by kernel_rfl) ⟨F1, hs33, (Mem.le.refl _), rfl, rfl, rfl, rfl⟩
    ·refine DStep.store (l' := [true, false, true, true, false, false]) (zd := true) (by kernel_rfl) (by kernel_rfl) (ty := 0) (g := none) (by kernel_rfl) rfl (x := (.tmp 2)) (y := (.tmp 12)) (t := 95) (gg := true) (s := 2) (v := (.agg #[(.map none), (.map none)])) (b := b4) (o := 0) (C := #[(.map none), (.map none)]) rfl rfl (by kernel_rfl) hw21 (k := 1) rfl rfl rfl rfl (C' := #[(.map none), (.map none)]) rfl (Mem.le.refl _) (by simp) (fun e => by cases e) (fun w34 (hs35 : HS w0 F0 w34 F1 [(sb b7 #[(.map none), (.map none)] 95), (sb b4 #[(.map none), (.map none)] 95), (sb b1 (kSystem x0 a0_0 n0_0 a0_1 n0_1) 25)]) => ?_)
     refine DWP.one (i := 1) (by kernel_rfl) ?_
     refine DStep.val (l' := [true, true, true, true, false, false]) (zd := true) (by kernel_rfl) (by kernel_rfl) (dst := (some 13)) (ty := 95) (g := none) (by kernel_rfl) rfl (run_load' (t := 95) (x := (.tmp 3)) (b := b7) (o := 0) (g := true) (s := 2) (C := #[(.map none), (.map none)]) (v := (.agg #[(.map none), (.map none)])) rfl (by kernel_rfl) (hs35.ownAt (k := 0) rfl) rfl rfl rfl) (dz_of hs35 (Mem.le.refl _) (by simp) (fun e => by cases e)) ?_
     refine DWP.one (i := 4) (by kernel_rfl) ?_
     refine DStep.store (l' := [true, true, true, true, true, false]) (zd := true) (by kernel_rfl) (by kernel_rfl) (ty := 0) (g := none) (by kernel_rfl) rfl (x := (.tmp 3)) (y := (.tmp 13)) (t := 95) (gg := true) (s := 2) (v := (.agg #[(.map none), (.map none)])) (b := b7) (o := 0) (C := #[(.map none), (.map none)]) rfl rfl (by kernel_rfl) hs35 (k := 0) rfl rfl rfl rfl (C' := #[(.map none), (.map none)]) rfl (Mem.le.refl _) (by simp) (fun e => by cases e) (fun w36 (hs37 : HS w0 F0 w36 F1 [(sb b7 #[(.map none), (.map none)] 95), (sb b4 #[(.map none), (.map none)] 95), (sb b1 (kSystem x0 a0_0 n0_0 a0_1 n0_1) 25)]) => ?_)
     refine Dt 5 4 30 _ (fun _ hq => ma 14 (vi r10)) ?_
     have hs38 : HS w0 F0 w36 F1 [(sb b7 #[(.map none), (.map none)] 95), (sb b4 #[(.map none), (.map none)] 95)] := hs37.drop 2
     exact DWP.done (by kernel_rfl) ⟨F1, hs38, (Mem.le.refl _), rfl, rfl, rfl, rfl⟩
   ·refine DStep.val (l' := [false, true, true, false, false, false]) (zd := true) (by kernel_rfl) (by kernel_rfl) (dst := (some 13)) (ty := 95) (g := none) (by kernel_rfl) rfl (run_load' (t := 95) (x := (.tmp 3)) (b := b7) (o := 0) (g := true) (s := 2) (C := #[(.map none), (.map none)]) (v := (.agg #[(.map none), (.map none)])) rfl (by kernel_rfl) (hw21.ownAt (k := 0) rfl) rfl rfl rfl) (dz_of hw21 (Mem.le.refl _) (by simp) (fun e => by cases e)) ?_
    refine DWP.one (i := 0) (by kernel_rfl) ?_
    refine DStep.val (l' := [true, true, true, false, false, false]) (zd := true) (by kernel_rfl) (by kernel_rfl) (dst := (some 12)) (ty := 95) (g := none) (by kernel_rfl) rfl (run_load' (t := 95) (x := (.tmp 2)) (b := b4) (o := 0) (g := true) (s := 2) (C := #[(.map none), (.map none)]) (v := (.agg #[(.map none), (.map none)])) rfl (by kernel_rfl) (hw21.ownAt (k := 1) rfl) rfl rfl rfl) (dz_of hw21 (Mem.le.refl _) (by simp) (fun e => by cases e)) ?_
    refine DWP.one (i := 3) (by kernel_rfl) ?_
    refine DStep.store (l' := [true, true, true, true, false, false]) (zd := true) (by kernel_rfl) (by kernel_rfl) (ty := 0) (g := none) (by kernel_rfl) rfl (x := (.tmp 2)) (y := (.tmp 12)) (t := 95) (gg := true) (s := 2) (v := (.agg #[(.map none), (.map none)])) (b := b4) (o := 0) (C := #[(.map none), (.map none)]) rfl rfl (by kernel_rfl) hw21 (k := 1) rfl rfl rfl rfl (C' := #[(.map none), (.map none)]) rfl (Mem.le.refl _) (by simp) (fun e => by cases e) (fun w39 (hs40 : HS w0 F0 w39 F1 [(sb b7 #[(.map none), (.map none)] 95), (sb b4 #[(.map none), (.map none)] 95), (sb b1 (kSystem x0 a0_0 n0_0 a0_1 n0_1) 25)]) => ?_)
    refine DWP.one (i := 4) (by kernel_rfl) ?_
    refine DStep.store (l' := [true, true, true, true, true, false]) (zd := true) (by kernel_rfl) (by kernel_rfl) (ty := 0) (g := none) (by kernel_rfl) rfl (x := (.tmp 3)) (y := (.tmp 13)) (t := 95) (gg := true) (s := 2) (v := (.agg #[(.map none), (.map none)])) (b := b7) (o := 0) (C := #[(.map none), (.map none)]) rfl rfl (by kernel_rfl) hs40 (k := 0) rfl rfl rfl rfl (C' := #[(.map none), (.map none)]) rfl (Mem.le.refl _) (by simp) (fun e => by cases e) (fun w41 (hs42 : HS w0 F0 w41 F1 [(sb b7 #[(.map none), (.map none)] 95), (sb b4 #[(.map none), (.map none)] 95), (sb b1 (kSystem x0 a0_0 n0_0 a0_1 n0_1) 25)]) => ?_)
    refine Dt 5 4 30 _ (fun _ hq => ma 14 (vi r10)) ?_
    have hs43 : HS w0 F0 w41 F1 [(sb b7 #[(.map none), (.map none)] 95), (sb b4 #[(.map none), (.map none)] 95)] := hs42.drop 2
    exact DWP.done (by kernel_rfl) ⟨F1, hs43, (Mem.le.refl _), rfl, rfl, rfl, rfl⟩
  ·rintro f w22 ⟨F2, hs23, le24, e25, e26, e27, e28⟩
   refine thenQ_nrm ?_
   refine CWP.ret (by kernel_rfl) ?_
   refine thenQ_ret ?_
   have hfin := some_inj h19
   subst hfin
   exact ⟨e25, (.tuple #[(.agg #[(.map none), (.map none)]), (.agg #[(.map none), (.map none)]), (vi r10)]), res_of (l := [.cell 2 95, .cell 3 95, .tmp 4]) (by kernel_rfl) (vs := [(.agg #[(.map none), (.map none)]), (.agg #[(.map none), (.map none)]), (vi r10)]) ⟨b4, 0, e26, run_loadVar' (t := 95) (g := true) (s := 2) (by kernel_rfl) (hs23.ownAt (k := 1) rfl) rfl (by decide), ⟨b7, 0, e27, run_loadVar' (t := 95) (g := true) (s := 2) (by kernel_rfl) (hs23.ownAt (k := 0) rfl) rfl (by decide), ⟨e28, trivial⟩⟩⟩, (.tuple #[(.agg #[(.map none), (.map none)]), (.agg #[(.map none), (.map none)]), (vi r10)]), F2, rfl, hs23.clear, ⟨none, none, none, none, rfl, MpA.nil, MpA.nil, MpA.nil, MpA.nil⟩⟩
 ·have h44 := cond_f h12 hb18
  refine Sc ?_
  refine thenQ_nrm ?_
  refine Sq (Rg [0, 1, 2, 3, 4] ?_)
  refine V 15 25 (ld 25 1 b1 0 true 3 (.agg (kSystem x0 a0_0 n0_0 a0_1 n0_1)) (hs15.ownAt (k := 2) rfl)) ?_
  obtain ⟨r45, hr46, h47⟩ := bind_some h44
  refine Cl 16 105 76 #[(.tmp 15)] #[25] co_clocks_bounds hs15 (c_clocks_bounds N w14 F1 hs15.pers (x0) a0_0 n0_0 hb0_0 (SlA.mono hs0_0 le16) a0_1 n0_1 hb0_1 (SlA.mono hs0_1 le16) _ hr46) ?_
  intro v48 F3 w49 hs50 le51 hp52
  obtain ⟨ar45_0_0_0, nr45_0_0_0, ar45_0_0_1, nr45_0_0_1, br45_0_0, rfl, hbr45_0_0_0, hsr45_0_0_0, hbr45_0_0_1, hsr45_0_0_1, hFr45_0_0⟩ := hp52
  obtain ⟨r53, hr54, h55⟩ := bind_some h47
  refine Cl 17 57 75 #[(.tmp 16)] #[105] co_slices_Collect_api_Bound hs50 (c_slices_Collect_api_Bound N w49 F3 hs50.pers (r45) ar45_0_0_0 nr45_0_0_0 hbr45_0_0_0 hsr45_0_0_0 ar45_0_0_1 nr45_0_0_1 hbr45_0_0_1 hsr45_0_0_1 br45_0_0 hFr45_0_0 _ hr54) ?_
  intro v56 F4 w57 hs58 le59 hp60
  obtain ⟨ar53_0_0, nr53_0_0, rfl, hbr53_0_0, hsr53_0_0⟩ := hp60
  refine RWP.alloc (dst := (some 6)) (ty := 0) (g := none) (by kernel_rfl) rfl (t := 57) (z := (.slice none ([] : List Bound).length 0)) (by kernel_rfl) (C := #[(.slice none ([] : List Bound).length 0)]) rfl hs58 (fun b61 w62 (hs63 : HS w0 F0 w62 F4 [(sb b61 #[(.slice none ([] : List Bound).length 0)] 57), (sb b7 #[(.map none), (.map none)] 95), (sb b4 #[(.map none), (.map none)] 95), (sb b1 (kSystem x0 a0_0 n0_0 a0_1 n0_1) 25)]) => ?_)
  refine RWP.store (ty := 0) (g := none) (by kernel_rfl) rfl (x := (.tmp 6)) (y := (.tmp 17)) (t := 57) (gg := false) (s := 1) (v := (.slice ar53_0_0 r53.length nr53_0_0)) (b := b61) (o := 0) (C := #[(.slice none ([] : List Bound).length 0)]) rfl rfl (by kernel_rfl) hs63 (k := 0) rfl rfl rfl rfl (C' := #[(.slice ar53_0_0 r53.length nr53_0_0)]) rfl (fun w64 (hs65 : HS w0 F0 w64 F4 [(sb b61 #[(.slice ar53_0_0 r53.length nr53_0_0)] 57), (sb b7 #[(.map none), (.map none)] 95), (sb b4 #[(.map none), (.map none)] 95), (sb b1 (kSystem x0 a0_0 n0_0 a0_1 n0_1) 25)]) => ?_)
  refine Nss (Rg [0, 1, 2] ?_)
  refine V 18 1 (run_makeFunc (fn := .func 116) (first := #[]) (cap := #[(.tmp 6), (.tmp 2), (.tmp 3)]) (fl := []) (cl := [(.pointer (some ⟨b61, 0, none⟩)), (.pointer (some ⟨b4, 0, none⟩)), (.pointer (some ⟨b7, 0, none⟩))]) rfl (rfl)) ?_
  obtain ⟨F5, hs66, le67, hF68⟩ : ∃ Fq, HS w0 F0 w64 Fq [(sb b7 #[(.map none), (.map none)] 95), (sb b4 #[(.map none), (.map none)] 95), (sb b1 (kSystem x0 a0_0 n0_0 a0_1 n0_1) 25)] ∧ Mem.le F4 Fq ∧ Fq b61 = some (oc #[(.slice ar53_0_0 r53.length nr53_0_0)] 57) := HS.freezeC hs65 (k := 0) rfl
  have hs69 : HS w0 F0 w64 F5 [(sb b1 (kSystem x0 a0_0 n0_0 a0_1 n0_1) 25), (sb b7 #[(.map none), (.map none)] 95), (sb b4 #[(.map none), (.map none)] 95)] := hs66.pick (k := 2) rfl
  have hs70 : HS w0 F0 w64 F5 [(sb b7 #[(.map none), (.map none)] 95), (sb b1 (kSystem x0 a0_0 n0_0 a0_1 n0_1) 25), (sb b4 #[(.map none), (.map none)] 95)] := hs69.pick (k := 1) rfl
  have hs71 : HS w0 F0 w64 F5 [(sb b4 #[(.map none), (.map none)] 95), (sb b7 #[(.map none), (.map none)] 95), (sb b1 (kSystem x0 a0_0 n0_0 a0_1 n0_1) 25)] := hs70.pick (k := 2) rfl
  obtain ⟨q72, hq73, h74⟩ := bind_some h55
  refine RWP.callS (dst := (some 19)) (ty := 57) (g := none) (by kernel_rfl) rfl (f0 := (.func 115)) (aos := #[(.tmp 18)]) (ats := #[1]) (fid := 115) (first := #[]) (cap := #[]) (args := [(.func (.func 116) #[] #[(.pointer (some ⟨b61, 0, none⟩)), (.pointer (some ⟨b4, 0, none⟩)), (.pointer (some ⟨b7, 0, none⟩))])]) rfl co_clocks_closing (rfl) (c_clocks_closing (hs := hs71) (g := 116) (cap := [(.pointer (some ⟨b61, 0, none⟩)), (.pointer (some ⟨b4, 0, none⟩)), (.pointer (some ⟨b7, 0, none⟩))]) co_clocks_solved_1 (fun o F' Lf' => ∃ p1 p2 p3 p4, Lf' = (some b4, mapsO p1 p2) :: (some b7, mapsO p3 p4) :: [(sb b1 (kSystem x0 a0_0 n0_0 a0_1 n0_1) 25)] ∧ match o with
   | none => ∃ x y, q72 = .inr (x, y) ∧ MpA tRef tInt F' p1 x.at_ ∧ MpA tRef tBound F' p2 x.by_ ∧ MpA tRef tInt F' p3 y.at_ ∧ MpA tRef tBound F' p4 y.by_
   | some (a, n, c) => ∃ b x0, q72 = .inl (b, x0) ∧ n = b.loop_.length ∧ LC b.loop_.length c ∧ SlA tBound F' a b.loop_ ∧ b.loop_ ≠ [] ∧ p3 = none ∧ p4 = none ∧ MpA tRef tInt F' p1 x0.at_ ∧ MpA tRef tBound F' p2 x0.by_) ?_) ?_
  ·intro w2 b hs3
   refine (c_clocks_solved_1 N b61 b4 b7 r53 ar53_0_0 nr53_0_0 hbr53_0_0 (SlA.mono hsr53_0_0 le67) hF68 hs3 q72 hq73).mono ?_
   rintro e w3 (⟨x, y, F2, p1, p2, p3, p4, rfl, rfl, hs4, hle, hm1, hm2, hm3, hm4⟩ | ⟨b', x0, a', n', F2, p1, p2, rfl, rfl, hs4, hle, h1, h2, h3, hm1, hm2⟩)
   · exact .inl ⟨_, F2, _, rfl, hs4, hle, p1, p2, p3, p4, rfl, x, y, rfl, hm1, hm2, hm3, hm4⟩
   · exact .inr ⟨a', _, n', F2, _, rfl, hs4, hle, p1, p2, none, none, rfl, b', x0, rfl, rfl, h1, h2, h3, rfl, rfl, hm1, hm2⟩
  ·rintro _ w75 ⟨o83, F6, _, rfl, hs76, le77, p79, p80, p81, p82, rfl, hK78⟩
   refine ⟨_, rfl, ?_⟩
   rcases o83 with _ | ⟨ao, no, co⟩
   ·obtain ⟨x84, y85, rfl, hm86, hm87, hm88, hm89⟩ := hK78
    have h90 := sk_r h74
    have hs91 : HS w0 F0 w75 F6 [(sb b4 #[(.map p79), (.map p80)] 95), (sb b7 #[(.map p81), (.map p82)] 95), (sb b1 (kSystem x0 a0_0 n0_0 a0_1 n0_1) 25)] := hs76
    refine V 7 57 (ma 19 (.slice none ([] : List Bound).length 0)) ?_
    refine Nss ?_
    refine Sq (Rg [0, 1] ?_)
    refine V 20 57 (mv 7 (.slice none ([] : List Bound).length 0)) ?_
    refine V 21 4 (run_nenil (e := 103) (t := 57) (t' := 57) (x := (.tmp 20)) (y := (.const (.slice none 0 0))) rfl rfl (by kernel_rfl)) ?_
    refine Nt ?_
    refine CWP.cond0 (t := false) (by kernel_rfl) rfl rfl ?_
    refine Sc ?_
    refine thenQ_nrm ?_
    refine Sq ?_
    refine CWP.regionD (by kernel_rfl) (by kernel_rfl) (by kernel_rfl) (by kernel_rfl) (z := 5) (F := F6) (Lc := [(sb b1 (kSystem x0 a0_0 n0_0 a0_1 n0_1) 25)]) (Lz := []) (l := [false, false, false, false, false]) (fuel := 5) (by kernel_rfl) (by kernel_rfl) hs91 (by simp) (by simp) (fun f w => ∃ (F7 : Mem), HS w0 F0 w F7 [(sb b4 #[(.map p79), (.map p80)] 95), (sb b7 #[(.map p81), (.map p82)] 95)] ∧ Mem.le F6 F7 ∧ f.d = [] ∧ f 2 = (.pointer (some ⟨b4, 0, none⟩)) ∧ f 3 = (.pointer (some ⟨b7, 0, none⟩)) ∧ f 4 = (vi 0)) (fun wd92 hw93 => ?_) ?_
    ·refine DWP.two (i := 0) (j := 1) (by kernel_rfl) ?_ ?_
     ·refine DStep.val (l' := [true, false, false, false, false]) (zd := true) (by kernel_rfl) (by kernel_rfl) (dst := (some 24)) (ty := 95) (g := none) (by kernel_rfl) rfl (run_load' (t := 95) (x := (.tmp 2)) (b := b4) (o := 0) (g := true) (s := 2) (C := #[(.map p79), (.map p80)]) (v := (.agg #[(.map p79), (.map p80)])) rfl (by kernel_rfl) (hw93.ownAt (k := 0) rfl) rfl rfl rfl) (dz_of hw93 (Mem.le.refl _) (by simp) (fun e => by cases e)) ?_
      refine DWP.two (i := 1) (j := 2) (by kernel_rfl) ?_ ?_
      ·refine DStep.val (l' := [true, true, false, false, false]) (zd := true) (by kernel_rfl) (by kernel_rfl) (dst := (some 25)) (ty := 95) (g := none) (by kernel_rfl) rfl (run_load' (t := 95) (x := (.tmp 3)) (b := b7) (o := 0) (g := true) (s := 2) (C := #[(.map p81), (.map p82)]) (v := (.agg #[(.map p81), (.map p82)])) rfl (by kernel_rfl) (hw93.ownAt (k := 1) rfl) rfl rfl rfl) (dz_of hw93 (Mem.le.refl _) (by simp) (fun e => by cases e)) ?_
       refine DWP.one (i := 2) (by kernel_rfl) ?_
       refine DStep.store (l' := [true, true, true, false, false]) (zd := true) (by kernel_rfl) (by kernel_rfl) (ty := 0) (g := none) (by kernel_rfl) rfl (x := (.tmp 2)) (y := (.tmp 24)) (t := 95) (gg := true) (s := 2) (v := (.agg #[(.map p79), (.map p80)])) (b := b4) (o := 0) (C := #[(.map p79), (.map p80)]) rfl rfl (by kernel_rfl) hw93 (k := 0) rfl rfl rfl rfl (C' := #[(.map p79), (.map p80)]) rfl (Mem.le.refl _) (by simp) (fun e => by cases e) (fun w101 (hs102 : HS w0 F0 w101 F6 [(sb b4 #[(.map p79), (.map p80)] 95), (sb b7 #[(.map p81), (.map p82)] 95), (sb b1 (kSystem x0 a0_0 n0_0 a0_1 n0_1) 25)]) => ?_)
       refine DWP.one (i := 3) (by kernel_rfl) ?_
       refine DStep.store (l' := [true, true, true, true, false]) (zd := true) (by kernel_rfl) (by kernel_rfl) (ty := 0) (g := none) (by kernel_rfl) rfl (x := (.tmp 3)) (y := (.tmp 25)) (t := 95) (gg := true) (s := 2) (v := (.agg #[(.map p81), (.map p82)])) (b := b7) (o := 0) (C := #[(.map p81), (.map p82)]) rfl rfl (by kernel_rfl) hs102 (k := 1) rfl rfl rfl rfl (C' := #[(.map p81), (.map p82)]) rfl (Mem.le.refl _) (by simp) (fun e => by cases e) (fun w103 (hs104 : HS w0 F0 w103 F6 [(sb b4 #[(.map p79), (.map p80)] 95), (sb b7 #[(.map p81), (.map p82)] 95), (sb b1 (kSystem x0 a0_0 n0_0 a0_1 n0_1) 25)]) => ?_)
       refine Dt 4 4 30 _ (fun _ hq => mc (vi 0) (vi 0)) ?_
       have hs105 : HS w0 F0 w103 F6 [(sb b4 #[(.map p79), (.map p80)] 95), (sb b7 #[(.map p81), (.map p82)] 95)] := hs104.drop 2
       exact DWP.done (by kernel_rfl) ⟨F6, hs105, (Mem.le.refl _), rfl, rfl, rfl, rfl⟩
      ·refine DStep.store (l' := [true, false, true, false, false]) (zd := true) (by kernel_rfl) (by kernel_rfl) (ty := 0) (g := none) (by kernel_rfl) rfl (x := (.tmp 2)) (y := (.tmp 24)) (t := 95) (gg := true) (s := 2) (v := (.agg #[(.map p79), (.map p80)])) (b := b4) (o := 0) (C := #[(.map p79), (.map p80)]) rfl rfl (by kernel_rfl) hw93 (k := 0) rfl rfl rfl rfl (C' := #[(.map p79), (.map p80)]) rfl (Mem.le.refl _) (by simp) (fun e => by cases e) (fun w106 (hs107 : HS w0 F0 w106 F6 [(sb b4 #[(.map p79), (.map p80)] 95), (sb b7 #[(.map p81), (.map p82)] 95), (sb b1 (kSystem x0 a0_0 n0_0 a0_1 n0_1) 25)]) => ?_)
       refine DWP.one (i := 1) (by kernel_rfl) ?_
       refine DStep.val (l' := [true, true, true, false, false]) (zd := true) (by kernel_rfl) (by kernel_rfl) (dst := (some 25)) (ty := 95) (g := none) (by kernel_rfl) rfl (run_load' (t := 95) (x := (.tmp 3)) (b := b7) (o := 0) (g := true) (s := 2) (C := #[(.map p81), (.map p82)]) (v := (.agg #[(.map p81), (.map p82)])) rfl (by kernel_rfl) (hs107.ownAt (k := 1) rfl) rfl rfl rfl) (dz_of hs107 (Mem.le.refl _) (by simp) (fun e => by cases e)) ?_
       refine DWP.one (i := 3) (by kernel_rfl) ?_
       refine DStep.store (l' := [true, true, true, true, false]) (zd := true) (by kernel_rfl) (by kernel_rfl) (ty := 0) (g := none) (by kernel_rfl) rfl (x := (.tmp 3)) (y := (.tmp 25)) (t := 95) (gg := true) (s := 2) (v := (.agg #[(.map p81), (.map p82)])) (b := b7) (o := 0) (C := #[(.map p81), (.map p82)]) rfl rfl (by kernel_rfl) hs107 (k := 1) rfl rfl rfl rfl (C' := #[(.map p81), (.map p82)]) rfl (Mem.le.refl _) (by simp) (fun e => by cases e) (fun w108 (hs109 : HS w0 F0 w108 F6 [(sb b4 #[(.map p79), (.map p80)] 95), (sb b7 #[(.map p81), (.map p82)] 95), (sb b1 (kSystem x0 a0_0 n0_0 a0_1 n0_1) 25)]) => ?_)
       refine Dt 4 4 30 _ (fun _ hq => mc (vi 0) (vi 0)) ?_
       have hs110 : HS w0 F0 w108 F6 [(sb b4 #[(.map p79), (.map p80)] 95), (sb b7 #[(.map p81), (.map p82)] 95)] := hs109.drop 2
       exact DWP.done (by kernel_rfl) ⟨F6, hs110, (Mem.le.refl _), rfl, rfl, rfl, rfl⟩
     ·refine DStep.val (l' := [false, true, false, false, false]) (zd := true) (by kernel_rfl) (by kernel_rfl) (dst := (some 25)) (ty := 95) (g := none) (by kernel_rfl) rfl (run_load' (t := 95) (x := (.tmp 3)) (b := b7) (o := 0) (g := true) (s := 2) (C := #[(.map p81), (.map p82)]) (v := (.agg #[(.map p81), (.map p82)])) rfl (by kernel_rfl) (hw93.ownAt (k := 1) rfl) rfl rfl rfl) (dz_of hw93 (Mem.le.refl _) (by simp) (fun e => by cases e)) ?_
      refine DWP.one (i := 0) (by kernel_rfl) ?_
      refine DStep.val (l' := [true, true, false, false, false]) (zd := true) (by kernel_rfl) (by kernel_rfl) (dst := (some 24)) (ty := 95) (g := none) (by kernel_rfl) rfl (run_load' (t := 95) (x := (.tmp 2)) (b := b4) (o := 0) (g := true) (s := 2) (C := #[(.map p79), (.map p80)]) (v := (.agg #[(.map p79), (.map p80)])) rfl (by kernel_rfl) (hw93.ownAt (k := 0) rfl) rfl rfl rfl) (dz_of hw93 (Mem.le.refl _) (by simp) (fun e => by cases e)) ?_
      refine DWP.one (i := 2) (by kernel_rfl) ?_
      refine DStep.store (l' := [true, true, true, false, false]) (zd := true) (by kernel_rfl) (by kernel_rfl) (ty := 0) (g := none) (by kernel_rfl) rfl (x := (.tmp 2)) (y := (.tmp 24)) (t := 95) (gg := true) (s := 2) (v := (.agg #[(.map p79), (.map p80)])) (b := b4) (o := 0) (C := #[(.map p79), (.map p80)]) rfl rfl (by kernel_rfl) hw93 (k := 0) rfl rfl rfl rfl (C' := #[(.map p79), (.map p80)]) rfl (Mem.le.refl _) (by simp) (fun e => by cases e) (fun w111 (hs112 : HS w0 F0 w111 F6 [(sb b4 #[(.map p79), (.map p80)] 95), (sb b7 #[(.map p81), (.map p82)] 95), (sb b1 (kSystem x0 a0_0 n0_0 a0_1 n0_1) 25)]) => ?_)
      refine DWP.one (i := 3) (by kernel_rfl) ?_
      refine DStep.store (l' := [true, true, true, true, false]) (zd := true) (by kernel_rfl) (by kernel_rfl) (ty := 0) (g := none) (by kernel_rfl) rfl (x := (.tmp 3)) (y := (.tmp 25)) (t := 95) (gg := true) (s := 2) (v := (.agg #[(.map p81), (.map p82)])) (b := b7) (o := 0) (C := #[(.map p81), (.map p82)]) rfl rfl (by kernel_rfl) hs112 (k := 1) rfl rfl rfl rfl (C' := #[(.map p81), (.map p82)]) rfl (Mem.le.refl _) (by simp) (fun e => by cases e) (fun w113 (hs114 : HS w0 F0 w113 F6 [(sb b4 #[(.map p79), (.map p80)] 95), (sb b7 #[(.map p81), (.map p82)] 95), (sb b1 (kSystem x0 a0_0 n0_0 a0_1 n0_1) 25)]) => ?_)
      refine Dt 4 4 30 _ (fun _ hq => mc (vi 0) (vi 0)) ?_
      have hs115 : HS w0 F0 w113 F6 [(sb b4 #[(.map p79), (.map p80)] 95), (sb b7 #[(.map p81), (.map p82)] 95)] := hs114.drop 2
      exact DWP.done (by kernel_rfl) ⟨F6, hs115, (Mem.le.refl _), rfl, rfl, rfl, rfl⟩
    ·rintro f w94 ⟨F7, hs95, le96, e97, e98, e99, e100⟩
     refine thenQ_nrm ?_
     refine CWP.ret (by kernel_rfl) ?_
     have hfin := some_inj h90
     subst hfin
     exact ⟨e97, (.tuple #[(.agg #[(.map p79), (.map p80)]), (.agg #[(.map p81), (.map p82)]), (vi 0)]), res_of (l := [.cell 2 95, .cell 3 95, .tmp 4]) (by kernel_rfl) (vs := [(.agg #[(.map p79), (.map p80)]), (.agg #[(.map p81), (.map p82)]), (vi 0)]) ⟨b4, 0, e98, run_loadVar' (t := 95) (g := true) (s := 2) (by kernel_rfl) (hs95.ownAt (k := 0) rfl) rfl (by decide), ⟨b7, 0, e99, run_loadVar' (t := 95) (g := true) (s := 2) (by kernel_rfl) (hs95.ownAt (k := 1) rfl) rfl (by decide), ⟨e100, trivial⟩⟩⟩, (.tuple #[(.agg #[(.map p79), (.map p80)]), (.agg #[(.map p81), (.map p82)]), (vi 0)]), F7, rfl, hs95.clear, ⟨p79, p80, p81, p82, rfl, (MpA.mono hm86 le96), (MpA.mono hm87 le96), (MpA.mono hm88 le96), (MpA.mono hm89 le96)⟩⟩
   ·obtain ⟨b116, x117, rfl, rfl, hb118, hl119, hne120, rfl, rfl, hm121, hm122⟩ := hK78
    have h123 := sk_l h74
    have hs124 : HS w0 F0 w75 F6 [(sb b4 #[(.map p79), (.map p80)] 95), (sb b7 #[(.map none), (.map none)] 95), (sb b1 (kSystem x0 a0_0 n0_0 a0_1 n0_1) 25)] := hs76
    refine V 7 57 (ma 19 (.slice ao b116.loop_.length co)) ?_
    refine Nss ?_
    refine Sq (Rg [0, 1] ?_)
    refine V 20 57 (mv 7 (.slice ao b116.loop_.length co)) ?_
    refine V 21 4 (run_nenil' (e := 103) (t := 57) (t' := 57) (x := (.tmp 20)) (y := (.const (.slice none 0 0))) hl119 (fun e => absurd e hne120) rfl rfl (by kernel_rfl)) ?_
    refine Nt ?_
    refine CWP.cond (t := (!b116.loop_.isEmpty)) (by kernel_rfl) rfl (fun hb125 => ?_) (fun hb125 => ?_)
    ·have h126 := cond_t h123 hb125
     refine Sq ?_
     refine CWP.regionD (by kernel_rfl) (by kernel_rfl) (by kernel_rfl) (by kernel_rfl) (z := 5) (F := F6) (Lc := [(sb b1 (kSystem x0 a0_0 n0_0 a0_1 n0_1) 25)]) (Lz := []) (l := [false, false, false, false, false]) (fuel := 5) (by kernel_rfl) (by kernel_rfl) hs124 (by simp) (by simp) (fun f w => ∃ (F8 : Mem), HS w0 F0 w F8 [(sb b4 #[(.map p79), (.map p80)] 95), (sb b7 #[(.map none), (.map none)] 95)] ∧ Mem.le F6 F8 ∧ f.d = [] ∧ f 2 = (.pointer (some ⟨b4, 0, none⟩)) ∧ f 3 = (.pointer (some ⟨b7, 0, none⟩)) ∧ f 4 = (vi 31)) (fun wd127 hw128 => ?_) ?_
     ·refine DWP.two (i := 0) (j := 1) (by kernel_rfl) ?_ ?_
      ·refine DStep.val (l' := [true, false, false, false, false]) (zd := true) (by kernel_rfl) (by kernel_rfl) (dst := (some 22)) (ty := 95) (g := none) (by kernel_rfl) rfl (run_load' (t := 95) (x := (.tmp 2)) (b := b4) (o := 0) (g := true) (s := 2) (C := #[(.map p79), (.map p80)]) (v := (.agg #[(.map p79), (.map p80)])) rfl (by kernel_rfl) (hw128.ownAt (k := 0) rfl) rfl rfl rfl) (dz_of hw128 (Mem.le.refl _) (by simp) (fun e => by cases e)) ?_
       refine DWP.two (i := 1) (j := 2) (by kernel_rfl) ?_ ?_
       ·refine DStep.val (l' := [true, true, false, false, false]) (zd := true) (by kernel_rfl) (by kernel_rfl) (dst := (some 23)) (ty := 95) (g := none) (by kernel_rfl) rfl (run_load' (t := 95) (x := (.tmp 3)) (b := b7) (o := 0) (g := true) (s := 2) (C := #[(.map none), (.map none)]) (v := (.agg #[(.map none), (.map none)])) rfl (by kernel_rfl) (hw128.ownAt (k := 1) rfl) rfl rfl rfl) (dz_of hw128 (Mem.le.refl _) (by simp) (fun e => by cases e)) ?_
        refine DWP.one (i := 2) (by kernel_rfl) ?_
        refine DStep.store (l' := [true, true, true, false, false]) (zd := true) (by kernel_rfl) (by kernel_rfl) (ty := 0) (g := none) (by kernel_rfl) rfl (x := (.tmp 2)) (y := (.tmp 22)) (t := 95) (gg := true) (s := 2) (v := (.agg #[(.map p79), (.map p80)])) (b := b4) (o := 0) (C := #[(.map p79), (.map p80)]) rfl rfl (by kernel_rfl) hw128 (k := 0) rfl rfl rfl rfl (C' := #[(.map p79), (.map p80)]) rfl (Mem.le.refl _) (by simp) (fun e => by cases e) (fun w136 (hs137 : HS w0 F0 w136 F6 [(sb b4 #[(.map p79), (.map p80)] 95), (sb b7 #[(.map none), (.map none)] 95), (sb b1 (kSystem x0 a0_0 n0_0 a0_1 n0_1) 25)]) => ?_)
        refine DWP.one (i := 3) (by kernel_rfl) ?_
        refine DStep.store (l' := [true, true, true, true, false]) (zd := true) (by kernel_rfl) (by kernel_rfl) (ty := 0) (g := none) (by kernel_rfl) rfl (x := (.tmp 3)) (y := (.tmp 23)) (t := 95) (gg := true) (s := 2) (v := (.agg #[(.map none), (.map none)])) (b := b7) (o := 0) (C := #[(.map none), (.map none)]) rfl rfl (by kernel_rfl) hs137 (k := 1) rfl rfl rfl rfl (C' := #[(.map none), (.map none)]) rfl (Mem.le.refl _) (by simp) (fun e => by cases e) (fun w138 (hs139 : HS w0 F0 w138 F6 [(sb b4 #[(.map p79), (.map p80)] 95), (sb b7 #[(.map none), (.map none)] 95), (sb b1 (kSystem x0 a0_0 n0_0 a0_1 n0_1) 25)]) => ?_)
        refine Dt 4 4 30 _ (fun _ hq => mc (vi 31) (vi 31)) ?_
        have hs140 : HS w0 F0 w138 F6 [(sb b4 #[(.map p79), (.map p80)] 95), (sb b7 #[(.map none), (.map none)] 95)] := hs139.drop 2
        exact DWP.done (by kernel_rfl) ⟨F6, hs140, (Mem.le.refl _), rfl, rfl, rfl, rfl⟩
       ·refine DStep.store (l' := [true, false, true, false, false]) (zd := true) (by kernel_rfl) (by kernel_rfl) (ty := 0) (g := none) (by kernel_rfl) rfl (x := (.tmp 2)) (y := (.tmp 22)) (t := 95) (gg := true) (s := 2) (v := (.agg #[(.map p79), (.map p80)])) (b := b4) (o := 0) (C := #[(.map p79), (.map p80)]) rfl rfl (by kernel_rfl) hw128 (k := 0) rfl rfl rfl rfl (C' := #[(.map p79), (.map p80)]) rfl (Mem.le.refl _) (by simp) (fun e => by cases e) (fun w141 (hs142 : HS w0 F0 w141 F6 [(sb b4 #[(.map p79), (.map p80)] 95), (sb b7 #[(.map none), (.map none)] 95), (sb b1 (kSystem x0 a0_0 n0_0 a0_1 n0_1) 25)]) => ?_)
        refine DWP.one (i := 1) (by kernel_rfl) ?_
        refine DStep.val (l' := [true, true, true, false, false]) (zd := true) (by kernel_rfl) (by kernel_rfl) (dst := (some 23)) (ty := 95) (g := none) (by kernel_rfl) rfl (run_load' (t := 95) (x := (.tmp 3)) (b := b7) (o := 0) (g := true) (s := 2) (C := #[(.map none), (.map none)]) (v := (.agg #[(.map none), (.map none)])) rfl (by kernel_rfl) (hs142.ownAt (k := 1) rfl) rfl rfl rfl) (dz_of hs142 (Mem.le.refl _) (by simp) (fun e => by cases e)) ?_
        refine DWP.one (i := 3) (by kernel_rfl) ?_
        refine DStep.store (l' := [true, true, true, true, false]) (zd := true) (by kernel_rfl) (by kernel_rfl) (ty := 0) (g := none) (by kernel_rfl) rfl (x := (.tmp 3)) (y := (.tmp 23)) (t := 95) (gg := true) (s := 2) (v := (.agg #[(.map none), (.map none)])) (b := b7) (o := 0) (C := #[(.map none), (.map none)]) rfl rfl (by kernel_rfl) hs142 (k := 1) rfl rfl rfl rfl (C' := #[(.map none), (.map none)]) rfl (Mem.le.refl _) (by simp) (fun e => by cases e) (fun w143 (hs144 : HS w0 F0 w143 F6 [(sb b4 #[(.map p79), (.map p80)] 95), (sb b7 #[(.map none), (.map none)] 95), (sb b1 (kSystem x0 a0_0 n0_0 a0_1 n0_1) 25)]) => ?_)
        refine Dt 4 4 30 _ (fun _ hq => mc (vi 31) (vi 31)) ?_
        have hs145 : HS w0 F0 w143 F6 [(sb b4 #[(.map p79), (.map p80)] 95), (sb b7 #[(.map none), (.map none)] 95)] := hs144.drop 2
        exact DWP.done (by kernel_rfl) ⟨F6, hs145, (Mem.le.refl _), rfl, rfl, rfl, rfl⟩
      ·refine DStep.val (l' := [false, true, false, false, false]) (zd := true) (by kernel_rfl) (by kernel_rfl) (dst := (some 23)) (ty := 95) (g := none) (by kernel_rfl) rfl (run_load' (t := 95) (x := (.tmp 3)) (b := b7) (o := 0) (g := true) (s := 2) (C := #[(.map none), (.map none)]) (v := (.agg #[(.map none), (.map none)])) rfl (by kernel_rfl) (hw128.ownAt (k := 1) rfl) rfl rfl rfl) (dz_of hw128 (Mem.le.refl _) (by simp) (fun e => by cases e)) ?_
       refine DWP.one (i := 0) (by kernel_rfl) ?_
       refine DStep.val (l' := [true, true, false, false, false]) (zd := true) (by kernel_rfl) (by kernel_rfl) (dst := (some 22)) (ty := 95) (g := none) (by kernel_rfl) rfl (run_load' (t := 95) (x := (.tmp 2)) (b := b4) (o := 0) (g := true) (s := 2) (C := #[(.map p79), (.map p80)]) (v := (.agg #[(.map p79), (.map p80)])) rfl (by kernel_rfl) (hw128.ownAt (k := 0) rfl) rfl rfl rfl) (dz_of hw128 (Mem.le.refl _) (by simp) (fun e => by cases e)) ?_
       refine DWP.one (i := 2) (by kernel_rfl) ?_
       refine DStep.store (l' := [true, true, true, false, false]) (zd := true) (by kernel_rfl) (by kernel_rfl) (ty := 0) (g := none) (by kernel_rfl) rfl (x := (.tmp 2)) (y := (.tmp 22)) (t := 95) (gg := true) (s := 2) (v := (.agg #[(.map p79), (.map p80)])) (b := b4) (o := 0) (C := #[(.map p79), (.map p80)]) rfl rfl (by kernel_rfl) hw128 (k := 0) rfl rfl rfl rfl (C' := #[(.map p79), (.map p80)]) rfl (Mem.le.refl _) (by simp) (fun e => by cases e) (fun w146 (hs147 : HS w0 F0 w146 F6 [(sb b4 #[(.map p79), (.map p80)] 95), (sb b7 #[(.map none), (.map none)] 95), (sb b1 (kSystem x0 a0_0 n0_0 a0_1 n0_1) 25)]) => ?_)
       refine DWP.one (i := 3) (by kernel_rfl) ?_
       refine DStep.store (l' := [true, true, true, true, false]) (zd := true) (by kernel_rfl) (by kernel_rfl) (ty := 0) (g := none) (by kernel_rfl) rfl (x := (.tmp 3)) (y := (.tmp 23)) (t := 95) (gg := true) (s := 2) (v := (.agg #[(.map none), (.map none)])) (b := b7) (o := 0) (C := #[(.map none), (.map none)]) rfl rfl (by kernel_rfl) hs147 (k := 1) rfl rfl rfl rfl (C' := #[(.map none), (.map none)]) rfl (Mem.le.refl _) (by simp) (fun e => by cases e) (fun w148 (hs149 : HS w0 F0 w148 F6 [(sb b4 #[(.map p79), (.map p80)] 95), (sb b7 #[(.map none), (.map none)] 95), (sb b1 (kSystem x0 a0_0 n0_0 a0_1 n0_1) 25)]) => ?_)
       refine Dt 4 4 30 _ (fun _ hq => mc (vi 31) (vi 31)) ?_
       have hs150 : HS w0 F0 w148 F6 [(sb b4 #[(.map p79), (.map p80)] 95), (sb b7 #[(.map none), (.map none)] 95)] := hs149.drop 2
       exact DWP.done (by kernel_rfl) ⟨F6, hs150, (Mem.le.refl _), rfl, rfl, rfl, rfl⟩
     ·rintro f w129 ⟨F8, hs130, le131, e132, e133, e134, e135⟩
      refine thenQ_nrm ?_
      refine CWP.ret (by kernel_rfl) ?_
      refine thenQ_ret ?_
      have hfin := some_inj h126
      subst hfin
      exact ⟨e132, (.tuple #[(.agg #[(.map p79), (.map p80)]), (.agg #[(.map none), (.map none)]), (vi 31)]), res_of (l := [.cell 2 95, .cell 3 95, .tmp 4]) (by kernel_rfl) (vs := [(.agg #[(.map p79), (.map p80)]), (.agg #[(.map none), (.map none)]), (vi 31)]) ⟨b4, 0, e133, run_loadVar' (t := 95) (g := true) (s := 2) (by kernel_rfl) (hs130.ownAt (k := 0) rfl) rfl (by decide), ⟨b7, 0, e134, run_loadVar' (t := 95) (g := true) (s := 2) (by kernel_rfl) (hs130.ownAt (k := 1) rfl) rfl (by decide), ⟨e135, trivial⟩⟩⟩, (.tuple #[(.agg #[(.map p79), (.map p80)]), (.agg #[(.map none), (.map none)]), (vi 31)]), F8, rfl, hs130.clear, ⟨p79, p80, none, none, rfl, (MpA.mono hm121 le131), (MpA.mono hm122 le131), MpA.nil, MpA.nil⟩⟩
    ·have h151 := cond_f h123 hb125
     refine Sc ?_
     refine thenQ_nrm ?_
     refine Sq ?_
     refine CWP.regionD (by kernel_rfl) (by kernel_rfl) (by kernel_rfl) (by kernel_rfl) (z := 5) (F := F6) (Lc := [(sb b1 (kSystem x0 a0_0 n0_0 a0_1 n0_1) 25)]) (Lz := []) (l := [false, false, false, false, false]) (fuel := 5) (by kernel_rfl) (by kernel_rfl) hs124 (by simp) (by simp) (fun f w => ∃ (F9 : Mem), HS w0 F0 w F9 [(sb b4 #[(.map p79), (.map p80)] 95), (sb b7 #[(.map none), (.map none)] 95)] ∧ Mem.le F6 F9 ∧ f.d = [] ∧ f 2 = (.pointer (some ⟨b4, 0, none⟩)) ∧ f 3 = (.pointer (some ⟨b7, 0, none⟩)) ∧ f 4 = (vi 0)) (fun wd152 hw153 => ?_) ?_
     ·refine DWP.two (i := 0) (j := 1) (by kernel_rfl) ?_ ?_
      ·refine DStep.val (l' := [true, false, false, false, false]) (zd := true) (by kernel_rfl) (by kernel_rfl) (dst := (some 24)) (ty := 95) (g := none) (by kernel_rfl) rfl (run_load' (t := 95) (x := (.tmp 2)) (b := b4) (o := 0) (g := true) (s := 2) (C := #[(.map p79), (.map p80)]) (v := (.agg #[(.map p79), (.map p80)])) rfl (by kernel_rfl) (hw153.ownAt (k := 0) rfl) rfl rfl rfl) (dz_of hw153 (Mem.le.refl _) (by simp) (fun e => by cases e)) ?_
       refine DWP.two (i := 1) (j := 2) (by kernel_rfl) ?_ ?_
       ·refine DStep.val (l' := [true, true, false, false, false]) (zd := true) (by kernel_rfl) (by kernel_rfl) (dst := (some 25)) (ty := 95) (g := none) (by kernel_rfl) rfl (run_load' (t := 95) (x := (.tmp 3)) (b := b7) (o := 0) (g := true) (s := 2) (C := #[(.map none), (.map none)]) (v := (.agg #[(.map none), (.map none)])) rfl (by kernel_rfl) (hw153.ownAt (k := 1) rfl) rfl rfl rfl) (dz_of hw153 (Mem.le.refl _) (by simp) (fun e => by cases e)) ?_
        refine DWP.one (i := 2) (by kernel_rfl) ?_
        refine DStep.store (l' := [true, true, true, false, false]) (zd := true) (by kernel_rfl) (by kernel_rfl) (ty := 0) (g := none) (by kernel_rfl) rfl (x := (.tmp 2)) (y := (.tmp 24)) (t := 95) (gg := true) (s := 2) (v := (.agg #[(.map p79), (.map p80)])) (b := b4) (o := 0) (C := #[(.map p79), (.map p80)]) rfl rfl (by kernel_rfl) hw153 (k := 0) rfl rfl rfl rfl (C' := #[(.map p79), (.map p80)]) rfl (Mem.le.refl _) (by simp) (fun e => by cases e) (fun w161 (hs162 : HS w0 F0 w161 F6 [(sb b4 #[(.map p79), (.map p80)] 95), (sb b7 #[(.map none), (.map none)] 95), (sb b1 (kSystem x0 a0_0 n0_0 a0_1 n0_1) 25)]) => ?_)
        refine DWP.one (i := 3) (by kernel_rfl) ?_
        refine DStep.store (l' := [true, true, true, true, false]) (zd := true) (by kernel_rfl) (by kernel_rfl) (ty := 0) (g := none) (by kernel_rfl) rfl (x := (.tmp 3)) (y := (.tmp 25)) (t := 95) (gg := true) (s := 2) (v := (.agg #[(.map none), (.map none)])) (b := b7) (o := 0) (C := #[(.map none), (.map none)]) rfl rfl (by kernel_rfl) hs162 (k := 1) rfl rfl rfl rfl (C' := #[(.map none), (.map none)]) rfl (Mem.le.refl _) (by simp) (fun e => by cases e) (fun w163 (hs164 : HS w0 F0 w163 F6 [(sb b4 #[(.map p79), (.map p80)] 95), (sb b7 #[(.map none), (.map none)] 95), (sb b1 (kSystem x0 a0_0 n0_0 a0_1 n0_1) 25)]) => ?_)
        refine Dt 4 4 30 _ (fun _ hq => mc (vi 0) (vi 0)) ?_
        have hs165 : HS w0 F0 w163 F6 [(sb b4 #[(.map p79), (.map p80)] 95), (sb b7 #[(.map none), (.map none)] 95)] := hs164.drop 2
        exact DWP.done (by kernel_rfl) ⟨F6, hs165, (Mem.le.refl _), rfl, rfl, rfl, rfl⟩
       ·refine DStep.store (l' := [true, false, true, false, false]) (zd := true) (by kernel_rfl) (by kernel_rfl) (ty := 0) (g := none) (by kernel_rfl) rfl (x := (.tmp 2)) (y := (.tmp 24)) (t := 95) (gg := true) (s := 2) (v := (.agg #[(.map p79), (.map p80)])) (b := b4) (o := 0) (C := #[(.map p79), (.map p80)]) rfl rfl (by kernel_rfl) hw153 (k := 0) rfl rfl rfl rfl (C' := #[(.map p79), (.map p80)]) rfl (Mem.le.refl _) (by simp) (fun e => by cases e) (fun w166 (hs167 : HS w0 F0 w166 F6 [(sb b4 #[(.map p79), (.map p80)] 95), (sb b7 #[(.map none), (.map none)] 95), (sb b1 (kSystem x0 a0_0 n0_0 a0_1 n0_1) 25)]) => ?_)
        refine DWP.one (i := 1) (by kernel_rfl) ?_
        refine DStep.val (l' := [true, true, true, false, false]) (zd := true) (by kernel_rfl) (by kernel_rfl) (dst := (some 25)) (ty := 95) (g := none) (by kernel_rfl) rfl (run_load' (t := 95) (x := (.tmp 3)) (b := b7) (o := 0) (g := true) (s := 2) (C := #[(.map none), (.map none)]) (v := (.agg #[(.map none), (.map none)])) rfl (by kernel_rfl) (hs167.ownAt (k := 1) rfl) rfl rfl rfl) (dz_of hs167 (Mem.le.refl _) (by simp) (fun e => by cases e)) ?_
        refine DWP.one (i := 3) (by kernel_rfl) ?_
        refine DStep.store (l' := [true, true, true, true, false]) (zd := true) (by kernel_rfl) (by kernel_rfl) (ty := 0) (g := none) (by kernel_rfl) rfl (x := (.tmp 3)) (y := (.tmp 25)) (t := 95) (gg := true) (s := 2) (v := (.agg #[(.map none), (.map none)])) (b := b7) (o := 0) (C := #[(.map none), (.map none)]) rfl rfl (by kernel_rfl) hs167 (k := 1) rfl rfl rfl rfl (C' := #[(.map none), (.map none)]) rfl (Mem.le.refl _) (by simp) (fun e => by cases e) (fun w168 (hs169 : HS w0 F0 w168 F6 [(sb b4 #[(.map p79), (.map p80)] 95), (sb b7 #[(.map none), (.map none)] 95), (sb b1 (kSystem x0 a0_0 n0_0 a0_1 n0_1) 25)]) => ?_)
        refine Dt 4 4 30 _ (fun _ hq => mc (vi 0) (vi 0)) ?_
        have hs170 : HS w0 F0 w168 F6 [(sb b4 #[(.map p79), (.map p80)] 95), (sb b7 #[(.map none), (.map none)] 95)] := hs169.drop 2
        exact DWP.done (by kernel_rfl) ⟨F6, hs170, (Mem.le.refl _), rfl, rfl, rfl, rfl⟩
      ·refine DStep.val (l' := [false, true, false, false, false]) (zd := true) (by kernel_rfl) (by kernel_rfl) (dst := (some 25)) (ty := 95) (g := none) (by kernel_rfl) rfl (run_load' (t := 95) (x := (.tmp 3)) (b := b7) (o := 0) (g := true) (s := 2) (C := #[(.map none), (.map none)]) (v := (.agg #[(.map none), (.map none)])) rfl (by kernel_rfl) (hw153.ownAt (k := 1) rfl) rfl rfl rfl) (dz_of hw153 (Mem.le.refl _) (by simp) (fun e => by cases e)) ?_
       refine DWP.one (i := 0) (by kernel_rfl) ?_
       refine DStep.val (l' := [true, true, false, false, false]) (zd := true) (by kernel_rfl) (by kernel_rfl) (dst := (some 24)) (ty := 95) (g := none) (by kernel_rfl) rfl (run_load' (t := 95) (x := (.tmp 2)) (b := b4) (o := 0) (g := true) (s := 2) (C := #[(.map p79), (.map p80)]) (v := (.agg #[(.map p79), (.map p80)])) rfl (by kernel_rfl) (hw153.ownAt (k := 0) rfl) rfl rfl rfl) (dz_of hw153 (Mem.le.refl _) (by simp) (fun e => by cases e)) ?_
       refine DWP.one (i := 2) (by kernel_rfl) ?_
       refine DStep.store (l' := [true, true, true, false, false]) (zd := true) (by kernel_rfl) (by kernel_rfl) (ty := 0) (g := none) (by kernel_rfl) rfl (x := (.tmp 2)) (y := (.tmp 24)) (t := 95) (gg := true) (s := 2) (v := (.agg #[(.map p79), (.map p80)])) (b := b4) (o := 0) (C := #[(.map p79), (.map p80)]) rfl rfl (by kernel_rfl) hw153 (k := 0) rfl rfl rfl rfl (C' := #[(.map p79), (.map p80)]) rfl (Mem.le.refl _) (by simp) (fun e => by cases e) (fun w171 (hs172 : HS w0 F0 w171 F6 [(sb b4 #[(.map p79), (.map p80)] 95), (sb b7 #[(.map none), (.map none)] 95), (sb b1 (kSystem x0 a0_0 n0_0 a0_1 n0_1) 25)]) => ?_)
       refine DWP.one (i := 3) (by kernel_rfl) ?_
       refine DStep.store (l' := [true, true, true, true, false]) (zd := true) (by kernel_rfl) (by kernel_rfl) (ty := 0) (g := none) (by kernel_rfl) rfl (x := (.tmp 3)) (y := (.tmp 25)) (t := 95) (gg := true) (s := 2) (v := (.agg #[(.map none), (.map none)])) (b := b7) (o := 0) (C := #[(.map none), (.map none)]) rfl rfl (by kernel_rfl) hs172 (k := 1) rfl rfl rfl rfl (C' := #[(.map none), (.map none)]) rfl (Mem.le.refl _) (by simp) (fun e => by cases e) (fun w173 (hs174 : HS w0 F0 w173 F6 [(sb b4 #[(.map p79), (.map p80)] 95), (sb b7 #[(.map none), (.map none)] 95), (sb b1 (kSystem x0 a0_0 n0_0 a0_1 n0_1) 25)]) => ?_)
       refine Dt 4 4 30 _ (fun _ hq => mc (vi 0) (vi 0)) ?_
       have hs175 : HS w0 F0 w173 F6 [(sb b4 #[(.map p79), (.map p80)] 95), (sb b7 #[(.map none), (.map none)] 95)] := hs174.drop 2
       exact DWP.done (by kernel_rfl) ⟨F6, hs175, (Mem.le.refl _), rfl, rfl, rfl, rfl⟩
     ·rintro f w154 ⟨F9, hs155, le156, e157, e158, e159, e160⟩
      refine thenQ_nrm ?_
      refine CWP.ret (by kernel_rfl) ?_
      have hfin := some_inj h151
      subst hfin
      exact ⟨e157, (.tuple #[(.agg #[(.map p79), (.map p80)]), (.agg #[(.map none), (.map none)]), (vi 0)]), res_of (l := [.cell 2 95, .cell 3 95, .tmp 4]) (by kernel_rfl) (vs := [(.agg #[(.map p79), (.map p80)]), (.agg #[(.map none), (.map none)]), (vi 0)]) ⟨b4, 0, e158, run_loadVar' (t := 95) (g := true) (s := 2) (by kernel_rfl) (hs155.ownAt (k := 0) rfl) rfl (by decide), ⟨b7, 0, e159, run_loadVar' (t := 95) (g := true) (s := 2) (by kernel_rfl) (hs155.ownAt (k := 1) rfl) rfl (by decide), ⟨e160, trivial⟩⟩⟩, (.tuple #[(.agg #[(.map p79), (.map p80)]), (.agg #[(.map none), (.map none)]), (vi 0)]), F9, rfl, hs155.clear, ⟨p79, p80, none, none, rfl, (MpA.mono hm121 le156), (MpA.mono hm122 le156), MpA.nil, MpA.nil⟩⟩
end Go.Proofs.Ythbcnabeabcmlaa
namespace Go.Proofs.Ythbcnabeabcmlaa
open Go.Proofs
def clocks_Times_1 (N : Nat) (x0 : Ref) (z0 : Reached) (z1 : Reached) : Option Span :=
 some ({ Lo := (W64 (0 - (mgetD z0.at_ x0 0))), Hi := (mgetD z1.at_ x0 0) } : Span)
theorem co_clocks_Times_1 : CallOk Try.prog 73 := fun _ _ => by kernel_rfl
set_option maxHeartbeats 4000000 in
set_option maxRecDepth 100000 in
theorem c_clocks_Times_1 (N : Nat) (w0 : World) (F0 : Mem) (hF : ∀ b o, F0 b = some o → w0.heap[b]? = some o) (x0 : Ref) (bz0 : Nat) (z0 : Reached) (oz0_0 : Option Nat) (hmz0_0 : MpA tRef tInt F0 oz0_0 z0.at_) (oz0_1 : Option Nat) (hmz0_1 : MpA tRef tBound F0 oz0_1 z0.by_) (hz0 : F0 bz0 = some (oc #[(.map oz0_0), (.map oz0_1)] 95)) (bz1 : Nat) (z1 : Reached) (oz1_0 : Option Nat) (hmz1_0 : MpA tRef tInt F0 oz1_0 z1.at_) (oz1_1 : Option Nat) (hmz1_1 : MpA tRef tBound F0 oz1_1 z1.by_) (hz1 : F0 bz1 = some (oc #[(.map oz1_0), (.map oz1_1)] 95)) (r : Span) (h : clocks_Times_1 N x0 z0 z1 = some r) :
  Calls Try.prog 73 ([(.agg (kRef x0)), (.pointer (some ⟨bz0, 0, none⟩)), (.pointer (some ⟨bz1, 0, none⟩))] : List Value).toArray w0 (FRet w0 F0 fun F' v => v = (.agg (kSpan r))) := by
 have hs0 := HS.start hF
 refine calls_of (n := 15) (c := bodyOf Try.f73) Try.func73 (by kernel_rfl) (by kernel_rfl) (by kernel_rfl) ?_
 refine Sq (Rg [0, 1] ?_)
 refine Bx 3 0 0 27 (kRef x0) hs0 (fun b1 w2 (hs3 : HS w0 F0 w2 F0 [(sb b1 (kRef x0) 27)]) => ?_)
 refine Al 4 0 38 #[(vi 0), (vi 0)] hs3 (fun b4 w5 (hs6 : HS w0 F0 w5 F0 [(sb b4 #[(vi 0), (vi 0)] 38), (sb b1 (kRef x0) 27)]) => ?_)
 refine Nss ?_
 refine CWP.regionD (by kernel_rfl) (by kernel_rfl) (by kernel_rfl) (by kernel_rfl) (z := 10) (F := F0) (Lc := [(sb b1 (kRef x0) 27)]) (Lz := [(sb b4 #[(vi 0), (vi 0)] 38)]) (l := [false, false, false, false, false, false, false, false, false, false, false]) (fuel := 11) (by kernel_rfl) (by kernel_rfl) hs6 (by simp) (by simp) (fun f w => ∃ (F1 : Mem), HS w0 F0 w F1 [(sb b4 #[(vi (W64 (0 - (mgetD z0.at_ x0 0)))), (vi (mgetD z1.at_ x0 0))] 38)] ∧ Mem.le F0 F1 ∧ f.d = [] ∧ f 4 = (.pointer (some ⟨b4, 0, none⟩))) (fun wd7 hw8 => ?_) ?_
 ·refine Df 0 5 0 (.pointer (some ⟨bz0, 0, none⟩)) (fun _ hq => fa 95 1 0 0 1 bz0 0 0) ?_
  refine Df 1 6 92 _ (fun _ hq => ld 92 5 bz0 0 false 1 (.map oz0_0) (hq.1.1 _ _ hz0)) ?_
  refine Df 2 7 27 _ (fun _ hq => ld 27 3 b1 0 true 2 (.agg (kRef x0)) (hq.1.2 0 _ _ rfl)) ?_
  refine Df 3 8 3 (vi (mgetD z0.at_ x0 0)) (fun _ hq => run_lookV1 (mt := 92) (k := 27) (vt := 3) (m := (.tmp 6)) (x := (.tmp 7)) (kv := (.agg (kRef x0))) (kx := x0) (z := (vi 0)) (zx := 0) (K := tRef) (T := tInt) kl27 rfl rfl ⟨_, rfl, rfl⟩ (by kernel_rfl) (by kernel_rfl) ⟨_, rfl, rfl⟩ (MpA.mpw hq.1.1 hmz0_0) (fun h => by obtain ⟨_, rfl, rfl⟩ := h; rfl)) ?_
  refine Df 4 9 3 (vi (W64 (0 - (mgetD z0.at_ x0 0)))) (fun _ hq => run_neg (t := 3) (x := (.tmp 8)) (k := .i64) (a := (mgetD z0.at_ x0 0)) rfl) ?_
  refine Df 5 10 0 (.pointer (some ⟨bz1, 0, none⟩)) (fun _ hq => fa 95 2 0 0 1 bz1 0 0) ?_
  refine Df 6 11 92 _ (fun _ hq => ld 92 10 bz1 0 false 1 (.map oz1_0) (hq.1.1 _ _ hz1)) ?_
  refine Df 7 12 27 _ (fun _ hq => ld 27 3 b1 0 true 2 (.agg (kRef x0)) (hq.1.2 0 _ _ rfl)) ?_
  refine Df 8 13 3 (vi (mgetD z1.at_ x0 0)) (fun _ hq => run_lookV1 (mt := 92) (k := 27) (vt := 3) (m := (.tmp 11)) (x := (.tmp 12)) (kv := (.agg (kRef x0))) (kx := x0) (z := (vi 0)) (zx := 0) (K := tRef) (T := tInt) kl27 rfl rfl ⟨_, rfl, rfl⟩ (by kernel_rfl) (by kernel_rfl) ⟨_, rfl, rfl⟩ (MpA.mpw hq.1.1 hmz1_0) (fun h => by obtain ⟨_, rfl, rfl⟩ := h; rfl)) ?_
  refine Df 9 14 38 (.agg #[(vi (W64 (0 - (mgetD z0.at_ x0 0)))), (vi (mgetD z1.at_ x0 0))]) (fun _ hq => run_build2 (t := 38) (parts := #[(0, (.tmp 9)), (1, (.tmp 13))]) (vs := [(0, (vi (W64 (0 - (mgetD z0.at_ x0 0))))), (1, (vi (mgetD z1.at_ x0 0)))]) (rfl) (cs := [(vi (W64 (0 - (mgetD z0.at_ x0 0)))), (vi (mgetD z1.at_ x0 0))]) (by kernel_rfl)) ?_
  refine DWP.one (i := 10) (by kernel_rfl) ?_
  refine DStep.store (l' := [true, true, true, true, true, true, true, true, true, true, true]) (zd := true) (by kernel_rfl) (by kernel_rfl) (ty := 0) (g := none) (by kernel_rfl) rfl (x := (.tmp 4)) (y := (.tmp 14)) (t := 38) (gg := true) (s := 2) (v := (.agg #[(vi (W64 (0 - (mgetD z0.at_ x0 0)))), (vi (mgetD z1.at_ x0 0))])) (b := b4) (o := 0) (C := #[(vi 0), (vi 0)]) rfl rfl (by kernel_rfl) hw8 (k := 0) rfl rfl rfl rfl (C' := #[(vi (W64 (0 - (mgetD z0.at_ x0 0)))), (vi (mgetD z1.at_ x0 0))]) rfl (Mem.le.refl _) (by simp) (fun e => by cases e) (fun w14 (hs15 : HS w0 F0 w14 F0 [(sb b4 #[(vi (W64 (0 - (mgetD z0.at_ x0 0)))), (vi (mgetD z1.at_ x0 0))] 38), (sb b1 (kRef x0) 27)]) => ?_)
  have hs16 : HS w0 F0 w14 F0 [(sb b4 #[(vi (W64 (0 - (mgetD z0.at_ x0 0)))), (vi (mgetD z1.at_ x0 0))] 38)] := hs15.drop 1
  exact DWP.done (by kernel_rfl) ⟨F0, hs16, (Mem.le.refl _), rfl, rfl⟩
 ·rintro f w9 ⟨F1, hs10, le11, e12, e13⟩
  refine thenQ_nrm ?_
  refine CWP.ret (by kernel_rfl) ?_
  have hfin := some_inj h
  subst hfin
  exact ⟨e12, (.agg #[(vi (W64 (0 - (mgetD z0.at_ x0 0)))), (vi (mgetD z1.at_ x0 0))]), res_of (l := [.cell 4 38]) (by kernel_rfl) (vs := [(.agg #[(vi (W64 (0 - (mgetD z0.at_ x0 0)))), (vi (mgetD z1.at_ x0 0))])]) ⟨b4, 0, e13, run_loadVar' (t := 38) (g := true) (s := 2) (by kernel_rfl) (hs10.ownAt (k := 0) rfl) rfl (by decide), trivial⟩, (.agg #[(vi (W64 (0 - (mgetD z0.at_ x0 0)))), (vi (mgetD z1.at_ x0 0))]), F1, rfl, hs10.clear, rfl⟩
end Go.Proofs.Ythbcnabeabcmlaa
namespace Go.Proofs.Ythbcnabeabcmlaa
open Go.Proofs
def clocks_each_api_Span_L1 (N : Nat) (x1 : Ref → Option Span) (log : Int) (t : Track) : (Int × List Span) → Option (Flow (List (List Span)) (Int × List Span)) := fun s =>
 bif decide (s.1 < (t.Times.length : Int)) then ((x1 ({ Log := log, Line := s.1 } : Ref)).bind fun r => (apnd s.2 [r]).bind fun row => some (.next (W64 (s.1 + 1), row))) else some (.done s)
def clocks_each_api_Span_L0 (N : Nat) (x0 : System) (x1 : Ref → Option Span) : List (List Span) → Option (Flow (List (List Span)) (List (List Span))) := fun done =>
 bif decide ((done.length : Int) < (x0.Tracks.length : Int)) then ((idx x0.Tracks (done.length : Int)).bind fun t => (iter (clocks_each_api_Span_L1 N x1 (done.length : Int) t) N (0, [])).bind fun o => o.k (fun r => some (.ret r)) (fun s => some (.next (done ++ [s.2])))) else some (.done done)
def clocks_each_api_Span (N : Nat) (x0 : System) (x1 : Ref → Option Span) : Option (List (List Span)) :=
 (mk0 (GC.raw nilv : GC Span) (x0.Tracks.length : Int)).bind fun _ => (iter (clocks_each_api_Span_L0 N x0 x1) N []).bind fun o => o.k (fun r => some r) (fun done => some done)
theorem clocks_each_api_Span_inner {N : Nat} {x1 : Ref → Option Span} {log : Int} {t : Track} {m : Nat} {s : Int × List Span} {o : Flow (List (List Span)) (Int × List Span)} (h : iter (clocks_each_api_Span_L1 N x1 log t) m s = some o) : ∃ s', o = .done s' := by
 obtain ⟨s1, _, hb, hne⟩ := iter_inv (fun _ => True) (fun _ _ _ _ => trivial) trivial h
 unfold clocks_each_api_Span_L1 at hb
 rcases cond_some hb with ⟨_, hb⟩ | ⟨_, hb⟩
 ·obtain ⟨_, _, hb⟩ := bind_some hb
  obtain ⟨_, _, hb⟩ := bind_some hb
  cases hb
  exact absurd rfl (hne _)
 ·cases hb; exact ⟨_, rfl⟩
theorem co_clocks_each_api_Span : CallOk Try.prog 72 := fun _ _ => by kernel_rfl
set_option maxHeartbeats 4000000 in
set_option maxRecDepth 100000 in
theorem c_clocks_each_api_Span (N : Nat) (w0 : World) (F0 : Mem) (hF : ∀ b o, F0 b = some o → w0.heap[b]? = some o) (x0 : System) (a0_0 : Option Addr) (n0_0 : Nat) (hb0_0 : LC x0.Tracks.length n0_0) (hs0_0 : SlA tTrack F0 a0_0 x0.Tracks) (a0_1 : Option Addr) (n0_1 : Nat) (hb0_1 : LC x0.Ties.length n0_1) (hs0_1 : SlA tTie F0 a0_1 x0.Ties)
  (gx1 : FuncId) (fx1 kx1 : List Value) (x1 : Ref → Option Span) (hox1 : CallOk Try.prog gx1) (hpx1 : ∀ (w' : World) (F' : Mem) (y0 : Ref) (r : Span), Mem.le F0 F' → (∀ b o, F' b = some o → w'.heap[b]? = some o) → x1 y0 = some r → Calls Try.prog gx1 (fx1 ++ (([(.agg (kRef y0))] : List Value) ++ kx1)).toArray w' (FRet w' F' fun F'' v => v = (.agg (kSpan r)))) (r : List (List Span)) (h : clocks_each_api_Span N x0 x1 = some r) :
  Calls Try.prog 72 ([(.agg (kSystem x0 a0_0 n0_0 a0_1 n0_1)), (.func (.func gx1) fx1.toArray kx1.toArray)] : List Value).toArray w0 (FRet w0 F0 fun F' v => ∃ (aq0_0 : Option Addr) (nq0_0 : Nat), v = (.slice aq0_0 r.length nq0_0) ∧ LC r.length nq0_0 ∧ SlA (tSl tSpan) F' aq0_0 r) := by
 have hs0 := HS.start hF
 obtain ⟨q0, hq0, h⟩ := bind_some h
 obtain ⟨o, ho, h⟩ := bind_some h
 obtain ⟨k, hk⟩ : ∃ k, x0.Tracks.length = k := ⟨_, rfl⟩
 have hkb : k < 9223372036854775808 := hk ▸ hb0_0.2
 refine calls_of (n := 44) (c := bodyOf Try.f72) Try.func72 (by kernel_rfl) (by kernel_rfl) (by kernel_rfl) ?_
 refine CWP.seq (by kernel_rfl) ?_
 refine CWP.region (l := [0, 1]) (by kernel_rfl) (by kernel_rfl) (by kernel_rfl) ?_
 refine RWP.box (dst := (some 2)) (ty := 0) (g := none) (by kernel_rfl) rfl (x := (.tmp 0)) (t := 25) (v := (.agg (kSystem x0 a0_0 n0_0 a0_1 n0_1))) rfl (C := (kSystem x0 a0_0 n0_0 a0_1 n0_1)) rfl hs0 (fun b1 w1 hs1 => ?_)
 refine RWP.val (dst := (some 4)) (ty := 33) (g := none) (by kernel_rfl) rfl (run_assign (x := (.const (.slice none 0 0))) (v := (.slice none 0 0)) rfl) ?_
 refine RWP.nil ?_
 refine thenQ_nrm ?_
 refine CWP.seq (by kernel_rfl) ?_
 refine CWP.region (l := [0, 1, 2, 3, 4]) (by kernel_rfl) (by kernel_rfl) (by kernel_rfl) ?_
 refine RWP.val (dst := (some 9)) (ty := 0) (g := none) (by kernel_rfl) rfl (run_fieldAddr (s := 25) (x := (.tmp 2)) (i := 0) (o := 0) (k := 1) (b := b1) (o0 := 0) rfl (by kernel_rfl) rfl (o1 := 0) rfl) ?_
 refine RWP.val (dst := (some 10)) (ty := 22) (g := none) (by kernel_rfl) rfl (run_load' (t := 22) (x := (.tmp 9)) (b := b1) (o := 0) (g := false) (s := 1) (C := (kSystem x0 a0_0 n0_0 a0_1 n0_1)) (v := (.slice a0_0 x0.Tracks.length n0_0)) rfl (by kernel_rfl) (hs1.ownAt (k := 0) rfl) rfl rfl rfl) ?_
 refine RWP.val (dst := (some 11)) (ty := 3) (g := none) (by kernel_rfl) rfl (run_len_slice' (x := (.tmp 10)) (ats := #[22]) (a := a0_0) (n := x0.Tracks.length) (c := n0_0) (E := 54) (s := 4) (by_ := 64) rfl rfl (by kernel_rfl)) ?_
 refine RWP.makeSlice (dst := (some 12)) (ty := 33) (g := none) (by kernel_rfl) rfl (x := (.tmp 11)) (y := (.tmp 11)) (t := 33) (by_ := 24) (z := (.slice none 0 0)) (T := tGC tSpan) (E := 36) rfl rfl (by kernel_rfl) (by decide) (by kernel_rfl) (z0 := .raw nilv) (fun _ => rfl) (by decide) hs1 hq0 (fun b cap C w2 hs2 hr2 => ?_)
 refine RWP.val (dst := (some 5)) (ty := 33) (g := none) (by kernel_rfl) rfl (run_assign (x := (.tmp 12)) (v := .slice (some ⟨b, 0, none⟩) q0.length cap) rfl) ?_
 refine RWP.nil ?_
 refine thenQ_nrm ?_
 obtain ⟨hq1, hq2⟩ := mk0_spec hq0
 have hqg : q0 = gl k [] := by rw [hq2, gl_nil, ← hk]; simp
 subst hqg
 refine CWP.seq (by kernel_rfl) ?_
 refine CWP.seq (by kernel_rfl) ?_
 refine CWP.region (l := [0, 1, 2, 3]) (by kernel_rfl) (by kernel_rfl) (by kernel_rfl) ?_
 refine RWP.val (dst := (some 13)) (ty := 0) (g := none) (by kernel_rfl) rfl (run_fieldAddr (s := 25) (x := (.tmp 2)) (i := 0) (o := 0) (k := 1) (b := b1) (o0 := 0) rfl (by kernel_rfl) rfl (o1 := 0) rfl) ?_
 refine RWP.val (dst := (some 14)) (ty := 22) (g := none) (by kernel_rfl) rfl (run_load' (t := 22) (x := (.tmp 13)) (b := b1) (o := 0) (g := false) (s := 1) (C := (kSystem x0 a0_0 n0_0 a0_1 n0_1)) (v := (.slice a0_0 x0.Tracks.length n0_0)) rfl (by kernel_rfl) (hs2.ownAt (k := 1) rfl) rfl rfl rfl) ?_
 refine RWP.val (dst := (some 15)) (ty := 3) (g := none) (by kernel_rfl) rfl (run_len_slice' (x := (.tmp 14)) (ats := #[22]) (a := a0_0) (n := x0.Tracks.length) (c := n0_0) (E := 54) (s := 4) (by_ := 64) rfl rfl (by kernel_rfl)) ?_
 refine RWP.val (dst := (some 16)) (ty := 3) (g := none) (by kernel_rfl) rfl (run_move (x := (.const (vi 0))) (v := (vi 0)) rfl) ?_
 refine RWP.nil ?_
 refine thenQ_nrm ?_
 have hs3 : HS w0 F0 w2 F0 [(some b, .cells C 36 (0, 0))] := hs2.drop 1
 refine CWP.cut (fun f w => ∃ (done : List (List Span)) (F1 : Mem) (e1 : Option Nat × Obj), o = .done done ∧ HS w0 F0 w F1 [e1] ∧ Mem.le F0 F1 ∧ f.d = [] ∧ f 5 = .slice (some ⟨b, 0, none⟩) (gl k done).length cap ∧ done.length = k ∧ RowR (tGC tSpan) 36 F1 (some ⟨b, 0, none⟩) cap (gl k done) e1) ?_ ?_
 ·
  refine CWP.block (by kernel_rfl) ?_
  refine CWP.loop (by kernel_rfl) (fun m f w => ∃ (done : List (List Span)) (F1 : Mem) (e1 : Option Nat × Obj), iter (clocks_each_api_Span_L0 N x0 x1) m done = some o ∧ HS w0 F0 w F1 [e1] ∧ Mem.le F0 F1 ∧ f.d = [] ∧ f 1 = .func (.func gx1) fx1.toArray kx1.toArray ∧ f 5 = .slice (some ⟨b, 0, none⟩) (gl k done).length cap ∧ f 14 = .slice a0_0 x0.Tracks.length n0_0 ∧ f 15 = .int .i64 (x0.Tracks.length : Int) ∧ f 16 = .int .i64 (done.length : Int) ∧ done.length ≤ k ∧ RowR (tGC tSpan) 36 F1 (some ⟨b, 0, none⟩) cap (gl k done) e1) N ⟨[], F0, _, ho, hs3, Mem.le.refl _, rfl, rfl, rfl, rfl, rfl, rfl, by simp, hr2⟩ ?_
  rintro m f w ⟨done, F1, e1, hit, hs, hle0, hd, h1, h5, h14, h15, h16, hdk, hr1⟩
  obtain ⟨m1, fl, rfl, hb, hnx⟩ := iter_step hit
  unfold clocks_each_api_Span_L0 at hb
  refine CWP.seq (by kernel_rfl) ?_
  refine CWP.region (l := [0]) (by kernel_rfl) (by kernel_rfl) (by kernel_rfl) ?_
  refine RWP.val (dst := (some 17)) (ty := 0) (g := none) (by kernel_rfl) rfl (run_lss (t := 3) (t' := 3) (x := (.tmp 16)) (y := (.tmp 15)) (k := .i64) (a := (done.length : Int)) (b := (x0.Tracks.length : Int)) h16 h15) ?_
  refine RWP.nil ?_
  refine thenQ_nrm ?_
  refine CWP.seq (by kernel_rfl) ?_
  refine CWP.cond (t := decide ((done.length : Int) < (x0.Tracks.length : Int))) (by kernel_rfl) rfl (fun hc => ?_) (fun hc => ?_)
  rotate_left
  ·refine CWP.exit (by kernel_rfl) ?_
   refine thenQ_ex ?_
   refine thenQ_ex ?_
   refine blockQ_hit rfl ?_
   have hb := cond_f hb hc
   have ho' := iter_done hb hnx
   have hlen : done.length = k := by
    have : ¬ ((done.length : Int) < (x0.Tracks.length : Int)) := by simpa using hc
    rw [hk] at this; omega
   exact .inl ⟨rfl, done, F1, e1, ho', hs, hle0, hd, h5, hlen, hr1⟩
  ·have hb := cond_t hb hc
   have hdk : done.length < k := by
    have : ((done.length : Int) < (x0.Tracks.length : Int)) := by simpa using hc
    rw [hk] at this; omega
   obtain ⟨t, ht, hb⟩ := bind_some hb
   obtain ⟨o2, ho2, hb⟩ := bind_some hb
   obtain ⟨sE, rfl⟩ := clocks_each_api_Span_inner ho2
   obtain ⟨hti, ht'⟩ := idx_spec ht
   refine CWP.skip (by kernel_rfl) ?_
   refine thenQ_nrm ?_
   refine CWP.seq (by kernel_rfl) ?_
   refine CWP.block (by kernel_rfl) ?_
   refine CWP.seq (by kernel_rfl) ?_
   obtain ⟨bT, oT, CT, ET, fT, haT, hFT, hET⟩ := SlA.open (hs0_0.mono hle0) ht'
   obtain ⟨at1, nt1, at2, nt2, hcT, hlt1, hst1, hlt2, hst2⟩ := hET _ _ ht'
   refine CWP.region (l := [0, 1, 2, 3, 4, 5]) (by kernel_rfl) (by kernel_rfl) (by kernel_rfl) ?_
   refine RWP.val (dst := (some 18)) (ty := 3) (g := none) (by kernel_rfl) rfl (run_move (x := (.tmp 16)) (v := (vi (done.length : Int))) h16) ?_
   refine RWP.val (dst := (some 19)) (ty := 0) (g := none) (by kernel_rfl) rfl (run_index (t := 22) (x := (.tmp 14)) (y := (.tmp 16)) (b := bT) (o := oT) (E := 54) (s := 4) (by_ := 64) (i := (done.length : Int)) (haT ▸ h14) h16 (by kernel_rfl) hti) ?_
   refine RWP.val (dst := (some 20)) (ty := 54) (g := none) (by kernel_rfl) rfl (run_loadE (t := 54) (x := (.tmp 19)) (b := bT) (o := oT + (done.length : Int).toNat * 4) (j := 0) (C := CT) (kk := 4) (cs := [(vi t.Clock.Slip), (vi t.Clock.Drift), (.slice at1 t.Clock.Jumps.length nt1), (.slice at2 t.Times.length nt2)]) (gg := true) (s := 4) (v := (.agg (kTrack t at1 nt1 at2 nt2))) rfl (by kernel_rfl) (hs.pers _ _ hFT) hcT (by decide) (by exact ⟨rfl, trivial⟩) rfl rfl) ?_
   refine RWP.alloc (dst := (some 7)) (ty := 0) (g := none) (by kernel_rfl) rfl (t := 54) (z := (.agg #[(vi 0), (vi 0), (.slice none 0 0), (.slice none 0 0)])) (by kernel_rfl) (C := #[(vi 0), (vi 0), (.slice none 0 0), (.slice none 0 0)]) rfl hs (fun bt w4 hs4 => ?_)
   refine RWP.val (dst := (some 6)) (ty := 3) (g := none) (by kernel_rfl) rfl (run_assign (x := (.tmp 18)) (v := (vi (done.length : Int))) rfl) ?_
   refine RWP.store (ty := 0) (g := none) (by kernel_rfl) rfl (x := (.tmp 7)) (y := (.tmp 20)) (t := 54) (gg := true) (s := 4) (v := (.agg (kTrack t at1 nt1 at2 nt2))) (b := bt) (o := 0) (C := #[(vi 0), (vi 0), (.slice none 0 0), (.slice none 0 0)]) rfl rfl (by kernel_rfl) hs4 (k := 0) rfl rfl rfl rfl (C' := (kTrack t at1 nt1 at2 nt2)) rfl (fun w5 hs5 => ?_)
   refine RWP.nil ?_
   refine thenQ_nrm ?_
   refine CWP.seq (by kernel_rfl) ?_
   refine CWP.region (l := [0, 1, 2, 3]) (by kernel_rfl) (by kernel_rfl) (by kernel_rfl) ?_
   refine RWP.val (dst := (some 21)) (ty := 0) (g := none) (by kernel_rfl) rfl (run_fieldAddr (s := 54) (x := (.tmp 7)) (i := 1) (o := 3) (k := 1) (b := bt) (o0 := 0) rfl (by kernel_rfl) rfl (o1 := 3) rfl) ?_
   refine RWP.val (dst := (some 22)) (ty := 50) (g := none) (by kernel_rfl) rfl (run_load' (t := 50) (x := (.tmp 21)) (b := bt) (o := 3) (g := false) (s := 1) (C := (kTrack t at1 nt1 at2 nt2)) (v := (.slice at2 t.Times.length nt2)) rfl (by kernel_rfl) (hs5.ownAt (k := 0) rfl) rfl rfl rfl) ?_
   refine RWP.val (dst := (some 23)) (ty := 3) (g := none) (by kernel_rfl) rfl (run_len_slice' (x := (.tmp 22)) (ats := #[50]) (a := at2) (n := t.Times.length) (c := nt2) (E := 3) (s := 1) (by_ := 8) rfl rfl (by kernel_rfl)) ?_
   refine RWP.val (dst := (some 24)) (ty := 3) (g := none) (by kernel_rfl) rfl (run_move (x := (.const (vi 0))) (v := (vi 0)) rfl) ?_
   refine RWP.nil ?_
   refine thenQ_nrm ?_
   rw [gl_gc hdk] at hr1
   have h5' : f 5 = .slice (some ⟨b, 0, none⟩) (gc k done nilv).length cap := by rw [h5, gl_len (by omega), gc_len hdk]
   have hs6 : HS w0 F0 w5 F1 [e1, (none, .cells #[] 0 (0, 0))] := ((hs5.drop 0).dummy (oc #[] 0)).swap (A := [(none, .cells #[] 0 (0, 0))]) (B := [e1])
   refine CWP.cut (fun f w => ∃ (F2 : Mem) (e1 e2 : Option Nat × Obj) (a2 : Option Addr) (c2 : Nat), HS w0 F0 w F2 [e1, e2] ∧ Mem.le F1 F2 ∧ f.d = [] ∧ f 1 = .func (.func gx1) fx1.toArray kx1.toArray ∧ f 5 = .slice (some ⟨b, 0, none⟩) (gc k done (.slice a2 sE.2.length c2)).length cap ∧ f 14 = .slice a0_0 x0.Tracks.length n0_0 ∧ f 15 = .int .i64 (x0.Tracks.length : Int) ∧ f 16 = .int .i64 (done.length : Int) ∧ RowR (tGC tSpan) 36 F2 (some ⟨b, 0, none⟩) cap (gc k done (.slice a2 sE.2.length c2)) e1 ∧ RowR tSpan 38 F2 a2 c2 sE.2 e2) ?_ ?_
   ·
    refine CWP.block (by kernel_rfl) ?_
    refine CWP.loop (by kernel_rfl) (fun m f w => ∃ (s2 : Int × List Span) (F2 : Mem) (e1 e2 : Option Nat × Obj) (a2 : Option Addr) (c2 : Nat), iter (clocks_each_api_Span_L1 N x1 (done.length : Int) t) m s2 = some (.done sE) ∧ HS w0 F0 w F2 [e1, e2] ∧ Mem.le F1 F2 ∧ f.d = [] ∧ f 1 = .func (.func gx1) fx1.toArray kx1.toArray ∧ f 5 = .slice (some ⟨b, 0, none⟩) (gc k done (.slice a2 s2.2.length c2)).length cap ∧ f 6 = .int .i64 (done.length : Int) ∧ f 14 = .slice a0_0 x0.Tracks.length n0_0 ∧ f 15 = .int .i64 (x0.Tracks.length : Int) ∧ f 16 = .int .i64 (done.length : Int) ∧ f 23 = .int .i64 (t.Times.length : Int) ∧ f 24 = .int .i64 s2.1 ∧ RowR (tGC tSpan) 36 F2 (some ⟨b, 0, none⟩) cap (gc k done (.slice a2 s2.2.length c2)) e1 ∧ RowR tSpan 38 F2 a2 c2 s2.2 e2) N ⟨(0, []), F1, _, _, none, 0, ho2, hs6, Mem.le.refl _, hd, h1, h5', rfl, h14, h15, h16, rfl, rfl, hr1, RowR.nil _ _ _ _⟩ ?_
    rintro m f w ⟨s2, F2, e1, e2, a2, c2, hit2, hs, hle2, hd, h1, h5, h6, h14, h15, h16, h23, h24, hr1, hr2⟩
    obtain ⟨m2, fl2, rfl, hb2, hnx2⟩ := iter_step hit2
    unfold clocks_each_api_Span_L1 at hb2
    refine CWP.seq (by kernel_rfl) ?_
    refine CWP.region (l := [0]) (by kernel_rfl) (by kernel_rfl) (by kernel_rfl) ?_
    refine RWP.val (dst := (some 25)) (ty := 0) (g := none) (by kernel_rfl) rfl (run_lss (t := 3) (t' := 3) (x := (.tmp 24)) (y := (.tmp 23)) (k := .i64) (a := s2.1) (b := (t.Times.length : Int)) h24 h23) ?_
    refine RWP.nil ?_
    refine thenQ_nrm ?_
    refine CWP.seq (by kernel_rfl) ?_
    refine CWP.cond (t := decide (s2.1 < (t.Times.length : Int))) (by kernel_rfl) rfl (fun hc2 => ?_) (fun hc2 => ?_)
    rotate_left
    ·refine CWP.exit (by kernel_rfl) ?_
     refine thenQ_ex ?_
     refine thenQ_ex ?_
     refine blockQ_hit rfl ?_
     have hb2 := cond_f hb2 hc2
     have ho' := iter_done hb2 hnx2
     cases ho'
     exact .inl ⟨rfl, F2, e1, e2, a2, c2, hs, hle2, hd, h1, h5, h14, h15, h16, hr1, hr2⟩
    ·have hb2 := cond_t hb2 hc2
     obtain ⟨r, hr, hb2⟩ := bind_some hb2
     obtain ⟨row, hap, hb2⟩ := bind_some hb2
     refine CWP.skip (by kernel_rfl) ?_
     refine thenQ_nrm ?_
     refine CWP.seq (by kernel_rfl) ?_
     refine CWP.block (by kernel_rfl) ?_
     refine CWP.seq (by kernel_rfl) ?_
     refine CWP.region (l := [0, 1]) (by kernel_rfl) (by kernel_rfl) (by kernel_rfl) ?_
     refine RWP.val (dst := (some 26)) (ty := 3) (g := none) (by kernel_rfl) rfl (run_move (x := (.tmp 24)) (v := (vi s2.1)) h24) ?_
     refine RWP.val (dst := (some 8)) (ty := 3) (g := none) (by kernel_rfl) rfl (run_assign (x := (.tmp 26)) (v := (vi s2.1)) rfl) ?_
     refine RWP.nil ?_
     refine thenQ_nrm ?_
     obtain ⟨b', C, hab, rfl, hE⟩ := RowR.open hr1 gc_get
     cases hab
     have hcell := hE _ _ gc_get
     refine CWP.regionD (by kernel_rfl) (by kernel_rfl) (by kernel_rfl) (by kernel_rfl) (z := 14) (F := F2) (Lc := []) (Lz := [(some b, .cells C 36 (0, 0))]) (l := [false, false, false, false, false, false, false, false, false, false, false, false, false, false, false]) (fuel := 15) (by kernel_rfl) (by kernel_rfl) hs (by simp) (by simp)
      (fun f w => ∃ (row' : List Span) (F3 : Mem) (e1 e2 : Option Nat × Obj) (a2 : Option Addr) (c2 : Nat), some row = some row' ∧ HS w0 F0 w F3 [e1, e2] ∧ Mem.le F2 F3 ∧ f.d = [] ∧ f 1 = .func (.func gx1) fx1.toArray kx1.toArray ∧ f 5 = .slice (some ⟨b, 0, none⟩) (gc k done (.slice a2 row'.length c2)).length cap ∧ f 6 = .int .i64 (done.length : Int) ∧ f 14 = .slice a0_0 x0.Tracks.length n0_0 ∧ f 15 = .int .i64 (x0.Tracks.length : Int) ∧ f 16 = .int .i64 (done.length : Int) ∧ f 23 = .int .i64 (t.Times.length : Int) ∧ f 24 = .int .i64 s2.1 ∧ RowR (tGC tSpan) 36 F3 (some ⟨b, 0, none⟩) cap (gc k done (.slice a2 row'.length c2)) e1 ∧ RowR tSpan 38 F3 a2 c2 row' e2) (fun wd hsw => ?_) ?_
     ·
      refine DWP.take (i := 0) (v := (.slice (some ⟨b, 0, none⟩) (gc k done (.slice a2 s2.2.length c2)).length cap)) (zd := false) (dst := (some 27)) (ty := 33) (g := none) (by kernel_rfl) (by kernel_rfl) (by kernel_rfl) (by kernel_rfl) (by kernel_rfl) rfl (fun wq hq => (run_move (x := (.tmp 5)) (v := (.slice (some ⟨b, 0, none⟩) (gc k done (.slice a2 s2.2.length c2)).length cap)) h5)) (l' := [true, false, false, false, false, false, false, false, false, false, false, false, false, false, false]) (by kernel_rfl) ?_
      refine DWP.take (i := 1) (v := (vi (done.length : Int))) (zd := false) (dst := (some 28)) (ty := 3) (g := none) (by kernel_rfl) (by kernel_rfl) (by kernel_rfl) (by kernel_rfl) (by kernel_rfl) rfl (fun wq hq => (run_move (x := (.tmp 6)) (v := (vi (done.length : Int))) h6)) (l' := [true, true, false, false, false, false, false, false, false, false, false, false, false, false, false]) (by kernel_rfl) ?_
      refine DWP.take (i := 2) (v := (.slice (some ⟨b, 0, none⟩) (gc k done (.slice a2 s2.2.length c2)).length cap)) (zd := false) (dst := (some 29)) (ty := 33) (g := none) (by kernel_rfl) (by kernel_rfl) (by kernel_rfl) (by kernel_rfl) (by kernel_rfl) rfl (fun wq hq => (run_move (x := (.tmp 5)) (v := (.slice (some ⟨b, 0, none⟩) (gc k done (.slice a2 s2.2.length c2)).length cap)) h5)) (l' := [true, true, true, false, false, false, false, false, false, false, false, false, false, false, false]) (by kernel_rfl) ?_
      refine DWP.take (i := 3) (v := (vi (done.length : Int))) (zd := false) (dst := (some 30)) (ty := 3) (g := none) (by kernel_rfl) (by kernel_rfl) (by kernel_rfl) (by kernel_rfl) (by kernel_rfl) rfl (fun wq hq => (run_move (x := (.tmp 6)) (v := (vi (done.length : Int))) h6)) (l' := [true, true, true, true, false, false, false, false, false, false, false, false, false, false, false]) (by kernel_rfl) ?_
      refine DWP.take (i := 4) (v := (.pointer (some ⟨b, done.length * 1, none⟩))) (zd := false) (dst := (some 31)) (ty := 0) (g := none) (by kernel_rfl) (by kernel_rfl) (by kernel_rfl) (by kernel_rfl) (by kernel_rfl) rfl (fun wq hq => (run_index0 (t := 33) (x := (.tmp 29)) (y := (.tmp 30)) (b := b) (E := 36) (s := 1) (by_ := 24) (j := (done.length : Int)) rfl rfl (by kernel_rfl) ⟨by omega, by rw [gc_len hdk]; omega⟩)) (l' := [true, true, true, true, true, false, false, false, false, false, false, false, false, false, false]) (by kernel_rfl) ?_
      refine DWP.take (i := 5) (v := (.slice a2 s2.2.length c2)) (zd := false) (dst := (some 32)) (ty := 36) (g := none) (by kernel_rfl) (by kernel_rfl) (by kernel_rfl) (by kernel_rfl) (by kernel_rfl) rfl (fun wq hq => (run_loadE (t := 36) (x := (.tmp 31)) (b := b) (o := done.length * 1) (j := 0) (C := C) (kk := 1) (cs := [(.slice a2 s2.2.length c2)]) (gg := false) (s := 1) (v := (.slice a2 s2.2.length c2)) rfl (by kernel_rfl) ((hq.2 rfl).2 0 _ _ rfl) hcell (by decide) (by exact ⟨rfl, trivial⟩) rfl rfl)) (l' := [true, true, true, true, true, true, false, false, false, false, false, false, false, false, false]) (by kernel_rfl) ?_
      refine DWP.take (i := 6) (v := (.func (.func gx1) fx1.toArray kx1.toArray)) (zd := false) (dst := (some 33)) (ty := 99) (g := none) (by kernel_rfl) (by kernel_rfl) (by kernel_rfl) (by kernel_rfl) (by kernel_rfl) rfl (fun wq hq => (run_move (x := (.tmp 1)) (v := (.func (.func gx1) fx1.toArray kx1.toArray)) h1)) (l' := [true, true, true, true, true, true, true, false, false, false, false, false, false, false, false]) (by kernel_rfl) ?_
      refine DWP.take (i := 7) (v := (vi (done.length : Int))) (zd := false) (dst := (some 34)) (ty := 3) (g := none) (by kernel_rfl) (by kernel_rfl) (by kernel_rfl) (by kernel_rfl) (by kernel_rfl) rfl (fun wq hq => (run_move (x := (.tmp 6)) (v := (vi (done.length : Int))) h6)) (l' := [true, true, true, true, true, true, true, true, false, false, false, false, false, false, false]) (by kernel_rfl) ?_
      refine DWP.take (i := 8) (v := (vi s2.1)) (zd := false) (dst := (some 35)) (ty := 3) (g := none) (by kernel_rfl) (by kernel_rfl) (by kernel_rfl) (by kernel_rfl) (by kernel_rfl) rfl (fun wq hq => (run_move (x := (.tmp 8)) (v := (vi s2.1)) rfl)) (l' := [true, true, true, true, true, true, true, true, true, false, false, false, false, false, false]) (by kernel_rfl) ?_
      refine DWP.take (i := 9) (v := (.agg #[(vi (done.length : Int)), (vi s2.1)])) (zd := false) (dst := (some 36)) (ty := 27) (g := none) (by kernel_rfl) (by kernel_rfl) (by kernel_rfl) (by kernel_rfl) (by kernel_rfl) rfl (fun wq hq => (run_build2 (t := 27) (parts := #[(0, (.tmp 34)), (1, (.tmp 35))]) (vs := [(0, (vi (done.length : Int))), (1, (vi s2.1))]) (rfl) (cs := [(vi (done.length : Int)), (vi s2.1)]) (by kernel_rfl))) (l' := [true, true, true, true, true, true, true, true, true, true, false, false, false, false, false]) (by kernel_rfl) ?_
      refine DWP.one (i := 10) (by kernel_rfl) ?_
      refine DStep.call (l' := [true, true, true, true, true, true, true, true, true, true, true, false, false, false, false]) (zd := false) (by kernel_rfl) (by kernel_rfl) (by kernel_rfl) (dst := (some 37)) (ty := 38) (g := none) (by kernel_rfl) rfl (f0 := (.tmp 33)) (aos := #[(.tmp 36)]) (ats := #[27]) (fid := gx1) (first := fx1.toArray) (cap := kx1.toArray) (args := (fx1 ++ (([(.agg #[(vi (done.length : Int)), (vi s2.1)])] : List Value) ++ kx1))) rfl hox1 (app_args2 (l := [(.agg #[(vi (done.length : Int)), (vi s2.1)])]) (fi := fx1) (k := kx1) (rfl)) hsw (hpx1 wd F2 ({ Log := (done.length : Int), Line := s2.1 } : Ref) _ (hle0.trans hle2) hsw.pers hr) ?_
      intro v F3 w3 hs3 le3 hp
      obtain rfl := hp
      refine DWP.one (i := 11) (by kernel_rfl) ?_
      refine DStep.buildSlice (l' := [true, true, true, true, true, true, true, true, true, true, true, true, false, false, false]) (zd := false) (by kernel_rfl) (by kernel_rfl) (dst := (some 38)) (ty := 36) (g := none) (by kernel_rfl) rfl (t := 36) (len := 1) (parts := #[(0, (.tmp 37))]) (vs := [(0, (.agg (kSpan r)))]) (rfl) (E := 38) (cs := [(vi r.Lo), (vi r.Hi)]) (by kernel_rfl) hs3 le3 (by simp) (fun _ => by simp) (fun b3 w4 (hs4 : HS w0 F0 w4 F3 [(some b3, .cells ([(vi r.Lo), (vi r.Hi)] : List Value).toArray 38 (0, 0)), (some b, .cells C 36 (0, 0)), e2]) => ?_)
      have hr4 : RowR tSpan 38 F3 (some ⟨b3, 0, none⟩) 1 [r] (some b3, .cells ([(vi r.Lo), (vi r.Hi)] : List Value).toArray 38 (0, 0)) := RowR.lit ⟨rfl, rfl⟩ (by simp)
      refine DWP.one (i := 12) (by kernel_rfl) ?_
      refine DStep.append (l' := [true, true, true, true, true, true, true, true, true, true, true, true, true, false, false]) (zd := false) (by kernel_rfl) (by kernel_rfl) (dst := (some 39)) (ty := 36) (g := none) (by kernel_rfl) rfl (x := (.tmp 32)) (y := (.tmp 38)) (t := 36) (t2 := 36) (by_ := 16) (z := (.agg #[(vi 0), (vi 0)])) (a2 := (some ⟨b3, 0, none⟩)) (c2 := 1) (m := [r]) (T := tSpan) (E := 38) (a := a2) (cap := c2) (l := s2.2) rfl rfl (by kernel_rfl) (by decide) (by kernel_rfl) (by kernel_rfl) rfl oSpan hs4 (k := 2) rfl (hr2.mono le3) (RowR.rd hs4 (k := 0) rfl hr4) (r := row) hap le3 (fun _ => by simp) (fun _ _ => by simp) (fun a5 n5 e5 w5 (hs5 : HS w0 F0 w5 F3 [(some b3, .cells ([(vi r.Lo), (vi r.Hi)] : List Value).toArray 38 (0, 0)), (some b, .cells C 36 (0, 0)), e5]) hr5 => ?_)
      refine DWP.one (i := 13) (by kernel_rfl) ?_
      refine DStep.val (l' := [true, true, true, true, true, true, true, true, true, true, true, true, true, true, false]) (zd := false) (by kernel_rfl) (by kernel_rfl) (dst := (some 40)) (ty := 0) (g := none) (by kernel_rfl) rfl (v := (.pointer (some ⟨b, done.length * 1, none⟩))) (run_index0 (t := 33) (x := (.tmp 27)) (y := (.tmp 28)) (b := b) (E := 36) (s := 1) (by_ := 24) (j := (done.length : Int)) rfl rfl (by kernel_rfl) ⟨by omega, by rw [gc_len hdk]; omega⟩) (dz_of hs5 le3 (by simp) (fun _ => by simp)) ?_
      refine DWP.one (i := 14) (by kernel_rfl) ?_
      refine DStep.storeRow (l' := [true, true, true, true, true, true, true, true, true, true, true, true, true, true, true]) (zd := true) (by kernel_rfl) (by kernel_rfl) (ty := 0) (g := none) (by kernel_rfl) rfl (x := (.tmp 40)) (y := (.tmp 39)) (t := 36) (v := (.slice a5 row.length n5)) (gg := false) (b := b) (j := done.length) (C := C) (T := tGC tSpan) (E := 36) (u := .raw (.slice a5 row.length n5)) rfl rfl (by kernel_rfl) hs5 (k := 1) rfl (hr1.mono le3) gc_get rfl rfl le3 (fun _ => by simp) (fun e => by cases e) (fun C6 w6 (hs6 : HS w0 F0 w6 F3 [(some b3, .cells ([(vi r.Lo), (vi r.Hi)] : List Value).toArray 38 (0, 0)), (some b, .cells C6 36 (0, 0)), e5]) hr6 => ?_)
      rw [gc_set] at hr6
      exact DWP.done (by kernel_rfl) ⟨row, F3, _, e5, a5, n5, rfl, hs6.drop 0, le3, hd, h1, by show f 5 = _; rw [h5, gc_len hdk, gc_len hdk], h6, h14, h15, h16, h23, h24, hr6, hr5⟩
     ·rintro f w ⟨row', F3, e1, e2, a2, c2, hrow, hs, le3, hd, h1, h5, h6, h14, h15, h16, h23, h24, hr1, hr2⟩
      cases hrow
      refine blockQ_nrm ?_
      refine thenQ_nrm ?_
      refine CWP.region (l := [0, 1]) (by kernel_rfl) (by kernel_rfl) (by kernel_rfl) ?_
      refine RWP.val (dst := (some 41)) (ty := 3) (g := none) (by kernel_rfl) rfl (run_add (t := 3) (t' := 3) (x := (.tmp 24)) (y := (.const (vi 1))) (k := .i64) (a := s2.1) (b := 1) h24 rfl) ?_
      refine RWP.val (dst := (some 24)) (ty := 3) (g := none) (by kernel_rfl) rfl (run_move (x := (.tmp 41)) (v := (vi (W64 (s2.1 + 1)))) rfl) ?_
      refine RWP.nil ?_
      have hn := iter_next hb2 hnx2
      exact ⟨m2, Nat.lt_succ_self _, (W64 (s2.1 + 1), row), F3, e1, e2, a2, c2, hn, hs, hle2.trans le3, hd, h1, h5, h6, h14, h15, h16, h23, rfl, hr1, hr2⟩
   ·rintro f w ⟨F2, e1, e2, a2, c2, hs, hle2, hd, h1, h5, h14, h15, h16, hr1, hr2⟩
    refine blockQ_nrm ?_
    refine thenQ_nrm ?_
    refine CWP.region (l := [0, 1]) (by kernel_rfl) (by kernel_rfl) (by kernel_rfl) ?_
    refine RWP.val (dst := (some 42)) (ty := 3) (g := none) (by kernel_rfl) rfl (run_add (t := 3) (t' := 3) (x := (.tmp 16)) (y := (.const (vi 1))) (k := .i64) (a := (done.length : Int)) (b := 1) h16 rfl) ?_
    refine RWP.val (dst := (some 16)) (ty := 3) (g := none) (by kernel_rfl) rfl (run_move (x := (.tmp 42)) (v := (vi (W64 ((done.length : Int) + 1)))) rfl) ?_
    refine RWP.nil ?_
    have hb0 := RowR.bound hr2
    obtain ⟨F3, hs3, le3, hsl⟩ : ∃ Fq, HS w0 F0 w Fq [e1] ∧ Mem.le F2 Fq ∧ SlA tSpan Fq a2 sE.2 := HS.freezeRow hs (k := 1) rfl hr2
    have hr3 := gc_fin hdk (hr1.mono le3) hb0 hsl
    have hn := iter_next hb hnx
    refine ⟨m1, Nat.lt_succ_self _, done ++ [sE.2], F3, e1, hn, hs3, (hle0.trans hle2).trans le3, hd, h1, ?_, h14, h15, ?_, by simp; omega, hr3⟩
    ·show f 5 = _
     rw [h5, gc_len hdk, gl_len (by simp; omega)]
    ·show Value.int .i64 (W64 ((done.length : Int) + 1)) = _
     rw [W64_id (by omega) (by omega)]; simp
 ·rintro f w ⟨done, F1, e1, rfl, hs, hle0, hd, h5, hdk, hr1⟩
  refine thenQ_nrm ?_
  cases h
  have hr2 := gl_done hdk hr1
  have hb0 := RowR.bound hr2
  obtain ⟨F2, hs2, le2, hsl⟩ : ∃ Fq, HS w0 F0 w Fq [] ∧ Mem.le F1 Fq ∧ SlA (tSl tSpan) Fq (some ⟨b, 0, none⟩) r := HS.freezeRow hs (k := 0) rfl hr2
  have h5' : f 5 = .slice (some ⟨b, 0, none⟩) r.length cap := by rw [h5, gl_len (by omega), hdk]
  refine CWP.seq (by kernel_rfl) ?_
  refine CWP.region (l := [0, 1]) (by kernel_rfl) (by kernel_rfl) (by kernel_rfl) ?_
  refine RWP.val (dst := (some 43)) (ty := 33) (g := none) (by kernel_rfl) rfl (run_move (x := (.tmp 5)) (v := (.slice (some ⟨b, 0, none⟩) r.length cap)) h5') ?_
  refine RWP.val (dst := (some 4)) (ty := 33) (g := none) (by kernel_rfl) rfl (run_assign (x := (.tmp 43)) (v := (.slice (some ⟨b, 0, none⟩) r.length cap)) rfl) ?_
  refine RWP.nil ?_
  refine thenQ_nrm ?_
  refine CWP.ret (by kernel_rfl) ?_
  exact ⟨hd, (.slice (some ⟨b, 0, none⟩) r.length cap), res_of (l := [.tmp 4]) (by kernel_rfl) (vs := [(.slice (some ⟨b, 0, none⟩) r.length cap)]) ⟨rfl, trivial⟩, (.slice (some ⟨b, 0, none⟩) r.length cap), F2, rfl, hs2.clear, ⟨_, _, rfl, hb0, hsl⟩⟩
end Go.Proofs.Ythbcnabeabcmlaa
namespace Go.Proofs.Ythbcnabeabcmlaa
open Go.Proofs
def clocks_Times (N : Nat) (x0 : System) : Option ((List (List Span)) × Int) :=
 ((clocks_solved N x0).bind fun r4 => (bif (r4.2.2 != 0) then some (([] : List (List Span)), r4.2.2) else ((clocks_each_api_Span N x0 (fun y0 => clocks_Times_1 N y0 r4.2.1 r4.1)).bind fun r31 => some (r31, 0))))
theorem co_clocks_Times : CallOk Try.prog 19 := fun _ _ => by kernel_rfl
set_option maxHeartbeats 4000000 in
set_option maxRecDepth 100000 in
theorem c_clocks_Times (N : Nat) (w0 : World) (F0 : Mem) (hF : ∀ b o, F0 b = some o → w0.heap[b]? = some o) (x0 : System) (a0_0 : Option Addr) (n0_0 : Nat) (hb0_0 : LC x0.Tracks.length n0_0) (hs0_0 : SlA tTrack F0 a0_0 x0.Tracks) (a0_1 : Option Addr) (n0_1 : Nat) (hb0_1 : LC x0.Ties.length n0_1) (hs0_1 : SlA tTie F0 a0_1 x0.Ties) (r : ((List (List Span)) × Int)) (h : clocks_Times N x0 = some r) :
  Calls Try.prog 19 ([(.agg (kSystem x0 a0_0 n0_0 a0_1 n0_1))] : List Value).toArray w0 (FRet w0 F0 fun F' v => ∃ (aq0_0 : Option Addr) (nq0_0 : Nat), v = (.tuple #[(.slice aq0_0 r.1.length nq0_0), (vi r.2)]) ∧ LC r.1.length nq0_0 ∧ SlA (tSl tSpan) F' aq0_0 r.1) := by
 have hs0 := HS.start hF
 refine calls_of (n := 19) (c := bodyOf Try.f19) Try.func19 (by kernel_rfl) (by kernel_rfl) (by kernel_rfl) ?_
 refine Sq (Rg [0, 1, 2] ?_)
 refine Bx 1 0 0 25 (kSystem x0 a0_0 n0_0 a0_1 n0_1) hs0 (fun b1 w2 (hs3 : HS w0 F0 w2 F0 [(sb b1 (kSystem x0 a0_0 n0_0 a0_1 n0_1) 25)]) => ?_)
 refine V 2 33 (mc (.slice none 0 0) (.slice none ([] : List (List Span)).length 0)) ?_
 refine V 3 30 (mc (vi 0) (vi 0)) ?_
 refine Nss (Rg [0, 1, 2, 3, 4, 5, 6, 7, 8, 9, 10] ?_)
 refine V 8 25 (ld 25 1 b1 0 true 3 (.agg (kSystem x0 a0_0 n0_0 a0_1 n0_1)) (hs3.ownAt (k := 0) rfl)) ?_
 obtain ⟨r4, hr5, h6⟩ := bind_some h
 refine Cl 9 96 71 #[(.tmp 8)] #[25] co_clocks_solved hs3 (c_clocks_solved N w2 F0 hs3.pers (x0) a0_0 n0_0 hb0_0 hs0_0 a0_1 n0_1 hb0_1 hs0_1 _ hr5) ?_
 intro v7 F1 w8 hs9 le10 hp11
 obtain ⟨or4_0_0, or4_0_1, or4_1_0, or4_1_1, rfl, hmr4_0_0, hmr4_0_1, hmr4_1_0, hmr4_1_1⟩ := hp11
 refine V 7 96 (mv 9 (.tuple #[(.agg #[(.map or4_0_0), (.map or4_0_1)]), (.agg #[(.map or4_1_0), (.map or4_1_1)]), (vi r4.2.2)])) ?_
 refine V 10 95 (ex 7 0 (.agg #[(.map or4_0_0), (.map or4_0_1)]) (vs := #[(.agg #[(.map or4_0_0), (.map or4_0_1)]), (.agg #[(.map or4_1_0), (.map or4_1_1)]), (vi r4.2.2)])) ?_
 refine V 11 95 (ex 7 1 (.agg #[(.map or4_1_0), (.map or4_1_1)]) (vs := #[(.agg #[(.map or4_0_0), (.map or4_0_1)]), (.agg #[(.map or4_1_0), (.map or4_1_1)]), (vi r4.2.2)])) ?_
 refine V 12 30 (ex 7 2 (vi r4.2.2) (vs := #[(.agg #[(.map or4_0_0), (.map or4_0_1)]), (.agg #[(.map or4_1_0), (.map or4_1_1)]), (vi r4.2.2)])) ?_
 refine Al 4 0 95 #[(.map none), (.map none)] hs9 (fun b12 w13 (hs14 : HS w0 F0 w13 F1 [(sb b12 #[(.map none), (.map none)] 95), (sb b1 (kSystem x0 a0_0 n0_0 a0_1 n0_1) 25)]) => ?_)
 refine Al 5 0 95 #[(.map none), (.map none)] hs14 (fun b15 w16 (hs17 : HS w0 F0 w16 F1 [(sb b15 #[(.map none), (.map none)] 95), (sb b12 #[(.map none), (.map none)] 95), (sb b1 (kSystem x0 a0_0 n0_0 a0_1 n0_1) 25)]) => ?_)
 refine RWP.store (ty := 0) (g := none) (by kernel_rfl) rfl (x := (.tmp 4)) (y := (.tmp 10)) (t := 95) (gg := true) (s := 2) (v := (.agg #[(.map or4_0_0), (.map or4_0_1)])) (b := b12) (o := 0) (C := #[(.map none), (.map none)]) rfl rfl (by kernel_rfl) hs17 (k := 1) rfl rfl rfl rfl (C' := #[(.map or4_0_0), (.map or4_0_1)]) rfl (fun w18 (hs19 : HS w0 F0 w18 F1 [(sb b15 #[(.map none), (.map none)] 95), (sb b12 #[(.map or4_0_0), (.map or4_0_1)] 95), (sb b1 (kSystem x0 a0_0 n0_0 a0_1 n0_1) 25)]) => ?_)
 refine RWP.store (ty := 0) (g := none) (by kernel_rfl) rfl (x := (.tmp 5)) (y := (.tmp 11)) (t := 95) (gg := true) (s := 2) (v := (.agg #[(.map or4_1_0), (.map or4_1_1)])) (b := b15) (o := 0) (C := #[(.map none), (.map none)]) rfl rfl (by kernel_rfl) hs19 (k := 0) rfl rfl rfl rfl (C' := #[(.map or4_1_0), (.map or4_1_1)]) rfl (fun w20 (hs21 : HS w0 F0 w20 F1 [(sb b15 #[(.map or4_1_0), (.map or4_1_1)] 95), (sb b12 #[(.map or4_0_0), (.map or4_0_1)] 95), (sb b1 (kSystem x0 a0_0 n0_0 a0_1 n0_1) 25)]) => ?_)
 refine V 6 30 (ma 12 (vi r4.2.2)) ?_
 refine Nss ?_
 refine Sq (Rg [0, 1] ?_)
 refine V 13 30 (mv 6 (vi r4.2.2)) ?_
 refine V 14 4 (run_neq (t := 30) (t' := 30) (x := (.tmp 13)) (y := (.const (vi 0))) (k := .i64) (a := r4.2.2) (b := 0) rfl rfl) ?_
 refine Nt ?_
 refine CWP.cond (t := (r4.2.2 != 0)) (by kernel_rfl) rfl (fun hb22 => ?_) (fun hb22 => ?_)
 ·have h23 := cond_t h6 hb22
  refine Sq (Rg [0, 1, 2] ?_)
  refine V 15 30 (mv 6 (vi r4.2.2)) ?_
  refine V 2 33 (mc (.slice none 0 0) (.slice none ([] : List (List Span)).length 0)) ?_
  refine V 3 30 (ma 15 (vi r4.2.2)) ?_
  refine Nt ?_
  refine CWP.ret (by kernel_rfl) ?_
  refine thenQ_ret ?_
  have hfin := some_inj h23
  subst hfin
  exact ⟨rfl, (.tuple #[(.slice none ([] : List (List Span)).length 0), (vi r4.2.2)]), res_of (l := [.tmp 2, .tmp 3]) (by kernel_rfl) (vs := [(.slice none ([] : List (List Span)).length 0), (vi r4.2.2)]) ⟨rfl, ⟨rfl, trivial⟩⟩, (.tuple #[(.slice none ([] : List (List Span)).length 0), (vi r4.2.2)]), F1, rfl, hs21.clear, ⟨none, 0, rfl, LC.nil, (.inl rfl)⟩⟩
 ·have h24 := cond_f h6 hb22
  refine Sc ?_
  refine thenQ_nrm ?_
  refine Sq (Rg [0, 1, 2, 3, 4] ?_)
  refine V 16 25 (ld 25 1 b1 0 true 3 (.agg (kSystem x0 a0_0 n0_0 a0_1 n0_1)) (hs21.ownAt (k := 2) rfl)) ?_
  refine V 17 99 (run_makeFunc (fn := .func 73) (first := #[]) (cap := #[(.tmp 5), (.tmp 4)]) (fl := []) (cl := [(.pointer (some ⟨b15, 0, none⟩)), (.pointer (some ⟨b12, 0, none⟩))]) rfl (rfl)) ?_
  obtain ⟨F2, hs25, le26, hF27⟩ : ∃ Fq, HS w0 F0 w20 Fq [(sb b12 #[(.map or4_0_0), (.map or4_0_1)] 95), (sb b1 (kSystem x0 a0_0 n0_0 a0_1 n0_1) 25)] ∧ Mem.le F1 Fq ∧ Fq b15 = some (oc #[(.map or4_1_0), (.map or4_1_1)] 95) := HS.freezeC hs21 (k := 0) rfl
  obtain ⟨F3, hs28, le29, hF30⟩ : ∃ Fq, HS w0 F0 w20 Fq [(sb b1 (kSystem x0 a0_0 n0_0 a0_1 n0_1) 25)] ∧ Mem.le F2 Fq ∧ Fq b12 = some (oc #[(.map or4_0_0), (.map or4_0_1)] 95) := HS.freezeC hs25 (k := 0) rfl
  obtain ⟨r31, hr32, h33⟩ := bind_some h24
  refine Cl 18 33 72 #[(.tmp 16), (.tmp 17)] #[25, 99] co_clocks_each_api_Span hs28 (c_clocks_each_api_Span N w20 F3 hs28.pers (x0) a0_0 n0_0 hb0_0 (SlA.mono hs0_0 ((le10.trans le26).trans le29)) a0_1 n0_1 hb0_1 (SlA.mono hs0_1 ((le10.trans le26).trans le29)) 73 [] [(.pointer (some ⟨b15, 0, none⟩)), (.pointer (some ⟨b12, 0, none⟩))] (fun y0 => clocks_Times_1 N y0 r4.2.1 r4.1) co_clocks_Times_1 (fun w1 F1 y0 r le1 pe1 hr1 => c_clocks_Times_1 N w1 F1 pe1  y0 b15 r4.2.1 or4_1_0 (MpA.mono (MpA.mono hmr4_1_0 (le26.trans le29)) le1) or4_1_1 (MpA.mono (MpA.mono hmr4_1_1 (le26.trans le29)) le1) (le1 _ _ (le29 _ _ hF27)) b12 r4.1 or4_0_0 (MpA.mono (MpA.mono hmr4_0_0 (le26.trans le29)) le1) or4_0_1 (MpA.mono (MpA.mono hmr4_0_1 (le26.trans le29)) le1) (le1 _ _ hF30) r hr1) _ hr32) ?_
  intro v34 F4 w35 hs36 le37 hp38
  obtain ⟨ar31_0_0, nr31_0_0, rfl, hbr31_0_0, hsr31_0_0⟩ := hp38
  refine V 2 33 (ma 18 (.slice ar31_0_0 r31.length nr31_0_0)) ?_
  refine V 3 30 (mc (vi 0) (vi 0)) ?_
  refine Nt ?_
  refine CWP.ret (by kernel_rfl) ?_
  have hfin := some_inj h33
  subst hfin
  exact ⟨rfl, (.tuple #[(.slice ar31_0_0 r31.length nr31_0_0), (vi 0)]), res_of (l := [.tmp 2, .tmp 3]) (by kernel_rfl) (vs := [(.slice ar31_0_0 r31.length nr31_0_0), (vi 0)]) ⟨rfl, ⟨rfl, trivial⟩⟩, (.tuple #[(.slice ar31_0_0 r31.length nr31_0_0), (vi 0)]), F4, rfl, hs36.clear, ⟨ar31_0_0, nr31_0_0, rfl, hbr31_0_0, hsr31_0_0⟩⟩
end Go.Proofs.Ythbcnabeabcmlaa
namespace Go.Proofs.Ythbcnabeabcmlaa
open Go.Proofs
def slices_IndexFunc_api_Ref_api_Ref_L0 (N : Nat) (x0 : (List Ref)) (x1 : (Ref → Option Bool)) : Int → Option (Flow Int Int) := fun s4 =>
 (bif (decide (s4 < (x0.length : Int))) then ((idx x0 s4).bind fun x26 => ((x1 x26).bind fun r40 => (bif r40 then some (.ret s4) else some (.next (W64 (s4 + 1)))))) else some (.done s4))
def slices_IndexFunc_api_Ref_api_Ref (N : Nat) (x0 : (List Ref)) (x1 : (Ref → Option Bool)) : Option Int :=
 ((iter (slices_IndexFunc_api_Ref_api_Ref_L0 N x0 x1) N 0).bind fun o => o.k (fun r => some r) (fun s13 => some (-1)))
theorem co_slices_IndexFunc_api_Ref_api_Ref : CallOk Try.prog 135 := fun _ _ => by kernel_rfl
set_option maxHeartbeats 4000000 in
set_option maxRecDepth 100000 in
theorem c_slices_IndexFunc_api_Ref_api_Ref (N : Nat) (w0 : World) (F0 : Mem) (hF : ∀ b o, F0 b = some o → w0.heap[b]? = some o) (x0 : (List Ref)) (a0_0 : Option Addr) (n0_0 : Nat) (hb0_0 : LC x0.length n0_0) (hs0_0 : SlA tRef F0 a0_0 x0) (gx1 : FuncId) (fx1 kx1 : List Value) (x1 : Ref → Option Bool) (hox1 : CallOk Try.prog gx1) (hpx1 : ∀ (w' : World) (F' : Mem) (y0 : Ref) (r : Bool), Mem.le F0 F' → (∀ b o, F' b = some o → w'.heap[b]? = some o) → x1 y0 = some r → Calls Try.prog gx1 (fx1 ++ (([(.agg (kRef y0))] : List Value) ++ kx1)).toArray w' (FRet w' F' fun F'' v => v = (.bool r))) (r : Int) (h : slices_IndexFunc_api_Ref_api_Ref N x0 x1 = some r) :
  Calls Try.prog 135 ([(.slice a0_0 x0.length n0_0), (.func (.func gx1) fx1.toArray kx1.toArray)] : List Value).toArray w0 (FRet w0 F0 fun F' v => v = (vi r)) := by
 have hs0 := HS.start hF
 refine calls_of (n := 19) (c := bodyOf Try.f135) Try.func135 (by kernel_rfl) (by kernel_rfl) (by kernel_rfl) ?_
 refine Sq (Rg [0] ?_)
 refine V 4 3 (mc (vi 0) (vi 0)) ?_
 refine Nss ?_
 refine Sq (Rg [0, 1, 2] ?_)
 refine V 6 109 (mv 0 (.slice a0_0 x0.length n0_0)) ?_
 refine V 7 3 (ln 6 109 a0_0 x0.length n0_0 27 2 16) ?_
 refine V 8 3 (run_move (x := (.const (vi 0))) (v := (vi 0)) rfl) ?_
 refine Nt ?_
 obtain ⟨o1, ho2, h3⟩ := bind_some h
 refine CWP.cut (fun f w => ∃ (s13 : Int) (F2 : Mem), o1 = .done s13 ∧ HS w0 F0 w F2 [] ∧ Mem.le F0 F2 ∧ f.d = []) ?_ ?_
 ·refine Bk ?_
  refine CWP.loop (by kernel_rfl) (fun m f w => ∃ (s4 : Int) (F1 : Mem), iter (slices_IndexFunc_api_Ref_api_Ref_L0 N x0 x1) m s4 = some o1 ∧ HS w0 F0 w F1 [] ∧ Mem.le F0 F1 ∧ f.d = [] ∧ f 0 = (.slice a0_0 x0.length n0_0) ∧ f 1 = (.func (.func gx1) fx1.toArray kx1.toArray) ∧ f 7 = (vi (x0.length : Int)) ∧ f 8 = (vi s4)) N ⟨0, F0, ho2, hs0, (Mem.le.refl _), rfl, rfl, rfl, rfl, rfl⟩ ?_
  rintro m18 f w5 ⟨s4, F1, hit19, hs6, le7, e8, e9, e10, e11, e12⟩
  obtain ⟨m20, fl21, rfl, hb22, hnx23⟩ := iter_step hit19
  refine Sq (Rg [0] ?_)
  refine V 9 0 (run_lss (t := 3) (t' := 3) (x := (.tmp 8)) (y := (.tmp 7)) (k := .i64) (a := s4) (b := (x0.length : Int)) e12 e11) ?_
  refine Nss ?_
  refine CWP.cond (t := (decide (s4 < (x0.length : Int)))) (by kernel_rfl) rfl (fun hb24 => ?_) (fun hb24 => ?_)
  ·have h25 := cond_t hb22 hb24
   refine Sc ?_
   refine thenQ_nrm ?_
   refine Sq ?_
   refine Bk ?_
   refine Sq (Rg [0, 1] ?_)
   refine V 10 3 (mv 8 (vi s4) e12) ?_
   refine V 5 3 (ma 10 (vi s4)) ?_
   refine Nss (Rg [0, 1, 2, 3, 4, 5] ?_)
   refine V 11 139 (mv 1 (.func (.func gx1) fx1.toArray kx1.toArray) e10) ?_
   refine V 12 109 (mv 0 (.slice a0_0 x0.length n0_0) e9) ?_
   refine V 13 3 (mv 5 (vi s4)) ?_
   obtain ⟨x26, hx27, h29⟩ := bind_some h25
   obtain ⟨hi28, hx27'⟩ := idx_spec hx27
   obtain ⟨b30, o31, C32, E33, fz34, rfl, hF36, hE37⟩ := SlA.open (SlA.mono hs0_0 le7) hx27'
   have hc39 := hE37 _ _ hx27'
   refine V 14 0 (ix 109 12 13 b30 o31 27 2 16 hi28) ?_
   refine V 15 27 (lx 27 14 0 2 true 2 (.agg (kRef x26)) (hs6.pers _ _ hF36) hc39) ?_
   obtain ⟨r40, hr41, h42⟩ := bind_some h29
   refine RWP.call (dst := (some 16)) (ty := 4) (g := none) (by kernel_rfl) rfl (f0 := (.tmp 11)) (aos := #[(.tmp 15)]) (ats := #[27]) (fid := gx1) (first := fx1.toArray) (cap := kx1.toArray) (args := (fx1 ++ (([(.agg (kRef x26))] : List Value) ++ kx1))) rfl hox1 (app_args2 (l := [(.agg (kRef x26))]) (fi := fx1) (k := kx1) (rfl)) hs6 (hpx1 w5 F1 (x26) _ le7 hs6.pers hr41) ?_
   intro v43 F3 w44 hs45 le46 hp47
   obtain rfl := hp47
   refine Nt ?_
   refine CWP.cond (t := r40) (by kernel_rfl) rfl (fun hb48 => ?_) (fun hb48 => ?_)
   ·have h49 := cond_t h42 hb48
    refine Sq (Rg [0, 1] ?_)
    refine V 17 3 (mv 5 (vi s4)) ?_
    refine V 4 3 (ma 17 (vi s4)) ?_
    refine Nt ?_
    refine CWP.ret (by kernel_rfl) ?_
    refine blockQ_ret ?_
    refine thenQ_ret ?_
    refine thenQ_ret ?_
    refine blockQ_ret ?_
    have hret := iter_ret h49 hnx23
    subst hret
    refine .inr ?_
    refine thenQ_ret ?_
    have hfin := some_inj h3
    subst hfin
    exact ⟨e8, (vi s4), res_of (l := [.tmp 4]) (by kernel_rfl) (vs := [(vi s4)]) ⟨rfl, trivial⟩, (vi s4), F3, rfl, hs45.clear, rfl⟩
   ·have h50 := cond_f h42 hb48
    refine Sc ?_
    refine blockQ_nrm ?_
    refine thenQ_nrm ?_
    refine Rg [0, 1] ?_
    refine V 18 3 (run_add (t := 3) (t' := 3) (x := (.tmp 8)) (y := (.const (vi 1))) (k := .i64) (a := s4) (b := 1) e12 rfl) ?_
    refine V 8 3 (mv 18 (vi (W64 (s4 + 1)))) ?_
    refine RWP.nil ?_
    have hn51 := iter_next h50 hnx23
    exact ⟨m20, Nat.lt_succ_self _, (W64 (s4 + 1)), F3, hn51, hs45, (le7.trans le46), e8, e9, e10, e11, rfl⟩
  ·have h52 := cond_f hb22 hb24
   refine CWP.exit (by kernel_rfl) ?_
   refine thenQ_ex ?_
   refine thenQ_ex ?_
   refine blockQ_hit rfl ?_
   have ho53 := iter_done h52 hnx23
   exact .inl ⟨rfl, s4, F1, ho53, hs6, le7, e8⟩
 ·rintro f w14 ⟨s13, F2, rfl, hs15, le16, e17⟩
  have h54 := k_done h3
  refine thenQ_nrm ?_
  refine Sq (Rg [0] ?_)
  refine V 4 3 (mc (vi (-1)) (vi (-1))) ?_
  refine Nt ?_
  refine CWP.ret (by kernel_rfl) ?_
  have hfin := some_inj h54
  subst hfin
  exact ⟨e17, (vi (-1)), res_of (l := [.tmp 4]) (by kernel_rfl) (vs := [(vi (-1))]) ⟨rfl, trivial⟩, (vi (-1)), F2, rfl, hs15.clear, rfl⟩
end Go.Proofs.Ythbcnabeabcmlaa
namespace Go.Proofs.Ythbcnabeabcmlaa
open Go.Proofs
def slices_ContainsFunc_api_Ref_api_Ref (N : Nat) (x0 : (List Ref)) (x1 : (Ref → Option Bool)) : Option Bool :=
 ((slices_IndexFunc_api_Ref_api_Ref N x0 x1).bind fun r1 => some (decide (r1 ≥ 0)))
theorem co_slices_ContainsFunc_api_Ref_api_Ref : CallOk Try.prog 117 := fun _ _ => by kernel_rfl
set_option maxHeartbeats 4000000 in
set_option maxRecDepth 100000 in
theorem c_slices_ContainsFunc_api_Ref_api_Ref (N : Nat) (w0 : World) (F0 : Mem) (hF : ∀ b o, F0 b = some o → w0.heap[b]? = some o) (x0 : (List Ref)) (a0_0 : Option Addr) (n0_0 : Nat) (hb0_0 : LC x0.length n0_0) (hs0_0 : SlA tRef F0 a0_0 x0) (gx1 : FuncId) (fx1 kx1 : List Value) (x1 : Ref → Option Bool) (hox1 : CallOk Try.prog gx1) (hpx1 : ∀ (w' : World) (F' : Mem) (y0 : Ref) (r : Bool), Mem.le F0 F' → (∀ b o, F' b = some o → w'.heap[b]? = some o) → x1 y0 = some r → Calls Try.prog gx1 (fx1 ++ (([(.agg (kRef y0))] : List Value) ++ kx1)).toArray w' (FRet w' F' fun F'' v => v = (.bool r))) (r : Bool) (h : slices_ContainsFunc_api_Ref_api_Ref N x0 x1 = some r) :
  Calls Try.prog 117 ([(.slice a0_0 x0.length n0_0), (.func (.func gx1) fx1.toArray kx1.toArray)] : List Value).toArray w0 (FRet w0 F0 fun F' v => v = (.bool r)) := by
 have hs0 := HS.start hF
 refine calls_of (n := 9) (c := bodyOf Try.f117) Try.func117 (by kernel_rfl) (by kernel_rfl) (by kernel_rfl) ?_
 refine Sq (Rg [0] ?_)
 refine V 4 4 (mc (.bool false) (.bool false)) ?_
 refine Nss (Rg [0, 1, 2, 3, 4] ?_)
 refine V 5 109 (mv 0 (.slice a0_0 x0.length n0_0)) ?_
 refine V 6 139 (mv 1 (.func (.func gx1) fx1.toArray kx1.toArray)) ?_
 obtain ⟨r1, hr2, h3⟩ := bind_some h
 refine Cl 7 3 135 #[(.tmp 5), (.tmp 6)] #[109, 139] co_slices_IndexFunc_api_Ref_api_Ref hs0 (c_slices_IndexFunc_api_Ref_api_Ref N w0 F0 hs0.pers (x0) a0_0 n0_0 hb0_0 hs0_0 gx1 fx1 kx1 x1 hox1 (fun w1 F1 y0 r le1 pe1 hr1 => hpx1 w1 F1 y0 r (le1) pe1 hr1) _ hr2) ?_
 intro v4 F1 w5 hs6 le7 hp8
 obtain rfl := hp8
 refine V 8 4 (run_geq (t := 3) (t' := 3) (x := (.tmp 7)) (y := (.const (vi 0))) (k := .i64) (a := r1) (b := 0) rfl rfl) ?_
 refine V 4 4 (ma 8 (.bool (decide (r1 ≥ 0)))) ?_
 refine Nt ?_
 refine CWP.ret (by kernel_rfl) ?_
 have hfin := some_inj h3
 subst hfin
 exact ⟨rfl, (.bool (decide (r1 ≥ 0))), res_of (l := [.tmp 4]) (by kernel_rfl) (vs := [(.bool (decide (r1 ≥ 0)))]) ⟨rfl, trivial⟩, (.bool (decide (r1 ≥ 0))), F1, rfl, hs6.clear, rfl⟩
end Go.Proofs.Ythbcnabeabcmlaa
namespace Go.Proofs.Ythbcnabeabcmlaa
open Go.Proofs
def clocks_asked_1 (N : Nat) (x0 : Ref) (z0 : System) : Option Bool :=
 ((clocks_has N z0 x0).bind fun r4 => some (!r4))
theorem co_clocks_asked_1 : CallOk Try.prog 118 := fun _ _ => by kernel_rfl
set_option maxHeartbeats 4000000 in
set_option maxRecDepth 100000 in
theorem c_clocks_asked_1 (N : Nat) (w0 : World) (F0 : Mem) (hF : ∀ b o, F0 b = some o → w0.heap[b]? = some o) (x0 : Ref) (bz0 : Nat) (z0 : System) (az0_0 : Option Addr) (nz0_0 : Nat) (hbz0_0 : LC z0.Tracks.length nz0_0) (hsz0_0 : SlA tTrack F0 az0_0 z0.Tracks) (az0_1 : Option Addr) (nz0_1 : Nat) (hbz0_1 : LC z0.Ties.length nz0_1) (hsz0_1 : SlA tTie F0 az0_1 z0.Ties) (hz0 : F0 bz0 = some (oc (kSystem z0 az0_0 nz0_0 az0_1 nz0_1) 25)) (r : Bool) (h : clocks_asked_1 N x0 z0 = some r) :
  Calls Try.prog 118 ([(.agg (kRef x0)), (.pointer (some ⟨bz0, 0, none⟩))] : List Value).toArray w0 (FRet w0 F0 fun F' v => v = (.bool r)) := by
 have hs0 := HS.start hF
 refine calls_of (n := 8) (c := bodyOf Try.f118) Try.func118 (by kernel_rfl) (by kernel_rfl) (by kernel_rfl) ?_
 refine Sq (Rg [0, 1] ?_)
 refine Bx 2 0 0 27 (kRef x0) hs0 (fun b1 w2 (hs3 : HS w0 F0 w2 F0 [(sb b1 (kRef x0) 27)]) => ?_)
 refine V 3 4 (mc (.bool false) (.bool false)) ?_
 refine Nss (Rg [0, 1, 2, 3, 4] ?_)
 refine V 4 25 (ld 25 1 bz0 0 true 3 (.agg (kSystem z0 az0_0 nz0_0 az0_1 nz0_1)) (hs3.pers _ _ hz0)) ?_
 refine V 5 27 (ld 27 2 b1 0 true 2 (.agg (kRef x0)) (hs3.ownAt (k := 0) rfl)) ?_
 obtain ⟨r4, hr5, h6⟩ := bind_some h
 refine Cl 6 4 107 #[(.tmp 4), (.tmp 5)] #[25, 27] co_clocks_has hs3 (c_clocks_has N w2 F0 hs3.pers (z0) az0_0 nz0_0 hbz0_0 hsz0_0 az0_1 nz0_1 hbz0_1 hsz0_1 (x0) _ hr5) ?_
 intro v7 F1 w8 hs9 le10 hp11
 obtain rfl := hp11
 refine V 7 4 (run_not (t := 4) (x := (.tmp 6)) (a := r4) rfl) ?_
 refine V 3 4 (ma 7 (.bool (!r4))) ?_
 refine Nt ?_
 refine CWP.ret (by kernel_rfl) ?_
 have hfin := some_inj h6
 subst hfin
 exact ⟨rfl, (.bool (!r4)), res_of (l := [.tmp 3]) (by kernel_rfl) (vs := [(.bool (!r4))]) ⟨rfl, trivial⟩, (.bool (!r4)), F1, rfl, hs9.clear, rfl⟩
end Go.Proofs.Ythbcnabeabcmlaa
namespace Go.Proofs.Ythbcnabeabcmlaa
open Go.Proofs
def clocks_asked (N : Nat) (x0 : System) (x1 : (List Ref)) : Option Int :=
 ((clocks_Check N x0).bind fun r4 => (bif (r4 != 0) then some r4 else ((slices_ContainsFunc_api_Ref_api_Ref N x1 (fun y0 => clocks_asked_1 N y0 x0)).bind fun r18 => (bif r18 then some 3 else ((clocks_loopOf N x0).bind fun r29 => (bif (!r29.isEmpty) then some 31 else some 0))))))
theorem co_clocks_asked : CallOk Try.prog 74 := fun _ _ => by kernel_rfl
set_option maxHeartbeats 4000000 in
set_option maxRecDepth 100000 in
theorem c_clocks_asked (N : Nat) (w0 : World) (F0 : Mem) (hF : ∀ b o, F0 b = some o → w0.heap[b]? = some o) (x0 : System) (a0_0 : Option Addr) (n0_0 : Nat) (hb0_0 : LC x0.Tracks.length n0_0) (hs0_0 : SlA tTrack F0 a0_0 x0.Tracks) (a0_1 : Option Addr) (n0_1 : Nat) (hb0_1 : LC x0.Ties.length n0_1) (hs0_1 : SlA tTie F0 a0_1 x0.Ties) (x1 : (List Ref)) (a1_0 : Option Addr) (n1_0 : Nat) (hb1_0 : LC x1.length n1_0) (hs1_0 : SlA tRef F0 a1_0 x1) (r : Int) (h : clocks_asked N x0 x1 = some r) :
  Calls Try.prog 74 ([(.agg (kSystem x0 a0_0 n0_0 a0_1 n0_1)), (.slice a1_0 x1.length n1_0)] : List Value).toArray w0 (FRet w0 F0 fun F' v => v = (vi r)) := by
 have hs0 := HS.start hF
 refine calls_of (n := 17) (c := bodyOf Try.f74) Try.func74 (by kernel_rfl) (by kernel_rfl) (by kernel_rfl) ?_
 refine Sq (Rg [0, 1] ?_)
 refine Bx 2 0 0 25 (kSystem x0 a0_0 n0_0 a0_1 n0_1) hs0 (fun b1 w2 (hs3 : HS w0 F0 w2 F0 [(sb b1 (kSystem x0 a0_0 n0_0 a0_1 n0_1) 25)]) => ?_)
 refine V 4 30 (mc (vi 0) (vi 0)) ?_
 refine Nss ?_
 refine Sq (Rg [0, 1, 2] ?_)
 refine V 6 25 (ld 25 2 b1 0 true 3 (.agg (kSystem x0 a0_0 n0_0 a0_1 n0_1)) (hs3.ownAt (k := 0) rfl)) ?_
 obtain ⟨r4, hr5, h6⟩ := bind_some h
 refine Cl 7 30 17 #[(.tmp 6)] #[25] co_clocks_Check hs3 (c_clocks_Check N w2 F0 hs3.pers (x0) a0_0 n0_0 hb0_0 hs0_0 a0_1 n0_1 hb0_1 hs0_1 _ hr5) ?_
 intro v7 F1 w8 hs9 le10 hp11
 obtain rfl := hp11
 refine V 5 30 (ma 7 (vi r4)) ?_
 refine Nss (Rg [0, 1] ?_)
 refine V 8 30 (mv 5 (vi r4)) ?_
 refine V 9 4 (run_neq (t := 30) (t' := 30) (x := (.tmp 8)) (y := (.const (vi 0))) (k := .i64) (a := r4) (b := 0) rfl rfl) ?_
 refine Nt ?_
 refine CWP.cond (t := (r4 != 0)) (by kernel_rfl) rfl (fun hb12 => ?_) (fun hb12 => ?_)
 ·have h13 := cond_t h6 hb12
  refine Sq (Rg [0, 1] ?_)
  refine V 10 30 (mv 5 (vi r4)) ?_
  refine V 4 30 (ma 10 (vi r4)) ?_
  refine Nt ?_
  refine CWP.ret (by kernel_rfl) ?_
  refine thenQ_ret ?_
  have hfin := some_inj h13
  subst hfin
  exact ⟨rfl, (vi r4), res_of (l := [.tmp 4]) (by kernel_rfl) (vs := [(vi r4)]) ⟨rfl, trivial⟩, (vi r4), F1, rfl, hs9.clear, rfl⟩
 ·have h14 := cond_f h6 hb12
  refine Sc ?_
  refine thenQ_nrm ?_
  refine Sq ?_
  refine Sq (Rg [0, 1, 2] ?_)
  refine V 11 109 (mv 1 (.slice a1_0 x1.length n1_0)) ?_
  refine V 12 139 (run_makeFunc (fn := .func 118) (first := #[]) (cap := #[(.tmp 2)]) (fl := []) (cl := [(.pointer (some ⟨b1, 0, none⟩))]) rfl (rfl)) ?_
  obtain ⟨F2, hs15, le16, hF17⟩ : ∃ Fq, HS w0 F0 w8 Fq [] ∧ Mem.le F1 Fq ∧ Fq b1 = some (oc (kSystem x0 a0_0 n0_0 a0_1 n0_1) 25) := HS.freezeC hs9 (k := 0) rfl
  obtain ⟨r18, hr19, h20⟩ := bind_some h14
  refine Cl 13 4 117 #[(.tmp 11), (.tmp 12)] #[109, 139] co_slices_ContainsFunc_api_Ref_api_Ref hs15 (c_slices_ContainsFunc_api_Ref_api_Ref N w8 F2 hs15.pers (x1) a1_0 n1_0 hb1_0 (SlA.mono hs1_0 (le10.trans le16)) 118 [] [(.pointer (some ⟨b1, 0, none⟩))] (fun y0 => clocks_asked_1 N y0 x0) co_clocks_asked_1 (fun w1 F1 y0 r le1 pe1 hr1 => c_clocks_asked_1 N w1 F1 pe1  y0 b1 x0 a0_0 n0_0 hb0_0 (SlA.mono (SlA.mono hs0_0 (le10.trans le16)) le1) a0_1 n0_1 hb0_1 (SlA.mono (SlA.mono hs0_1 (le10.trans le16)) le1) (le1 _ _ hF17) r hr1) _ hr19) ?_
  intro v21 F3 w22 hs23 le24 hp25
  obtain rfl := hp25
  refine Nt ?_
  refine CWP.cond (t := r18) (by kernel_rfl) rfl (fun hb26 => ?_) (fun hb26 => ?_)
  ·have h27 := cond_t h20 hb26
   refine Sq (Rg [0] ?_)
   refine V 4 30 (mc (vi 3) (vi 3)) ?_
   refine Nt ?_
   refine CWP.ret (by kernel_rfl) ?_
   refine thenQ_ret ?_
   have hfin := some_inj h27
   subst hfin
   exact ⟨rfl, (vi 3), res_of (l := [.tmp 4]) (by kernel_rfl) (vs := [(vi 3)]) ⟨rfl, trivial⟩, (vi 3), F3, rfl, hs23.clear, rfl⟩
  ·have h28 := cond_f h20 hb26
   refine Sc ?_
   refine thenQ_nrm ?_
   refine Sq ?_
   refine Sq (Rg [0, 1, 2] ?_)
   refine V 14 25 (ld 25 2 b1 0 true 3 (.agg (kSystem x0 a0_0 n0_0 a0_1 n0_1)) (hs23.pers _ _ (le24 _ _ hF17))) ?_
   obtain ⟨r29, hr30, h31⟩ := bind_some h28
   refine Cl 15 57 103 #[(.tmp 14)] #[25] co_clocks_loopOf hs23 (c_clocks_loopOf N w22 F3 hs23.pers (x0) a0_0 n0_0 hb0_0 (SlA.mono hs0_0 ((le10.trans le16).trans le24)) a0_1 n0_1 hb0_1 (SlA.mono hs0_1 ((le10.trans le16).trans le24)) _ hr30) ?_
   intro v32 F4 w33 hs34 le35 hp36
   obtain ⟨ar29_0_0, nr29_0_0, rfl, hbr29_0_0, hsr29_0_0, nf37, fr38⟩ := hp36
   refine V 16 4 (run_nenil' (e := 103) (t := 57) (t' := 57) (x := (.tmp 15)) (y := (.const (.slice none 0 0))) hsr29_0_0 nf37 rfl rfl (by kernel_rfl)) ?_
   refine Nt ?_
   refine CWP.cond (t := (!r29.isEmpty)) (by kernel_rfl) rfl (fun hb39 => ?_) (fun hb39 => ?_)
   ·have h40 := cond_t h31 hb39
    refine Sq (Rg [0] ?_)
    refine V 4 30 (mc (vi 31) (vi 31)) ?_
    refine Nt ?_
    refine CWP.ret (by kernel_rfl) ?_
    refine thenQ_ret ?_
    have hfin := some_inj h40
    subst hfin
    exact ⟨rfl, (vi 31), res_of (l := [.tmp 4]) (by kernel_rfl) (vs := [(vi 31)]) ⟨rfl, trivial⟩, (vi 31), F4, rfl, hs34.clear, rfl⟩
   ·have h41 := cond_f h31 hb39
    refine Sc ?_
    refine thenQ_nrm ?_
    refine Sq (Rg [0] ?_)
    refine V 4 30 (mc (vi 0) (vi 0)) ?_
    refine Nt ?_
    refine CWP.ret (by kernel_rfl) ?_
    have hfin := some_inj h41
    subst hfin
    exact ⟨rfl, (vi 0), res_of (l := [.tmp 4]) (by kernel_rfl) (vs := [(vi 0)]) ⟨rfl, trivial⟩, (vi 0), F4, rfl, hs34.clear, rfl⟩
end Go.Proofs.Ythbcnabeabcmlaa
namespace Go.Proofs.Ythbcnabeabcmlaa
open Go.Proofs
def clocks_Relation (N : Nat) (x0 : System) (x1 : Ref) (x2 : Ref) : Option (Span × Int) :=
 ((clocks_asked N x0 ([x1, x2])).bind fun r22 => (bif (r22 != 0) then some (({ Lo := 0, Hi := 0 } : Span), r22) else ((clocks_bounds N x0).bind fun r35 => ((slices_Collect_api_Bound N r35).bind fun r43 => (((clocks_relax_ok N r43 x1 true).bind fun r62 => ((clocks_relax_ok N r43 x1 false).bind fun r70 => some ((W64 (0 - (mgetD r62.at_ x2 0))), (mgetD r70.at_ x2 0)))).bind fun j56 => some (({ Lo := j56.1, Hi := j56.2 } : Span), 0))))))
theorem co_clocks_Relation : CallOk Try.prog 20 := fun _ _ => by kernel_rfl
set_option maxHeartbeats 4000000 in
set_option maxRecDepth 100000 in
theorem c_clocks_Relation (N : Nat) (w0 : World) (F0 : Mem) (hF : ∀ b o, F0 b = some o → w0.heap[b]? = some o) (x0 : System) (a0_0 : Option Addr) (n0_0 : Nat) (hb0_0 : LC x0.Tracks.length n0_0) (hs0_0 : SlA tTrack F0 a0_0 x0.Tracks) (a0_1 : Option Addr) (n0_1 : Nat) (hb0_1 : LC x0.Ties.length n0_1) (hs0_1 : SlA tTie F0 a0_1 x0.Ties) (x1 : Ref) (x2 : Ref) (r : (Span × Int)) (h : clocks_Relation N x0 x1 x2 = some r) :
  Calls Try.prog 20 ([(.agg (kSystem x0 a0_0 n0_0 a0_1 n0_1)), (.agg (kRef x1)), (.agg (kRef x2))] : List Value).toArray w0 (FRet w0 F0 fun F' v => v = (.tuple #[(.agg (kSpan r.1)), (vi r.2)])) := by
 have hs0 := HS.start hF
 refine calls_of (n := 36) (c := bodyOf Try.f20) Try.func20 (by kernel_rfl) (by kernel_rfl) (by kernel_rfl) ?_
 refine Sq (Rg [0, 1, 2, 3, 4] ?_)
 refine Bx 3 0 0 25 (kSystem x0 a0_0 n0_0 a0_1 n0_1) hs0 (fun b1 w2 (hs3 : HS w0 F0 w2 F0 [(sb b1 (kSystem x0 a0_0 n0_0 a0_1 n0_1) 25)]) => ?_)
 refine Bx 4 0 1 27 (kRef x1) hs3 (fun b4 w5 (hs6 : HS w0 F0 w5 F0 [(sb b4 (kRef x1) 27), (sb b1 (kSystem x0 a0_0 n0_0 a0_1 n0_1) 25)]) => ?_)
 refine Bx 5 0 2 27 (kRef x2) hs6 (fun b7 w8 (hs9 : HS w0 F0 w8 F0 [(sb b7 (kRef x2) 27), (sb b4 (kRef x1) 27), (sb b1 (kSystem x0 a0_0 n0_0 a0_1 n0_1) 25)]) => ?_)
 refine Al 6 0 38 #[(vi 0), (vi 0)] hs9 (fun b10 w11 (hs12 : HS w0 F0 w11 F0 [(sb b10 #[(vi 0), (vi 0)] 38), (sb b7 (kRef x2) 27), (sb b4 (kRef x1) 27), (sb b1 (kSystem x0 a0_0 n0_0 a0_1 n0_1) 25)]) => ?_)
 refine V 7 30 (mc (vi 0) (vi 0)) ?_
 refine Nss ?_
 refine Sq (Rg [0, 1, 2, 3, 4, 5] ?_)
 refine V 10 25 (ld 25 3 b1 0 true 3 (.agg (kSystem x0 a0_0 n0_0 a0_1 n0_1)) (hs12.ownAt (k := 3) rfl)) ?_
 refine V 11 27 (ld 27 4 b4 0 true 2 (.agg (kRef x1)) (hs12.ownAt (k := 2) rfl)) ?_
 refine V 12 27 (ld 27 5 b7 0 true 2 (.agg (kRef x2)) (hs12.ownAt (k := 1) rfl)) ?_
 refine RWP.buildSlice (dst := (some 13)) (ty := 109) (g := none) (by kernel_rfl) rfl (t := 109) (len := 2) (parts := #[(0, (.tmp 11)), (1, (.tmp 12))]) (vs := [(0, (.agg (kRef x1))), (1, (.agg (kRef x2)))]) (rfl) (E := 27) (cs := [(vi x1.Log), (vi x1.Line), (vi x2.Log), (vi x2.Line)]) (by kernel_rfl) hs12 (fun b13 w14 (hs15 : HS w0 F0 w14 F0 [(some b13, .cells ([(vi x1.Log), (vi x1.Line), (vi x2.Log), (vi x2.Line)] : List Value).toArray 27 (0, 0)), (sb b10 #[(vi 0), (vi 0)] 38), (sb b7 (kRef x2) 27), (sb b4 (kRef x1) 27), (sb b1 (kSystem x0 a0_0 n0_0 a0_1 n0_1) 25)]) => ?_)
 have hr17 : RowR tRef 27 F0 (some ⟨b13, 0, none⟩) 2 [x1, x2] (some b13, .cells ([(vi x1.Log), (vi x1.Line), (vi x2.Log), (vi x2.Line)] : List Value).toArray 27 (0, 0)) := RowR.lit ⟨rfl, ⟨rfl, rfl⟩⟩ (by simp)
 have hb21 := RowR.bound hr17
 obtain ⟨F1, hs18, le19, hs20⟩ : ∃ Fq, HS w0 F0 w14 Fq [(sb b10 #[(vi 0), (vi 0)] 38), (sb b7 (kRef x2) 27), (sb b4 (kRef x1) 27), (sb b1 (kSystem x0 a0_0 n0_0 a0_1 n0_1) 25)] ∧ Mem.le F0 Fq ∧ SlA tRef Fq (some ⟨b13, 0, none⟩) [x1, x2] := HS.freezeRow hs15 (k := 0) rfl hr17
 obtain ⟨r22, hr23, h24⟩ := bind_some h
 refine Cl 14 30 74 #[(.tmp 10), (.tmp 13)] #[25, 109] co_clocks_asked hs18 (c_clocks_asked N w14 F1 hs18.pers (x0) a0_0 n0_0 hb0_0 (SlA.mono hs0_0 le19) a0_1 n0_1 hb0_1 (SlA.mono hs0_1 le19) ([x1, x2]) (some ⟨b13, 0, none⟩) 2 hb21 hs20 _ hr23) ?_
 intro v25 F2 w26 hs27 le28 hp29
 obtain rfl := hp29
 refine V 8 30 (ma 14 (vi r22)) ?_
 refine Nss (Rg [0, 1] ?_)
 refine V 15 30 (mv 8 (vi r22)) ?_
 refine V 16 4 (run_neq (t := 30) (t' := 30) (x := (.tmp 15)) (y := (.const (vi 0))) (k := .i64) (a := r22) (b := 0) rfl rfl) ?_
 refine Nt ?_
 refine CWP.cond (t := (r22 != 0)) (by kernel_rfl) rfl (fun hb30 => ?_) (fun hb30 => ?_)
 ·have h31 := cond_t h24 hb30
  refine Sq (Rg [0, 1, 2, 3] ?_)
  refine V 17 38 (run_build2 (t := 38) (parts := #[]) (vs := []) (rfl) (cs := [(vi 0), (vi 0)]) (by kernel_rfl)) ?_
  refine V 18 30 (mv 8 (vi r22)) ?_
  refine RWP.store (ty := 0) (g := none) (by kernel_rfl) rfl (x := (.tmp 6)) (y := (.tmp 17)) (t := 38) (gg := true) (s := 2) (v := (.agg #[(vi 0), (vi 0)])) (b := b10) (o := 0) (C := #[(vi 0), (vi 0)]) rfl rfl (by kernel_rfl) hs27 (k := 0) rfl rfl rfl rfl (C' := #[(vi 0), (vi 0)]) rfl (fun w32 (hs33 : HS w0 F0 w32 F2 [(sb b10 #[(vi 0), (vi 0)] 38), (sb b7 (kRef x2) 27), (sb b4 (kRef x1) 27), (sb b1 (kSystem x0 a0_0 n0_0 a0_1 n0_1) 25)]) => ?_)
  refine V 7 30 (ma 18 (vi r22)) ?_
  refine Nt ?_
  refine CWP.ret (by kernel_rfl) ?_
  refine thenQ_ret ?_
  have hfin := some_inj h31
  subst hfin
  exact ⟨rfl, (.tuple #[(.agg #[(vi 0), (vi 0)]), (vi r22)]), res_of (l := [.cell 6 38, .tmp 7]) (by kernel_rfl) (vs := [(.agg #[(vi 0), (vi 0)]), (vi r22)]) ⟨b10, 0, rfl, run_loadVar' (t := 38) (g := true) (s := 2) (by kernel_rfl) (hs33.ownAt (k := 0) rfl) rfl (by decide), ⟨rfl, trivial⟩⟩, (.tuple #[(.agg #[(vi 0), (vi 0)]), (vi r22)]), F2, rfl, hs33.clear, rfl⟩
 ·have h34 := cond_f h24 hb30
  refine Sc ?_
  refine thenQ_nrm ?_
  refine Sq (Rg [0, 1, 2, 3] ?_)
  refine V 19 25 (ld 25 3 b1 0 true 3 (.agg (kSystem x0 a0_0 n0_0 a0_1 n0_1)) (hs27.ownAt (k := 3) rfl)) ?_
  obtain ⟨r35, hr36, h37⟩ := bind_some h34
  refine Cl 20 105 76 #[(.tmp 19)] #[25] co_clocks_bounds hs27 (c_clocks_bounds N w26 F2 hs27.pers (x0) a0_0 n0_0 hb0_0 (SlA.mono hs0_0 (le19.trans le28)) a0_1 n0_1 hb0_1 (SlA.mono hs0_1 (le19.trans le28)) _ hr36) ?_
  intro v38 F3 w39 hs40 le41 hp42
  obtain ⟨ar35_0_0_0, nr35_0_0_0, ar35_0_0_1, nr35_0_0_1, br35_0_0, rfl, hbr35_0_0_0, hsr35_0_0_0, hbr35_0_0_1, hsr35_0_0_1, hFr35_0_0⟩ := hp42
  obtain ⟨r43, hr44, h45⟩ := bind_some h37
  refine Cl 21 57 75 #[(.tmp 20)] #[105] co_slices_Collect_api_Bound hs40 (c_slices_Collect_api_Bound N w39 F3 hs40.pers (r35) ar35_0_0_0 nr35_0_0_0 hbr35_0_0_0 hsr35_0_0_0 ar35_0_0_1 nr35_0_0_1 hbr35_0_0_1 hsr35_0_0_1 br35_0_0 hFr35_0_0 _ hr44) ?_
  intro v46 F4 w47 hs48 le49 hp50
  obtain ⟨ar43_0_0, nr43_0_0, rfl, hbr43_0_0, hsr43_0_0⟩ := hp50
  refine V 9 57 (ma 21 (.slice ar43_0_0 r43.length nr43_0_0)) ?_
  refine Nss ?_
  obtain ⟨j56, hj60, h61⟩ := bind_some h45
  refine CWP.regionD (by kernel_rfl) (by kernel_rfl) (by kernel_rfl) (by kernel_rfl) (z := 16) (F := F4) (Lc := [(sb b7 (kRef x2) 27), (sb b4 (kRef x1) 27), (sb b1 (kSystem x0 a0_0 n0_0 a0_1 n0_1) 25)]) (Lz := []) (l := [false, false, false, false, false, false, false, false, false, false, false, false, false, false, false, false]) (fuel := 16) (by kernel_rfl) (by kernel_rfl) hs48 (by simp) (by simp) (fun f w => ∃ (F5 : Mem), HS w0 F0 w F5 [(sb b10 #[(vi j56.1), (vi j56.2)] 38)] ∧ Mem.le F4 F5 ∧ f.d = [] ∧ f 6 = (.pointer (some ⟨b10, 0, none⟩)) ∧ f 7 = (vi 0)) (fun wd51 hw52 => ?_) ?_
  ·refine Dt 0 22 57 _ (fun _ hq => mv 9 (.slice ar43_0_0 r43.length nr43_0_0)) ?_
   refine Dt 1 23 27 _ (fun _ hq => ld 27 4 b4 0 true 2 (.agg (kRef x1)) (hq.1.2 1 _ _ rfl)) ?_
   refine Dt 4 26 27 _ (fun _ hq => ld 27 5 b7 0 true 2 (.agg (kRef x2)) (hq.1.2 0 _ _ rfl)) ?_
   refine Dt 7 29 57 _ (fun _ hq => mv 9 (.slice ar43_0_0 r43.length nr43_0_0)) ?_
   refine Dt 8 30 27 _ (fun _ hq => ld 27 4 b4 0 true 2 (.agg (kRef x1)) (hq.1.2 1 _ _ rfl)) ?_
   refine Dt 11 33 27 _ (fun _ hq => ld 27 5 b7 0 true 2 (.agg (kRef x2)) (hq.1.2 0 _ _ rfl)) ?_
   refine DWP.one (i := 2) (by kernel_rfl) ?_
   obtain ⟨r62, hr63, h64⟩ := bind_some hj60
   refine DStep.call (l' := [true, true, true, false, true, false, false, true, true, false, false, true, false, false, false, false]) (zd := true) (by kernel_rfl) (by kernel_rfl) (by kernel_rfl) (dst := (some 24)) (ty := 95) (g := none) (by kernel_rfl) rfl (f0 := (.func 77)) (aos := #[(.tmp 22), (.tmp 23), (.const (.bool true))]) (ats := #[57, 27, 4]) (fid := 77) (first := #[]) (cap := #[]) (args := [(.slice ar43_0_0 r43.length nr43_0_0), (.agg (kRef x1)), (.bool true)]) rfl co_clocks_relax (rfl) hw52 (c_clocks_relax_ok N wd51 F4 hw52.pers (r43) ar43_0_0 nr43_0_0 hbr43_0_0 hsr43_0_0 (x1) (true) _ hr63) ?_
   intro v65 F6 w66 hs67 le68 hp69
   obtain ⟨or62_0_0, or62_0_1, rfl, hmr62_0_0, hmr62_0_1⟩ := hp69
   refine Dt 3 25 92 _ (fun _ hq => run_field2 (s := 95) (x := (.tmp 24)) (i := 0) (o := 0) (k := 1) (t := 92) (gg := false) (cs := #[(.map or62_0_0), (.map or62_0_1)]) (v := (.map or62_0_0)) rfl (by kernel_rfl) (by kernel_rfl) rfl rfl rfl) ?_
   refine DWP.two (i := 5) (j := 9) (by kernel_rfl) ?_ ?_
   ·refine DStep.val (l' := [true, true, true, true, true, true, false, true, true, false, false, true, false, false, false, false]) (zd := true) (by kernel_rfl) (by kernel_rfl) (dst := (some 27)) (ty := 3) (g := none) (by kernel_rfl) rfl (run_lookV1 (mt := 92) (k := 27) (vt := 3) (m := (.tmp 25)) (x := (.tmp 26)) (kv := (.agg (kRef x2))) (kx := x2) (z := (vi 0)) (zx := 0) (K := tRef) (T := tInt) kl27 rfl rfl ⟨_, rfl, rfl⟩ (by kernel_rfl) (by kernel_rfl) ⟨_, rfl, rfl⟩ (MpA.mpw hs67.pers hmr62_0_0) (fun h => by obtain ⟨_, rfl, rfl⟩ := h; rfl)) (dz_of hs67 le68 (by simp) (fun e => by cases e)) ?_
    refine Dt 6 28 3 (vi (W64 (0 - (mgetD r62.at_ x2 0)))) (fun _ hq => run_neg (t := 3) (x := (.tmp 27)) (k := .i64) (a := (mgetD r62.at_ x2 0)) rfl) ?_
    refine DWP.one (i := 9) (by kernel_rfl) ?_
    obtain ⟨r70, hr71, h72⟩ := bind_some h64
    refine DStep.call (l' := [true, true, true, true, true, true, true, true, true, true, false, true, false, false, false, false]) (zd := true) (by kernel_rfl) (by kernel_rfl) (by kernel_rfl) (dst := (some 31)) (ty := 95) (g := none) (by kernel_rfl) rfl (f0 := (.func 77)) (aos := #[(.tmp 29), (.tmp 30), (.const (.bool false))]) (ats := #[57, 27, 4]) (fid := 77) (first := #[]) (cap := #[]) (args := [(.slice ar43_0_0 r43.length nr43_0_0), (.agg (kRef x1)), (.bool false)]) rfl co_clocks_relax (rfl) hs67 (c_clocks_relax_ok N w66 F6 hs67.pers (r43) ar43_0_0 nr43_0_0 hbr43_0_0 (SlA.mono hsr43_0_0 le68) (x1) (false) _ hr71) ?_
    intro v73 F7 w74 hs75 le76 hp77
    obtain ⟨or70_0_0, or70_0_1, rfl, hmr70_0_0, hmr70_0_1⟩ := hp77
    refine Dt 10 32 92 _ (fun _ hq => run_field2 (s := 95) (x := (.tmp 31)) (i := 0) (o := 0) (k := 1) (t := 92) (gg := false) (cs := #[(.map or70_0_0), (.map or70_0_1)]) (v := (.map or70_0_0)) rfl (by kernel_rfl) (by kernel_rfl) rfl rfl rfl) ?_
    refine DWP.one (i := 12) (by kernel_rfl) ?_
    refine DStep.val (l' := [true, true, true, true, true, true, true, true, true, true, true, true, true, false, false, false]) (zd := true) (by kernel_rfl) (by kernel_rfl) (dst := (some 34)) (ty := 3) (g := none) (by kernel_rfl) rfl (run_lookV1 (mt := 92) (k := 27) (vt := 3) (m := (.tmp 32)) (x := (.tmp 33)) (kv := (.agg (kRef x2))) (kx := x2) (z := (vi 0)) (zx := 0) (K := tRef) (T := tInt) kl27 rfl rfl ⟨_, rfl, rfl⟩ (by kernel_rfl) (by kernel_rfl) ⟨_, rfl, rfl⟩ (MpA.mpw hs75.pers hmr70_0_0) (fun h => by obtain ⟨_, rfl, rfl⟩ := h; rfl)) (dz_of hs75 (le68.trans le76) (by simp) (fun e => by cases e)) ?_
    refine Dt 13 35 38 (.agg #[(vi (W64 (0 - (mgetD r62.at_ x2 0)))), (vi (mgetD r70.at_ x2 0))]) (fun _ hq => run_build2 (t := 38) (parts := #[(0, (.tmp 28)), (1, (.tmp 34))]) (vs := [(0, (vi (W64 (0 - (mgetD r62.at_ x2 0))))), (1, (vi (mgetD r70.at_ x2 0)))]) (rfl) (cs := [(vi (W64 (0 - (mgetD r62.at_ x2 0)))), (vi (mgetD r70.at_ x2 0))]) (by kernel_rfl)) ?_
    refine DWP.one (i := 14) (by kernel_rfl) ?_
    refine DStep.store (l' := [true, true, true, true, true, true, true, true, true, true, true, true, true, true, true, false]) (zd := true) (by kernel_rfl) (by kernel_rfl) (ty := 0) (g := none) (by kernel_rfl) rfl (x := (.tmp 6)) (y := (.tmp 35)) (t := 38) (gg := true) (s := 2) (v := (.agg #[(vi (W64 (0 - (mgetD r62.at_ x2 0)))), (vi (mgetD r70.at_ x2 0))])) (b := b10) (o := 0) (C := #[(vi 0), (vi 0)]) rfl rfl (by kernel_rfl) hs75 (k := 0) rfl rfl rfl rfl (C' := #[(vi (W64 (0 - (mgetD r62.at_ x2 0)))), (vi (mgetD r70.at_ x2 0))]) rfl (le68.trans le76) (by simp) (fun e => by cases e) (fun w78 (hs79 : HS w0 F0 w78 F7 [(sb b10 #[(vi (W64 (0 - (mgetD r62.at_ x2 0)))), (vi (mgetD r70.at_ x2 0))] 38), (sb b7 (kRef x2) 27), (sb b4 (kRef x1) 27), (sb b1 (kSystem x0 a0_0 n0_0 a0_1 n0_1) 25)]) => ?_)
    refine Dt 15 7 30 _ (fun _ hq => mc (vi 0) (vi 0)) ?_
    obtain rfl := some_inj h72
    have hs80 : HS w0 F0 w78 F7 [(sb b10 #[(vi (W64 (0 - (mgetD r62.at_ x2 0)))), (vi (mgetD r70.at_ x2 0))] 38), (sb b4 (kRef x1) 27), (sb b1 (kSystem x0 a0_0 n0_0 a0_1 n0_1) 25)] := hs79.drop 1
    have hs81 : HS w0 F0 w78 F7 [(sb b10 #[(vi (W64 (0 - (mgetD r62.at_ x2 0)))), (vi (mgetD r70.at_ x2 0))] 38), (sb b1 (kSystem x0 a0_0 n0_0 a0_1 n0_1) 25)] := hs80.drop 1
    have hs82 : HS w0 F0 w78 F7 [(sb b10 #[(vi (W64 (0 - (mgetD r62.at_ x2 0)))), (vi (mgetD r70.at_ x2 0))] 38)] := hs81.drop 1
    exact DWP.done (by kernel_rfl) ⟨F7, hs82, (le68.trans le76), rfl, rfl, rfl⟩
   ·obtain ⟨r83, hr84, h85⟩ := bind_some h64
    refine DStep.call (l' := [true, true, true, true, true, false, false, true, true, true, false, true, false, false, false, false]) (zd := true) (by kernel_rfl) (by kernel_rfl) (by kernel_rfl) (dst := (some 31)) (ty := 95) (g := none) (by kernel_rfl) rfl (f0 := (.func 77)) (aos := #[(.tmp 29), (.tmp 30), (.const (.bool false))]) (ats := #[57, 27, 4]) (fid := 77) (first := #[]) (cap := #[]) (args := [(.slice ar43_0_0 r43.length nr43_0_0), (.agg (kRef x1)), (.bool false)]) rfl co_clocks_relax (rfl) hs67 (c_clocks_relax_ok N w66 F6 hs67.pers (r43) ar43_0_0 nr43_0_0 hbr43_0_0 (SlA.mono hsr43_0_0 le68) (x1) (false) _ hr84) ?_
    intro v86 F8 w87 hs88 le89 hp90
    obtain ⟨or83_0_0, or83_0_1, rfl, hmr83_0_0, hmr83_0_1⟩ := hp90
    refine Dt 10 32 92 _ (fun _ hq => run_field2 (s := 95) (x := (.tmp 31)) (i := 0) (o := 0) (k := 1) (t := 92) (gg := false) (cs := #[(.map or83_0_0), (.map or83_0_1)]) (v := (.map or83_0_0)) rfl (by kernel_rfl) (by kernel_rfl) rfl rfl rfl) ?_
    refine DWP.two (i := 5) (j := 12) (by kernel_rfl) ?_ ?_
    ·refine DStep.val (l' := [true, true, true, true, true, true, false, true, true, true, true, true, false, false, false, false]) (zd := true) (by kernel_rfl) (by kernel_rfl) (dst := (some 27)) (ty := 3) (g := none) (by kernel_rfl) rfl (run_lookV1 (mt := 92) (k := 27) (vt := 3) (m := (.tmp 25)) (x := (.tmp 26)) (kv := (.agg (kRef x2))) (kx := x2) (z := (vi 0)) (zx := 0) (K := tRef) (T := tInt) kl27 rfl rfl ⟨_, rfl, rfl⟩ (by kernel_rfl) (by kernel_rfl) ⟨_, rfl, rfl⟩ (MpA.mpw hs88.pers (MpA.mono hmr62_0_0 le89)) (fun h => by obtain ⟨_, rfl, rfl⟩ := h; rfl)) (dz_of hs88 (le68.trans le89) (by simp) (fun e => by cases e)) ?_
     refine Dt 6 28 3 (vi (W64 (0 - (mgetD r62.at_ x2 0)))) (fun _ hq => run_neg (t := 3) (x := (.tmp 27)) (k := .i64) (a := (mgetD r62.at_ x2 0)) rfl) ?_
     refine DWP.one (i := 12) (by kernel_rfl) ?_
     refine DStep.val (l' := [true, true, true, true, true, true, true, true, true, true, true, true, true, false, false, false]) (zd := true) (by kernel_rfl) (by kernel_rfl) (dst := (some 34)) (ty := 3) (g := none) (by kernel_rfl) rfl (run_lookV1 (mt := 92) (k := 27) (vt := 3) (m := (.tmp 32)) (x := (.tmp 33)) (kv := (.agg (kRef x2))) (kx := x2) (z := (vi 0)) (zx := 0) (K := tRef) (T := tInt) kl27 rfl rfl ⟨_, rfl, rfl⟩ (by kernel_rfl) (by kernel_rfl) ⟨_, rfl, rfl⟩ (MpA.mpw hs88.pers hmr83_0_0) (fun h => by obtain ⟨_, rfl, rfl⟩ := h; rfl)) (dz_of hs88 (le68.trans le89) (by simp) (fun e => by cases e)) ?_
     refine Dt 13 35 38 (.agg #[(vi (W64 (0 - (mgetD r62.at_ x2 0)))), (vi (mgetD r83.at_ x2 0))]) (fun _ hq => run_build2 (t := 38) (parts := #[(0, (.tmp 28)), (1, (.tmp 34))]) (vs := [(0, (vi (W64 (0 - (mgetD r62.at_ x2 0))))), (1, (vi (mgetD r83.at_ x2 0)))]) (rfl) (cs := [(vi (W64 (0 - (mgetD r62.at_ x2 0)))), (vi (mgetD r83.at_ x2 0))]) (by kernel_rfl)) ?_
     refine DWP.one (i := 14) (by kernel_rfl) ?_
     refine DStep.store (l' := [true, true, true, true, true, true, true, true, true, true, true, true, true, true, true, false]) (zd := true) (by kernel_rfl) (by kernel_rfl) (ty := 0) (g := none) (by kernel_rfl) rfl (x := (.tmp 6)) (y := (.tmp 35)) (t := 38) (gg := true) (s := 2) (v := (.agg #[(vi (W64 (0 - (mgetD r62.at_ x2 0)))), (vi (mgetD r83.at_ x2 0))])) (b := b10) (o := 0) (C := #[(vi 0), (vi 0)]) rfl rfl (by kernel_rfl) hs88 (k := 0) rfl rfl rfl rfl (C' := #[(vi (W64 (0 - (mgetD r62.at_ x2 0)))), (vi (mgetD r83.at_ x2 0))]) rfl (le68.trans le89) (by simp) (fun e => by cases e) (fun w91 (hs92 : HS w0 F0 w91 F8 [(sb b10 #[(vi (W64 (0 - (mgetD r62.at_ x2 0)))), (vi (mgetD r83.at_ x2 0))] 38), (sb b7 (kRef x2) 27), (sb b4 (kRef x1) 27), (sb b1 (kSystem x0 a0_0 n0_0 a0_1 n0_1) 25)]) => ?_)
     refine Dt 15 7 30 _ (fun _ hq => mc (vi 0) (vi 0)) ?_
     obtain rfl := some_inj h85
     have hs93 : HS w0 F0 w91 F8 [(sb b10 #[(vi (W64 (0 - (mgetD r62.at_ x2 0)))), (vi (mgetD r83.at_ x2 0))] 38), (sb b4 (kRef x1) 27), (sb b1 (kSystem x0 a0_0 n0_0 a0_1 n0_1) 25)] := hs92.drop 1
     have hs94 : HS w0 F0 w91 F8 [(sb b10 #[(vi (W64 (0 - (mgetD r62.at_ x2 0)))), (vi (mgetD r83.at_ x2 0))] 38), (sb b1 (kSystem x0 a0_0 n0_0 a0_1 n0_1) 25)] := hs93.drop 1
     have hs95 : HS w0 F0 w91 F8 [(sb b10 #[(vi (W64 (0 - (mgetD r62.at_ x2 0)))), (vi (mgetD r83.at_ x2 0))] 38)] := hs94.drop 1
     exact DWP.done (by kernel_rfl) ⟨F8, hs95, (le68.trans le89), rfl, rfl, rfl⟩
    ·refine DStep.val (l' := [true, true, true, true, true, false, false, true, true, true, true, true, true, false, false, false]) (zd := true) (by kernel_rfl) (by kernel_rfl) (dst := (some 34)) (ty := 3) (g := none) (by kernel_rfl) rfl (run_lookV1 (mt := 92) (k := 27) (vt := 3) (m := (.tmp 32)) (x := (.tmp 33)) (kv := (.agg (kRef x2))) (kx := x2) (z := (vi 0)) (zx := 0) (K := tRef) (T := tInt) kl27 rfl rfl ⟨_, rfl, rfl⟩ (by kernel_rfl) (by kernel_rfl) ⟨_, rfl, rfl⟩ (MpA.mpw hs88.pers hmr83_0_0) (fun h => by obtain ⟨_, rfl, rfl⟩ := h; rfl)) (dz_of hs88 (le68.trans le89) (by simp) (fun e => by cases e)) ?_
     refine DWP.one (i := 5) (by kernel_rfl) ?_
     refine DStep.val (l' := [true, true, true, true, true, true, false, true, true, true, true, true, true, false, false, false]) (zd := true) (by kernel_rfl) (by kernel_rfl) (dst := (some 27)) (ty := 3) (g := none) (by kernel_rfl) rfl (run_lookV1 (mt := 92) (k := 27) (vt := 3) (m := (.tmp 25)) (x := (.tmp 26)) (kv := (.agg (kRef x2))) (kx := x2) (z := (vi 0)) (zx := 0) (K := tRef) (T := tInt) kl27 rfl rfl ⟨_, rfl, rfl⟩ (by kernel_rfl) (by kernel_rfl) ⟨_, rfl, rfl⟩ (MpA.mpw hs88.pers (MpA.mono hmr62_0_0 le89)) (fun h => by obtain ⟨_, rfl, rfl⟩ := h; rfl)) (dz_of hs88 (le68.trans le89) (by simp) (fun e => by cases e)) ?_
     refine Dt 6 28 3 (vi (W64 (0 - (mgetD r62.at_ x2 0)))) (fun _ hq => run_neg (t := 3) (x := (.tmp 27)) (k := .i64) (a := (mgetD r62.at_ x2 0)) rfl) ?_
     refine Dt 13 35 38 (.agg #[(vi (W64 (0 - (mgetD r62.at_ x2 0)))), (vi (mgetD r83.at_ x2 0))]) (fun _ hq => run_build2 (t := 38) (parts := #[(0, (.tmp 28)), (1, (.tmp 34))]) (vs := [(0, (vi (W64 (0 - (mgetD r62.at_ x2 0))))), (1, (vi (mgetD r83.at_ x2 0)))]) (rfl) (cs := [(vi (W64 (0 - (mgetD r62.at_ x2 0)))), (vi (mgetD r83.at_ x2 0))]) (by kernel_rfl)) ?_
     refine DWP.one (i := 14) (by kernel_rfl) ?_
     refine DStep.store (l' := [true, true, true, true, true, true, true, true, true, true, true, true, true, true, true, false]) (zd := true) (by kernel_rfl) (by kernel_rfl) (ty := 0) (g := none) (by kernel_rfl) rfl (x := (.tmp 6)) (y := (.tmp 35)) (t := 38) (gg := true) (s := 2) (v := (.agg #[(vi (W64 (0 - (mgetD r62.at_ x2 0)))), (vi (mgetD r83.at_ x2 0))])) (b := b10) (o := 0) (C := #[(vi 0), (vi 0)]) rfl rfl (by kernel_rfl) hs88 (k := 0) rfl rfl rfl rfl (C' := #[(vi (W64 (0 - (mgetD r62.at_ x2 0)))), (vi (mgetD r83.at_ x2 0))]) rfl (le68.trans le89) (by simp) (fun e => by cases e) (fun w96 (hs97 : HS w0 F0 w96 F8 [(sb b10 #[(vi (W64 (0 - (mgetD r62.at_ x2 0)))), (vi (mgetD r83.at_ x2 0))] 38), (sb b7 (kRef x2) 27), (sb b4 (kRef x1) 27), (sb b1 (kSystem x0 a0_0 n0_0 a0_1 n0_1) 25)]) => ?_)
     refine Dt 15 7 30 _ (fun _ hq => mc (vi 0) (vi 0)) ?_
     obtain rfl := some_inj h85
     have hs98 : HS w0 F0 w96 F8 [(sb b10 #[(vi (W64 (0 - (mgetD r62.at_ x2 0)))), (vi (mgetD r83.at_ x2 0))] 38), (sb b4 (kRef x1) 27), (sb b1 (kSystem x0 a0_0 n0_0 a0_1 n0_1) 25)] := hs97.drop 1
     have hs99 : HS w0 F0 w96 F8 [(sb b10 #[(vi (W64 (0 - (mgetD r62.at_ x2 0)))), (vi (mgetD r83.at_ x2 0))] 38), (sb b1 (kSystem x0 a0_0 n0_0 a0_1 n0_1) 25)] := hs98.drop 1
     have hs100 : HS w0 F0 w96 F8 [(sb b10 #[(vi (W64 (0 - (mgetD r62.at_ x2 0)))), (vi (mgetD r83.at_ x2 0))] 38)] := hs99.drop 1
     exact DWP.done (by kernel_rfl) ⟨F8, hs100, (le68.trans le89), rfl, rfl, rfl⟩
  ·rintro f w53 ⟨F5, hs54, le55, e57, e58, e59⟩
   refine thenQ_nrm ?_
   refine CWP.ret (by kernel_rfl) ?_
   have hfin := some_inj h61
   subst hfin
   exact ⟨e57, (.tuple #[(.agg #[(vi j56.1), (vi j56.2)]), (vi 0)]), res_of (l := [.cell 6 38, .tmp 7]) (by kernel_rfl) (vs := [(.agg #[(vi j56.1), (vi j56.2)]), (vi 0)]) ⟨b10, 0, e58, run_loadVar' (t := 38) (g := true) (s := 2) (by kernel_rfl) (hs54.ownAt (k := 0) rfl) rfl (by decide), ⟨e59, trivial⟩⟩, (.tuple #[(.agg #[(vi j56.1), (vi j56.2)]), (vi 0)]), F5, rfl, hs54.clear, rfl⟩
end Go.Proofs.Ythbcnabeabcmlaa
namespace Go.Proofs.Ythbcnabeabcmlaa
open Go.Proofs
def clocks_Must (N : Nat) (x0 : System) (x1 : Ref) (x2 : Ref) : Option (Bool × Int) :=
 ((clocks_Relation N x0 x1 x2).bind fun r10 => some (((r10.2 == 0) && ((decide (r10.1.Lo ≥ (W64 (0 - x0.Window)))) && (decide (r10.1.Hi ≤ x0.Window)))), r10.2))
theorem co_clocks_Must : CallOk Try.prog 22 := fun _ _ => by kernel_rfl
set_option maxHeartbeats 4000000 in
set_option maxRecDepth 100000 in
theorem c_clocks_Must (N : Nat) (w0 : World) (F0 : Mem) (hF : ∀ b o, F0 b = some o → w0.heap[b]? = some o) (x0 : System) (a0_0 : Option Addr) (n0_0 : Nat) (hb0_0 : LC x0.Tracks.length n0_0) (hs0_0 : SlA tTrack F0 a0_0 x0.Tracks) (a0_1 : Option Addr) (n0_1 : Nat) (hb0_1 : LC x0.Ties.length n0_1) (hs0_1 : SlA tTie F0 a0_1 x0.Ties) (x1 : Ref) (x2 : Ref) (r : (Bool × Int)) (h : clocks_Must N x0 x1 x2 = some r) :
  Calls Try.prog 22 ([(.agg (kSystem x0 a0_0 n0_0 a0_1 n0_1)), (.agg (kRef x1)), (.agg (kRef x2))] : List Value).toArray w0 (FRet w0 F0 fun F' v => v = (.tuple #[(.bool r.1), (vi r.2)])) := by
 have hs0 := HS.start hF
 refine calls_of (n := 35) (c := bodyOf Try.f22) Try.func22 (by kernel_rfl) (by kernel_rfl) (by kernel_rfl) ?_
 refine Sq (Rg [0, 1, 2, 3, 4] ?_)
 refine Bx 3 0 0 25 (kSystem x0 a0_0 n0_0 a0_1 n0_1) hs0 (fun b1 w2 (hs3 : HS w0 F0 w2 F0 [(sb b1 (kSystem x0 a0_0 n0_0 a0_1 n0_1) 25)]) => ?_)
 refine Bx 4 0 1 27 (kRef x1) hs3 (fun b4 w5 (hs6 : HS w0 F0 w5 F0 [(sb b4 (kRef x1) 27), (sb b1 (kSystem x0 a0_0 n0_0 a0_1 n0_1) 25)]) => ?_)
 refine Bx 5 0 2 27 (kRef x2) hs6 (fun b7 w8 (hs9 : HS w0 F0 w8 F0 [(sb b7 (kRef x2) 27), (sb b4 (kRef x1) 27), (sb b1 (kSystem x0 a0_0 n0_0 a0_1 n0_1) 25)]) => ?_)
 refine V 6 4 (mc (.bool false) (.bool false)) ?_
 refine V 7 30 (mc (vi 0) (vi 0)) ?_
 refine Nss (Rg [0, 1, 2, 3, 4, 5, 6, 7, 8, 9] ?_)
 refine V 11 25 (ld 25 3 b1 0 true 3 (.agg (kSystem x0 a0_0 n0_0 a0_1 n0_1)) (hs9.ownAt (k := 2) rfl)) ?_
 refine V 12 27 (ld 27 4 b4 0 true 2 (.agg (kRef x1)) (hs9.ownAt (k := 1) rfl)) ?_
 refine V 13 27 (ld 27 5 b7 0 true 2 (.agg (kRef x2)) (hs9.ownAt (k := 0) rfl)) ?_
 obtain ⟨r10, hr11, h12⟩ := bind_some h
 refine Cl 14 39 20 #[(.tmp 11), (.tmp 12), (.tmp 13)] #[25, 27, 27] co_clocks_Relation hs9 (c_clocks_Relation N w8 F0 hs9.pers (x0) a0_0 n0_0 hb0_0 hs0_0 a0_1 n0_1 hb0_1 hs0_1 (x1) (x2) _ hr11) ?_
 intro v13 F1 w14 hs15 le16 hp17
 obtain rfl := hp17
 refine V 10 39 (mv 14 (.tuple #[(.agg (kSpan r10.1)), (vi r10.2)])) ?_
 refine V 15 38 (ex 10 0 (.agg (kSpan r10.1)) (vs := #[(.agg (kSpan r10.1)), (vi r10.2)])) ?_
 refine V 16 30 (ex 10 1 (vi r10.2) (vs := #[(.agg (kSpan r10.1)), (vi r10.2)])) ?_
 refine Al 8 0 38 #[(vi 0), (vi 0)] hs15 (fun b18 w19 (hs20 : HS w0 F0 w19 F1 [(sb b18 #[(vi 0), (vi 0)] 38), (sb b7 (kRef x2) 27), (sb b4 (kRef x1) 27), (sb b1 (kSystem x0 a0_0 n0_0 a0_1 n0_1) 25)]) => ?_)
 refine RWP.store (ty := 0) (g := none) (by kernel_rfl) rfl (x := (.tmp 8)) (y := (.tmp 15)) (t := 38) (gg := true) (s := 2) (v := (.agg (kSpan r10.1))) (b := b18) (o := 0) (C := #[(vi 0), (vi 0)]) rfl rfl (by kernel_rfl) hs20 (k := 0) rfl rfl rfl rfl (C' := (kSpan r10.1)) rfl (fun w21 (hs22 : HS w0 F0 w21 F1 [(sb b18 (kSpan r10.1) 38), (sb b7 (kRef x2) 27), (sb b4 (kRef x1) 27), (sb b1 (kSystem x0 a0_0 n0_0 a0_1 n0_1) 25)]) => ?_)
 refine V 9 30 (ma 16 (vi r10.2)) ?_
 refine Nss (Rg [0, 1, 2, 3, 4, 5, 6, 7, 8, 9, 10, 11, 12, 13, 14, 15, 16, 17, 18, 19] ?_)
 refine RWP.cut (fun f w => ∃ (F2 : Mem), HS w0 F0 w F2 [] ∧ Mem.le F1 F2 ∧ f.d = [] ∧ f 6 = (.bool ((r10.2 == 0) && ((decide (r10.1.Lo ≥ (W64 (0 - x0.Window)))) && (decide (r10.1.Hi ≤ x0.Window))))) ∧ f 7 = (vi r10.2)) ?_ ?_
 ·refine V 17 30 (mv 9 (vi r10.2)) ?_
  refine V 18 4 (run_eql (t := 30) (t' := 30) (x := (.tmp 17)) (y := (.const (vi 0))) (k := .i64) (a := r10.2) (b := 0) rfl rfl) ?_
  refine V 19 4 (mv 18 (.bool (r10.2 == 0))) ?_
  refine RWP.split (r10.2 == 0) (fun hb29 => ?_) (fun hb29 => ?_)
  ·refine Vg 20 0 2 true 19 hb29 (fa 38 8 0 0 1 b18 0 0) ?_
   refine Vg 21 3 2 true 19 hb29 (ld 3 20 b18 0 false 1 (vi r10.1.Lo) (hs22.ownAt (k := 0) rfl)) ?_
   refine Vg 22 0 2 true 19 hb29 (fa 25 3 2 2 1 b1 0 2) ?_
   refine Vg 23 3 2 true 19 hb29 (ld 3 22 b1 2 false 1 (vi x0.Window) (hs22.ownAt (k := 3) rfl)) ?_
   refine Vg 24 3 2 true 19 hb29 (run_neg (t := 3) (x := (.tmp 23)) (k := .i64) (a := x0.Window) rfl) ?_
   refine Vg 25 4 2 true 19 hb29 (run_geq (t := 3) (t' := 3) (x := (.tmp 21)) (y := (.tmp 24)) (k := .i64) (a := r10.1.Lo) (b := (W64 (0 - x0.Window))) rfl rfl) ?_
   refine V 26 4 (p1 19 (.tmp 25) (.const (.bool false)) (.bool (decide (r10.1.Lo ≥ (W64 (0 - x0.Window))))) hb29) ?_
   refine V 27 4 (mv 26 (.bool (decide (r10.1.Lo ≥ (W64 (0 - x0.Window)))))) ?_
   refine RWP.split (decide (r10.1.Lo ≥ (W64 (0 - x0.Window)))) (fun hb30 => ?_) (fun hb30 => ?_)
   ·refine Vg 28 0 10 true 27 hb30 (fa 38 8 1 1 1 b18 0 1) ?_
    refine Vg 29 3 10 true 27 hb30 (ld 3 28 b18 1 false 1 (vi r10.1.Hi) (hs22.ownAt (k := 0) rfl)) ?_
    refine Vg 30 0 10 true 27 hb30 (fa 25 3 2 2 1 b1 0 2) ?_
    refine Vg 31 3 10 true 27 hb30 (ld 3 30 b1 2 false 1 (vi x0.Window) (hs22.ownAt (k := 3) rfl)) ?_
    refine Vg 32 4 10 true 27 hb30 (run_leq (t := 3) (t' := 3) (x := (.tmp 29)) (y := (.tmp 31)) (k := .i64) (a := r10.1.Hi) (b := x0.Window) rfl rfl) ?_
    refine V 33 4 (p1 27 (.tmp 32) (.const (.bool false)) (.bool (decide (r10.1.Hi ≤ x0.Window))) hb30) ?_
    refine V 34 30 (mv 9 (vi r10.2)) ?_
    refine V 6 4 (ma 33 (.bool (decide (r10.1.Hi ≤ x0.Window)))) ?_
    refine V 7 30 (ma 34 (vi r10.2)) ?_
    have hs31 : HS w0 F0 w21 F1 [(sb b7 (kRef x2) 27), (sb b4 (kRef x1) 27), (sb b1 (kSystem x0 a0_0 n0_0 a0_1 n0_1) 25)] := hs22.drop 0
    have hs32 : HS w0 F0 w21 F1 [(sb b4 (kRef x1) 27), (sb b1 (kSystem x0 a0_0 n0_0 a0_1 n0_1) 25)] := hs31.drop 0
    have hs33 : HS w0 F0 w21 F1 [(sb b1 (kSystem x0 a0_0 n0_0 a0_1 n0_1) 25)] := hs32.drop 0
    have hs34 : HS w0 F0 w21 F1 [] := hs33.drop 0
    exact RWP.nil ⟨rfl, F1, hs34, (Mem.le.refl _), rfl, (congrArg Value.bool (and_t hb29 (and_t hb30 (rfl)))), rfl⟩
   ·refine Sk [28, 29, 30, 31, 32] 10 true 27 hb30 ?_
    refine V 33 4 (p0 27 (.tmp 32) (.const (.bool false)) (.bool false) hb30) ?_
    refine V 34 30 (mv 9 (vi r10.2)) ?_
    refine V 6 4 (ma 33 (.bool false)) ?_
    refine V 7 30 (ma 34 (vi r10.2)) ?_
    have hs35 : HS w0 F0 w21 F1 [(sb b7 (kRef x2) 27), (sb b4 (kRef x1) 27), (sb b1 (kSystem x0 a0_0 n0_0 a0_1 n0_1) 25)] := hs22.drop 0
    have hs36 : HS w0 F0 w21 F1 [(sb b4 (kRef x1) 27), (sb b1 (kSystem x0 a0_0 n0_0 a0_1 n0_1) 25)] := hs35.drop 0
    have hs37 : HS w0 F0 w21 F1 [(sb b1 (kSystem x0 a0_0 n0_0 a0_1 n0_1) 25)] := hs36.drop 0
    have hs38 : HS w0 F0 w21 F1 [] := hs37.drop 0
    exact RWP.nil ⟨rfl, F1, hs38, (Mem.le.refl _), rfl, (congrArg Value.bool (and_t hb29 (and_f hb30 (rfl)))), rfl⟩
  ·refine Sk [20, 21, 22, 23, 24, 25] 2 true 19 hb29 ?_
   refine V 26 4 (p0 19 (.tmp 25) (.const (.bool false)) (.bool false) hb29) ?_
   refine V 27 4 (mv 26 (.bool false)) ?_
   refine Sk [28, 29, 30, 31, 32] 10 true 27 rfl ?_
   refine V 33 4 (p0 27 (.tmp 32) (.const (.bool false)) (.bool false) rfl) ?_
   refine V 34 30 (mv 9 (vi r10.2)) ?_
   refine V 6 4 (ma 33 (.bool false)) ?_
   refine V 7 30 (ma 34 (vi r10.2)) ?_
   have hs39 : HS w0 F0 w21 F1 [(sb b7 (kRef x2) 27), (sb b4 (kRef x1) 27), (sb b1 (kSystem x0 a0_0 n0_0 a0_1 n0_1) 25)] := hs22.drop 0
   have hs40 : HS w0 F0 w21 F1 [(sb b4 (kRef x1) 27), (sb b1 (kSystem x0 a0_0 n0_0 a0_1 n0_1) 25)] := hs39.drop 0
   have hs41 : HS w0 F0 w21 F1 [(sb b1 (kSystem x0 a0_0 n0_0 a0_1 n0_1) 25)] := hs40.drop 0
   have hs42 : HS w0 F0 w21 F1 [] := hs41.drop 0
   exact RWP.nil ⟨rfl, F1, hs42, (Mem.le.refl _), rfl, (congrArg Value.bool (and_f hb29 (rfl))), rfl⟩
 ·rintro f w23 ⟨F2, hs24, le25, e26, e27, e28⟩
  refine thenQ_nrm ?_
  refine CWP.ret (by kernel_rfl) ?_
  have hfin := some_inj h12
  subst hfin
  exact ⟨e26, (.tuple #[(.bool ((r10.2 == 0) && ((decide (r10.1.Lo ≥ (W64 (0 - x0.Window)))) && (decide (r10.1.Hi ≤ x0.Window))))), (vi r10.2)]), res_of (l := [.tmp 6, .tmp 7]) (by kernel_rfl) (vs := [(.bool ((r10.2 == 0) && ((decide (r10.1.Lo ≥ (W64 (0 - x0.Window)))) && (decide (r10.1.Hi ≤ x0.Window))))), (vi r10.2)]) ⟨e27, ⟨e28, trivial⟩⟩, (.tuple #[(.bool ((r10.2 == 0) && ((decide (r10.1.Lo ≥ (W64 (0 - x0.Window)))) && (decide (r10.1.Hi ≤ x0.Window))))), (vi r10.2)]), F2, rfl, hs24.clear, rfl⟩
end Go.Proofs.Ythbcnabeabcmlaa
namespace Go.Proofs.Ythbcnabeabcmlaa
open Go.Proofs
def clocks_Interval (N : Nat) (x0 : System) (x1 : Ref) : Option (Span × Int) :=
 ((clocks_asked N x0 ([x1])).bind fun r19 => (bif (r19 != 0) then some (({ Lo := 0, Hi := 0 } : Span), r19) else ((clocks_Times N x0).bind fun r32 => (((idx r32.1 x1.Log).bind fun x51 => ((idx x51 x1.Line).bind fun x65 => some (x65.Lo, x65.Hi))).bind fun j45 => some (({ Lo := j45.1, Hi := j45.2 } : Span), 0)))))
theorem co_clocks_Interval : CallOk Try.prog 21 := fun _ _ => by kernel_rfl
set_option maxHeartbeats 4000000 in
set_option maxRecDepth 100000 in
theorem c_clocks_Interval (N : Nat) (w0 : World) (F0 : Mem) (hF : ∀ b o, F0 b = some o → w0.heap[b]? = some o) (x0 : System) (a0_0 : Option Addr) (n0_0 : Nat) (hb0_0 : LC x0.Tracks.length n0_0) (hs0_0 : SlA tTrack F0 a0_0 x0.Tracks) (a0_1 : Option Addr) (n0_1 : Nat) (hb0_1 : LC x0.Ties.length n0_1) (hs0_1 : SlA tTie F0 a0_1 x0.Ties) (x1 : Ref) (r : (Span × Int)) (h : clocks_Interval N x0 x1 = some r) :
  Calls Try.prog 21 ([(.agg (kSystem x0 a0_0 n0_0 a0_1 n0_1)), (.agg (kRef x1))] : List Value).toArray w0 (FRet w0 F0 fun F' v => v = (.tuple #[(.agg (kSpan r.1)), (vi r.2)])) := by
 have hs0 := HS.start hF
 refine calls_of (n := 31) (c := bodyOf Try.f21) Try.func21 (by kernel_rfl) (by kernel_rfl) (by kernel_rfl) ?_
 refine Sq (Rg [0, 1, 2, 3] ?_)
 refine Bx 2 0 0 25 (kSystem x0 a0_0 n0_0 a0_1 n0_1) hs0 (fun b1 w2 (hs3 : HS w0 F0 w2 F0 [(sb b1 (kSystem x0 a0_0 n0_0 a0_1 n0_1) 25)]) => ?_)
 refine Bx 3 0 1 27 (kRef x1) hs3 (fun b4 w5 (hs6 : HS w0 F0 w5 F0 [(sb b4 (kRef x1) 27), (sb b1 (kSystem x0 a0_0 n0_0 a0_1 n0_1) 25)]) => ?_)
 refine Al 4 0 38 #[(vi 0), (vi 0)] hs6 (fun b7 w8 (hs9 : HS w0 F0 w8 F0 [(sb b7 #[(vi 0), (vi 0)] 38), (sb b4 (kRef x1) 27), (sb b1 (kSystem x0 a0_0 n0_0 a0_1 n0_1) 25)]) => ?_)
 refine V 5 30 (mc (vi 0) (vi 0)) ?_
 refine Nss ?_
 refine Sq (Rg [0, 1, 2, 3, 4] ?_)
 refine V 9 25 (ld 25 2 b1 0 true 3 (.agg (kSystem x0 a0_0 n0_0 a0_1 n0_1)) (hs9.ownAt (k := 2) rfl)) ?_
 refine V 10 27 (ld 27 3 b4 0 true 2 (.agg (kRef x1)) (hs9.ownAt (k := 1) rfl)) ?_
 refine RWP.buildSlice (dst := (some 11)) (ty := 109) (g := none) (by kernel_rfl) rfl (t := 109) (len := 1) (parts := #[(0, (.tmp 10))]) (vs := [(0, (.agg (kRef x1)))]) (rfl) (E := 27) (cs := [(vi x1.Log), (vi x1.Line)]) (by kernel_rfl) hs9 (fun b10 w11 (hs12 : HS w0 F0 w11 F0 [(some b10, .cells ([(vi x1.Log), (vi x1.Line)] : List Value).toArray 27 (0, 0)), (sb b7 #[(vi 0), (vi 0)] 38), (sb b4 (kRef x1) 27), (sb b1 (kSystem x0 a0_0 n0_0 a0_1 n0_1) 25)]) => ?_)
 have hr14 : RowR tRef 27 F0 (some ⟨b10, 0, none⟩) 1 [x1] (some b10, .cells ([(vi x1.Log), (vi x1.Line)] : List Value).toArray 27 (0, 0)) := RowR.lit ⟨rfl, rfl⟩ (by simp)
 have hb18 := RowR.bound hr14
 obtain ⟨F1, hs15, le16, hs17⟩ : ∃ Fq, HS w0 F0 w11 Fq [(sb b7 #[(vi 0), (vi 0)] 38), (sb b4 (kRef x1) 27), (sb b1 (kSystem x0 a0_0 n0_0 a0_1 n0_1) 25)] ∧ Mem.le F0 Fq ∧ SlA tRef Fq (some ⟨b10, 0, none⟩) [x1] := HS.freezeRow hs12 (k := 0) rfl hr14
 obtain ⟨r19, hr20, h21⟩ := bind_some h
 refine Cl 12 30 74 #[(.tmp 9), (.tmp 11)] #[25, 109] co_clocks_asked hs15 (c_clocks_asked N w11 F1 hs15.pers (x0) a0_0 n0_0 hb0_0 (SlA.mono hs0_0 le16) a0_1 n0_1 hb0_1 (SlA.mono hs0_1 le16) ([x1]) (some ⟨b10, 0, none⟩) 1 hb18 hs17 _ hr20) ?_
 intro v22 F2 w23 hs24 le25 hp26
 obtain rfl := hp26
 refine V 6 30 (ma 12 (vi r19)) ?_
 refine Nss (Rg [0, 1] ?_)
 refine V 13 30 (mv 6 (vi r19)) ?_
 refine V 14 4 (run_neq (t := 30) (t' := 30) (x := (.tmp 13)) (y := (.const (vi 0))) (k := .i64) (a := r19) (b := 0) rfl rfl) ?_
 refine Nt ?_
 refine CWP.cond (t := (r19 != 0)) (by kernel_rfl) rfl (fun hb27 => ?_) (fun hb27 => ?_)
 ·have h28 := cond_t h21 hb27
  refine Sq (Rg [0, 1, 2, 3] ?_)
  refine V 15 38 (run_build2 (t := 38) (parts := #[]) (vs := []) (rfl) (cs := [(vi 0), (vi 0)]) (by kernel_rfl)) ?_
  refine V 16 30 (mv 6 (vi r19)) ?_
  refine RWP.store (ty := 0) (g := none) (by kernel_rfl) rfl (x := (.tmp 4)) (y := (.tmp 15)) (t := 38) (gg := true) (s := 2) (v := (.agg #[(vi 0), (vi 0)])) (b := b7) (o := 0) (C := #[(vi 0), (vi 0)]) rfl rfl (by kernel_rfl) hs24 (k := 0) rfl rfl rfl rfl (C' := #[(vi 0), (vi 0)]) rfl (fun w29 (hs30 : HS w0 F0 w29 F2 [(sb b7 #[(vi 0), (vi 0)] 38), (sb b4 (kRef x1) 27), (sb b1 (kSystem x0 a0_0 n0_0 a0_1 n0_1) 25)]) => ?_)
  refine V 5 30 (ma 16 (vi r19)) ?_
  refine Nt ?_
  refine CWP.ret (by kernel_rfl) ?_
  refine thenQ_ret ?_
  have hfin := some_inj h28
  subst hfin
  exact ⟨rfl, (.tuple #[(.agg #[(vi 0), (vi 0)]), (vi r19)]), res_of (l := [.cell 4 38, .tmp 5]) (by kernel_rfl) (vs := [(.agg #[(vi 0), (vi 0)]), (vi r19)]) ⟨b7, 0, rfl, run_loadVar' (t := 38) (g := true) (s := 2) (by kernel_rfl) (hs30.ownAt (k := 0) rfl) rfl (by decide), ⟨rfl, trivial⟩⟩, (.tuple #[(.agg #[(vi 0), (vi 0)]), (vi r19)]), F2, rfl, hs30.clear, rfl⟩
 ·have h31 := cond_f h21 hb27
  refine Sc ?_
  refine thenQ_nrm ?_
  refine Sq (Rg [0, 1, 2, 3, 4, 5, 6] ?_)
  refine V 18 25 (ld 25 2 b1 0 true 3 (.agg (kSystem x0 a0_0 n0_0 a0_1 n0_1)) (hs24.ownAt (k := 2) rfl)) ?_
  obtain ⟨r32, hr33, h34⟩ := bind_some h31
  refine Cl 19 34 19 #[(.tmp 18)] #[25] co_clocks_Times hs24 (c_clocks_Times N w23 F2 hs24.pers (x0) a0_0 n0_0 hb0_0 (SlA.mono hs0_0 (le16.trans le25)) a0_1 n0_1 hb0_1 (SlA.mono hs0_1 (le16.trans le25)) _ hr33) ?_
  intro v35 F3 w36 hs37 le38 hp39
  obtain ⟨ar32_0_0, nr32_0_0, rfl, hbr32_0_0, hsr32_0_0⟩ := hp39
  refine V 17 34 (mv 19 (.tuple #[(.slice ar32_0_0 r32.1.length nr32_0_0), (vi r32.2)])) ?_
  refine V 20 33 (ex 17 0 (.slice ar32_0_0 r32.1.length nr32_0_0) (vs := #[(.slice ar32_0_0 r32.1.length nr32_0_0), (vi r32.2)])) ?_
  refine V 21 30 (ex 17 1 (vi r32.2) (vs := #[(.slice ar32_0_0 r32.1.length nr32_0_0), (vi r32.2)])) ?_
  refine V 7 33 (ma 20 (.slice ar32_0_0 r32.1.length nr32_0_0)) ?_
  refine V 8 30 (ma 21 (vi r32.2)) ?_
  refine Nss ?_
  obtain ⟨j45, hj49, h50⟩ := bind_some h34
  refine CWP.regionD (by kernel_rfl) (by kernel_rfl) (by kernel_rfl) (by kernel_rfl) (z := 11) (F := F3) (Lc := [(sb b4 (kRef x1) 27), (sb b1 (kSystem x0 a0_0 n0_0 a0_1 n0_1) 25)]) (Lz := []) (l := [false, false, false, false, false, false, false, false, false, false, false]) (fuel := 11) (by kernel_rfl) (by kernel_rfl) hs37 (by simp) (by simp) (fun f w => ∃ (F4 : Mem), HS w0 F0 w F4 [(sb b7 #[(vi j45.1), (vi j45.2)] 38)] ∧ Mem.le F3 F4 ∧ f.d = [] ∧ f 4 = (.pointer (some ⟨b7, 0, none⟩)) ∧ f 5 = (vi 0)) (fun wd40 hw41 => ?_) ?_
  ·refine Dt 0 22 33 _ (fun _ hq => mv 7 (.slice ar32_0_0 r32.1.length nr32_0_0)) ?_
   refine Dt 1 23 0 (.pointer (some ⟨b4, 0, none⟩)) (fun _ hq => fa 27 3 0 0 1 b4 0 0) ?_
   refine Dt 2 24 3 _ (fun _ hq => ld 3 23 b4 0 false 1 (vi x1.Log) (hq.1.2 0 _ _ rfl)) ?_
   obtain ⟨x51, hx52, h54⟩ := bind_some hj49
   obtain ⟨hi53, hx52'⟩ := idx_spec hx52
   obtain ⟨b55, o56, C57, E58, fz59, rfl, hF61, hE62⟩ := SlA.open hsr32_0_0 hx52'
   obtain ⟨ae63_0, ne63_0, hc64, hbe63_0, hse63_0⟩ := hE62 _ _ hx52'
   refine Dt 3 25 0 (.pointer (some ⟨b55, (o56 + (x1.Log : Int).toNat * 1), none⟩)) (fun _ hq => ix 33 22 24 b55 o56 36 1 24 hi53) ?_
   refine Dt 4 26 36 _ (fun _ hq => lx 36 25 0 1 false 1 (.slice ae63_0 x51.length ne63_0) (hq.1.1 _ _ hF61) hc64) ?_
   refine Dt 5 27 0 (.pointer (some ⟨b4, 1, none⟩)) (fun _ hq => fa 27 3 1 1 1 b4 0 1) ?_
   refine Dt 6 28 3 _ (fun _ hq => ld 3 27 b4 1 false 1 (vi x1.Line) (hq.1.2 0 _ _ rfl)) ?_
   obtain ⟨x65, hx66, h68⟩ := bind_some h54
   obtain ⟨hi67, hx66'⟩ := idx_spec hx66
   obtain ⟨b69, o70, C71, E72, fz73, rfl, hF75, hE76⟩ := SlA.open hse63_0 hx66'
   have hc78 := hE76 _ _ hx66'
   refine Dt 7 29 0 (.pointer (some ⟨b69, (o70 + (x1.Line : Int).toNat * 2), none⟩)) (fun _ hq => ix 36 26 28 b69 o70 38 2 16 hi67) ?_
   refine Dt 8 30 38 _ (fun _ hq => lx 38 29 0 2 true 2 (.agg (kSpan x65)) (hq.1.1 _ _ hF75) hc78) ?_
   refine DWP.one (i := 9) (by kernel_rfl) ?_
   refine DStep.store (l' := [true, true, true, true, true, true, true, true, true, true, false]) (zd := true) (by kernel_rfl) (by kernel_rfl) (ty := 0) (g := none) (by kernel_rfl) rfl (x := (.tmp 4)) (y := (.tmp 30)) (t := 38) (gg := true) (s := 2) (v := (.agg (kSpan x65))) (b := b7) (o := 0) (C := #[(vi 0), (vi 0)]) rfl rfl (by kernel_rfl) hw41 (k := 0) rfl rfl rfl rfl (C' := (kSpan x65)) rfl (Mem.le.refl _) (by simp) (fun e => by cases e) (fun w79 (hs80 : HS w0 F0 w79 F3 [(sb b7 (kSpan x65) 38), (sb b4 (kRef x1) 27), (sb b1 (kSystem x0 a0_0 n0_0 a0_1 n0_1) 25)]) => ?_)
   refine Dt 10 5 30 _ (fun _ hq => mc (vi 0) (vi 0)) ?_
   obtain rfl := some_inj h68
   have hs81 : HS w0 F0 w79 F3 [(sb b7 (kSpan x65) 38), (sb b1 (kSystem x0 a0_0 n0_0 a0_1 n0_1) 25)] := hs80.drop 1
   have hs82 : HS w0 F0 w79 F3 [(sb b7 (kSpan x65) 38)] := hs81.drop 1
   exact DWP.done (by kernel_rfl) ⟨F3, hs82, (Mem.le.refl _), rfl, rfl, rfl⟩
  ·rintro f w42 ⟨F4, hs43, le44, e46, e47, e48⟩
   refine thenQ_nrm ?_
   refine CWP.ret (by kernel_rfl) ?_
   have hfin := some_inj h50
   subst hfin
   exact ⟨e46, (.tuple #[(.agg #[(vi j45.1), (vi j45.2)]), (vi 0)]), res_of (l := [.cell 4 38, .tmp 5]) (by kernel_rfl) (vs := [(.agg #[(vi j45.1), (vi j45.2)]), (vi 0)]) ⟨b7, 0, e47, run_loadVar' (t := 38) (g := true) (s := 2) (by kernel_rfl) (hs43.ownAt (k := 0) rfl) rfl (by decide), ⟨e48, trivial⟩⟩, (.tuple #[(.agg #[(vi j45.1), (vi j45.2)]), (vi 0)]), F4, rfl, hs43.clear, rfl⟩
end Go.Proofs.Ythbcnabeabcmlaa
namespace Go.Proofs.Ythbcnabeabcmlaa
open Go.Proofs
end Go.Proofs.Ythbcnabeabcmlaa
