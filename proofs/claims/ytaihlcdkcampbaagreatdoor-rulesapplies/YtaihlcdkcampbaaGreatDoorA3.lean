/- Lemmas of the claim RulesApplies, printed by a program of the claimant and by hand. No statement of the seat is proved here. -/
import Derived.Test.YtaihlcdkcampbaaGreatDoorA2
set_option linter.unusedVariables false
set_option linter.unusedSimpArgs false
set_option linter.unusedSectionVars false
set_option maxHeartbeats 4000000
set_option maxRecDepth 100000
namespace Go.Proofs.YtaihlcdkcampbaaGreatDoor
open Go.Proofs
def slices_IndexFunc_int_int_L0 (N : Nat) (x0 : (List Int)) (x1 : (Int → Option Bool)) : Int → Option (Flow Int Int) := fun s24 =>
 (bif (decide (s24 < (x0.length : Int))) then ((idx x0 s24).bind fun x47 => ((x1 x47).bind fun r61 => (bif r61 then some (.ret s24) else some (.next (W64 (s24 + 1)))))) else some (.done s24))
def slices_IndexFunc_int_int (N : Nat) (x0 : (List Int)) (x1 : (Int → Option Bool)) : Option Int :=
 ((iter (slices_IndexFunc_int_int_L0 N x0 x1) N 0).bind fun o => o.k (fun r => some r) (fun s33 => some (-1)))
theorem co_slices_IndexFunc_int_int : CallOk Tryz.prog 197 := fun _ _ => by kernel_rfl
theorem c_slices_IndexFunc_int_int (N : Nat) (w0 : World) (F0 : Mem) (hF : ∀ b o, F0 b = some o → w0.heap[b]? = some o) (x0 : (List Int)) (a0_0 : Option Addr) (n0_0 : Nat) (hb0_0 : LC x0.length n0_0) (hs0_0 : SlA tInt F0 a0_0 x0) (gx1 : FuncId) (fx1 kx1 : List Value) (x1 : Int → Option Bool) (hox1 : CallOk Tryz.prog gx1) (hpx1 : Fn179 F0 gx1 fx1 kx1 x1) (r : Int) (h : slices_IndexFunc_int_int N x0 x1 = some r) :
  Calls Tryz.prog 197 ([(.slice a0_0 x0.length n0_0), (.func (.func gx1) fx1.toArray kx1.toArray)] : List Value).toArray w0 (FRet w0 F0 fun F' v => v = (vi r)) := by
 have hs0 := HS.start hF
 refine Go 19 Tryz.func197 ?_
 refine Sq (Rg [0] ?_)
 refine Vs 1 ?_
 refine Nss ?_
 refine Sq (Rg [0, 1, 2] ?_)
 refine Vs 3 ?_
 refine Nt ?_
 obtain ⟨o21, ho22, h23⟩ := bind_some h
 refine CWP.cut (fun f w => ∃ (s33 : Int) (F2 : Mem), o21 = .done s33 ∧ HS w0 F0 w F2 [] ∧ Mem.le F0 F2 ∧ FI f [] []) ?_ ?_
 ·refine Bk ?_
  refine CWP.loop (by kernel_rfl) (fun m f w => ∃ (s24 : Int) (F1 : Mem), iter (slices_IndexFunc_int_int_L0 N x0 x1) m s24 = some o21 ∧ HS w0 F0 w F1 [] ∧ Mem.le F0 F1 ∧ FI f [] [(0, (.slice a0_0 x0.length n0_0)), (1, (.func (.func gx1) fx1.toArray kx1.toArray)), (7, (vi (x0.length : Int))), (8, (vi s24))]) N ⟨0, F0, ho22, hs0, (Mem.le.refl _), fI⟩ ?_
  rintro m38 f w25 ⟨s24, F1, hit39, hs26, le27, ⟨_, rfl⟩⟩
  obtain ⟨m40, fl41, rfl, hb42, hnx43⟩ := iter_step hit39
  refine Sq (Rg [0] ?_)
  refine Vs 1 ?_
  refine Nss ?_
  refine Cd hb42 (fun hb44 h45 => ?_) (fun hb44 h46 => ?_)
  ·refine Sc ?_
   refine thenQ_nrm ?_
   refine Sq ?_
   refine Bk ?_
   refine Sq (Rg [0, 1] ?_)
   refine Vs 2 ?_
   refine Nss (Rg [0, 1, 2, 3, 4, 5] ?_)
   refine Vs 3 ?_
   obtain ⟨x47, hx48, h50⟩ := bind_some h45
   obtain ⟨hi49, hx48'⟩ := idx_spec hx48
   obtain ⟨b51, o52, C53, E54, fz55, rfl, hF57, hE58⟩ := SlA.open (SlA.mono hs0_0 le27) hx48'
   have hc60 := hE58 _ _ hx48'
   refine Ix hi49 ?_
   refine Lx 0 (hs26.pers _ _ hF57) hc60 ?_
   obtain ⟨r61, hr62, h63⟩ := bind_some h50
   refine Cq hox1 hs26 (hpx1 w25 F1 (x47) _ le27 hs26.pers hr62) ?_
   rintro _ F3 w65 hs66 le67 rfl
   refine Nt ?_
   refine Cd h63 (fun hb69 h70 => ?_) (fun hb69 h71 => ?_)
   ·refine Sq (Rg [0, 1] ?_)
    refine Vs 2 ?_
    refine Nt ?_
    refine Rt ?_
    refine blockQ_ret ?_
    refine thenQ_ret ?_
    refine thenQ_ret ?_
    refine blockQ_ret ?_
    have hret := iter_ret h70 hnx43
    subst hret
    refine .inr ?_
    refine thenQ_ret ?_
    obtain rfl := some_inj h23
    exact Re [(vi s24)] hs66 rfl
   ·refine Sc ?_
    refine blockQ_nrm ?_
    refine thenQ_nrm ?_
    refine Rg [0, 1] ?_
    refine Vs 2 ?_
    refine RWP.nil ?_
    have hn72 := iter_next h71 hnx43
    exact ⟨m40, Nat.lt_succ_self _, (W64 (s24 + 1)), F3, hn72, hs66, (le27.trans le67), fI⟩
  ·refine Ex ?_
   refine thenQ_ex ?_
   refine thenQ_ex ?_
   refine blockQ_hit rfl ?_
   have ho73 := iter_done h46 hnx43
   exact .inl ⟨rfl, s24, F1, ho73, hs26, le27, fI⟩
 ·rintro f w34 ⟨s33, F2, rfl, hs35, le36, ⟨_, rfl⟩⟩
  have h74 := k_done h23
  refine thenQ_nrm ?_
  refine Sq (Rg [0] ?_)
  refine Vs 1 ?_
  refine Nt ?_
  refine Rt ?_
  obtain rfl := some_inj h74
  exact Re [(vi (-1))] hs35 rfl
end Go.Proofs.YtaihlcdkcampbaaGreatDoor
namespace Go.Proofs.YtaihlcdkcampbaaGreatDoor
open Go.Proofs
def slices_ContainsFunc_int_int (N : Nat) (x0 : (List Int)) (x1 : (Int → Option Bool)) : Option Bool :=
 ((slices_IndexFunc_int_int N x0 x1).bind fun r21 => some (decide (r21 ≥ 0)))
theorem co_slices_ContainsFunc_int_int : CallOk Tryz.prog 153 := fun _ _ => by kernel_rfl
theorem c_slices_ContainsFunc_int_int (N : Nat) (w0 : World) (F0 : Mem) (hF : ∀ b o, F0 b = some o → w0.heap[b]? = some o) (x0 : (List Int)) (a0_0 : Option Addr) (n0_0 : Nat) (hb0_0 : LC x0.length n0_0) (hs0_0 : SlA tInt F0 a0_0 x0) (gx1 : FuncId) (fx1 kx1 : List Value) (x1 : Int → Option Bool) (hox1 : CallOk Tryz.prog gx1) (hpx1 : Fn179 F0 gx1 fx1 kx1 x1) (r : Bool) (h : slices_ContainsFunc_int_int N x0 x1 = some r) :
  Calls Tryz.prog 153 ([(.slice a0_0 x0.length n0_0), (.func (.func gx1) fx1.toArray kx1.toArray)] : List Value).toArray w0 (FRet w0 F0 fun F' v => v = (.bool r)) := by
 have hs0 := HS.start hF
 refine Go 9 Tryz.func153 ?_
 refine Sq (Rg [0] ?_)
 refine Vs 1 ?_
 refine Nss (Rg [0, 1, 2, 3, 4] ?_)
 refine Vs 2 ?_
 obtain ⟨r21, hr22, h23⟩ := bind_some h
 refine Cl' co_slices_IndexFunc_int_int hs0 (c_slices_IndexFunc_int_int N w0 F0 hs0.pers (x0) a0_0 n0_0 hb0_0 hs0_0 gx1 fx1 kx1 x1 hox1 (fun w1 F1 y0 r le1 pe1 hr1 => hpx1 w1 F1 y0 r (le1) pe1 hr1) _ hr22) ?_
 rintro _ F1 w25 hs26 le27 rfl
 refine Vs 2 ?_
 refine Nt ?_
 refine Rt ?_
 obtain rfl := some_inj h23
 exact Re [(.bool (decide (r21 ≥ 0)))] hs26 rfl
end Go.Proofs.YtaihlcdkcampbaaGreatDoor
namespace Go.Proofs.YtaihlcdkcampbaaGreatDoor
open Go.Proofs
def rules_validFacts_1 (N : Nat) (x0 : Int) : Option Bool :=
 some ((decide (x0 < 0)) || (decide (x0 > 1000000)))
theorem co_rules_validFacts_1 : CallOk Tryz.prog 154 := fun _ _ => by kernel_rfl
theorem c_rules_validFacts_1 (N : Nat) (w0 : World) (F0 : Mem) (hF : ∀ b o, F0 b = some o → w0.heap[b]? = some o) (x0 : Int) (r : Bool) (h : rules_validFacts_1 N x0 = some r) :
  Calls Tryz.prog 154 ([(vi x0)] : List Value).toArray w0 (FRet w0 F0 fun F' v => v = (.bool r)) := by
 have hs0 := HS.start hF
 refine Go 9 Tryz.func154 ?_
 refine Sq (Rg [0] ?_)
 refine Vs 1 ?_
 refine Nss (Rg [0, 1, 2, 3, 4, 5, 6] ?_)
 refine RWP.cut (fun f w => ∃ (F1 : Mem), HS w0 F0 w F1 [] ∧ Mem.le F0 F1 ∧ FI f [] [(2, (.bool ((decide (x0 < 0)) || (decide (x0 > 1000000)))))]) ?_ ?_
 ·refine Vs 3 ?_
  refine RWP.split (decide (x0 < 0)) (fun hb26 => ?_) (fun hb26 => ?_)
  ·refine Ss hb26 2 ?_
   refine Pk1 hb26 ?_
   refine Vs 1 ?_
   exact RWP.nil ⟨rfl, F0, hs0, (Mem.le.refl _), (fJ ⟨(congrArg Value.bool (or_t hb26 (rfl))), trivial⟩)⟩
  ·refine Vgs hb26 2 ?_
   refine Pk0 hb26 ?_
   refine Vs 1 ?_
   exact RWP.nil ⟨rfl, F0, hs0, (Mem.le.refl _), (fJ ⟨(congrArg Value.bool (or_f hb26 (rfl))), trivial⟩)⟩
 ·rintro f w21 ⟨F1, hs22, le23, ⟨_, rfl⟩⟩
  refine thenQ_nrm ?_
  refine Rt ?_
  obtain rfl := some_inj h
  exact Re [(.bool ((decide (x0 < 0)) || (decide (x0 > 1000000))))] hs22 rfl
end Go.Proofs.YtaihlcdkcampbaaGreatDoor
namespace Go.Proofs.YtaihlcdkcampbaaGreatDoor
open Go.Proofs
def rules_validFacts (N : Nat) (x0 : (List Int)) : Option Bool :=
 ((bif ((x0.length : Int) == 14) then ((slices_ContainsFunc_int_int N x0 (fun y0 => rules_validFacts_1 N y0)).bind fun r32 => some (!r32)) else some false).bind fun j24 => some j24)
theorem co_rules_validFacts : CallOk Tryz.prog 98 := fun _ _ => by kernel_rfl
theorem c_rules_validFacts (N : Nat) (w0 : World) (F0 : Mem) (hF : ∀ b o, F0 b = some o → w0.heap[b]? = some o) (x0 : (List Int)) (a0_0 : Option Addr) (n0_0 : Nat) (hb0_0 : LC x0.length n0_0) (hs0_0 : SlA tInt F0 a0_0 x0) (r : Bool) (h : rules_validFacts N x0 = some r) :
  Calls Tryz.prog 98 ([(.slice a0_0 x0.length n0_0)] : List Value).toArray w0 (FRet w0 F0 fun F' v => v = (.bool r)) := by
 have hs0 := HS.start hF
 refine Go 11 Tryz.func98 ?_
 refine Sq (Rg [0] ?_)
 refine Vs 1 ?_
 refine Nss (Rg [0, 1, 2, 3, 4, 5, 6, 7, 8] ?_)
 obtain ⟨j24, hj27, h28⟩ := bind_some h
 refine RWP.cut (fun f w => ∃ (F1 : Mem), HS w0 F0 w F1 [] ∧ Mem.le F0 F1 ∧ FI f [] [(2, (.bool j24))]) ?_ ?_
 ·refine Vs 4 ?_
  refine Sp hj27 (fun hb29 h30 => ?_) (fun hb29 h31 => ?_)
  ·refine Vgs hb29 1 ?_
   obtain ⟨r32, hr33, h34⟩ := bind_some h30
   refine Cg hb29 co_slices_ContainsFunc_int_int hs0 (c_slices_ContainsFunc_int_int N w0 F0 hs0.pers (x0) a0_0 n0_0 hb0_0 hs0_0 154 [] [] (fun y0 => rules_validFacts_1 N y0) co_rules_validFacts_1 (fun w1 F1 y0 r le1 pe1 hr1 => c_rules_validFacts_1 N w1 F1 pe1  y0  r hr1) _ hr33) ?_
   rintro _ F2 w36 hs37 le38 rfl
   refine Vgs hb29 1 ?_
   refine Pk1 hb29 ?_
   refine Vs 1 ?_
   obtain rfl := some_inj h34
   exact RWP.nil ⟨rfl, F2, hs37, le38, fI⟩
  ·refine Ss hb29 3 ?_
   refine Pk0 hb29 ?_
   refine Vs 1 ?_
   obtain rfl := some_inj h31
   exact RWP.nil ⟨rfl, F0, hs0, (Mem.le.refl _), fI⟩
 ·rintro f w21 ⟨F1, hs22, le23, ⟨_, rfl⟩⟩
  refine thenQ_nrm ?_
  refine Rt ?_
  obtain rfl := some_inj h28
  exact Re [(.bool j24)] hs22 rfl
end Go.Proofs.YtaihlcdkcampbaaGreatDoor
namespace Go.Proofs.YtaihlcdkcampbaaGreatDoor
open Go.Proofs
def ref06_factual_L0 (N : Nat) (x0 : (List Int)) : Int → Option (Flow Bool Int) := fun s27 =>
 (bif (decide (s27 < (x0.length : Int))) then (((idx x0 s27).bind fun x58 => (bif (decide (x58 < 0)) then some true else ((idx x0 s27).bind fun x75 => some (decide (x75 > 1000000))))).bind fun j51 => (bif j51 then some (.ret false) else some (.next (W64 (s27 + 1))))) else some (.done s27))
def ref06_factual (N : Nat) (x0 : (List Int)) : Option Bool :=
 (bif ((x0.length : Int) != 14) then some false else ((iter (ref06_factual_L0 N x0) N 0).bind fun o => o.k (fun r => some r) (fun s34 => some true)))
theorem co_ref06_factual : CallOk Tryz.prog 100 := fun _ _ => by kernel_rfl
theorem c_ref06_factual (N : Nat) (w0 : World) (F0 : Mem) (hF : ∀ b o, F0 b = some o → w0.heap[b]? = some o) (x0 : (List Int)) (a0_0 : Option Addr) (n0_0 : Nat) (hb0_0 : LC x0.length n0_0) (hs0_0 : SlA tInt F0 a0_0 x0) (r : Bool) (h : ref06_factual N x0 = some r) :
  Calls Tryz.prog 100 ([(.slice a0_0 x0.length n0_0)] : List Value).toArray w0 (FRet w0 F0 fun F' v => v = (.bool r)) := by
 have hs0 := HS.start hF
 refine Go 25 Tryz.func100 ?_
 refine Sq (Rg [0] ?_)
 refine Vs 1 ?_
 refine Nss ?_
 refine Sq (Rg [0, 1, 2] ?_)
 refine Vs 3 ?_
 refine Nt ?_
 refine Cd h (fun hb21 h22 => ?_) (fun hb21 h23 => ?_)
 ·refine Sq (Rg [0] ?_)
  refine Vs 1 ?_
  refine Nt ?_
  refine Rt ?_
  refine thenQ_ret ?_
  obtain rfl := some_inj h22
  exact Re [(.bool false)] hs0 rfl
 ·refine Sc ?_
  refine thenQ_nrm ?_
  refine Sq ?_
  refine Sq (Rg [0] ?_)
  refine Vs 1 ?_
  refine Nt ?_
  obtain ⟨o24, ho25, h26⟩ := bind_some h23
  refine CWP.cut (fun f w => ∃ (s34 : Int) (F2 : Mem), o24 = .done s34 ∧ HS w0 F0 w F2 [] ∧ Mem.le F0 F2 ∧ FI f [] []) ?_ ?_
  ·refine Bk ?_
   refine CWP.loop (by kernel_rfl) (fun m f w => ∃ (s27 : Int) (F1 : Mem), iter (ref06_factual_L0 N x0) m s27 = some o24 ∧ HS w0 F0 w F1 [] ∧ Mem.le F0 F1 ∧ FI f [] [(0, (.slice a0_0 x0.length n0_0)), (3, (vi s27))]) N ⟨0, F0, ho25, hs0, (Mem.le.refl _), fI⟩ ?_
   rintro m39 f w28 ⟨s27, F1, hit40, hs29, le30, ⟨_, rfl⟩⟩
   obtain ⟨m41, fl42, rfl, hb43, hnx44⟩ := iter_step hit40
   refine Sq ?_
   refine Sq (Rg [0, 1, 2, 3] ?_)
   refine Vs 4 ?_
   refine Nt ?_
   refine Cd hb43 (fun hb45 h46 => ?_) (fun hb45 h47 => ?_)
   ·refine Sc ?_
    refine thenQ_nrm ?_
    refine Sq ?_
    refine Bk ?_
    refine Sq (Rg [0, 1, 2, 3, 4, 5, 6, 7, 8, 9, 10, 11] ?_)
    obtain ⟨j51, hj56, h57⟩ := bind_some h46
    refine RWP.cut (fun f w => ∃ (F3 : Mem), HS w0 F0 w F3 [] ∧ Mem.le F1 F3 ∧ FI f [] [(0, (.slice a0_0 x0.length n0_0)), (3, (vi s27)), (24, (.bool j51))]) ?_ ?_
    ·refine Vs 2 ?_
     obtain ⟨x58, hx59, h61⟩ := bind_some hj56
     obtain ⟨hi60, hx59'⟩ := idx_spec hx59
     obtain ⟨b62, o63, C64, E65, fz66, rfl, hF68, hE69⟩ := SlA.open (SlA.mono hs0_0 le30) hx59'
     have hc71 := hE69 _ _ hx59'
     refine Ix hi60 ?_
     refine Lx 0 (hs29.pers _ _ hF68) hc71 ?_
     refine Vs 2 ?_
     refine Sp h61 (fun hb72 h73 => ?_) (fun hb72 h74 => ?_)
     ·refine Ss hb72 5 ?_
      refine Pk1 hb72 ?_
      obtain rfl := some_inj h73
      exact RWP.nil ⟨rfl, F1, hs29, (Mem.le.refl _), fI⟩
     ·refine Vgs hb72 2 ?_
      obtain ⟨x75, hx76, h78⟩ := bind_some h74
      obtain ⟨hi77, hx76'⟩ := idx_spec hx76
      have hc80 := hE69 _ _ hx76'
      refine Ixg hb72 hi77 ?_
      refine Lxg hb72 0 (hs29.pers _ _ hF68) hc80 ?_
      refine Vgs hb72 1 ?_
      refine Pk0 hb72 ?_
      obtain rfl := some_inj h78
      exact RWP.nil ⟨rfl, F1, hs29, (Mem.le.refl _), fI⟩
    ·rintro f w48 ⟨F3, hs49, le50, ⟨_, rfl⟩⟩
     refine thenQ_nrm ?_
     refine Cd h57 (fun hb81 h82 => ?_) (fun hb81 h83 => ?_)
     ·refine Sq (Rg [0] ?_)
      refine Vs 1 ?_
      refine Nt ?_
      refine Rt ?_
      refine blockQ_ret ?_
      refine thenQ_ret ?_
      refine thenQ_ret ?_
      refine blockQ_ret ?_
      have hret := iter_ret h82 hnx44
      subst hret
      refine .inr ?_
      refine thenQ_ret ?_
      obtain rfl := some_inj h26
      exact Re [(.bool false)] hs49 rfl
     ·refine Sc ?_
      refine blockQ_nrm ?_
      refine thenQ_nrm ?_
      refine Rg [0, 1, 2] ?_
      refine Vs 3 ?_
      refine RWP.nil ?_
      have hn84 := iter_next h83 hnx44
      exact ⟨m41, Nat.lt_succ_self _, (W64 (s27 + 1)), F3, hn84, hs49, (le30.trans le50), fI⟩
   ·refine Ex ?_
    refine thenQ_ex ?_
    refine thenQ_ex ?_
    refine blockQ_hit rfl ?_
    have ho85 := iter_done h47 hnx44
    exact .inl ⟨rfl, s27, F1, ho85, hs29, le30, fI⟩
  ·rintro f w35 ⟨s34, F2, rfl, hs36, le37, ⟨_, rfl⟩⟩
   have h86 := k_done h26
   refine thenQ_nrm ?_
   refine Sq (Rg [0] ?_)
   refine Vs 1 ?_
   refine Nt ?_
   refine Rt ?_
   obtain rfl := some_inj h86
   exact Re [(.bool true)] hs36 rfl
end Go.Proofs.YtaihlcdkcampbaaGreatDoor
namespace Go.Proofs.YtaihlcdkcampbaaGreatDoor
def zE : Expr := ⟨0, 0, []⟩
def hold (n : Int) : Int := max (-1000000) (min 1000000 n)
theorem hold_r (n : Int) : -1000000 ≤ hold n ∧ hold n ≤ 1000000 := by unfold hold; omega
def bitv (b : Bool) : Int := if b then 1 else 0
def vop (op v fv : Int) (l : List Int) : Int :=
 if op = 1 then v else if op = 2 then fv else if op = 3 then 1 - l[0]! else if op = 4 then min l[0]! l[1]! else if op = 5 then max l[0]! l[1]! else if op = 6 then bitv (l[0]! == l[1]!)
 else if op = 7 then bitv (decide (l[0]! < l[1]!)) else if op = 8 then hold (l[0]! + l[1]!) else if op = 9 then hold (l[0]! - l[1]!) else if op = 10 then hold (l[0]! * l[1]!)
 else if l[0]! = 1 then l[1]! else l[2]!
def val (f : List Int) (e : Expr) : Int := match e with
 | ⟨op, v, ks⟩ => vop op v f[v.toNat]! (ks.map fun x => val f x)
theorem val_eq (f : List Int) (e : Expr) : val f e = vop e.Op e.Value f[e.Value.toNat]! (e.Kids.map (val f)) := by
 cases e; rw [val]
def fac (f : List Int) : Bool := decide (f.length = 14) && f.all fun n => decide (0 ≤ n) && decide (n ≤ 1000000)
def vok (t v : Int) : Prop := (t = 2 → v = 0 ∨ v = 1) ∧ (t = 1 → -1000000 ≤ v ∧ v ≤ 1000000)
inductive Mk (e : Expr) : Int → Prop
 | num (h : e.Op = 1) (h1 : 0 ≤ e.Value) (h2 : e.Value ≤ 1000000) (hk : e.Kids = []) : Mk e 1
 | field (h : e.Op = 2) (h1 : 0 ≤ e.Value) (h2 : e.Value ≤ 13) (hk : e.Kids = []) : Mk e 1
 | deny (h : e.Op = 3) (hv : e.Value = 0) (x : Expr) (hk : e.Kids = [x]) (h1 : kd x = 2) : Mk e 2
 | logic (h : e.Op = 4 ∨ e.Op = 5) (hv : e.Value = 0) (x y : Expr) (hk : e.Kids = [x, y]) (h1 : kd x = 2) (h2 : kd y = 2) : Mk e 2
 | test (h : e.Op = 6 ∨ e.Op = 7) (hv : e.Value = 0) (x y : Expr) (hk : e.Kids = [x, y]) (h1 : kd x = 1) (h2 : kd y = 1) : Mk e 2
 | sum (h : e.Op = 8 ∨ e.Op = 9 ∨ e.Op = 10) (hv : e.Value = 0) (x y : Expr) (hk : e.Kids = [x, y]) (h1 : kd x = 1) (h2 : kd y = 1) : Mk e 1
 | cond (h : e.Op = 11) (hv : e.Value = 0) (c x y : Expr) (hk : e.Kids = [c, x, y]) (h0 : kd c = 2) (h1 : kd x = 1) (h2 : kd y = 1) : Mk e 1
theorem map1 {l : List Expr} {a : Int} (h : l.map kd = [a]) : ∃ x, l = [x] ∧ kd x = a := by
 match l, h with
 | [x], h => exact ⟨x, rfl, by simpa using h⟩
theorem map2 {l : List Expr} {a b : Int} (h : l.map kd = [a, b]) : ∃ x y, l = [x, y] ∧ kd x = a ∧ kd y = b := by
 match l, h with
 | [x, y], h => simp at h; exact ⟨x, y, rfl, h.1, h.2⟩
theorem map3 {l : List Expr} {a b c : Int} (h : l.map kd = [a, b, c]) : ∃ x y z, l = [x, y, z] ∧ kd x = a ∧ kd y = b ∧ kd z = c := by
 match l, h with
 | [x, y, z], h => simp at h; exact ⟨x, y, z, rfl, h.1, h.2.1, h.2.2⟩
theorem kd_mk {e : Expr} (h : kd e ≠ 0) : Mk e (kd e) := by
 rw [kd_eq] at h ⊢
 cases hf : kf e.Op with
 | none => rw [hf] at h; exact absurd rfl h
 | some x =>
  obtain ⟨m, o, l⟩ := x
  rw [hf] at h
  simp only at h ⊢
  by_cases hc : 0 ≤ e.Value ∧ e.Value ≤ m ∧ e.Kids.map kd = l
  ·rw [if_pos hc]
   obtain ⟨c1, c2, c3⟩ := hc
   unfold kf at hf
   by_cases h1 : e.Op = 1
   ·rw [if_pos h1] at hf; cases hf; exact .num h1 c1 c2 (by simpa using c3)
   rw [if_neg h1] at hf
   by_cases h2 : e.Op = 2
   ·rw [if_pos h2] at hf; cases hf; exact .field h2 c1 c2 (by simpa using c3)
   rw [if_neg h2] at hf
   by_cases h3 : e.Op = 3
   ·rw [if_pos h3] at hf; cases hf; obtain ⟨x, hk, hx⟩ := map1 c3; exact .deny h3 (by omega) x hk hx
   rw [if_neg h3] at hf
   by_cases h4 : e.Op = 4 ∨ e.Op = 5
   ·rw [if_pos h4] at hf; cases hf; obtain ⟨x, y, hk, hx, hy⟩ := map2 c3; exact .logic h4 (by omega) x y hk hx hy
   rw [if_neg h4] at hf
   by_cases h6 : e.Op = 6 ∨ e.Op = 7
   ·rw [if_pos h6] at hf; cases hf; obtain ⟨x, y, hk, hx, hy⟩ := map2 c3; exact .test h6 (by omega) x y hk hx hy
   rw [if_neg h6] at hf
   by_cases h8 : e.Op = 8 ∨ e.Op = 9 ∨ e.Op = 10
   ·rw [if_pos h8] at hf; cases hf; obtain ⟨x, y, hk, hx, hy⟩ := map2 c3; exact .sum h8 (by omega) x y hk hx hy
   rw [if_neg h8] at hf
   by_cases h11 : e.Op = 11
   ·rw [if_pos h11] at hf; cases hf; obtain ⟨x, y, z, hk, hx, hy, hz⟩ := map3 c3; exact .cond h11 (by omega) x y z hk hx hy hz
   rw [if_neg h11] at hf; cases hf
  ·rw [if_neg hc] at h; exact absurd rfl h
theorem fac_len {f : List Int} (h : fac f = true) : f.length = 14 := by unfold fac at h; simp at h; exact h.1
theorem fac_get {f : List Int} (h : fac f = true) {i : Nat} (hi : i < 14) : 0 ≤ f[i]! ∧ f[i]! ≤ 1000000 := by
 have hl := fac_len h
 unfold fac at h
 simp only [Bool.and_eq_true, decide_eq_true_eq, List.all_eq_true] at h
 have := h.2 f[i]! (by rw [getElem!_pos f i (by omega)]; exact List.getElem_mem _)
 exact this
theorem bitv_ok (b : Bool) : bitv b = 0 ∨ bitv b = 1 := by cases b <;> simp [bitv]
theorem val_ok {f : List Int} (hf : fac f = true) {M : Nat} : ∀ {n : Nat} {e : Expr}, Ht M n e → kd e ≠ 0 → vok (kd e) (val f e)
 | 0, _, h, _ => h.elim
 | n + 1, e, ⟨_, _, h3⟩, h0 => by
  have ih : ∀ x, x ∈ e.Kids → kd x ≠ 0 → vok (kd x) (val f x) := fun x hx => val_ok hf (h3 x hx)
  rw [val_eq]
  have hm := kd_mk h0
  generalize kd e = t at hm h0
  have T : ∀ x, x ∈ e.Kids → kd x = 2 → val f x = 0 ∨ val f x = 1 := fun x hx h => (ih x hx (by rw [h]; decide)).1 h
  have U : ∀ x, x ∈ e.Kids → kd x = 1 → -1000000 ≤ val f x ∧ val f x ≤ 1000000 := fun x hx h => (ih x hx (by rw [h]; decide)).2 h
  cases hm with
  | num h h1 h2 hk =>
   rw [h]
   refine ⟨fun h => (by cases h), fun _ => ?_⟩
   show -1000000 ≤ e.Value ∧ e.Value ≤ 1000000
   omega
  | field h h1 h2 hk =>
    rw [h]
    refine ⟨fun h => (by cases h), fun _ => ?_⟩
    show -1000000 ≤ f[e.Value.toNat]! ∧ f[e.Value.toNat]! ≤ 1000000
    have := fac_get hf (i := e.Value.toNat) (by omega)
    omega
  | deny h hv x hk h1 =>
   rw [h, hk]
   have := T x (by rw [hk]; simp) h1
   refine ⟨fun _ => ?_, fun h => (by cases h)⟩
   show 1 - val f x = 0 ∨ 1 - val f x = 1
   omega
  | logic h hv x y hk h1 h2 =>
   have a := T x (by rw [hk]; simp) h1
   have b := T y (by rw [hk]; simp) h2
   rw [hk]
   refine ⟨fun _ => ?_, fun h => by cases h⟩
   rcases h with h | h <;> rw [h]
   ·show min (val f x) (val f y) = 0 ∨ min (val f x) (val f y) = 1; omega
   ·show max (val f x) (val f y) = 0 ∨ max (val f x) (val f y) = 1; omega
  | test h hv x y hk h1 h2 =>
   refine ⟨fun _ => ?_, fun h => by cases h⟩
   rcases h with h | h <;> rw [h] <;> exact bitv_ok _
  | sum h hv x y hk h1 h2 =>
   refine ⟨fun h => (by cases h), fun _ => ?_⟩
   rcases h with h | h | h <;> rw [h] <;> exact hold_r _
  | cond h hv c x y hk h0 h1 h2 =>
   have b := U x (by rw [hk]; simp) h1
   have c := U y (by rw [hk]; simp) h2
   rw [h, hk]
   refine ⟨fun h => (by cases h), fun _ => ?_⟩
   show -1000000 ≤ (if val f _ = 1 then val f x else val f y) ∧ (if val f _ = 1 then val f x else val f y) ≤ 1000000
   split <;> assumption
section
variable {N : Nat} {f : List Int}
theorem m_one (b : Bool) : rules_one N b = some (bitv b) := by unfold rules_one bitv; cases b <;> rfl
theorem m_bit (b : Bool) : ref06_bit N b = some (bitv b) := by unfold ref06_bit bitv; cases b <;> rfl
theorem m_held (n : Int) : rules_held N n = some (hold n) := rfl
theorem W64_small {n : Int} (h : -1000000000000000 ≤ n) (h2 : n ≤ 1000000000000000) : W64 n = n := W64_id (by omega) (by omega)
theorem mul_small {a b : Int} (ha : -1000000 ≤ a) (ha' : a ≤ 1000000) (hb : -1000000 ≤ b) (hb' : b ≤ 1000000) : -1000000000000 ≤ a * b ∧ a * b ≤ 1000000000000 := by
 have hk : (a * b).natAbs ≤ 1000000 * 1000000 := by
  rw [Int.natAbs_mul]
  exact Nat.mul_le_mul (by omega) (by omega)
 omega
theorem k_value (hf : fac f = true) : ∀ {n k : Nat} {e : Expr}, Ht N n e → 2 * n ≤ k → kd e ≠ 0 → (rec99 N k).q99 e f = some (val f e)
 | 0, _, _, h, _, _ => h.elim
 | n + 1, 0, _, _, h, _ => absurd h (by omega)
 | n + 1, 1, _, _, h, _ => absurd h (by omega)
 | n + 1, k + 2, e, ⟨h1, h2, h3⟩, hk, h0 => by
  have hq : ∀ x, x ∈ e.Kids → kd x ≠ 0 → (rec99 N k).q99 x f = some (val f x) := fun x hx => k_value hf (h3 x hx) (by omega)
  have hv : ∀ x, x ∈ e.Kids → kd x ≠ 0 → vok (kd x) (val f x) := fun x hx => val_ok hf (h3 x hx)
  have T : ∀ x, x ∈ e.Kids → kd x = 2 → val f x = 0 ∨ val f x = 1 := fun x hx h => (hv x hx (by rw [h]; decide)).1 h
  have U : ∀ x, x ∈ e.Kids → kd x = 1 → -1000000 ≤ val f x ∧ val f x ≤ 1000000 := fun x hx h => (hv x hx (by rw [h]; decide)).2 h
  have hi : ∀ (i : Nat) x, e.Kids[i]? = some x → kd x ≠ 0 → (rec99 N (k + 1)).q155 (i : Int) e f = some (val f x) := fun i x hx hx0 => by
   show rules_value_1_S N (rec99 N k).q99 i e f = _
   unfold rules_value_1_S
   rw [idx_nat', hx, Option.bind_some, hq x (List.mem_of_getElem? hx) hx0]
   rfl
  have hi0 : ∀ x, e.Kids[0]? = some x → kd x ≠ 0 → (rec99 N (k + 1)).q155 0 e f = some (val f x) := hi 0
  have hi1 : ∀ x, e.Kids[1]? = some x → kd x ≠ 0 → (rec99 N (k + 1)).q155 1 e f = some (val f x) := hi 1
  have hi2 : ∀ x, e.Kids[2]? = some x → kd x ≠ 0 → (rec99 N (k + 1)).q155 2 e f = some (val f x) := hi 2
  show rules_value_S N (rec99 N (k + 1)).q155 e f = _
  unfold rules_value_S
  rw [val_eq]
  have hm := kd_mk h0
  generalize kd e = t at hm
  cases hm with
  | num h _ _ hk => rw [h]; rfl
  | field h h1 h2 hk =>
   have hl := fac_len hf
   rw [h]
   show ((idx f e.Value).bind fun x32 => some x32) = some f[e.Value.toNat]!
   obtain ⟨m, hm⟩ : ∃ m : Nat, e.Value = m := ⟨e.Value.toNat, by omega⟩
   have hm' : m < f.length := by omega
   rw [hm, idx_nat hm', Int.toNat_natCast, getElem!_pos f m hm']
   rfl
  | deny h hv x hk h1 =>
   have a := hi0 x (by rw [hk]; rfl) (by rw [h1]; decide)
   have b := T x (by rw [hk]; simp) h1
   rw [h, hk]
   show ((rec99 N (k + 1)).q155 0 e f).bind _ = some (1 - val f x)
   rw [a, Option.bind_some, W64_small (by omega) (by omega)]
  | logic h hv x y hk h1 h2 =>
   have a := hi0 x (by rw [hk]; rfl) (by rw [h1]; decide)
   have b := hi1 y (by rw [hk]; rfl) (by rw [h2]; decide)
   have a' := T x (by rw [hk]; simp) h1
   have b' := T y (by rw [hk]; simp) h2
   rcases h with h | h <;> rw [h, hk]
   ·show ((rec99 N (k + 1)).q155 0 e f).bind _ = some (min (val f x) (val f y))
    rw [a, Option.bind_some, b, Option.bind_some]
    congr 1
    rcases a' with a' | a' <;> rcases b' with b' | b' <;> rw [a', b'] <;> decide
   ·show ((rec99 N (k + 1)).q155 0 e f).bind _ = some (max (val f x) (val f y))
    rw [a, Option.bind_some, b, Option.bind_some]
  | test h hv x y hk h1 h2 =>
   have a := hi0 x (by rw [hk]; rfl) (by rw [h1]; decide)
   have b := hi1 y (by rw [hk]; rfl) (by rw [h2]; decide)
   rcases h with h | h <;> rw [h, hk]
   ·show ((rec99 N (k + 1)).q155 0 e f).bind _ = some (bitv (val f x == val f y))
    rw [a, Option.bind_some, b, Option.bind_some, m_one]; rfl
   ·show ((rec99 N (k + 1)).q155 0 e f).bind _ = some (bitv (decide (val f x < val f y)))
    rw [a, Option.bind_some, b, Option.bind_some, m_one]; rfl
  | sum h hv x y hk h1 h2 =>
   have a := hi0 x (by rw [hk]; rfl) (by rw [h1]; decide)
   have b := hi1 y (by rw [hk]; rfl) (by rw [h2]; decide)
   have a' := U x (by rw [hk]; simp) h1
   have b' := U y (by rw [hk]; simp) h2
   have c' := mul_small a'.1 a'.2 b'.1 b'.2
   rcases h with h | h | h <;> rw [h, hk]
   ·show ((rec99 N (k + 1)).q155 0 e f).bind _ = some (hold (val f x + val f y))
    rw [a, Option.bind_some, b, Option.bind_some, W64_small (by omega) (by omega), m_held]; rfl
   ·show ((rec99 N (k + 1)).q155 0 e f).bind _ = some (hold (val f x - val f y))
    rw [a, Option.bind_some, b, Option.bind_some, W64_small (by omega) (by omega), m_held]; rfl
   ·show ((rec99 N (k + 1)).q155 0 e f).bind _ = some (hold (val f x * val f y))
    rw [a, Option.bind_some, b, Option.bind_some, W64_small (by omega) (by omega), m_held]; rfl
  | cond h hv c x y hk h0 h1 h2 =>
   have z := hi0 c (by rw [hk]; rfl) (by rw [h0]; decide)
   have a := hi1 x (by rw [hk]; rfl) (by rw [h1]; decide)
   have b := hi2 y (by rw [hk]; rfl) (by rw [h2]; decide)
   have z' := T c (by rw [hk]; simp) h0
   rw [h, hk]
   show ((rec99 N (k + 1)).q155 0 e f).bind _ = some (if val f c = 1 then val f x else val f y)
   rw [z, Option.bind_some]
   rcases z' with z' | z' <;> rw [z']
   ·rw [show W64 (2 - 0) = 2 from rfl, b]; rfl
   ·rw [show W64 (2 - 1) = 1 from rfl, a]; rfl
theorem k_rvalue (hf : fac f = true) : ∀ {n k : Nat} {e : Expr}, Ht N n e → n ≤ k → kd e ≠ 0 → (rec101 N k).q101 e f = some (val f e)
 | 0, _, _, h, _, _ => h.elim
 | n + 1, 0, _, _, h, _ => absurd h (by omega)
 | n + 1, k + 1, e, ⟨h1, h2, h3⟩, hk, h0 => by
  have hq : ∀ x, x ∈ e.Kids → kd x ≠ 0 → (rec101 N k).q101 x f = some (val f x) := fun x hx => k_rvalue hf (h3 x hx) (by omega)
  have hv : ∀ x, x ∈ e.Kids → kd x ≠ 0 → vok (kd x) (val f x) := fun x hx => val_ok hf (h3 x hx)
  have T : ∀ x, x ∈ e.Kids → kd x = 2 → val f x = 0 ∨ val f x = 1 := fun x hx h => (hv x hx (by rw [h]; decide)).1 h
  have U : ∀ x, x ∈ e.Kids → kd x = 1 → -1000000 ≤ val f x ∧ val f x ≤ 1000000 := fun x hx h => (hv x hx (by rw [h]; decide)).2 h
  show ref06_value_S N (rec101 N k).q101 e f = _
  unfold ref06_value_S
  have hm := kd_mk h0
  generalize kd e = t at hm
  have hkz : ∀ x, x ∈ e.Kids → kd x ≠ 0 := by
   intro x hx
   cases hm with
   | num h _ _ hk => rw [hk] at hx; cases hx
   | field h _ _ hk => rw [hk] at hx; cases hx
   | deny h _ a hk h1 => rw [hk] at hx; simp at hx; subst hx; rw [h1]; decide
   | logic h _ a b hk h1 h2 => rw [hk] at hx; simp at hx; rcases hx with rfl | rfl <;> first | (rw [h1]; decide) | (rw [h2]; decide)
   | test h _ a b hk h1 h2 => rw [hk] at hx; simp at hx; rcases hx with rfl | rfl <;> first | (rw [h1]; decide) | (rw [h2]; decide)
   | sum h _ a b hk h1 h2 => rw [hk] at hx; simp at hx; rcases hx with rfl | rfl <;> first | (rw [h1]; decide) | (rw [h2]; decide)
   | cond h _ c a b hk h0 h1 h2 => rw [hk] at hx; simp at hx; rcases hx with rfl | rfl | rfl <;> first | (rw [h1]; decide) | (rw [h2]; decide) | (rw [h0]; decide)
  have hl3 : e.Kids.length ≤ 3 := by
   cases hm with
   | num h _ _ hk => rw [hk]; simp
   | field h _ _ hk => rw [hk]; simp
   | deny h _ a hk h1 => rw [hk]; simp
   | logic h _ a b hk h1 h2 => rw [hk]; simp
   | test h _ a b hk h1 h2 => rw [hk]; simp
   | sum h _ a b hk h1 h2 => rw [hk]; simp
   | cond h _ c a b hk h0 h1 h2 => rw [hk]; simp
  have hit : iter (ref06_value_L0 N (rec101 N k).q101 e f) N ([], 0) = some (.done (([] : List Int) ++ cat e.Kids.length (fun i => [val f (e.Kids[i]?.getD zE)]), (e.Kids.length : Int))) := by
   refine iter_cat' 1 _ (fun i hi => by simp) (fun i s hi hs => ?_) (fun s => ?_) h1
   ·unfold ref06_value_L0
    simp only
    rw [lt_t hi, cond_true, idx_nat hi, Option.bind_some, hq _ (List.getElem_mem hi) (hkz _ (List.getElem_mem hi)), Option.bind_some, apnd_ok (by simp at hs ⊢; omega), Option.bind_some, W64_succ (by omega), List.getElem?_eq_getElem hi]
    rfl
   ·unfold ref06_value_L0
    simp only
    rw [lt_f, cond_false]
  rw [hit, val_eq]
  cases hm with
  | num h _ _ hk => rw [h]; rfl
  | field h h1 h2 hk =>
   have hl := fac_len hf
   rw [h]
   show ((idx f e.Value).bind fun x32 => some x32) = some f[e.Value.toNat]!
   obtain ⟨m, hm⟩ : ∃ m : Nat, e.Value = m := ⟨e.Value.toNat, by omega⟩
   have hm' : m < f.length := by omega
   rw [hm, idx_nat hm', Int.toNat_natCast, getElem!_pos f m hm']
   rfl
  | deny h hv x hk h1 =>
   have b := T x (by rw [hk]; simp) h1
   rw [h, hk]
   show some (W64 (1 - val f x)) = some (1 - val f x)
   rw [W64_small (by omega) (by omega)]
  | logic h hv x y hk h1 h2 =>
   rcases h with h | h <;> rw [h, hk] <;> rfl
  | test h hv x y hk h1 h2 =>
   rcases h with h | h <;> rw [h, hk]
   ·show (((ref06_bit N (val f x == val f y)).bind fun r241 => some r241).bind fun j213 => some j213) = some (bitv (val f x == val f y))
    rw [m_bit]; rfl
   ·show (((ref06_bit N (decide (val f x < val f y))).bind fun r241 => some r241).bind fun j213 => some j213) = some (bitv (decide (val f x < val f y)))
    rw [m_bit]; rfl
  | sum h hv x y hk h1 h2 =>
   have a' := U x (by rw [hk]; simp) h1
   have b' := U y (by rw [hk]; simp) h2
   have c' := mul_small a'.1 a'.2 b'.1 b'.2
   rcases h with h | h | h <;> rw [h, hk]
   ·show some (hold (W64 (val f x + val f y))) = some (hold (val f x + val f y))
    rw [W64_small (by omega) (by omega)]
   ·show some (hold (W64 (val f x - val f y))) = some (hold (val f x - val f y))
    rw [W64_small (by omega) (by omega)]
   ·show some (hold (W64 (val f x * val f y))) = some (hold (val f x * val f y))
    rw [W64_small (by omega) (by omega)]
  | cond h hv c x y hk h0 h1 h2 =>
   have z' := T c (by rw [hk]; simp) h0
   rw [h, hk]
   show (bif (val f c == 1) then some (val f x) else some (val f y)) = some (if val f c = 1 then val f x else val f y)
   rcases z' with z' | z' <;> rw [z'] <;> rfl
theorem s_value (hf : fac f = true) {e : Expr} (h : Fit N e) (h0 : kd e ≠ 0) : rules_value N e f = some (val f e) := by obtain ⟨n, h1, h2⟩ := h; exact k_value hf h1 (by omega) h0
theorem s_rvalue (hf : fac f = true) {e : Expr} (h : Fit N e) (h0 : kd e ≠ 0) : ref06_value N e f = some (val f e) := by obtain ⟨n, h1, h2⟩ := h; exact k_rvalue hf h1 (by omega) h0
theorem s_validFacts (hN : 100 < N) : rules_validFacts N f = some (fac f) := by
 unfold rules_validFacts fac slices_ContainsFunc_int_int slices_IndexFunc_int_int
 by_cases hl : f.length = 14
 ·rw [show ((f.length : Int) == 14) = true by simp; omega, cond_true]
  rw [iter_first f (fun n => decide (n < 0) || decide (n > 1000000)) (fun i => (i : Int)) (fun i hi => by
   unfold slices_IndexFunc_int_int_L0
   rw [lt_t hi, cond_true, idx_nat hi]; rfl) (by unfold slices_IndexFunc_int_int_L0; rw [lt_f, cond_false]) (by omega) (by omega)]
  have : (f.all fun n => decide (0 ≤ n) && decide (n ≤ 1000000)) = !(f.any fun n => decide (n < 0) || decide (n > 1000000)) := by
   rw [List.not_any_eq_all_not]
   congr 1
   funext n
   simp
   rw [Bool.eq_iff_iff]; simp
  rw [this]
  cases f.any fun n => decide (n < 0) || decide (n > 1000000) with
  | true => simp [Flow.k, hl]
  | false => simp [Flow.k, hl]
 ·rw [show ((f.length : Int) == 14) = false by simp; omega, cond_false]
  simp [hl]
theorem s_factual (hN : 100 < N) : ref06_factual N f = some (fac f) := by
 unfold ref06_factual fac
 by_cases hl : f.length = 14
 ·rw [show ((f.length : Int) != 14) = false by simp; omega, cond_false]
  rw [iter_first f (fun n => decide (n < 0) || decide (n > 1000000)) (fun _ => false) (fun i hi => by
   unfold ref06_factual_L0
   rw [lt_t hi, cond_true, idx_nat hi, Option.bind_some, Option.bind_some]
   cases decide (f[i] < 0) <;> rfl) (by unfold ref06_factual_L0; rw [lt_f, cond_false]) (by omega) (by omega)]
  have : (f.all fun n => decide (0 ≤ n) && decide (n ≤ 1000000)) = !(f.any fun n => decide (n < 0) || decide (n > 1000000)) := by
   rw [List.not_any_eq_all_not]
   congr 1
   funext n
   simp
   rw [Bool.eq_iff_iff]; simp
  rw [this]
  cases f.any fun n => decide (n < 0) || decide (n > 1000000) with
  | true => simp [Flow.k, hl]
  | false => simp [Flow.k, hl]
 ·rw [show ((f.length : Int) != 14) = true by simp; omega, cond_true]
  simp [hl]
end
end Go.Proofs.YtaihlcdkcampbaaGreatDoor
namespace Go.Proofs.YtaihlcdkcampbaaGreatDoor
open Go.Proofs
def slices_IndexFunc_api_Clause_api_Clause_L0 (N : Nat) (x0 : (List Clause)) (x1 : (Clause → Option Bool)) : Int → Option (Flow Int Int) := fun s24 =>
 (bif (decide (s24 < (x0.length : Int))) then ((idx x0 s24).bind fun x47 => ((x1 x47).bind fun r61 => (bif r61 then some (.ret s24) else some (.next (W64 (s24 + 1)))))) else some (.done s24))
def slices_IndexFunc_api_Clause_api_Clause (N : Nat) (x0 : (List Clause)) (x1 : (Clause → Option Bool)) : Option Int :=
 ((iter (slices_IndexFunc_api_Clause_api_Clause_L0 N x0 x1) N 0).bind fun o => o.k (fun r => some r) (fun s33 => some (-1)))
theorem co_slices_IndexFunc_api_Clause_api_Clause : CallOk Tryz.prog 162 := fun _ _ => by kernel_rfl
theorem c_slices_IndexFunc_api_Clause_api_Clause (N : Nat) (w0 : World) (F0 : Mem) (hF : ∀ b o, F0 b = some o → w0.heap[b]? = some o) (x0 : (List Clause)) (a0_0 : Option Addr) (n0_0 : Nat) (hb0_0 : LC x0.length n0_0) (hs0_0 : SlA tClause F0 a0_0 x0) (gx1 : FuncId) (fx1 kx1 : List Value) (x1 : Clause → Option Bool) (hox1 : CallOk Tryz.prog gx1) (hpx1 : Fn148 F0 gx1 fx1 kx1 x1) (r : Int) (h : slices_IndexFunc_api_Clause_api_Clause N x0 x1 = some r) :
  Calls Tryz.prog 162 ([(.slice a0_0 x0.length n0_0), (.func (.func gx1) fx1.toArray kx1.toArray)] : List Value).toArray w0 (FRet w0 F0 fun F' v => v = (vi r)) := by
 have hs0 := HS.start hF
 refine Go 19 Tryz.func162 ?_
 refine Sq (Rg [0] ?_)
 refine Vs 1 ?_
 refine Nss ?_
 refine Sq (Rg [0, 1, 2] ?_)
 refine Vs 3 ?_
 refine Nt ?_
 obtain ⟨o21, ho22, h23⟩ := bind_some h
 refine CWP.cut (fun f w => ∃ (s33 : Int) (F2 : Mem), o21 = .done s33 ∧ HS w0 F0 w F2 [] ∧ Mem.le F0 F2 ∧ FI f [] []) ?_ ?_
 ·refine Bk ?_
  refine CWP.loop (by kernel_rfl) (fun m f w => ∃ (s24 : Int) (F1 : Mem), iter (slices_IndexFunc_api_Clause_api_Clause_L0 N x0 x1) m s24 = some o21 ∧ HS w0 F0 w F1 [] ∧ Mem.le F0 F1 ∧ FI f [] [(0, (.slice a0_0 x0.length n0_0)), (1, (.func (.func gx1) fx1.toArray kx1.toArray)), (7, (vi (x0.length : Int))), (8, (vi s24))]) N ⟨0, F0, ho22, hs0, (Mem.le.refl _), fI⟩ ?_
  rintro m38 f w25 ⟨s24, F1, hit39, hs26, le27, ⟨_, rfl⟩⟩
  obtain ⟨m40, fl41, rfl, hb42, hnx43⟩ := iter_step hit39
  refine Sq (Rg [0] ?_)
  refine Vs 1 ?_
  refine Nss ?_
  refine Cd hb42 (fun hb44 h45 => ?_) (fun hb44 h46 => ?_)
  ·refine Sc ?_
   refine thenQ_nrm ?_
   refine Sq ?_
   refine Bk ?_
   refine Sq (Rg [0, 1] ?_)
   refine Vs 2 ?_
   refine Nss (Rg [0, 1, 2, 3, 4, 5] ?_)
   refine Vs 3 ?_
   obtain ⟨x47, hx48, h50⟩ := bind_some h45
   obtain ⟨hi49, hx48'⟩ := idx_spec hx48
   obtain ⟨b51, o52, C53, E54, fz55, rfl, hF57, hE58⟩ := SlA.open (SlA.mono hs0_0 le27) hx48'
   obtain ⟨ae59_2, ne59_2, ae59_5, ne59_5, hc60, hbe59_2, hse59_2, hbe59_5, hse59_5⟩ := hE58 _ _ hx48'
   refine Ix hi49 ?_
   refine Lx 0 (hs26.pers _ _ hF57) hc60 ?_
   obtain ⟨r61, hr62, h63⟩ := bind_some h50
   refine Cq hox1 hs26 (hpx1 w25 F1 (x47) ae59_2 ne59_2 hbe59_2 hse59_2 ae59_5 ne59_5 hbe59_5 hse59_5 _ le27 hs26.pers hr62) ?_
   rintro _ F3 w65 hs66 le67 rfl
   refine Nt ?_
   refine Cd h63 (fun hb69 h70 => ?_) (fun hb69 h71 => ?_)
   ·refine Sq (Rg [0, 1] ?_)
    refine Vs 2 ?_
    refine Nt ?_
    refine Rt ?_
    refine blockQ_ret ?_
    refine thenQ_ret ?_
    refine thenQ_ret ?_
    refine blockQ_ret ?_
    have hret := iter_ret h70 hnx43
    subst hret
    refine .inr ?_
    refine thenQ_ret ?_
    obtain rfl := some_inj h23
    exact Re [(vi s24)] hs66 rfl
   ·refine Sc ?_
    refine blockQ_nrm ?_
    refine thenQ_nrm ?_
    refine Rg [0, 1] ?_
    refine Vs 2 ?_
    refine RWP.nil ?_
    have hn72 := iter_next h71 hnx43
    exact ⟨m40, Nat.lt_succ_self _, (W64 (s24 + 1)), F3, hn72, hs66, (le27.trans le67), fI⟩
  ·refine Ex ?_
   refine thenQ_ex ?_
   refine thenQ_ex ?_
   refine blockQ_hit rfl ?_
   have ho73 := iter_done h46 hnx43
   exact .inl ⟨rfl, s24, F1, ho73, hs26, le27, fI⟩
 ·rintro f w34 ⟨s33, F2, rfl, hs35, le36, ⟨_, rfl⟩⟩
  have h74 := k_done h23
  refine thenQ_nrm ?_
  refine Sq (Rg [0] ?_)
  refine Vs 1 ?_
  refine Nt ?_
  refine Rt ?_
  obtain rfl := some_inj h74
  exact Re [(vi (-1))] hs35 rfl
end Go.Proofs.YtaihlcdkcampbaaGreatDoor
namespace Go.Proofs.YtaihlcdkcampbaaGreatDoor
open Go.Proofs
end Go.Proofs.YtaihlcdkcampbaaGreatDoor
namespace Go.Proofs.YtaihlcdkcampbaaGreatDoor
open Go.Proofs
end Go.Proofs.YtaihlcdkcampbaaGreatDoor
namespace Go.Proofs.YtaihlcdkcampbaaGreatDoor
open Go.Proofs
end Go.Proofs.YtaihlcdkcampbaaGreatDoor
namespace Go.Proofs.YtaihlcdkcampbaaGreatDoor
open Go.Proofs
def rules_first_1 (N : Nat) (x0 : Clause) (z0 : (List Int)) : Option Bool :=
 ((rules_value N x0.When z0).bind fun r24 => some (r24 == 1))
theorem co_rules_first_1 : CallOk Tryz.prog 163 := fun _ _ => by kernel_rfl
theorem c_rules_first_1 (N : Nat) (w0 : World) (F0 : Mem) (hF : ∀ b o, F0 b = some o → w0.heap[b]? = some o) (x0 : Clause) (a0_2 : Option Addr) (n0_2 : Nat) (hb0_2 : LC x0.When.Kids.length n0_2) (hs0_2 : SlA tExpr F0 a0_2 x0.When.Kids) (a0_5 : Option Addr) (n0_5 : Nat) (hb0_5 : LC x0.Then.Kids.length n0_5) (hs0_5 : SlA tExpr F0 a0_5 x0.Then.Kids) (bz0 : Nat) (z0 : (List Int)) (az0_0 : Option Addr) (nz0_0 : Nat) (hbz0_0 : LC z0.length nz0_0) (hsz0_0 : SlA tInt F0 az0_0 z0) (hz0 : F0 bz0 = some (oc #[(.slice az0_0 z0.length nz0_0)] 47)) (r : Bool) (h : rules_first_1 N x0 z0 = some r) :
  Calls Tryz.prog 163 ([(.agg (kClause x0 a0_2 n0_2 a0_5 n0_5)), (pt bz0 0)] : List Value).toArray w0 (FRet w0 F0 fun F' v => v = (.bool r)) := by
 have hs0 := HS.start hF
 refine Go 9 Tryz.func163 ?_
 refine Sq (Rg [0, 1] ?_)
 refine Bx' 56 (kClause x0 a0_2 n0_2 a0_5 n0_5) hs0 (fun b21 w22 hs23 => ?_)
 refine Vs 1 ?_
 refine Nss (Rg [0, 1, 2, 3, 4, 5] ?_)
 refine Vs 1 ?_
 refine Ld hs23.at0 ?_
 refine Ld (hs23.pers _ _ hz0) ?_
 obtain ⟨r24, hr25, h26⟩ := bind_some h
 refine Cl' co_rules_value hs23 (c_rules_value N w22 F0 hs23.pers (x0.When) a0_2 n0_2 hb0_2 hs0_2 (z0) az0_0 nz0_0 hbz0_0 hsz0_0 _ hr25) ?_
 rintro _ F1 w28 hs29 le30 rfl
 refine Vs 2 ?_
 refine Nt ?_
 refine Rt ?_
 obtain rfl := some_inj h26
 exact Re [(.bool (r24 == 1))] hs29 rfl
end Go.Proofs.YtaihlcdkcampbaaGreatDoor
namespace Go.Proofs.YtaihlcdkcampbaaGreatDoor
open Go.Proofs
def rules_first (N : Nat) (x0 : (List Clause)) (x1 : (List Int)) : Option Int :=
 ((slices_IndexFunc_api_Clause_api_Clause N x0 (fun y0 => rules_first_1 N y0 x1)).bind fun r27 => some r27)
theorem co_rules_first : CallOk Tryz.prog 103 := fun _ _ => by kernel_rfl
theorem c_rules_first (N : Nat) (w0 : World) (F0 : Mem) (hF : ∀ b o, F0 b = some o → w0.heap[b]? = some o) (x0 : (List Clause)) (a0_0 : Option Addr) (n0_0 : Nat) (hb0_0 : LC x0.length n0_0) (hs0_0 : SlA tClause F0 a0_0 x0) (x1 : (List Int)) (a1_0 : Option Addr) (n1_0 : Nat) (hb1_0 : LC x1.length n1_0) (hs1_0 : SlA tInt F0 a1_0 x1) (r : Int) (h : rules_first N x0 x1 = some r) :
  Calls Tryz.prog 103 ([(.slice a0_0 x0.length n0_0), (.slice a1_0 x1.length n1_0)] : List Value).toArray w0 (FRet w0 F0 fun F' v => v = (vi r)) := by
 have hs0 := HS.start hF
 refine Go 8 Tryz.func103 ?_
 refine Sq (Rg [0, 1] ?_)
 refine Bx' 47 #[(.slice a1_0 x1.length n1_0)] hs0 (fun b21 w22 hs23 => ?_)
 refine Vs 1 ?_
 refine Nss (Rg [0, 1, 2, 3] ?_)
 refine Vs 2 ?_
 obtain ⟨F1, hs24, le25, hF26⟩ := hs23.fc0
 obtain ⟨r27, hr28, h29⟩ := bind_some h
 refine Cl' co_slices_IndexFunc_api_Clause_api_Clause hs24 (c_slices_IndexFunc_api_Clause_api_Clause N w22 F1 hs24.pers (x0) a0_0 n0_0 hb0_0 (SlA.mono hs0_0 le25) 163 [] [(pt b21 0)] (fun y0 => rules_first_1 N y0 x1) co_rules_first_1 (fun w1 F1 y0 ay0_2 ny0_2 hby0_2 hsy0_2 ay0_5 ny0_5 hby0_5 hsy0_5 r le1 pe1 hr1 => c_rules_first_1 N w1 F1 pe1  y0 ay0_2 ny0_2 hby0_2 hsy0_2 ay0_5 ny0_5 hby0_5 hsy0_5 b21 x1 a1_0 n1_0 hb1_0 (SlA.mono (SlA.mono hs1_0 le25) le1) (le1 _ _ hF26) r hr1) _ hr28) ?_
 rintro _ F2 w31 hs32 le33 rfl
 refine Vs 1 ?_
 refine Nt ?_
 refine Rt ?_
 obtain rfl := some_inj h29
 exact Re [(vi r27)] hs32 rfl
end Go.Proofs.YtaihlcdkcampbaaGreatDoor
namespace Go.Proofs.YtaihlcdkcampbaaGreatDoor
open Go.Proofs
def ref06_clauses_L0 (N : Nat) (x0 : (List Clause)) : Int → Option (Flow Int Int) := fun s24 =>
 (bif (decide (s24 < (x0.length : Int))) then ((idx x0 s24).bind fun x46 => ((ref06_clause N x46).bind fun r60 => (bif (!r60) then some (.ret s24) else some (.next (W64 (s24 + 1)))))) else some (.done s24))
def ref06_clauses (N : Nat) (x0 : (List Clause)) : Option Int :=
 ((iter (ref06_clauses_L0 N x0) N 0).bind fun o => o.k (fun r => some r) (fun s31 => some (x0.length : Int)))
theorem co_ref06_clauses : CallOk Tryz.prog 125 := fun _ _ => by kernel_rfl
theorem c_ref06_clauses (N : Nat) (w0 : World) (F0 : Mem) (hF : ∀ b o, F0 b = some o → w0.heap[b]? = some o) (x0 : (List Clause)) (a0_0 : Option Addr) (n0_0 : Nat) (hb0_0 : LC x0.length n0_0) (hs0_0 : SlA tClause F0 a0_0 x0) (r : Int) (h : ref06_clauses N x0 = some r) :
  Calls Tryz.prog 125 ([(.slice a0_0 x0.length n0_0)] : List Value).toArray w0 (FRet w0 F0 fun F' v => v = (vi r)) := by
 have hs0 := HS.start hF
 refine Go 19 Tryz.func125 ?_
 refine Sq (Rg [0] ?_)
 refine Vs 1 ?_
 refine Nss ?_
 refine Sq (Rg [0] ?_)
 refine Vs 1 ?_
 refine Nt ?_
 obtain ⟨o21, ho22, h23⟩ := bind_some h
 refine CWP.cut (fun f w => ∃ (s31 : Int) (F2 : Mem), o21 = .done s31 ∧ HS w0 F0 w F2 [] ∧ Mem.le F0 F2 ∧ FI f [] [(0, (.slice a0_0 x0.length n0_0))]) ?_ ?_
 ·refine Bk ?_
  refine CWP.loop (by kernel_rfl) (fun m f w => ∃ (s24 : Int) (F1 : Mem), iter (ref06_clauses_L0 N x0) m s24 = some o21 ∧ HS w0 F0 w F1 [] ∧ Mem.le F0 F1 ∧ FI f [] [(0, (.slice a0_0 x0.length n0_0)), (3, (vi s24))]) N ⟨0, F0, ho22, hs0, (Mem.le.refl _), fI⟩ ?_
  rintro m37 f w25 ⟨s24, F1, hit38, hs26, le27, ⟨_, rfl⟩⟩
  obtain ⟨m39, fl40, rfl, hb41, hnx42⟩ := iter_step hit38
  refine Sq ?_
  refine Sq (Rg [0, 1, 2, 3] ?_)
  refine Vs 4 ?_
  refine Nt ?_
  refine Cd hb41 (fun hb43 h44 => ?_) (fun hb43 h45 => ?_)
  ·refine Sc ?_
   refine thenQ_nrm ?_
   refine Sq ?_
   refine Bk ?_
   refine Sq (Rg [0, 1, 2, 3, 4, 5] ?_)
   refine Vs 2 ?_
   obtain ⟨x46, hx47, h49⟩ := bind_some h44
   obtain ⟨hi48, hx47'⟩ := idx_spec hx47
   obtain ⟨b50, o51, C52, E53, fz54, rfl, hF56, hE57⟩ := SlA.open (SlA.mono hs0_0 le27) hx47'
   obtain ⟨ae58_2, ne58_2, ae58_5, ne58_5, hc59, hbe58_2, hse58_2, hbe58_5, hse58_5⟩ := hE57 _ _ hx47'
   refine Ix hi48 ?_
   refine Lx 0 (hs26.pers _ _ hF56) hc59 ?_
   obtain ⟨r60, hr61, h62⟩ := bind_some h49
   refine Cl' co_ref06_clause hs26 (c_ref06_clause N w25 F1 hs26.pers (x46) ae58_2 ne58_2 hbe58_2 hse58_2 ae58_5 ne58_5 hbe58_5 hse58_5 _ hr61) ?_
   rintro _ F3 w64 hs65 le66 rfl
   refine Vs 1 ?_
   refine Nt ?_
   refine Cd h62 (fun hb68 h69 => ?_) (fun hb68 h70 => ?_)
   ·refine Sq (Rg [0, 1] ?_)
    refine Vs 2 ?_
    refine Nt ?_
    refine Rt ?_
    refine blockQ_ret ?_
    refine thenQ_ret ?_
    refine thenQ_ret ?_
    refine blockQ_ret ?_
    have hret := iter_ret h69 hnx42
    subst hret
    refine .inr ?_
    refine thenQ_ret ?_
    obtain rfl := some_inj h23
    exact Re [(vi s24)] hs65 rfl
   ·refine Sc ?_
    refine blockQ_nrm ?_
    refine thenQ_nrm ?_
    refine Rg [0, 1, 2] ?_
    refine Vs 3 ?_
    refine RWP.nil ?_
    have hn71 := iter_next h70 hnx42
    exact ⟨m39, Nat.lt_succ_self _, (W64 (s24 + 1)), F3, hn71, hs65, (le27.trans le66), fI⟩
  ·refine Ex ?_
   refine thenQ_ex ?_
   refine thenQ_ex ?_
   refine blockQ_hit rfl ?_
   have ho72 := iter_done h45 hnx42
   exact .inl ⟨rfl, s24, F1, ho72, hs26, le27, fI⟩
 ·rintro f w32 ⟨s31, F2, rfl, hs33, le34, ⟨_, rfl⟩⟩
  have h73 := k_done h23
  refine thenQ_nrm ?_
  refine Sq (Rg [0, 1, 2] ?_)
  refine Vs 3 ?_
  refine Nt ?_
  refine Rt ?_
  obtain rfl := some_inj h73
  exact Re [(vi (x0.length : Int))] hs33 rfl
end Go.Proofs.YtaihlcdkcampbaaGreatDoor
namespace Go.Proofs.YtaihlcdkcampbaaGreatDoor
open Go.Proofs
end Go.Proofs.YtaihlcdkcampbaaGreatDoor
namespace Go.Proofs.YtaihlcdkcampbaaGreatDoor
open Go.Proofs
def ref06_first_L0 (N : Nat) (x0 : (List Clause)) (x1 : (List Int)) : Int → Option (Flow Int Int) := fun s24 =>
 (bif (decide (s24 < (x0.length : Int))) then ((idx x0 s24).bind fun x46 => ((ref06_value N x46.When x1).bind fun r60 => (bif (r60 == 1) then some (.ret s24) else some (.next (W64 (s24 + 1)))))) else some (.done s24))
def ref06_first (N : Nat) (x0 : (List Clause)) (x1 : (List Int)) : Option Int :=
 ((iter (ref06_first_L0 N x0 x1) N 0).bind fun o => o.k (fun r => some r) (fun s32 => some (-1)))
theorem co_ref06_first : CallOk Tryz.prog 105 := fun _ _ => by kernel_rfl
theorem c_ref06_first (N : Nat) (w0 : World) (F0 : Mem) (hF : ∀ b o, F0 b = some o → w0.heap[b]? = some o) (x0 : (List Clause)) (a0_0 : Option Addr) (n0_0 : Nat) (hb0_0 : LC x0.length n0_0) (hs0_0 : SlA tClause F0 a0_0 x0) (x1 : (List Int)) (a1_0 : Option Addr) (n1_0 : Nat) (hb1_0 : LC x1.length n1_0) (hs1_0 : SlA tInt F0 a1_0 x1) (r : Int) (h : ref06_first N x0 x1 = some r) :
  Calls Tryz.prog 105 ([(.slice a0_0 x0.length n0_0), (.slice a1_0 x1.length n1_0)] : List Value).toArray w0 (FRet w0 F0 fun F' v => v = (vi r)) := by
 have hs0 := HS.start hF
 refine Go 21 Tryz.func105 ?_
 refine Sq (Rg [0] ?_)
 refine Vs 1 ?_
 refine Nss ?_
 refine Sq (Rg [0] ?_)
 refine Vs 1 ?_
 refine Nt ?_
 obtain ⟨o21, ho22, h23⟩ := bind_some h
 refine CWP.cut (fun f w => ∃ (s32 : Int) (F2 : Mem), o21 = .done s32 ∧ HS w0 F0 w F2 [] ∧ Mem.le F0 F2 ∧ FI f [] []) ?_ ?_
 ·refine Bk ?_
  refine CWP.loop (by kernel_rfl) (fun m f w => ∃ (s24 : Int) (F1 : Mem), iter (ref06_first_L0 N x0 x1) m s24 = some o21 ∧ HS w0 F0 w F1 [] ∧ Mem.le F0 F1 ∧ FI f [] [(0, (.slice a0_0 x0.length n0_0)), (1, (.slice a1_0 x1.length n1_0)), (5, (vi s24))]) N ⟨0, F0, ho22, hs0, (Mem.le.refl _), fI⟩ ?_
  rintro m37 f w25 ⟨s24, F1, hit38, hs26, le27, ⟨_, rfl⟩⟩
  obtain ⟨m39, fl40, rfl, hb41, hnx42⟩ := iter_step hit38
  refine Sq ?_
  refine Sq (Rg [0, 1, 2, 3] ?_)
  refine Vs 4 ?_
  refine Nt ?_
  refine Cd hb41 (fun hb43 h44 => ?_) (fun hb43 h45 => ?_)
  ·refine Sc ?_
   refine thenQ_nrm ?_
   refine Sq ?_
   refine Bk ?_
   refine Sq (Rg [0, 1, 2, 3, 4, 5, 6, 7] ?_)
   refine Vs 2 ?_
   obtain ⟨x46, hx47, h49⟩ := bind_some h44
   obtain ⟨hi48, hx47'⟩ := idx_spec hx47
   obtain ⟨b50, o51, C52, E53, fz54, rfl, hF56, hE57⟩ := SlA.open (SlA.mono hs0_0 le27) hx47'
   obtain ⟨ae58_2, ne58_2, ae58_5, ne58_5, hc59, hbe58_2, hse58_2, hbe58_5, hse58_5⟩ := hE57 _ _ hx47'
   refine Ix hi48 ?_
   refine Vs 1 ?_
   refine Lx 0 (hs26.pers _ _ hF56) hc59 ?_
   refine Vs 1 ?_
   obtain ⟨r60, hr61, h62⟩ := bind_some h49
   refine Cl' co_ref06_value hs26 (c_ref06_value N w25 F1 hs26.pers (x46.When) ae58_2 ne58_2 hbe58_2 hse58_2 (x1) a1_0 n1_0 hb1_0 (SlA.mono hs1_0 le27) _ hr61) ?_
   rintro _ F3 w64 hs65 le66 rfl
   refine Vs 1 ?_
   refine Nt ?_
   refine Cd h62 (fun hb68 h69 => ?_) (fun hb68 h70 => ?_)
   ·refine Sq (Rg [0, 1] ?_)
    refine Vs 2 ?_
    refine Nt ?_
    refine Rt ?_
    refine blockQ_ret ?_
    refine thenQ_ret ?_
    refine thenQ_ret ?_
    refine blockQ_ret ?_
    have hret := iter_ret h69 hnx42
    subst hret
    refine .inr ?_
    refine thenQ_ret ?_
    obtain rfl := some_inj h23
    exact Re [(vi s24)] hs65 rfl
   ·refine Sc ?_
    refine blockQ_nrm ?_
    refine thenQ_nrm ?_
    refine Rg [0, 1, 2] ?_
    refine Vs 3 ?_
    refine RWP.nil ?_
    have hn71 := iter_next h70 hnx42
    exact ⟨m39, Nat.lt_succ_self _, (W64 (s24 + 1)), F3, hn71, hs65, (le27.trans le66), fI⟩
  ·refine Ex ?_
   refine thenQ_ex ?_
   refine thenQ_ex ?_
   refine blockQ_hit rfl ?_
   have ho72 := iter_done h45 hnx42
   exact .inl ⟨rfl, s24, F1, ho72, hs26, le27, fI⟩
 ·rintro f w33 ⟨s32, F2, rfl, hs34, le35, ⟨_, rfl⟩⟩
  have h73 := k_done h23
  refine thenQ_nrm ?_
  refine Sq (Rg [0] ?_)
  refine Vs 1 ?_
  refine Nt ?_
  refine Rt ?_
  obtain rfl := some_inj h73
  exact Re [(vi (-1))] hs34 rfl
end Go.Proofs.YtaihlcdkcampbaaGreatDoor
namespace Go.Proofs.YtaihlcdkcampbaaGreatDoor
open Go.Proofs
end Go.Proofs.YtaihlcdkcampbaaGreatDoor
namespace Go.Proofs.YtaihlcdkcampbaaGreatDoor
open Go.Proofs
end Go.Proofs.YtaihlcdkcampbaaGreatDoor
namespace Go.Proofs.YtaihlcdkcampbaaGreatDoor
open Go.Proofs
end Go.Proofs.YtaihlcdkcampbaaGreatDoor
namespace Go.Proofs.YtaihlcdkcampbaaGreatDoor
open Go.Proofs
end Go.Proofs.YtaihlcdkcampbaaGreatDoor
namespace Go.Proofs.YtaihlcdkcampbaaGreatDoor
open Go.Proofs
def law06_weight_L0 (N : Nat) (x0 : (List Clause)) : (Int × Int) → Option (Flow Int (Int × Int)) := fun s24 =>
 (bif (decide (s24.2 < (x0.length : Int))) then (((idx x0 s24.2).bind fun x59 => ((idx x0 s24.2).bind fun x73 => ((law06_nodes N x59.When).bind fun r79 => ((law06_nodes N x73.Then).bind fun r87 => some (W64 (s24.1 + (W64 (r79 + r87)))))))).bind fun j52 => some (.next (j52, (W64 (s24.2 + 1))))) else some (.done (s24.1, s24.2)))
def law06_weight (N : Nat) (x0 : (List Clause)) : Option Int :=
 ((iter (law06_weight_L0 N x0) N ((x0.length : Int), 0)).bind fun o => o.k (fun r => some r) (fun s32 => some s32.1))
theorem co_law06_weight : CallOk Tryz.prog 35 := fun _ _ => by kernel_rfl
theorem c_law06_weight (N : Nat) (w0 : World) (F0 : Mem) (hF : ∀ b o, F0 b = some o → w0.heap[b]? = some o) (x0 : (List Clause)) (a0_0 : Option Addr) (n0_0 : Nat) (hb0_0 : LC x0.length n0_0) (hs0_0 : SlA tClause F0 a0_0 x0) (r : Int) (h : law06_weight N x0 = some r) :
  Calls Tryz.prog 35 ([(.slice a0_0 x0.length n0_0)] : List Value).toArray w0 (FRet w0 F0 fun F' v => v = (vi r)) := by
 have hs0 := HS.start hF
 refine Go 29 Tryz.func35 ?_
 refine Sq (Rg [0] ?_)
 refine Vs 1 ?_
 refine Nss (Rg [0, 1, 2] ?_)
 refine Vs 3 ?_
 refine Nss ?_
 refine Sq (Rg [0] ?_)
 refine Vs 1 ?_
 refine Nt ?_
 obtain ⟨o21, ho22, h23⟩ := bind_some h
 refine CWP.cut (fun f w => ∃ (s32 : (Int × Int)) (F2 : Mem), o21 = .done s32 ∧ HS w0 F0 w F2 [] ∧ Mem.le F0 F2 ∧ FI f [] [(3, (vi s32.1))]) ?_ ?_
 ·refine Bk ?_
  refine CWP.loop (by kernel_rfl) (fun m f w => ∃ (s24 : (Int × Int)) (F1 : Mem), iter (law06_weight_L0 N x0) m s24 = some o21 ∧ HS w0 F0 w F1 [] ∧ Mem.le F0 F1 ∧ FI f [] [(0, (.slice a0_0 x0.length n0_0)), (3, (vi s24.1)), (4, (vi s24.2))]) N ⟨((x0.length : Int), 0), F0, ho22, hs0, (Mem.le.refl _), fI⟩ ?_
  rintro m38 f w25 ⟨s24, F1, hit39, hs26, le27, ⟨_, rfl⟩⟩
  obtain ⟨m40, fl41, rfl, hb42, hnx43⟩ := iter_step hit39
  refine Sq ?_
  refine Sq (Rg [0, 1, 2, 3] ?_)
  refine Vs 4 ?_
  refine Nt ?_
  refine Cd hb42 (fun hb44 h45 => ?_) (fun hb44 h46 => ?_)
  ·refine Sc ?_
   refine thenQ_nrm ?_
   refine Sq ?_
   refine Bk ?_
   obtain ⟨j52, hj57, h58⟩ := bind_some h45
   refine RD 16 16 [] [] hs26 (fun f w => ∃ (F3 : Mem), HS w0 F0 w F3 [] ∧ Mem.le F1 F3 ∧ FI f [] [(0, (.slice a0_0 x0.length n0_0)), (3, (vi j52)), (4, (vi s24.2))]) (fun wd47 hw48 => ?_) ?_
   ·refine Dv [0, 1, 2] ?_
    obtain ⟨x59, hx60, h62⟩ := bind_some hj57
    obtain ⟨hi61, hx60'⟩ := idx_spec hx60
    obtain ⟨b63, o64, C65, E66, fz67, rfl, hF69, hE70⟩ := SlA.open (SlA.mono hs0_0 le27) hx60'
    obtain ⟨ae71_2, ne71_2, ae71_5, ne71_5, hc72, hbe71_2, hse71_2, hbe71_5, hse71_5⟩ := hE70 _ _ hx60'
    refine Di 3 hi61 ?_
    refine Dv [4] ?_
    refine Dx 5 0 (fun _ hq => hq.1.1 _ _ hF69) hc72 ?_
    refine Dv [7, 8] ?_
    obtain ⟨x73, hx74, h76⟩ := bind_some h62
    obtain ⟨hi75, hx74'⟩ := idx_spec hx74
    obtain ⟨ae77_2, ne77_2, ae77_5, ne77_5, hc78, hbe77_2, hse77_2, hbe77_5, hse77_5⟩ := hE70 _ _ hx74'
    refine Di 9 hi75 ?_
    refine Dv [10] ?_
    refine Dx 11 3 (fun _ hq => hq.1.1 _ _ hF69) hc78 ?_
    refine D1 6 ?_
    obtain ⟨r79, hr80, h81⟩ := bind_some h76
    refine DCl co_law06_nodes hw48 (c_law06_nodes N wd47 F1 hw48.pers (x59.When) ae71_2 ne71_2 hbe71_2 hse71_2 _ hr80) ?_
    rintro _ F4 w83 hs84 le85 rfl
    refine D1 12 ?_
    obtain ⟨r87, hr88, h89⟩ := bind_some h81
    refine DCl co_law06_nodes hs84 (c_law06_nodes N w83 F4 hs84.pers (x73.Then) ae77_5 ne77_5 hbe77_5 (SlA.mono hse77_5 le85) _ hr88) ?_
    rintro _ F5 w91 hs92 le93 rfl
    refine Dv [13, 14, 15] ?_
    obtain rfl := some_inj h89
    exact DWP.done (by kernel_rfl) ⟨F5, hs92, (le85.trans le93), fI⟩
   ·rintro f w49 ⟨F3, hs50, le51, ⟨_, rfl⟩⟩
    refine blockQ_nrm ?_
    refine thenQ_nrm ?_
    refine Rg [0, 1, 2] ?_
    refine Vs 3 ?_
    refine RWP.nil ?_
    have hn95 := iter_next h58 hnx43
    exact ⟨m40, Nat.lt_succ_self _, (j52, (W64 (s24.2 + 1))), F3, hn95, hs50, (le27.trans le51), fI⟩
  ·refine Ex ?_
   refine thenQ_ex ?_
   refine thenQ_ex ?_
   refine blockQ_hit rfl ?_
   have ho96 := iter_done h46 hnx43
   exact .inl ⟨rfl, (s24.1, s24.2), F1, ho96, hs26, le27, fI⟩
 ·rintro f w33 ⟨s32, F2, rfl, hs34, le35, ⟨_, rfl⟩⟩
  have h97 := k_done h23
  refine thenQ_nrm ?_
  refine Sq (Rg [0, 1] ?_)
  refine Vs 2 ?_
  refine Nt ?_
  refine Rt ?_
  obtain rfl := some_inj h97
  exact Re [(vi s32.1)] hs34 rfl
end Go.Proofs.YtaihlcdkcampbaaGreatDoor
namespace Go.Proofs.YtaihlcdkcampbaaGreatDoor
open Go.Proofs
def law06_light_L0 (N : Nat) (x0 : Book) (j29 : (Int)) : (Int × Int) → Option (Flow Bool (Int × Int)) := fun s62 =>
 (bif (decide (s62.2 < (x0.Repeats.length : Int))) then ((idx x0.Repeats s62.2).bind fun x85 => ((law06_nodes N x85).bind fun r99 => some (.next ((W64 (s62.1 + r99)), (W64 (s62.2 + 1)))))) else some (.done (s62.1, s62.2)))
def law06_light (N : Nat) (x0 : Book) : Option Bool :=
 (((law06_weight N x0.Points).bind fun r35 => ((law06_weight N x0.Multipliers).bind fun r43 => ((law06_weight N x0.Penalties).bind fun r51 => some (W64 ((W64 (r35 + r43)) + r51))))).bind fun j29 => ((iter (law06_light_L0 N x0 j29) N (j29, 0)).bind fun o => o.k (fun r => some r) (fun s70 => some (decide (s70.1 ≤ 2000)))))
theorem co_law06_light : CallOk Tryz.prog 40 := fun _ _ => by kernel_rfl
theorem c_law06_light (N : Nat) (w0 : World) (F0 : Mem) (hF : ∀ b o, F0 b = some o → w0.heap[b]? = some o) (x0 : Book) (a0_0 : Option Addr) (n0_0 : Nat) (hb0_0 : LC x0.Points.length n0_0) (hs0_0 : SlA tClause F0 a0_0 x0.Points) (a0_1 : Option Addr) (n0_1 : Nat) (hb0_1 : LC x0.Multipliers.length n0_1) (hs0_1 : SlA tClause F0 a0_1 x0.Multipliers) (a0_2 : Option Addr) (n0_2 : Nat) (hb0_2 : LC x0.Penalties.length n0_2) (hs0_2 : SlA tClause F0 a0_2 x0.Penalties) (a0_3 : Option Addr) (n0_3 : Nat) (hb0_3 : LC x0.Repeats.length n0_3) (hs0_3 : SlA tExpr F0 a0_3 x0.Repeats) (r : Bool) (h : law06_light N x0 = some r) :
  Calls Tryz.prog 40 ([(.agg (kBook x0 a0_0 n0_0 a0_1 n0_1 a0_2 n0_2 a0_3 n0_3))] : List Value).toArray w0 (FRet w0 F0 fun F' v => v = (.bool r)) := by
 have hs0 := HS.start hF
 refine Go 33 Tryz.func40 ?_
 refine Sq (Rg [0, 1] ?_)
 refine Bx' 26 (kBook x0 a0_0 n0_0 a0_1 n0_1 a0_2 n0_2 a0_3 n0_3) hs0 (fun b21 w22 hs23 => ?_)
 refine Vs 1 ?_
 refine Nss ?_
 obtain ⟨j29, hj33, h34⟩ := bind_some h
 refine RD 12 12 [(sb b21 (kBook x0 a0_0 n0_0 a0_1 n0_1 a0_2 n0_2 a0_3 n0_3) 26)] [] hs23 (fun f w => ∃ (F1 : Mem), HS w0 F0 w F1 [(sb b21 (kBook x0 a0_0 n0_0 a0_1 n0_1 a0_2 n0_2 a0_3 n0_3) 26)] ∧ Mem.le F0 F1 ∧ FI f [] [(1, (pt b21 0)), (3, (vi j29))]) (fun wd24 hw25 => ?_) ?_
 ·refine Dv [0] ?_
  refine Dl 1 (fun _ hq => (hq.1.2 0 _ _ rfl)) ?_
  refine Dv [3] ?_
  refine Dl 4 (fun _ hq => (hq.1.2 0 _ _ rfl)) ?_
  refine Dv [7] ?_
  refine Dl 8 (fun _ hq => (hq.1.2 0 _ _ rfl)) ?_
  refine D1 2 ?_
  obtain ⟨r35, hr36, h37⟩ := bind_some hj33
  refine DCl co_law06_weight hw25 (c_law06_weight N wd24 F0 hw25.pers (x0.Points) a0_0 n0_0 hb0_0 hs0_0 _ hr36) ?_
  rintro _ F2 w39 hs40 le41 rfl
  refine D1 5 ?_
  obtain ⟨r43, hr44, h45⟩ := bind_some h37
  refine DCl co_law06_weight hs40 (c_law06_weight N w39 F2 hs40.pers (x0.Multipliers) a0_1 n0_1 hb0_1 (SlA.mono hs0_1 le41) _ hr44) ?_
  rintro _ F3 w47 hs48 le49 rfl
  refine Dv [6] ?_
  refine D1 9 ?_
  obtain ⟨r51, hr52, h53⟩ := bind_some h45
  refine DCl co_law06_weight hs48 (c_law06_weight N w47 F3 hs48.pers (x0.Penalties) a0_2 n0_2 hb0_2 (SlA.mono hs0_2 (le41.trans le49)) _ hr52) ?_
  rintro _ F4 w55 hs56 le57 rfl
  refine Dv [10, 11] ?_
  obtain rfl := some_inj h53
  exact DWP.done (by kernel_rfl) ⟨F4, hs56, ((le41.trans le49).trans le57), fI⟩
 ·rintro f w26 ⟨F1, hs27, le28, ⟨_, rfl⟩⟩
  refine thenQ_nrm ?_
  refine Sq ?_
  refine Sq (Rg [0] ?_)
  refine Vs 1 ?_
  refine Nt ?_
  obtain ⟨o59, ho60, h61⟩ := bind_some h34
  refine CWP.cut (fun f w => ∃ (s70 : (Int × Int)) (F6 : Mem), o59 = .done s70 ∧ HS w0 F0 w F6 [] ∧ Mem.le F1 F6 ∧ FI f [] [(3, (vi s70.1))]) ?_ ?_
  ·refine Bk ?_
   refine CWP.loop (by kernel_rfl) (fun m f w => ∃ (s62 : (Int × Int)) (F5 : Mem), iter (law06_light_L0 N x0 j29) m s62 = some o59 ∧ HS w0 F0 w F5 [(sb b21 (kBook x0 a0_0 n0_0 a0_1 n0_1 a0_2 n0_2 a0_3 n0_3) 26)] ∧ Mem.le F1 F5 ∧ FI f [] [(1, (pt b21 0)), (3, (vi s62.1)), (4, (vi s62.2))]) N ⟨(j29, 0), F1, ho60, hs27, (Mem.le.refl _), fI⟩ ?_
   rintro m76 f w63 ⟨s62, F5, hit77, hs64, le65, ⟨_, rfl⟩⟩
   obtain ⟨m78, fl79, rfl, hb80, hnx81⟩ := iter_step hit77
   refine Sq ?_
   refine Sq (Rg [0, 1, 2, 3, 4] ?_)
   refine Vs 2 ?_
   refine Ld hs64.at0 ?_
   refine Vs 2 ?_
   refine Nt ?_
   refine Cd hb80 (fun hb82 h83 => ?_) (fun hb82 h84 => ?_)
   ·refine Sc ?_
    refine thenQ_nrm ?_
    refine Sq ?_
    refine Bk ?_
    refine Rg [0, 1, 2, 3, 4, 5, 6, 7, 8] ?_
    refine Vs 2 ?_
    refine Ld hs64.at0 ?_
    refine Vs 1 ?_
    obtain ⟨x85, hx86, h88⟩ := bind_some h83
    obtain ⟨hi87, hx86'⟩ := idx_spec hx86
    obtain ⟨b89, o90, C91, E92, fz93, rfl, hF95, hE96⟩ := SlA.open (SlA.mono hs0_3 (le28.trans le65)) hx86'
    obtain ⟨ae97_2, ne97_2, hc98, hbe97_2, hse97_2⟩ := (tExpr_open (hE96 _ _ hx86'))
    refine Ix hi87 ?_
    refine Lx 0 (hs64.pers _ _ hF95) hc98 ?_
    obtain ⟨r99, hr100, h101⟩ := bind_some h88
    refine Cl' co_law06_nodes hs64 (c_law06_nodes N w63 F5 hs64.pers (x85) ae97_2 ne97_2 hbe97_2 hse97_2 _ hr100) ?_
    rintro _ F7 w103 hs104 le105 rfl
    refine Vs 2 ?_
    refine RWP.nil ?_
    refine blockQ_nrm ?_
    refine thenQ_nrm ?_
    refine Rg [0, 1, 2] ?_
    refine Vs 3 ?_
    refine RWP.nil ?_
    have hn107 := iter_next h101 hnx81
    exact ⟨m78, Nat.lt_succ_self _, ((W64 (s62.1 + r99)), (W64 (s62.2 + 1))), F7, hn107, hs104, (le65.trans le105), fI⟩
   ·refine Ex ?_
    refine thenQ_ex ?_
    refine thenQ_ex ?_
    refine blockQ_hit rfl ?_
    have ho108 := iter_done h84 hnx81
    exact .inl ⟨rfl, (s62.1, s62.2), F5, ho108, hs64.dr0, le65, fI⟩
  ·rintro f w71 ⟨s70, F6, rfl, hs72, le73, ⟨_, rfl⟩⟩
   have h109 := k_done h61
   refine thenQ_nrm ?_
   refine Sq (Rg [0, 1, 2] ?_)
   refine Vs 3 ?_
   refine Nt ?_
   refine Rt ?_
   obtain rfl := some_inj h109
   exact Re [(.bool (decide (s70.1 ≤ 2000)))] hs72 rfl
end Go.Proofs.YtaihlcdkcampbaaGreatDoor
namespace Go.Proofs.YtaihlcdkcampbaaGreatDoor
open Go.Proofs
def slices_Grow_api_Clause_api_Clause (N : Nat) (x1 : Int) : Option (List Clause) :=
 (bif (decide (x1 < 0)) then none else (bif (decide ((W64 (x1 - (W64 (0 - (([] : List Clause).length : Int))))) > 0)) then ((mk0 ({ When := ({ Op := 0, Value := 0, Kids := ([] : List Expr) } : Expr), Then := ({ Op := 0, Value := 0, Kids := ([] : List Expr) } : Expr) } : Clause) (W64 (x1 - (W64 (0 - (([] : List Clause).length : Int)))))).bind fun r7 => ((sub r7 0 (([] : List Clause).length : Int)).bind fun r17 => some r17)) else some ([] : List Clause)))
theorem co_slices_Grow_api_Clause_api_Clause : CallOk Tryz.prog 173 := fun _ _ => by kernel_rfl
theorem c_slices_Grow_api_Clause_api_Clause (N : Nat) (w0 : World) (F0 : Mem) (hF : ∀ b o, F0 b = some o → w0.heap[b]? = some o) (x1 : Int) (r : (List Clause)) (h : slices_Grow_api_Clause_api_Clause N x1 = some r) :
  Calls Tryz.prog 173 ([.slice none 0 0, (vi x1)] : List Value).toArray w0 (FRetO w0 F0 fun F' v L' => ∃ (a : Option Addr) (n : Nat) (e : Option Nat × Obj), v = .slice a r.length n ∧ L' = [e] ∧ RowR tClause 56 F' a n r e) := by
 have hs0 := HS.start hF
 refine calls_of (n := 27) (c := bodyOf Tryz.f173) Tryz.func173 (by kernel_rfl) (by kernel_rfl) (by kernel_rfl) ?_
 refine Sq (Rg [0] ?_)
 refine Vs 1 ?_
 refine Nss ?_
 refine Sq (Rg [0, 1] ?_)
 refine Vs 1 ?_
 refine Vs 1 ?_
 refine Nt ?_
 refine Cd h (fun hb1 h2 => ?_) (fun hb1 h3 => ?_)
 ·refine Rg [0, 1] ?_
  refine V 7 20 (run_mkIface' (t := 9) (x := (.const (.string ⟨([99, 97, 110, 110, 111, 116, 32, 98, 101, 32, 110, 101, 103, 97, 116, 105, 118, 101] : List UInt8).toArray⟩))) (v := (.string ⟨(([99, 97, 110, 110, 111, 116, 32, 98, 101, 32, 110, 101, 103, 97, 116, 105, 118, 101] : List UInt8)).toArray⟩)) rfl (by kernel_rfl)) ?_
  cases h2
 ·refine Sc ?_
  refine thenQ_nrm ?_
  refine Sq ?_
  refine Sq (Rg [0, 1, 2, 3, 4, 5, 6, 7] ?_)
  refine Vs 1 ?_
  refine Vs 1 ?_
  refine V 10 3 (run_cap_slice (x := (.tmp 9)) (ats := #[23]) (a := none) (n := 0) (c := 0) (E := 56) (s := 6) (by_ := 80) rfl rfl (by kernel_rfl)) ?_
  refine Vs 1 ?_
  refine Vs 1 ?_
  refine Vs 1 ?_
  refine Vs 1 ?_
  refine Vs 1 ?_
  refine Nss (Rg [0, 1] ?_)
  refine Vs 1 ?_
  refine Vs 1 ?_
  refine Nt ?_
  refine Cd h3 (fun hb4 h5 => ?_) (fun hb4 h6 => ?_)
  ·refine Rg [0, 1, 2, 3, 4, 5, 6, 7, 8, 9] ?_
   refine Vs 1 ?_
   refine Vs 1 ?_
   refine V 19 3 (run_cap_slice (x := (.tmp 18)) (ats := #[23]) (a := none) (n := 0) (c := 0) (E := 56) (s := 6) (by_ := 80) rfl rfl (by kernel_rfl)) ?_
   refine V 20 23 (run_slice_nil (t := 23) (x := (.tmp 17)) (y := (.tmp 19)) (E := 56) (s := 6) (by_ := 80) rfl (by kernel_rfl) (by kernel_rfl) rfl) ?_
   refine Vs 1 ?_
   obtain ⟨r7, hm8, h9⟩ := bind_some h5
   refine RWP.appendNil (dst := (some 22)) (ty := 23) (g := none) (by kernel_rfl) rfl (x := (.tmp 20)) (y := (.tmp 21)) (t := 23) (t2 := 3) (by_ := 80) (z := (.agg #[(vi 0), (vi 0), (.slice none ([] : List Expr).length 0), (vi 0), (vi 0), (.slice none ([] : List Expr).length 0)])) (T := tClause) (E := 56) rfl rfl (by kernel_rfl) (by decide) (by kernel_rfl) (by kernel_rfl) (z0 := ({ When := ({ Op := 0, Value := 0, Kids := ([] : List Expr) } : Expr), Then := ({ Op := 0, Value := 0, Kids := ([] : List Expr) } : Expr) } : Clause)) (fun _ => ⟨none, 0, none, 0, rfl, LC.nil, (.inl rfl), LC.nil, (.inl rfl)⟩) (by decide) hs0 hm8 (fun a10 n11 e12 w13 (hs14 : HS w0 F0 w13 F0 [e12]) hr15 => ?_)
   refine Vs 1 ?_
   refine Vs 1 ?_
   obtain ⟨r17, hr18, h19⟩ := bind_some h9
   refine RWP.sliceRow (T := tClause) (x := (.tmp 22)) (y := (.tmp 24)) (t := 23) (E := 56) (by_ := 80) (c := n11) (a := a10) (l := r7) (r := r17) (ih := (([] : List Clause).length : Int)) (dst := (some 25)) (ty := 23) (g := none) (by kernel_rfl) rfl rfl (by kernel_rfl) (by kernel_rfl) hr15 rfl hr18 (fun hr20 => ?_)
   refine Vs 1 ?_
   refine Nss (Rg [0, 1] ?_)
   refine Vs 1 ?_
   refine Vs 1 ?_
   refine Nt ?_
   refine Rt ?_
   have hfin := some_inj h19
   subst hfin
   exact ⟨rfl, (.slice a10 r17.length n11), res_of (l := [.tmp 4]) (by kernel_rfl) (vs := [(.slice a10 r17.length n11)]) ⟨rfl, trivial⟩, (.slice a10 r17.length n11), F0, _, rfl, hs14, _, _, _, rfl, rfl, hr20⟩
  ·refine Sc ?_
   refine thenQ_nrm ?_
   refine Sq (Rg [0, 1] ?_)
   refine Vs 1 ?_
   refine Vs 1 ?_
   refine Nt ?_
   refine Rt ?_
   have hs21 := hs0.dummy (oc #[] 0)
   have hfin := some_inj h6
   subst hfin
   exact ⟨rfl, (.slice none ([] : List Clause).length 0), res_of (l := [.tmp 4]) (by kernel_rfl) (vs := [(.slice none ([] : List Clause).length 0)]) ⟨rfl, trivial⟩, (.slice none ([] : List Clause).length 0), F0, _, rfl, hs21, _, _, _, rfl, rfl, (RowR.nil tClause 56 F0 _)⟩
end Go.Proofs.YtaihlcdkcampbaaGreatDoor
namespace Go.Proofs.YtaihlcdkcampbaaGreatDoor
open Go.Proofs
def slices_Concat_api_Clause_api_Clause_L0 (N : Nat) (x0 : (List (List Clause))) : (Int × Int) → Option (Flow (List Clause) (Int × Int)) := fun s24 =>
 (bif (decide (s24.2 < (x0.length : Int))) then ((idx x0 s24.2).bind fun x50 => (bif (decide ((W64 (s24.1 + (x50.length : Int))) < 0)) then none else some (.next ((W64 (s24.1 + (x50.length : Int))), (W64 (s24.2 + 1)))))) else some (.done (s24.1, s24.2)))
def slices_Concat_api_Clause_api_Clause_L1 (N : Nat) (x0 : (List (List Clause))) (s34 : (Int × Int)) (r70 : (List Clause)) : (List Clause × Int) → Option (Flow (List Clause) (List Clause × Int)) := fun s87 =>
 (bif (decide (s87.2 < (x0.length : Int))) then ((idx x0 s87.2).bind fun x111 => ((apnd s87.1 x111).bind fun r125 => some (.next (r125, (W64 (s87.2 + 1)))))) else some (.done (s87.1, s87.2)))
def slices_Concat_api_Clause_api_Clause (N : Nat) (x0 : (List (List Clause))) : Option (List Clause) :=
 ((iter (slices_Concat_api_Clause_api_Clause_L0 N x0) N (0, 0)).bind fun o => o.k (fun r => some r) (fun s34 => ((slices_Grow_api_Clause_api_Clause N s34.1).bind fun r70 => ((iter (slices_Concat_api_Clause_api_Clause_L1 N x0 s34 r70) N (r70, 0)).bind fun o => o.k (fun r => some r) (fun s96 => some s96.1)))))
theorem co_slices_Concat_api_Clause_api_Clause : CallOk Tryz.prog 122 := fun _ _ => by kernel_rfl
theorem c_slices_Concat_api_Clause_api_Clause (N : Nat) (w0 : World) (F0 : Mem) (hF : ∀ b o, F0 b = some o → w0.heap[b]? = some o) (x0 : (List (List Clause))) (a0_0 : Option Addr) (n0_0 : Nat) (hb0_0 : LC x0.length n0_0) (hs0_0 : SlA (tSl tClause) F0 a0_0 x0) (r : (List Clause)) (h : slices_Concat_api_Clause_api_Clause N x0 = some r) :
  Calls Tryz.prog 122 ([(.slice a0_0 x0.length n0_0)] : List Value).toArray w0 (FRet w0 F0 fun F' v => ∃ (aq0_0 : Option Addr) (nq0_0 : Nat), v = (.slice aq0_0 r.length nq0_0) ∧ LC r.length nq0_0 ∧ SlA tClause F' aq0_0 r) := by
 have hs0 := HS.start hF
 refine Go 36 Tryz.func122 ?_
 refine Sq (Rg [0] ?_)
 refine Vs 1 ?_
 refine Nss (Rg [0] ?_)
 refine Vs 1 ?_
 refine Nss ?_
 refine Sq (Rg [0, 1, 2] ?_)
 refine Vs 3 ?_
 refine Nt ?_
 obtain ⟨o21, ho22, h23⟩ := bind_some h
 refine CWP.cut (fun f w => ∃ (s34 : (Int × Int)) (F2 : Mem), o21 = .done s34 ∧ HS w0 F0 w F2 [] ∧ Mem.le F0 F2 ∧ FI f [] [(0, (.slice a0_0 x0.length n0_0)), (3, (vi s34.1))]) ?_ ?_
 ·refine Bk ?_
  refine CWP.loop (by kernel_rfl) (fun m f w => ∃ (s24 : (Int × Int)) (F1 : Mem), iter (slices_Concat_api_Clause_api_Clause_L0 N x0) m s24 = some o21 ∧ HS w0 F0 w F1 [] ∧ Mem.le F0 F1 ∧ FI f [] [(0, (.slice a0_0 x0.length n0_0)), (3, (vi s24.1)), (9, (.slice a0_0 x0.length n0_0)), (10, (vi (x0.length : Int))), (11, (vi s24.2))]) N ⟨(0, 0), F0, ho22, hs0, (Mem.le.refl _), fI⟩ ?_
  rintro m41 f w25 ⟨s24, F1, hit42, hs26, le27, ⟨_, rfl⟩⟩
  obtain ⟨m43, fl44, rfl, hb45, hnx46⟩ := iter_step hit42
  refine Sq (Rg [0] ?_)
  refine Vs 1 ?_
  refine Nss ?_
  refine Cd hb45 (fun hb47 h48 => ?_) (fun hb47 h49 => ?_)
  ·refine Sc ?_
   refine thenQ_nrm ?_
   refine Sq ?_
   refine Bk ?_
   refine Sq (Rg [0, 1, 2] ?_)
   obtain ⟨x50, hx51, h53⟩ := bind_some h48
   obtain ⟨hi52, hx51'⟩ := idx_spec hx51
   obtain ⟨b54, o55, C56, E57, fz58, rfl, hF60, hE61⟩ := SlA.open (SlA.mono hs0_0 le27) hx51'
   obtain ⟨ae62_0, ne62_0, hc63, hbe62_0, hse62_0⟩ := hE61 _ _ hx51'
   refine Ix hi52 ?_
   refine Lx 0 (hs26.pers _ _ hF60) hc63 ?_
   refine Vs 1 ?_
   refine Nss (Rg [0, 1, 2, 3, 4] ?_)
   refine Vs 5 ?_
   refine Nss (Rg [0, 1] ?_)
   refine Vs 2 ?_
   refine Nt ?_
   refine Cd h53 (fun hb64 h65 => ?_) (fun hb64 h66 => ?_)
   ·refine Rg [0, 1] ?_
    refine V 21 20 (run_mkIface' (t := 9) (x := (.const (.string ⟨([108, 101, 110, 32, 111, 117, 116, 32, 111, 102, 32, 114, 97, 110, 103, 101] : List UInt8).toArray⟩))) (v := (.string ⟨(([108, 101, 110, 32, 111, 117, 116, 32, 111, 102, 32, 114, 97, 110, 103, 101] : List UInt8)).toArray⟩)) rfl (by kernel_rfl)) ?_
    cases h65
   ·refine Sc ?_
    refine blockQ_nrm ?_
    refine thenQ_nrm ?_
    refine Rg [0, 1] ?_
    refine Vs 2 ?_
    refine RWP.nil ?_
    have hn67 := iter_next h66 hnx46
    exact ⟨m43, Nat.lt_succ_self _, ((W64 (s24.1 + (x50.length : Int))), (W64 (s24.2 + 1))), F1, hn67, hs26, le27, fI⟩
  ·refine Ex ?_
   refine thenQ_ex ?_
   refine thenQ_ex ?_
   refine blockQ_hit rfl ?_
   have ho68 := iter_done h49 hnx46
   exact .inl ⟨rfl, (s24.1, s24.2), F1, ho68, hs26, le27, fI⟩
 ·rintro f w35 ⟨s34, F2, rfl, hs36, le37, ⟨_, rfl⟩⟩
  have h69 := k_done h23
  refine thenQ_nrm ?_
  refine Sq (Rg [0, 1, 2] ?_)
  refine Vs 1 ?_
  obtain ⟨r70, hr71, h72⟩ := bind_some h69
  refine RWP.callO (dst := (some 24)) (ty := 23) (g := none) (by kernel_rfl) rfl (f0 := (.func 173)) (aos := #[(.const (.slice none 0 0)), (.tmp 23)]) (ats := #[23, 3]) (fid := 173) (first := #[]) (cap := #[]) (args := [(.slice none ([] : List Clause).length 0), (vi s34.1)]) rfl co_slices_Grow_api_Clause_api_Clause (rfl) hs36 (c_slices_Grow_api_Clause_api_Clause N w35 F2 hs36.pers (s34.1) _ hr71) ?_
  rintro _ F3 w74 _ hs75 le76 ⟨a78, n79, e80, rfl, rfl, hr81⟩
  have hs83 : HS w0 F0 w74 F3 [e80] := hs75
  refine Vs 1 ?_
  refine Nss ?_
  refine Sq (Rg [0, 1, 2] ?_)
  refine Vs 3 ?_
  refine Nt ?_
  obtain ⟨o84, ho85, h86⟩ := bind_some h72
  refine CWP.cut (fun f w => ∃ (s96 : (List Clause × Int)) (F5 : Mem) (as96_0 : Option Addr) (ns96_0 : Nat) (es96_0 : Option Nat × Obj), o84 = .done s96 ∧ HS w0 F0 w F5 [es96_0] ∧ Mem.le F3 F5 ∧ FI f [] [(6, (.slice as96_0 s96.1.length ns96_0))] ∧ RowR tClause 56 F5 as96_0 ns96_0 s96.1 es96_0) ?_ ?_
  ·refine Bk ?_
   refine CWP.loop (by kernel_rfl) (fun m f w => ∃ (s87 : (List Clause × Int)) (F4 : Mem) (as87_0 : Option Addr) (ns87_0 : Nat) (es87_0 : Option Nat × Obj), iter (slices_Concat_api_Clause_api_Clause_L1 N x0 s34 r70) m s87 = some o84 ∧ HS w0 F0 w F4 [es87_0] ∧ Mem.le F3 F4 ∧ FI f [] [(6, (.slice as87_0 s87.1.length ns87_0)), (25, (.slice a0_0 x0.length n0_0)), (26, (vi (x0.length : Int))), (27, (vi s87.2))] ∧ RowR tClause 56 F4 as87_0 ns87_0 s87.1 es87_0) N ⟨(r70, 0), F3, a78, n79, e80, ho85, hs83, (Mem.le.refl _), fI, hr81⟩ ?_
   rintro m102 f w88 ⟨s87, F4, as87_0, ns87_0, es87_0, hit103, hs89, le90, ⟨_, rfl⟩, hrs87_0⟩
   obtain ⟨m104, fl105, rfl, hb106, hnx107⟩ := iter_step hit103
   refine Sq (Rg [0] ?_)
   refine Vs 1 ?_
   refine Nss ?_
   refine Cd hb106 (fun hb108 h109 => ?_) (fun hb108 h110 => ?_)
   ·refine Sc ?_
    refine thenQ_nrm ?_
    refine Sq ?_
    refine Bk ?_
    refine Sq (Rg [0, 1, 2] ?_)
    obtain ⟨x111, hx112, h114⟩ := bind_some h109
    obtain ⟨hi113, hx112'⟩ := idx_spec hx112
    obtain ⟨b115, o116, C117, E118, fz119, rfl, hF121, hE122⟩ := SlA.open (SlA.mono hs0_0 ((le37.trans le76).trans le90)) hx112'
    obtain ⟨ae123_0, ne123_0, hc124, hbe123_0, hse123_0⟩ := hE122 _ _ hx112'
    refine Ix hi113 ?_
    refine Lx 0 (hs89.pers _ _ hF121) hc124 ?_
    refine Vs 1 ?_
    refine Nt ?_
    refine Rg [0, 1, 2, 3] ?_
    refine Vs 2 ?_
    obtain ⟨r125, hap126, h127⟩ := bind_some h114
    refine Ap0 oClause hs89 hrs87_0 (SlA.rd hs89 hse123_0) hap126 (fun a128 n129 e130 w131 hs132 hr133 => ?_)
    refine Vs 1 ?_
    refine RWP.nil ?_
    refine blockQ_nrm ?_
    refine thenQ_nrm ?_
    refine Rg [0, 1] ?_
    refine Vs 2 ?_
    refine RWP.nil ?_
    have hn134 := iter_next h127 hnx107
    exact ⟨m104, Nat.lt_succ_self _, (r125, (W64 (s87.2 + 1))), F4, a128, n129, e130, hn134, hs132, le90, fI, hr133⟩
   ·refine Ex ?_
    refine thenQ_ex ?_
    refine thenQ_ex ?_
    refine blockQ_hit rfl ?_
    have ho135 := iter_done h110 hnx107
    exact .inl ⟨rfl, (s87.1, s87.2), F4, as87_0, ns87_0, es87_0, ho135, hs89, le90, fI, hrs87_0⟩
  ·rintro f w97 ⟨s96, F5, as96_0, ns96_0, es96_0, rfl, hs98, le99, ⟨_, rfl⟩, hrs96_0⟩
   have h136 := k_done h86
   refine thenQ_nrm ?_
   refine Sq (Rg [0, 1] ?_)
   refine Vs 2 ?_
   refine Nt ?_
   refine Rt ?_
   have hb140 := RowR.bound hrs96_0
   obtain ⟨F6, hs137, le138, hs139⟩ := hs98.fr0 hrs96_0
   obtain rfl := some_inj h136
   exact Re [(.slice as96_0 s96.1.length ns96_0)] hs137 ⟨as96_0, ns96_0, rfl, hb140, hs139⟩
end Go.Proofs.YtaihlcdkcampbaaGreatDoor
namespace Go.Proofs.YtaihlcdkcampbaaGreatDoor
open Go.Proofs
def rules_Check_L0 (N : Nat) (x0 : Book) (r36 : (List Clause)) : (Int × Int) → Option (Flow (Int × Int) (Int × Int)) := fun s47 =>
 (bif (decide (s47.2 < (r36.length : Int))) then ((idx r36 s47.2).bind fun x73 => ((rules_soundClause N x73).bind fun r92 => (bif (!r92) then some (.ret (62, (W64 (s47.1 + 1)))) else some (.next ((W64 (s47.1 + 1)), (W64 (s47.2 + 1))))))) else some (.done (s47.1, s47.2)))
def rules_Check_L1 (N : Nat) (x0 : Book) (r36 : (List Clause)) (s57 : (Int × Int)) : (Int × Int) → Option (Flow (Int × Int) (Int × Int)) := fun s109 =>
 (bif (decide (s109.2 < (x0.Repeats.length : Int))) then ((idx x0.Repeats s109.2).bind fun x132 => ((rules_is N x132 1).bind fun r151 => (bif (!r151) then some (.ret (62, (W64 (s109.1 + 1)))) else some (.next ((W64 (s109.1 + 1)), (W64 (s109.2 + 1))))))) else some (.done (s109.1, s109.2)))
def rules_Check (N : Nat) (x0 : Book) : Option (Int × Int) :=
 (bif (decide ((max (max (max (x0.Points.length : Int) (x0.Multipliers.length : Int)) (x0.Penalties.length : Int)) (x0.Repeats.length : Int)) > 64)) then some (2, 0) else ((slices_Concat_api_Clause_api_Clause N ([x0.Points, x0.Multipliers, x0.Penalties])).bind fun r36 => ((iter (rules_Check_L0 N x0 r36) N (0, 0)).bind fun o => o.k (fun r => some r) (fun s57 => ((iter (rules_Check_L1 N x0 r36 s57) N (s57.1, 0)).bind fun o => o.k (fun r => some r) (fun s118 => some (0, 0)))))))
theorem co_rules_Check : CallOk Tryz.prog 70 := fun _ _ => by kernel_rfl
theorem c_rules_Check (N : Nat) (w0 : World) (F0 : Mem) (hF : ∀ b o, F0 b = some o → w0.heap[b]? = some o) (x0 : Book) (a0_0 : Option Addr) (n0_0 : Nat) (hb0_0 : LC x0.Points.length n0_0) (hs0_0 : SlA tClause F0 a0_0 x0.Points) (a0_1 : Option Addr) (n0_1 : Nat) (hb0_1 : LC x0.Multipliers.length n0_1) (hs0_1 : SlA tClause F0 a0_1 x0.Multipliers) (a0_2 : Option Addr) (n0_2 : Nat) (hb0_2 : LC x0.Penalties.length n0_2) (hs0_2 : SlA tClause F0 a0_2 x0.Penalties) (a0_3 : Option Addr) (n0_3 : Nat) (hb0_3 : LC x0.Repeats.length n0_3) (hs0_3 : SlA tExpr F0 a0_3 x0.Repeats) (r : (Int × Int)) (h : rules_Check N x0 = some r) :
  Calls Tryz.prog 70 ([(.agg (kBook x0 a0_0 n0_0 a0_1 n0_1 a0_2 n0_2 a0_3 n0_3))] : List Value).toArray w0 (FRet w0 F0 fun F' v => v = (.tuple #[(vi r.1), (vi r.2)])) := by
 have hs0 := HS.start hF
 refine Go 57 Tryz.func70 ?_
 refine Sq (Rg [0, 1, 2] ?_)
 refine Bx' 26 (kBook x0 a0_0 n0_0 a0_1 n0_1 a0_2 n0_2 a0_3 n0_3) hs0 (fun b21 w22 hs23 => ?_)
 refine Vs 2 ?_
 refine Nss ?_
 refine Sq (Rg [0, 1, 2, 3, 4, 5, 6, 7, 8, 9, 10, 11, 12, 13] ?_)
 refine Vs 1 ?_
 refine Ld hs23.at0 ?_
 refine Vs 2 ?_
 refine Ld hs23.at0 ?_
 refine Vs 2 ?_
 refine Ld hs23.at0 ?_
 refine Vs 2 ?_
 refine Ld hs23.at0 ?_
 refine Vs 1 ?_
 refine V 21 3 (run_max4 (x := (.tmp 11)) (y := (.tmp 14)) (z := (.tmp 17)) (u := (.tmp 20)) (ats := #[3, 3, 3, 3]) (a := (x0.Points.length : Int)) (b := (x0.Multipliers.length : Int)) (c := (x0.Penalties.length : Int)) (d := (x0.Repeats.length : Int)) rfl rfl rfl rfl) ?_
 refine Vs 1 ?_
 refine Nt ?_
 refine Cd h (fun hb24 h25 => ?_) (fun hb24 h26 => ?_)
 ·refine Sq (Rg [0, 1] ?_)
  refine Vs 2 ?_
  refine Nt ?_
  refine Rt ?_
  refine thenQ_ret ?_
  obtain rfl := some_inj h25
  exact Re [(vi 2), (vi 0)] hs23 rfl
 ·refine Sc ?_
  refine thenQ_nrm ?_
  refine Sq (Rg [0] ?_)
  refine Vs 1 ?_
  refine Nss ?_
  refine Sq (Rg [0, 1, 2, 3, 4, 5, 6, 7, 8, 9] ?_)
  refine Vs 1 ?_
  refine Ld hs23.at0 ?_
  refine Vs 1 ?_
  refine Ld hs23.at0 ?_
  refine Vs 1 ?_
  refine Ld hs23.at0 ?_
  refine Bs 23 [(.slice a0_0 x0.Points.length n0_0), (.slice a0_1 x0.Multipliers.length n0_1), (.slice a0_2 x0.Penalties.length n0_2)] hs23 (fun b27 w28 hs29 => ?_)
  have hr31 : RowR (tSl tClause) 23 F0 (some ⟨b27, 0, none⟩) 3 [x0.Points, x0.Multipliers, x0.Penalties] (some b27, .cells ([(.slice a0_0 x0.Points.length n0_0), (.slice a0_1 x0.Multipliers.length n0_1), (.slice a0_2 x0.Penalties.length n0_2)] : List Value).toArray 23 (0, 0)) := RowR.lit ⟨⟨a0_0, n0_0, rfl, hb0_0, hs0_0⟩, ⟨⟨a0_1, n0_1, rfl, hb0_1, hs0_1⟩, ⟨⟨a0_2, n0_2, rfl, hb0_2, hs0_2⟩, rfl⟩⟩⟩ (by simp)
  have hb35 := RowR.bound hr31
  obtain ⟨F1, hs32, le33, hs34⟩ := hs29.fr0 hr31
  obtain ⟨r36, hr37, h38⟩ := bind_some h26
  refine Cl' co_slices_Concat_api_Clause_api_Clause hs32 (c_slices_Concat_api_Clause_api_Clause N w28 F1 hs32.pers ([x0.Points, x0.Multipliers, x0.Penalties]) (some ⟨b27, 0, none⟩) 3 hb35 hs34 _ hr37) ?_
  rintro _ F2 w40 hs41 le42 ⟨ar36_0_0, nr36_0_0, rfl, hbr36_0_0, hsr36_0_0⟩
  refine Vs 2 ?_
  refine Nt ?_
  obtain ⟨o44, ho45, h46⟩ := bind_some h38
  refine CWP.cut (fun f w => ∃ (s57 : (Int × Int)) (F4 : Mem), o44 = .done s57 ∧ HS w0 F0 w F4 [(sb b21 (kBook x0 a0_0 n0_0 a0_1 n0_1 a0_2 n0_2 a0_3 n0_3) 26)] ∧ Mem.le F2 F4 ∧ FI f [] [(1, (pt b21 0)), (4, (vi s57.1))]) ?_ ?_
  ·refine Bk ?_
   refine CWP.loop (by kernel_rfl) (fun m f w => ∃ (s47 : (Int × Int)) (F3 : Mem), iter (rules_Check_L0 N x0 r36) m s47 = some o44 ∧ HS w0 F0 w F3 [(sb b21 (kBook x0 a0_0 n0_0 a0_1 n0_1 a0_2 n0_2 a0_3 n0_3) 26)] ∧ Mem.le F2 F3 ∧ FI f [] [(1, (pt b21 0)), (4, (vi s47.1)), (30, (.slice ar36_0_0 r36.length nr36_0_0)), (31, (vi (r36.length : Int))), (32, (vi s47.2))]) N ⟨(0, 0), F2, ho45, hs41, (Mem.le.refl _), fI⟩ ?_
   rintro m64 f w48 ⟨s47, F3, hit65, hs49, le50, ⟨_, rfl⟩⟩
   obtain ⟨m66, fl67, rfl, hb68, hnx69⟩ := iter_step hit65
   refine Sq (Rg [0] ?_)
   refine Vs 1 ?_
   refine Nss ?_
   refine Cd hb68 (fun hb70 h71 => ?_) (fun hb70 h72 => ?_)
   ·refine Sc ?_
    refine thenQ_nrm ?_
    refine Sq ?_
    refine Bk ?_
    refine Sq (Rg [0, 1, 2, 3] ?_)
    obtain ⟨x73, hx74, h76⟩ := bind_some h71
    obtain ⟨hi75, hx74'⟩ := idx_spec hx74
    obtain ⟨b77, o78, C79, E80, fz81, rfl, hF83, hE84⟩ := SlA.open (SlA.mono hsr36_0_0 le50) hx74'
    obtain ⟨ae85_2, ne85_2, ae85_5, ne85_5, hc86, hbe85_2, hse85_2, hbe85_5, hse85_5⟩ := hE84 _ _ hx74'
    refine Ix hi75 ?_
    refine Lx 0 (hs49.pers _ _ hF83) hc86 ?_
    refine Al' 56 #[(vi 0), (vi 0), (.slice none ([] : List Expr).length 0), (vi 0), (vi 0), (.slice none ([] : List Expr).length 0)] hs49 (fun b87 w88 hs89 => ?_)
    refine St0 (kClause x73 ae85_2 ne85_2 ae85_5 ne85_5) hs89 (fun w90 hs91 => ?_)
    refine Nss (Rg [0, 1, 2] ?_)
    refine Vs 3 ?_
    refine Nss (Rg [0, 1, 2] ?_)
    refine Ld hs91.at0 ?_
    obtain ⟨r92, hr93, h94⟩ := bind_some h76
    refine Cl' co_rules_soundClause hs91 (c_rules_soundClause N w90 F3 hs91.pers (x73) ae85_2 ne85_2 hbe85_2 hse85_2 ae85_5 ne85_5 hbe85_5 hse85_5 _ hr93) ?_
    rintro _ F5 w96 hs97 le98 rfl
    refine Vs 1 ?_
    refine Nt ?_
    refine Cd h94 (fun hb100 h101 => ?_) (fun hb100 h102 => ?_)
    ·refine Sq (Rg [0, 1, 2] ?_)
     refine Vs 3 ?_
     refine Nt ?_
     refine Rt ?_
     refine blockQ_ret ?_
     refine thenQ_ret ?_
     refine thenQ_ret ?_
     refine blockQ_ret ?_
     have hret := iter_ret h101 hnx69
     subst hret
     refine .inr ?_
     refine thenQ_ret ?_
     obtain rfl := some_inj h46
     exact Re [(vi 62), (vi (W64 (s47.1 + 1)))] hs97 rfl
    ·refine Sc ?_
     refine blockQ_nrm ?_
     refine thenQ_nrm ?_
     refine Rg [0, 1] ?_
     refine Vs 2 ?_
     refine RWP.nil ?_
     have hn103 := iter_next h102 hnx69
     exact ⟨m66, Nat.lt_succ_self _, ((W64 (s47.1 + 1)), (W64 (s47.2 + 1))), F5, hn103, hs97.dr0, (le50.trans le98), fI⟩
   ·refine Ex ?_
    refine thenQ_ex ?_
    refine thenQ_ex ?_
    refine blockQ_hit rfl ?_
    have ho104 := iter_done h72 hnx69
    exact .inl ⟨rfl, (s47.1, s47.2), F3, ho104, hs49, le50, fI⟩
  ·rintro f w58 ⟨s57, F4, rfl, hs59, le60, ⟨_, rfl⟩⟩
   have h105 := k_done h46
   refine thenQ_nrm ?_
   refine Sq ?_
   refine Sq (Rg [0, 1, 2, 3] ?_)
   refine Vs 1 ?_
   refine Ld hs59.at0 ?_
   refine Vs 2 ?_
   refine Nt ?_
   obtain ⟨o106, ho107, h108⟩ := bind_some h105
   refine CWP.cut (fun f w => ∃ (s118 : (Int × Int)) (F7 : Mem), o106 = .done s118 ∧ HS w0 F0 w F7 [] ∧ Mem.le F4 F7 ∧ FI f [] []) ?_ ?_
   ·refine Bk ?_
    refine CWP.loop (by kernel_rfl) (fun m f w => ∃ (s109 : (Int × Int)) (F6 : Mem), iter (rules_Check_L1 N x0 r36 s57) m s109 = some o106 ∧ HS w0 F0 w F6 [] ∧ Mem.le F4 F6 ∧ FI f [] [(4, (vi s109.1)), (44, (.slice a0_3 x0.Repeats.length n0_3)), (45, (vi (x0.Repeats.length : Int))), (46, (vi s109.2))]) N ⟨(s57.1, 0), F4, ho107, hs59.dr0, (Mem.le.refl _), fI⟩ ?_
    rintro m123 f w110 ⟨s109, F6, hit124, hs111, le112, ⟨_, rfl⟩⟩
    obtain ⟨m125, fl126, rfl, hb127, hnx128⟩ := iter_step hit124
    refine Sq (Rg [0] ?_)
    refine Vs 1 ?_
    refine Nss ?_
    refine Cd hb127 (fun hb129 h130 => ?_) (fun hb129 h131 => ?_)
    ·refine Sc ?_
     refine thenQ_nrm ?_
     refine Sq ?_
     refine Bk ?_
     refine Sq (Rg [0, 1, 2, 3] ?_)
     obtain ⟨x132, hx133, h135⟩ := bind_some h130
     obtain ⟨hi134, hx133'⟩ := idx_spec hx133
     obtain ⟨b136, o137, C138, E139, fz140, rfl, hF142, hE143⟩ := SlA.open (SlA.mono hs0_3 (((le33.trans le42).trans le60).trans le112)) hx133'
     obtain ⟨ae144_2, ne144_2, hc145, hbe144_2, hse144_2⟩ := (tExpr_open (hE143 _ _ hx133'))
     refine Ix hi134 ?_
     refine Lx 0 (hs111.pers _ _ hF142) hc145 ?_
     refine Al' 33 #[(vi 0), (vi 0), (.slice none ([] : List Expr).length 0)] hs111 (fun b146 w147 hs148 => ?_)
     refine St0 (kExpr x132 ae144_2 ne144_2) hs148 (fun w149 hs150 => ?_)
     refine Nss (Rg [0, 1, 2] ?_)
     refine Vs 3 ?_
     refine Nss (Rg [0, 1, 2] ?_)
     refine Ld hs150.at0 ?_
     obtain ⟨r151, hr152, h153⟩ := bind_some h135
     refine Cl' co_rules_is hs150 (c_rules_is N w149 F6 hs150.pers (x132) ae144_2 ne144_2 hbe144_2 hse144_2 (1) _ hr152) ?_
     rintro _ F8 w155 hs156 le157 rfl
     refine Vs 1 ?_
     refine Nt ?_
     refine Cd h153 (fun hb159 h160 => ?_) (fun hb159 h161 => ?_)
     ·refine Sq (Rg [0, 1, 2] ?_)
      refine Vs 3 ?_
      refine Nt ?_
      refine Rt ?_
      refine blockQ_ret ?_
      refine thenQ_ret ?_
      refine thenQ_ret ?_
      refine blockQ_ret ?_
      have hret := iter_ret h160 hnx128
      subst hret
      refine .inr ?_
      refine thenQ_ret ?_
      obtain rfl := some_inj h108
      exact Re [(vi 62), (vi (W64 (s109.1 + 1)))] hs156 rfl
     ·refine Sc ?_
      refine blockQ_nrm ?_
      refine thenQ_nrm ?_
      refine Rg [0, 1] ?_
      refine Vs 2 ?_
      refine RWP.nil ?_
      have hn162 := iter_next h161 hnx128
      exact ⟨m125, Nat.lt_succ_self _, ((W64 (s109.1 + 1)), (W64 (s109.2 + 1))), F8, hn162, hs156.dr0, (le112.trans le157), fI⟩
    ·refine Ex ?_
     refine thenQ_ex ?_
     refine thenQ_ex ?_
     refine blockQ_hit rfl ?_
     have ho163 := iter_done h131 hnx128
     exact .inl ⟨rfl, (s109.1, s109.2), F6, ho163, hs111, le112, fI⟩
   ·rintro f w119 ⟨s118, F7, rfl, hs120, le121, ⟨_, rfl⟩⟩
    have h164 := k_done h108
    refine thenQ_nrm ?_
    refine Sq (Rg [0, 1] ?_)
    refine Vs 2 ?_
    refine Nt ?_
    refine Rt ?_
    obtain rfl := some_inj h164
    exact Re [(vi 0), (vi 0)] hs120 rfl
end Go.Proofs.YtaihlcdkcampbaaGreatDoor
namespace Go.Proofs.YtaihlcdkcampbaaGreatDoor
open Go.Proofs
def rules_Valid (N : Nat) (x0 : Book) : Option Bool :=
 ((rules_Check N x0).bind fun r24 => some (r24.1 == 0))
theorem co_rules_Valid : CallOk Tryz.prog 54 := fun _ _ => by kernel_rfl
theorem c_rules_Valid (N : Nat) (w0 : World) (F0 : Mem) (hF : ∀ b o, F0 b = some o → w0.heap[b]? = some o) (x0 : Book) (a0_0 : Option Addr) (n0_0 : Nat) (hb0_0 : LC x0.Points.length n0_0) (hs0_0 : SlA tClause F0 a0_0 x0.Points) (a0_1 : Option Addr) (n0_1 : Nat) (hb0_1 : LC x0.Multipliers.length n0_1) (hs0_1 : SlA tClause F0 a0_1 x0.Multipliers) (a0_2 : Option Addr) (n0_2 : Nat) (hb0_2 : LC x0.Penalties.length n0_2) (hs0_2 : SlA tClause F0 a0_2 x0.Penalties) (a0_3 : Option Addr) (n0_3 : Nat) (hb0_3 : LC x0.Repeats.length n0_3) (hs0_3 : SlA tExpr F0 a0_3 x0.Repeats) (r : Bool) (h : rules_Valid N x0 = some r) :
  Calls Tryz.prog 54 ([(.agg (kBook x0 a0_0 n0_0 a0_1 n0_1 a0_2 n0_2 a0_3 n0_3))] : List Value).toArray w0 (FRet w0 F0 fun F' v => v = (.bool r)) := by
 have hs0 := HS.start hF
 refine Go 12 Tryz.func54 ?_
 refine Sq (Rg [0, 1] ?_)
 refine Bx' 26 (kBook x0 a0_0 n0_0 a0_1 n0_1 a0_2 n0_2 a0_3 n0_3) hs0 (fun b21 w22 hs23 => ?_)
 refine Vs 1 ?_
 refine Nss (Rg [0, 1, 2, 3, 4, 5, 6] ?_)
 refine Ld hs23.at0 ?_
 obtain ⟨r24, hr25, h26⟩ := bind_some h
 refine Cl' co_rules_Check hs23 (c_rules_Check N w22 F0 hs23.pers (x0) a0_0 n0_0 hb0_0 hs0_0 a0_1 n0_1 hb0_1 hs0_1 a0_2 n0_2 hb0_2 hs0_2 a0_3 n0_3 hb0_3 hs0_3 _ hr25) ?_
 rintro _ F1 w28 hs29 le30 rfl
 refine Vs 5 ?_
 refine Nss (Rg [0, 1, 2] ?_)
 refine Vs 3 ?_
 refine Nt ?_
 refine Rt ?_
 obtain rfl := some_inj h26
 exact Re [(.bool (r24.1 == 0))] hs29 rfl
end Go.Proofs.YtaihlcdkcampbaaGreatDoor
namespace Go.Proofs.YtaihlcdkcampbaaGreatDoor
open Go.Proofs
def rules_wrong (N : Nat) (x0 : Book) (x1 : (List Int)) : Option Int :=
 ((rules_Valid N x0).bind fun r24 => (bif (!r24) then some 62 else ((rules_validFacts N x1).bind fun r35 => (bif (!r35) then some 63 else some 0))))
theorem co_rules_wrong : CallOk Tryz.prog 106 := fun _ _ => by kernel_rfl
theorem c_rules_wrong (N : Nat) (w0 : World) (F0 : Mem) (hF : ∀ b o, F0 b = some o → w0.heap[b]? = some o) (x0 : Book) (a0_0 : Option Addr) (n0_0 : Nat) (hb0_0 : LC x0.Points.length n0_0) (hs0_0 : SlA tClause F0 a0_0 x0.Points) (a0_1 : Option Addr) (n0_1 : Nat) (hb0_1 : LC x0.Multipliers.length n0_1) (hs0_1 : SlA tClause F0 a0_1 x0.Multipliers) (a0_2 : Option Addr) (n0_2 : Nat) (hb0_2 : LC x0.Penalties.length n0_2) (hs0_2 : SlA tClause F0 a0_2 x0.Penalties) (a0_3 : Option Addr) (n0_3 : Nat) (hb0_3 : LC x0.Repeats.length n0_3) (hs0_3 : SlA tExpr F0 a0_3 x0.Repeats) (x1 : (List Int)) (a1_0 : Option Addr) (n1_0 : Nat) (hb1_0 : LC x1.length n1_0) (hs1_0 : SlA tInt F0 a1_0 x1) (r : Int) (h : rules_wrong N x0 x1 = some r) :
  Calls Tryz.prog 106 ([(.agg (kBook x0 a0_0 n0_0 a0_1 n0_1 a0_2 n0_2 a0_3 n0_3)), (.slice a1_0 x1.length n1_0)] : List Value).toArray w0 (FRet w0 F0 fun F' v => v = (vi r)) := by
 have hs0 := HS.start hF
 refine Go 13 Tryz.func106 ?_
 refine Sq (Rg [0, 1] ?_)
 refine Bx' 26 (kBook x0 a0_0 n0_0 a0_1 n0_1 a0_2 n0_2 a0_3 n0_3) hs0 (fun b21 w22 hs23 => ?_)
 refine Vs 1 ?_
 refine Nss ?_
 refine Bk ?_
 refine Sq (Rg [0, 1, 2, 3] ?_)
 refine Ld hs23.at0 ?_
 obtain ⟨r24, hr25, h26⟩ := bind_some h
 refine Cl' co_rules_Valid hs23 (c_rules_Valid N w22 F0 hs23.pers (x0) a0_0 n0_0 hb0_0 hs0_0 a0_1 n0_1 hb0_1 hs0_1 a0_2 n0_2 hb0_2 hs0_2 a0_3 n0_3 hb0_3 hs0_3 _ hr25) ?_
 rintro _ F1 w28 hs29 le30 rfl
 refine Vs 2 ?_
 refine Nt ?_
 refine Cd h26 (fun hb32 h33 => ?_) (fun hb32 h34 => ?_)
 ·refine Sq (Rg [0] ?_)
  refine Vs 1 ?_
  refine Nt ?_
  refine Rt ?_
  refine blockQ_ret ?_
  refine thenQ_ret ?_
  obtain rfl := some_inj h33
  exact Re [(vi 62)] hs29 rfl
 ·refine Sq (Rg [0, 1, 2, 3] ?_)
  refine Vs 1 ?_
  obtain ⟨r35, hr36, h37⟩ := bind_some h34
  refine Cl' co_rules_validFacts hs29 (c_rules_validFacts N w28 F1 hs29.pers (x1) a1_0 n1_0 hb1_0 (SlA.mono hs1_0 le30) _ hr36) ?_
  rintro _ F2 w39 hs40 le41 rfl
  refine Vs 2 ?_
  refine Nt ?_
  refine Cd h37 (fun hb43 h44 => ?_) (fun hb43 h45 => ?_)
  ·refine Sq (Rg [0] ?_)
   refine Vs 1 ?_
   refine Nt ?_
   refine Rt ?_
   refine blockQ_ret ?_
   refine thenQ_ret ?_
   obtain rfl := some_inj h44
   exact Re [(vi 63)] hs40 rfl
  ·refine Sc ?_
   refine blockQ_nrm ?_
   refine thenQ_nrm ?_
   refine Sq (Rg [0] ?_)
   refine Vs 1 ?_
   refine Nt ?_
   refine Rt ?_
   obtain rfl := some_inj h45
   exact Re [(vi 0)] hs40 rfl
end Go.Proofs.YtaihlcdkcampbaaGreatDoor
namespace Go.Proofs.YtaihlcdkcampbaaGreatDoor
open Go.Proofs
def ref06_Check_L0 (N : Nat) (x0 : Book) : (Int × Int) → Option (Flow (Int × Int) (Int × Int)) := fun s44 =>
 (bif (decide (s44.2 < ([x0.Points, x0.Multipliers, x0.Penalties].length : Int))) then ((idx [x0.Points, x0.Multipliers, x0.Penalties] s44.2).bind fun x69 => ((ref06_clauses N x69).bind fun r80 => ((idx [x0.Points, x0.Multipliers, x0.Penalties] s44.2).bind fun x88 => (bif (decide (r80 < (x88.length : Int))) then some (.ret (62, (W64 (s44.1 + r80)))) else some (.next ((W64 (s44.1 + r80)), (W64 (s44.2 + 1)))))))) else some (.done (s44.1, s44.2)))
def ref06_Check_L1 (N : Nat) (x0 : Book) (s53 : (Int × Int)) : Int → Option (Flow (Int × Int) Int) := fun s108 =>
 (bif (decide (s108 < (x0.Repeats.length : Int))) then ((idx x0.Repeats s108).bind fun x130 => ((ref06_sound N x130 1).bind fun r144 => (bif (!r144) then some (.ret (62, (W64 (s53.1 + s108)))) else some (.next (W64 (s108 + 1)))))) else some (.done s108))
def ref06_Check (N : Nat) (x0 : Book) : Option (Int × Int) :=
 (bif ((decide ((x0.Points.length : Int) > 64)) || ((decide ((x0.Multipliers.length : Int) > 64)) || ((decide ((x0.Penalties.length : Int) > 64)) || (decide ((x0.Repeats.length : Int) > 64))))) then some (2, 0) else ((iter (ref06_Check_L0 N x0) N (1, 0)).bind fun o => o.k (fun r => some r) (fun s53 => ((iter (ref06_Check_L1 N x0 s53) N 0).bind fun o => o.k (fun r => some r) (fun s116 => some (0, 0))))))
theorem co_ref06_Check : CallOk Tryz.prog 71 := fun _ _ => by kernel_rfl
theorem c_ref06_Check (N : Nat) (w0 : World) (F0 : Mem) (hF : ∀ b o, F0 b = some o → w0.heap[b]? = some o) (x0 : Book) (a0_0 : Option Addr) (n0_0 : Nat) (hb0_0 : LC x0.Points.length n0_0) (hs0_0 : SlA tClause F0 a0_0 x0.Points) (a0_1 : Option Addr) (n0_1 : Nat) (hb0_1 : LC x0.Multipliers.length n0_1) (hs0_1 : SlA tClause F0 a0_1 x0.Multipliers) (a0_2 : Option Addr) (n0_2 : Nat) (hb0_2 : LC x0.Penalties.length n0_2) (hs0_2 : SlA tClause F0 a0_2 x0.Penalties) (a0_3 : Option Addr) (n0_3 : Nat) (hb0_3 : LC x0.Repeats.length n0_3) (hs0_3 : SlA tExpr F0 a0_3 x0.Repeats) (r : (Int × Int)) (h : ref06_Check N x0 = some r) :
  Calls Tryz.prog 71 ([(.agg (kBook x0 a0_0 n0_0 a0_1 n0_1 a0_2 n0_2 a0_3 n0_3))] : List Value).toArray w0 (FRet w0 F0 fun F' v => v = (.tuple #[(vi r.1), (vi r.2)])) := by
 have hs0 := HS.start hF
 refine Go 79 Tryz.func71 ?_
 refine Sq (Rg [0, 1, 2] ?_)
 refine Bx' 26 (kBook x0 a0_0 n0_0 a0_1 n0_1 a0_2 n0_2 a0_3 n0_3) hs0 (fun b21 w22 hs23 => ?_)
 refine Vs 2 ?_
 refine Nss ?_
 refine Sq (Rg [0, 1, 2, 3, 4, 5, 6, 7, 8, 9, 10, 11, 12, 13, 14, 15, 16, 17, 18, 19, 20, 21] ?_)
 refine RWP.cut (fun f w => ∃ (F1 : Mem), HS w0 F0 w F1 [(sb b21 (kBook x0 a0_0 n0_0 a0_1 n0_1 a0_2 n0_2 a0_3 n0_3) 26)] ∧ Mem.le F0 F1 ∧ FI f [] [(1, (pt b21 0)), (30, (.bool ((decide ((x0.Points.length : Int) > 64)) || ((decide ((x0.Multipliers.length : Int) > 64)) || ((decide ((x0.Penalties.length : Int) > 64)) || (decide ((x0.Repeats.length : Int) > 64)))))))]) ?_ ?_
 ·refine Vs 1 ?_
  refine Ld hs23.at0 ?_
  refine Vs 3 ?_
  refine RWP.split (decide ((x0.Points.length : Int) > 64)) (fun hb30 => ?_) (fun hb30 => ?_)
  ·refine Ss hb30 4 ?_
   refine Pk1 hb30 ?_
   refine Vs 1 ?_
   refine Ss (rfl : true = true) 4 ?_
   refine Pk1 (rfl : true = true) ?_
   refine Vs 1 ?_
   refine Ss (rfl : true = true) 4 ?_
   refine Pk1 (rfl : true = true) ?_
   exact RWP.nil ⟨rfl, F0, hs23, (Mem.le.refl _), (fJ ⟨rfl, (congrArg Value.bool (or_t hb30 (rfl))), trivial⟩)⟩
  ·refine Vgs hb30 1 ?_
   refine Lg hb30 hs23.at0 ?_
   refine Vgs hb30 2 ?_
   refine Pk0 hb30 ?_
   refine Vs 1 ?_
   refine RWP.split (decide ((x0.Multipliers.length : Int) > 64)) (fun hb31 => ?_) (fun hb31 => ?_)
   ·refine Ss hb31 4 ?_
    refine Pk1 hb31 ?_
    refine Vs 1 ?_
    refine Ss (rfl : true = true) 4 ?_
    refine Pk1 (rfl : true = true) ?_
    exact RWP.nil ⟨rfl, F0, hs23, (Mem.le.refl _), (fJ ⟨rfl, (congrArg Value.bool (or_f hb30 (or_t hb31 (rfl)))), trivial⟩)⟩
   ·refine Vgs hb31 1 ?_
    refine Lg hb31 hs23.at0 ?_
    refine Vgs hb31 2 ?_
    refine Pk0 hb31 ?_
    refine Vs 1 ?_
    refine RWP.split (decide ((x0.Penalties.length : Int) > 64)) (fun hb32 => ?_) (fun hb32 => ?_)
    ·refine Ss hb32 4 ?_
     refine Pk1 hb32 ?_
     exact RWP.nil ⟨rfl, F0, hs23, (Mem.le.refl _), (fJ ⟨rfl, (congrArg Value.bool (or_f hb30 (or_f hb31 (or_t hb32 (rfl))))), trivial⟩)⟩
    ·refine Vgs hb32 1 ?_
     refine Lg hb32 hs23.at0 ?_
     refine Vgs hb32 2 ?_
     refine Pk0 hb32 ?_
     exact RWP.nil ⟨rfl, F0, hs23, (Mem.le.refl _), (fJ ⟨rfl, (congrArg Value.bool (or_f hb30 (or_f hb31 (or_f hb32 (rfl))))), trivial⟩)⟩
 ·rintro f w24 ⟨F1, hs25, le26, ⟨_, rfl⟩⟩
  refine thenQ_nrm ?_
  refine Cd h (fun hb33 h34 => ?_) (fun hb33 h35 => ?_)
  ·refine Sq (Rg [0, 1] ?_)
   refine Vs 2 ?_
   refine Nt ?_
   refine Rt ?_
   refine thenQ_ret ?_
   obtain rfl := some_inj h34
   exact Re [(vi 2), (vi 0)] hs25 rfl
  ·refine Sc ?_
   refine thenQ_nrm ?_
   refine Sq (Rg [0] ?_)
   refine Vs 1 ?_
   refine Nss (Rg [0, 1, 2, 3, 4, 5, 6, 7] ?_)
   refine Vs 1 ?_
   refine Ld hs25.at0 ?_
   refine Vs 1 ?_
   refine Ld hs25.at0 ?_
   refine Vs 1 ?_
   refine Ld hs25.at0 ?_
   refine Bs 23 [(.slice a0_0 x0.Points.length n0_0), (.slice a0_1 x0.Multipliers.length n0_1), (.slice a0_2 x0.Penalties.length n0_2)] hs25 (fun b36 w37 hs38 => ?_)
   have hr40 : RowR (tSl tClause) 23 F1 (some ⟨b36, 0, none⟩) 3 [x0.Points, x0.Multipliers, x0.Penalties] (some b36, .cells ([(.slice a0_0 x0.Points.length n0_0), (.slice a0_1 x0.Multipliers.length n0_1), (.slice a0_2 x0.Penalties.length n0_2)] : List Value).toArray 23 (0, 0)) := RowR.lit ⟨⟨a0_0, n0_0, rfl, hb0_0, (SlA.mono hs0_0 le26)⟩, ⟨⟨a0_1, n0_1, rfl, hb0_1, (SlA.mono hs0_1 le26)⟩, ⟨⟨a0_2, n0_2, rfl, hb0_2, (SlA.mono hs0_2 le26)⟩, rfl⟩⟩⟩ (by simp)
   refine Vs 1 ?_
   refine Nss ?_
   refine Sq (Rg [0] ?_)
   refine Vs 1 ?_
   refine Nt ?_
   obtain ⟨o41, ho42, h43⟩ := bind_some h35
   refine CWP.cut (fun f w => ∃ (s53 : (Int × Int)) (F3 : Mem), o41 = .done s53 ∧ HS w0 F0 w F3 [(sb b21 (kBook x0 a0_0 n0_0 a0_1 n0_1 a0_2 n0_2 a0_3 n0_3) 26)] ∧ Mem.le F1 F3 ∧ FI f [] [(1, (pt b21 0)), (4, (vi s53.1))]) ?_ ?_
   ·refine Bk ?_
    refine CWP.loop (by kernel_rfl) (fun m f w => ∃ (s44 : (Int × Int)) (F2 : Mem), iter (ref06_Check_L0 N x0) m s44 = some o41 ∧ HS w0 F0 w F2 [(some b36, .cells ([(.slice a0_0 x0.Points.length n0_0), (.slice a0_1 x0.Multipliers.length n0_1), (.slice a0_2 x0.Penalties.length n0_2)] : List Value).toArray 23 (0, 0)), (sb b21 (kBook x0 a0_0 n0_0 a0_1 n0_1 a0_2 n0_2 a0_3 n0_3) 26)] ∧ Mem.le F1 F2 ∧ FI f [] [(1, (pt b21 0)), (4, (vi s44.1)), (5, (.slice (some ⟨b36, 0, none⟩) [x0.Points, x0.Multipliers, x0.Penalties].length 3)), (6, (vi s44.2))]) N ⟨(1, 0), F1, ho42, hs38, (Mem.le.refl _), fI⟩ ?_
    rintro m60 f w45 ⟨s44, F2, hit61, hs46, le47, ⟨_, rfl⟩⟩
    obtain ⟨m62, fl63, rfl, hb64, hnx65⟩ := iter_step hit61
    refine Sq ?_
    refine Sq (Rg [0, 1, 2, 3] ?_)
    refine Vs 4 ?_
    refine Nt ?_
    refine Cd hb64 (fun hb66 h67 => ?_) (fun hb66 h68 => ?_)
    ·refine Sc ?_
     refine thenQ_nrm ?_
     refine Sq ?_
     refine Bk ?_
     refine Sq (Rg [0, 1, 2, 3, 4, 5] ?_)
     refine Vs 2 ?_
     obtain ⟨x69, hx70, h72⟩ := bind_some h67
     obtain ⟨hi71, hx70'⟩ := idx_spec hx70
     obtain ⟨b73, C74, ha75, he76, hE77⟩ := RowR.open (hr40.mono le47) hx70'
     cases ha75
     cases he76
     obtain ⟨ae78_0, ne78_0, hc79, hbe78_0, hse78_0⟩ := hE77 _ _ hx70'
     refine Ix0 hi71 ?_
     refine Lx 0 hs46.at0 hc79 ?_
     obtain ⟨r80, hr81, h82⟩ := bind_some h72
     refine Cl' co_ref06_clauses hs46 (c_ref06_clauses N w45 F2 hs46.pers (x69) ae78_0 ne78_0 hbe78_0 hse78_0 _ hr81) ?_
     rintro _ F4 w84 hs85 le86 rfl
     refine Vs 1 ?_
     refine Nss ?_
     refine Sq (Rg [0, 1, 2, 3, 4, 5, 6] ?_)
     refine Vs 3 ?_
     obtain ⟨x88, hx89, h91⟩ := bind_some h82
     obtain ⟨hi90, hx89'⟩ := idx_spec hx89
     obtain ⟨b92, C93, ha94, he95, hE96⟩ := RowR.open (hr40.mono (le47.trans le86)) hx89'
     cases ha94
     cases he95
     obtain ⟨ae97_0, ne97_0, hc98, hbe97_0, hse97_0⟩ := hE96 _ _ hx89'
     refine Ix0 hi90 ?_
     refine Lx 0 hs85.at0 hc98 ?_
     refine Vs 2 ?_
     refine Nt ?_
     refine Cd h91 (fun hb99 h100 => ?_) (fun hb99 h101 => ?_)
     ·refine Sq (Rg [0, 1, 2, 3, 4] ?_)
      refine Vs 5 ?_
      refine Nt ?_
      refine Rt ?_
      refine thenQ_ret ?_
      refine blockQ_ret ?_
      refine thenQ_ret ?_
      refine thenQ_ret ?_
      refine blockQ_ret ?_
      have hret := iter_ret h100 hnx65
      subst hret
      refine .inr ?_
      refine thenQ_ret ?_
      obtain rfl := some_inj h43
      exact Re [(vi 62), (vi (W64 (s44.1 + r80)))] hs85 rfl
     ·refine Sc ?_
      refine thenQ_nrm ?_
      refine Rg [0, 1, 2, 3] ?_
      refine Vs 4 ?_
      refine RWP.nil ?_
      refine blockQ_nrm ?_
      refine thenQ_nrm ?_
      refine Rg [0, 1, 2] ?_
      refine Vs 3 ?_
      refine RWP.nil ?_
      have hn102 := iter_next h101 hnx65
      exact ⟨m62, Nat.lt_succ_self _, ((W64 (s44.1 + r80)), (W64 (s44.2 + 1))), F4, hn102, hs85, (le47.trans le86), fI⟩
    ·refine Ex ?_
     refine thenQ_ex ?_
     refine thenQ_ex ?_
     refine blockQ_hit rfl ?_
     have ho103 := iter_done h68 hnx65
     exact .inl ⟨rfl, (s44.1, s44.2), F2, ho103, hs46.dr0, le47, fI⟩
   ·rintro f w54 ⟨s53, F3, rfl, hs55, le56, ⟨_, rfl⟩⟩
    have h104 := k_done h43
    refine thenQ_nrm ?_
    refine Sq ?_
    refine Sq (Rg [0] ?_)
    refine Vs 1 ?_
    refine Nt ?_
    obtain ⟨o105, ho106, h107⟩ := bind_some h104
    refine CWP.cut (fun f w => ∃ (s116 : Int) (F6 : Mem), o105 = .done s116 ∧ HS w0 F0 w F6 [] ∧ Mem.le F3 F6 ∧ FI f [] []) ?_ ?_
    ·refine Bk ?_
     refine CWP.loop (by kernel_rfl) (fun m f w => ∃ (s108 : Int) (F5 : Mem), iter (ref06_Check_L1 N x0 s53) m s108 = some o105 ∧ HS w0 F0 w F5 [(sb b21 (kBook x0 a0_0 n0_0 a0_1 n0_1 a0_2 n0_2 a0_3 n0_3) 26)] ∧ Mem.le F3 F5 ∧ FI f [] [(1, (pt b21 0)), (4, (vi s53.1)), (8, (vi s108))]) N ⟨0, F3, ho106, hs55, (Mem.le.refl _), fI⟩ ?_
     rintro m121 f w109 ⟨s108, F5, hit122, hs110, le111, ⟨_, rfl⟩⟩
     obtain ⟨m123, fl124, rfl, hb125, hnx126⟩ := iter_step hit122
     refine Sq ?_
     refine Sq (Rg [0, 1, 2, 3, 4] ?_)
     refine Vs 2 ?_
     refine Ld hs110.at0 ?_
     refine Vs 2 ?_
     refine Nt ?_
     refine Cd hb125 (fun hb127 h128 => ?_) (fun hb127 h129 => ?_)
     ·refine Sc ?_
      refine thenQ_nrm ?_
      refine Sq ?_
      refine Bk ?_
      refine Sq (Rg [0, 1, 2, 3, 4, 5, 6] ?_)
      refine Vs 1 ?_
      refine Ld hs110.at0 ?_
      refine Vs 1 ?_
      obtain ⟨x130, hx131, h133⟩ := bind_some h128
      obtain ⟨hi132, hx131'⟩ := idx_spec hx131
      obtain ⟨b134, o135, C136, E137, fz138, rfl, hF140, hE141⟩ := SlA.open (SlA.mono hs0_3 ((le26.trans le56).trans le111)) hx131'
      obtain ⟨ae142_2, ne142_2, hc143, hbe142_2, hse142_2⟩ := (tExpr_open (hE141 _ _ hx131'))
      refine Ix hi132 ?_
      refine Lx 0 (hs110.pers _ _ hF140) hc143 ?_
      obtain ⟨r144, hr145, h146⟩ := bind_some h133
      refine Cl' co_ref06_sound hs110 (c_ref06_sound N w109 F5 hs110.pers (x130) ae142_2 ne142_2 hbe142_2 hse142_2 (1) _ hr145) ?_
      rintro _ F7 w148 hs149 le150 rfl
      refine Vs 1 ?_
      refine Nt ?_
      refine Cd h146 (fun hb152 h153 => ?_) (fun hb152 h154 => ?_)
      ·refine Sq (Rg [0, 1, 2, 3, 4] ?_)
       refine Vs 5 ?_
       refine Nt ?_
       refine Rt ?_
       refine blockQ_ret ?_
       refine thenQ_ret ?_
       refine thenQ_ret ?_
       refine blockQ_ret ?_
       have hret := iter_ret h153 hnx126
       subst hret
       refine .inr ?_
       refine thenQ_ret ?_
       obtain rfl := some_inj h107
       exact Re [(vi 62), (vi (W64 (s53.1 + s108)))] hs149 rfl
      ·refine Sc ?_
       refine blockQ_nrm ?_
       refine thenQ_nrm ?_
       refine Rg [0, 1, 2] ?_
       refine Vs 3 ?_
       refine RWP.nil ?_
       have hn155 := iter_next h154 hnx126
       exact ⟨m123, Nat.lt_succ_self _, (W64 (s108 + 1)), F7, hn155, hs149, (le111.trans le150), fI⟩
     ·refine Ex ?_
      refine thenQ_ex ?_
      refine thenQ_ex ?_
      refine blockQ_hit rfl ?_
      have ho156 := iter_done h129 hnx126
      exact .inl ⟨rfl, s108, F5, ho156, hs110.dr0, le111, fI⟩
    ·rintro f w117 ⟨s116, F6, rfl, hs118, le119, ⟨_, rfl⟩⟩
     have h157 := k_done h107
     refine thenQ_nrm ?_
     refine Sq (Rg [0, 1] ?_)
     refine Vs 2 ?_
     refine Nt ?_
     refine Rt ?_
     obtain rfl := some_inj h157
     exact Re [(vi 0), (vi 0)] hs118 rfl
end Go.Proofs.YtaihlcdkcampbaaGreatDoor
namespace Go.Proofs.YtaihlcdkcampbaaGreatDoor
open Go.Proofs
def ref06_Valid (N : Nat) (x0 : Book) : Option Bool :=
 ((ref06_Check N x0).bind fun r24 => some (r24.1 == 0))
theorem co_ref06_Valid : CallOk Tryz.prog 74 := fun _ _ => by kernel_rfl
theorem c_ref06_Valid (N : Nat) (w0 : World) (F0 : Mem) (hF : ∀ b o, F0 b = some o → w0.heap[b]? = some o) (x0 : Book) (a0_0 : Option Addr) (n0_0 : Nat) (hb0_0 : LC x0.Points.length n0_0) (hs0_0 : SlA tClause F0 a0_0 x0.Points) (a0_1 : Option Addr) (n0_1 : Nat) (hb0_1 : LC x0.Multipliers.length n0_1) (hs0_1 : SlA tClause F0 a0_1 x0.Multipliers) (a0_2 : Option Addr) (n0_2 : Nat) (hb0_2 : LC x0.Penalties.length n0_2) (hs0_2 : SlA tClause F0 a0_2 x0.Penalties) (a0_3 : Option Addr) (n0_3 : Nat) (hb0_3 : LC x0.Repeats.length n0_3) (hs0_3 : SlA tExpr F0 a0_3 x0.Repeats) (r : Bool) (h : ref06_Valid N x0 = some r) :
  Calls Tryz.prog 74 ([(.agg (kBook x0 a0_0 n0_0 a0_1 n0_1 a0_2 n0_2 a0_3 n0_3))] : List Value).toArray w0 (FRet w0 F0 fun F' v => v = (.bool r)) := by
 have hs0 := HS.start hF
 refine Go 12 Tryz.func74 ?_
 refine Sq (Rg [0, 1] ?_)
 refine Bx' 26 (kBook x0 a0_0 n0_0 a0_1 n0_1 a0_2 n0_2 a0_3 n0_3) hs0 (fun b21 w22 hs23 => ?_)
 refine Vs 1 ?_
 refine Nss (Rg [0, 1, 2, 3, 4, 5, 6] ?_)
 refine Ld hs23.at0 ?_
 obtain ⟨r24, hr25, h26⟩ := bind_some h
 refine Cl' co_ref06_Check hs23 (c_ref06_Check N w22 F0 hs23.pers (x0) a0_0 n0_0 hb0_0 hs0_0 a0_1 n0_1 hb0_1 hs0_1 a0_2 n0_2 hb0_2 hs0_2 a0_3 n0_3 hb0_3 hs0_3 _ hr25) ?_
 rintro _ F1 w28 hs29 le30 rfl
 refine Vs 5 ?_
 refine Nss (Rg [0, 1, 2] ?_)
 refine Vs 3 ?_
 refine Nt ?_
 refine Rt ?_
 obtain rfl := some_inj h26
 exact Re [(.bool (r24.1 == 0))] hs29 rfl
end Go.Proofs.YtaihlcdkcampbaaGreatDoor
namespace Go.Proofs.YtaihlcdkcampbaaGreatDoor
open Go.Proofs
def ref06_applied (N : Nat) (x0 : Book) (x1 : (List Int)) : Option Int :=
 ((ref06_Valid N x0).bind fun r24 => (bif (!r24) then some 62 else ((ref06_factual N x1).bind fun r35 => (bif (!r35) then some 63 else some 0))))
theorem co_ref06_applied : CallOk Tryz.prog 107 := fun _ _ => by kernel_rfl
theorem c_ref06_applied (N : Nat) (w0 : World) (F0 : Mem) (hF : ∀ b o, F0 b = some o → w0.heap[b]? = some o) (x0 : Book) (a0_0 : Option Addr) (n0_0 : Nat) (hb0_0 : LC x0.Points.length n0_0) (hs0_0 : SlA tClause F0 a0_0 x0.Points) (a0_1 : Option Addr) (n0_1 : Nat) (hb0_1 : LC x0.Multipliers.length n0_1) (hs0_1 : SlA tClause F0 a0_1 x0.Multipliers) (a0_2 : Option Addr) (n0_2 : Nat) (hb0_2 : LC x0.Penalties.length n0_2) (hs0_2 : SlA tClause F0 a0_2 x0.Penalties) (a0_3 : Option Addr) (n0_3 : Nat) (hb0_3 : LC x0.Repeats.length n0_3) (hs0_3 : SlA tExpr F0 a0_3 x0.Repeats) (x1 : (List Int)) (a1_0 : Option Addr) (n1_0 : Nat) (hb1_0 : LC x1.length n1_0) (hs1_0 : SlA tInt F0 a1_0 x1) (r : Int) (h : ref06_applied N x0 x1 = some r) :
  Calls Tryz.prog 107 ([(.agg (kBook x0 a0_0 n0_0 a0_1 n0_1 a0_2 n0_2 a0_3 n0_3)), (.slice a1_0 x1.length n1_0)] : List Value).toArray w0 (FRet w0 F0 fun F' v => v = (vi r)) := by
 have hs0 := HS.start hF
 refine Go 11 Tryz.func107 ?_
 refine Sq (Rg [0, 1] ?_)
 refine Bx' 26 (kBook x0 a0_0 n0_0 a0_1 n0_1 a0_2 n0_2 a0_3 n0_3) hs0 (fun b21 w22 hs23 => ?_)
 refine Vs 1 ?_
 refine Nss ?_
 refine Sq (Rg [0, 1, 2] ?_)
 refine Ld hs23.at0 ?_
 obtain ⟨r24, hr25, h26⟩ := bind_some h
 refine Cl' co_ref06_Valid hs23 (c_ref06_Valid N w22 F0 hs23.pers (x0) a0_0 n0_0 hb0_0 hs0_0 a0_1 n0_1 hb0_1 hs0_1 a0_2 n0_2 hb0_2 hs0_2 a0_3 n0_3 hb0_3 hs0_3 _ hr25) ?_
 rintro _ F1 w28 hs29 le30 rfl
 refine Vs 1 ?_
 refine Nt ?_
 refine Cd h26 (fun hb32 h33 => ?_) (fun hb32 h34 => ?_)
 ·refine Sq (Rg [0] ?_)
  refine Vs 1 ?_
  refine Nt ?_
  refine Rt ?_
  refine thenQ_ret ?_
  obtain rfl := some_inj h33
  exact Re [(vi 62)] hs29 rfl
 ·refine Sc ?_
  refine thenQ_nrm ?_
  refine Sq ?_
  refine Sq (Rg [0, 1, 2] ?_)
  refine Vs 1 ?_
  obtain ⟨r35, hr36, h37⟩ := bind_some h34
  refine Cl' co_ref06_factual hs29 (c_ref06_factual N w28 F1 hs29.pers (x1) a1_0 n1_0 hb1_0 (SlA.mono hs1_0 le30) _ hr36) ?_
  rintro _ F2 w39 hs40 le41 rfl
  refine Vs 1 ?_
  refine Nt ?_
  refine Cd h37 (fun hb43 h44 => ?_) (fun hb43 h45 => ?_)
  ·refine Sq (Rg [0] ?_)
   refine Vs 1 ?_
   refine Nt ?_
   refine Rt ?_
   refine thenQ_ret ?_
   obtain rfl := some_inj h44
   exact Re [(vi 63)] hs40 rfl
  ·refine Sc ?_
   refine thenQ_nrm ?_
   refine Sq (Rg [0] ?_)
   refine Vs 1 ?_
   refine Nt ?_
   refine Rt ?_
   obtain rfl := some_inj h45
   exact Re [(vi 0)] hs40 rfl
end Go.Proofs.YtaihlcdkcampbaaGreatDoor
namespace Go.Proofs.YtaihlcdkcampbaaGreatDoor
structure FitL (N : Nat) (l : List Clause) : Prop where
 n : l.length < N
 w : l.length < 9223372036854775808
 c : ∀ c, c ∈ l → FitC N c
structure FitX (N : Nat) (l : List Expr) : Prop where
 n : l.length < N
 w : l.length < 9223372036854775808
 c : ∀ c, c ∈ l → Fit N c
structure FitB (N : Nat) (b : Book) : Prop where
 p : FitL N b.Points
 m : FitL N b.Multipliers
 e : FitL N b.Penalties
 r : FitX N b.Repeats
def sndL (l : List Clause) : Bool := decide (l.length ≤ 64) && l.all sndC
theorem sndT_k {e : Expr} {t : Int} (h : sndT e t = true) : kd e = t := by unfold sndT at h; simp at h; exact h.2
theorem sndC_w {c : Clause} (h : sndC c = true) : kd c.When = 2 := by unfold sndC at h; simp at h; exact sndT_k h.1
theorem sndC_t {c : Clause} (h : sndC c = true) : kd c.Then = 1 := by unfold sndC at h; simp at h; exact sndT_k h.2
theorem sndL_c {l : List Clause} (h : sndL l = true) {c : Clause} (hc : c ∈ l) : sndC c = true := by
 unfold sndL at h; simp only [Bool.and_eq_true, List.all_eq_true] at h; exact h.2 c hc
theorem sndL_n {l : List Clause} (h : sndL l = true) : l.length ≤ 64 := by
 unfold sndL at h; simp only [Bool.and_eq_true, decide_eq_true_eq] at h; exact h.1
def fi {α : Type} (p : α → Bool) (l : List α) : Int := if l.any p then (l.findIdx p : Int) else -1
theorem fi_neg {α : Type} {p : α → Bool} {l : List α} : fi p l < 0 ↔ l.any p = false := by
 unfold fi; cases l.any p <;> simp
theorem fi_nn {α : Type} {p : α → Bool} {l : List α} (h : 0 ≤ fi p l) : ∃ (i : Nat) (hi : i < l.length), fi p l = i ∧ p l[i] = true ∧ ∀ k (hk : k < i), p (l[k]'(by omega)) = false := by
 have ha : l.any p = true := by
  cases h' : l.any p with
  | true => rfl
  | false => have := fi_neg.2 h'; omega
 have hx : ∃ x, x ∈ l ∧ p x = true := List.any_eq_true.1 ha
 have hlt : l.findIdx p < l.length := List.findIdx_lt_length.2 hx
 refine ⟨l.findIdx p, hlt, by unfold fi; rw [ha]; rfl, List.findIdx_getElem (w := hlt), fun k hk => ?_⟩
 have := List.not_of_lt_findIdx hk
 simpa using this
section
variable {N : Nat} {f : List Int}
theorem s_IndexFuncC {l : List Clause} {g : Clause → Option Bool} {p : Clause → Bool} (hg : ∀ c, c ∈ l → g c = some (p c)) (h : FitL N l) : slices_IndexFunc_api_Clause_api_Clause N l g = some (fi p l) := by
 unfold slices_IndexFunc_api_Clause_api_Clause fi
 rw [iter_first l p (fun i => (i : Int)) (fun i hi => by
  unfold slices_IndexFunc_api_Clause_api_Clause_L0
  rw [lt_t hi, cond_true, idx_nat hi, Option.bind_some, hg _ (List.getElem_mem hi), Option.bind_some]) (by unfold slices_IndexFunc_api_Clause_api_Clause_L0; rw [lt_f, cond_false]) h.n h.w]
 cases l.any p <;> rfl
theorem all_any {α : Type} {l : List α} {p : α → Bool} : l.all p = !(l.any fun x => !p x) := by
 rw [List.not_any_eq_all_not]; congr 1; funext n; simp
theorem s_rclauses {l : List Clause} (h : FitL N l) : ref06_clauses N l = some ((l.findIdx fun c => !sndC c : Nat) : Int) := by
 unfold ref06_clauses
 rw [iter_first l (fun c => !sndC c) (fun i => (i : Int)) (fun i hi => by
  unfold ref06_clauses_L0
  rw [lt_t hi, cond_true, idx_nat hi, Option.bind_some, s_clause (h.c _ (List.getElem_mem hi)), Option.bind_some]) (by unfold ref06_clauses_L0; rw [lt_f, cond_false]) h.n h.w]
 cases ha : l.any fun c => !sndC c with
 | true => rfl
 | false =>
  rw [List.findIdx_eq_length.2 (fun x hx => by
   rw [List.any_eq_false] at ha; have := ha x hx; simpa using this)]
  rfl
def isT (f : List Int) (c : Clause) : Bool := val f c.When == 1
theorem s_first (hf : fac f = true) {l : List Clause} (h : FitL N l) (hs : ∀ c, c ∈ l → sndC c = true) : rules_first N l f = some (fi (isT f) l) := by
 unfold rules_first
 rw [s_IndexFuncC (p := isT f) (fun c hc => by
  show rules_first_1 N c f = _
  unfold rules_first_1
  rw [s_value hf (h.c c hc).1 (by rw [sndC_w (hs c hc)]; decide)]; rfl) h]
 rfl
theorem s_rfirst (hf : fac f = true) {l : List Clause} (h : FitL N l) (hs : ∀ c, c ∈ l → sndC c = true) : ref06_first N l f = some (fi (isT f) l) := by
 unfold ref06_first fi
 rw [iter_first l (isT f) (fun i => (i : Int)) (fun i hi => by
  unfold ref06_first_L0
  rw [lt_t hi, cond_true, idx_nat hi, Option.bind_some, s_rvalue hf (h.c _ (List.getElem_mem hi)).1 (by rw [sndC_w (hs _ (List.getElem_mem hi))]; decide), Option.bind_some]; rfl) (by unfold ref06_first_L0; rw [lt_f, cond_false]) h.n h.w]
 cases l.any (isT f) <;> rfl
noncomputable def wt (l : List Clause) : Int := l.foldl (fun s c => W64 (s + W64 (nd c.When + nd c.Then))) (l.length : Int)
theorem s_weight {l : List Clause} (h : FitL N l) : law06_weight N l = some (wt l) := by
 unfold law06_weight wt
 rw [iter_fold l (fun c => (law06_nodes N c.When).bind fun r78 => ((law06_nodes N c.Then).bind fun r86 => some (W64 (r78 + r86)))) (fun c => W64 (nd c.When + nd c.Then)) (fun s r => W64 (s + r)) (fun c hc => by rw [s_nodes (h.c c hc).1, Option.bind_some, s_nodes (h.c c hc).2]; rfl) (fun s i => by
  unfold law06_weight_L0
  simp only
  cases decide (i < (l.length : Int)) with
  | false => rfl
  | true =>
   rw [cond_true, cond_true]
   cases idx l i with
   | none => rfl
   | some c =>
    simp only [Option.bind_some]
    cases law06_nodes N c.When with
    | none => rfl
    | some a =>
     simp only [Option.bind_some]
     cases law06_nodes N c.Then <;> rfl) h.n h.w]
 rfl
noncomputable def lightS (b : Book) : Bool := decide (b.Repeats.foldl (fun s e => W64 (s + nd e)) (W64 (W64 (wt b.Points + wt b.Multipliers) + wt b.Penalties)) ≤ 2000)
theorem s_light {b : Book} (h : FitB N b) : law06_light N b = some (lightS b) := by
 unfold law06_light lightS
 rw [s_weight h.p, Option.bind_some, s_weight h.m, Option.bind_some, s_weight h.e, Option.bind_some, Option.bind_some]
 rw [iter_fold b.Repeats (fun e => law06_nodes N e) nd (fun s r => W64 (s + r)) (fun e he => s_nodes (h.r.c e he)) (fun s i => rfl) h.r.n h.r.w]
 rfl
end
section
variable {N : Nat} {f : List Int}
noncomputable def chk (b : Book) : Int × Int :=
 if b.Points.length > 64 ∨ b.Multipliers.length > 64 ∨ b.Penalties.length > 64 ∨ b.Repeats.length > 64 then (2, 0)
 else if (b.Points ++ b.Multipliers ++ b.Penalties).any (fun c => !sndC c) then (62, ((b.Points ++ b.Multipliers ++ b.Penalties).findIdx (fun c => !sndC c) : Int) + 1)
 else if b.Repeats.any (fun e => !sndT e 1) then (62, ((b.Points ++ b.Multipliers ++ b.Penalties).length : Int) + (b.Repeats.findIdx (fun e => !sndT e 1) : Int) + 1)
 else (0, 0)
theorem s_Concat (hN : 1000 < N) {a b c : List Clause} (ha : a.length ≤ 64) (hb : b.length ≤ 64) (hc : c.length ≤ 64) : slices_Concat_api_Clause_api_Clause N [a, b, c] = some (a ++ b ++ c) := by
 obtain ⟨m, rfl⟩ : ∃ m, N = m + 4 := ⟨N - 4, by omega⟩
 unfold slices_Concat_api_Clause_api_Clause
 have h1 : iter (slices_Concat_api_Clause_api_Clause_L0 (m + 4) [a, b, c]) (m + 4) (0, 0) = some (.done (((a.length + b.length + c.length : Nat) : Int), 3)) := by
  have st : ∀ (n k : Nat) (x : List Clause), n ≤ 1000 → x.length ≤ 64 → k < 3 → [a, b, c][k]? = some x → slices_Concat_api_Clause_api_Clause_L0 (m + 4) [a, b, c] ((n : Int), (k : Int)) = some (.next (((n + x.length : Nat) : Int), ((k + 1 : Nat) : Int))) := by
   intro n k x hn hx hk hg
   unfold slices_Concat_api_Clause_api_Clause_L0
   simp only
   rw [show ([a, b, c].length : Int) = ((3 : Nat) : Int) from rfl, lt_t hk, cond_true, idx_nat', hg, Option.bind_some]
   have e : W64 ((n : Int) + (x.length : Int)) = ((n + x.length : Nat) : Int) := by rw [← Int.natCast_add, W64_nat (by omega)]
   rw [e, decide_eq_false (by omega), cond_false, W64_succ (by omega)]
  rw [iter, show ((0 : Int), (0 : Int)) = (((0 : Nat) : Int), ((0 : Nat) : Int)) from rfl, st 0 0 a (by omega) ha (by omega) rfl]
  simp only
  rw [iter, st _ 1 b (by omega) hb (by omega) rfl]
  simp only
  rw [iter, st _ 2 c (by omega) hc (by omega) rfl]
  simp only
  rw [iter]
  unfold slices_Concat_api_Clause_api_Clause_L0
  simp only
  rw [show ([a, b, c].length : Int) = ((2 + 1 : Nat) : Int) from rfl, lt_f, cond_false]
  simp only [Nat.zero_add]
  rfl
 rw [h1]
 have h2 : slices_Grow_api_Clause_api_Clause (m + 4) ((a.length + b.length + c.length : Nat) : Int) = some [] := by
  unfold slices_Grow_api_Clause_api_Clause
  rw [decide_eq_false (by omega), cond_false]
  have e0 : W64 (0 - (([] : List Clause).length : Int)) = 0 := rfl
  rw [e0, Int.sub_zero, W64_nat (by omega)]
  by_cases h0 : (0 : Int) < ((a.length + b.length + c.length : Nat) : Int)
  ·rw [decide_eq_true h0, cond_true]
   unfold mk0
   rw [if_pos ⟨by omega, by omega⟩]
   simp [sub]
  ·rw [decide_eq_false (by omega), cond_false]
 simp only [Flow.k, Option.bind_some]
 rw [h2, Option.bind_some]
 have st : ∀ (s : List Clause) (k : Nat) (x : List Clause), s.length ≤ 1000 → x.length ≤ 64 → k < 3 → [a, b, c][k]? = some x → slices_Concat_api_Clause_api_Clause_L1 (m + 4) [a, b, c] (((a.length + b.length + c.length : Nat) : Int), 3) [] (s, (k : Int)) = some (.next (s ++ x, ((k + 1 : Nat) : Int))) := by
  intro s k x hn hx hk hg
  unfold slices_Concat_api_Clause_api_Clause_L1
  simp only
  rw [show ([a, b, c].length : Int) = ((3 : Nat) : Int) from rfl, lt_t hk, cond_true, idx_nat', hg, Option.bind_some, apnd_ok (by omega), Option.bind_some, W64_succ (by omega)]
 rw [iter, show (([] : List Clause), (0 : Int)) = (([] : List Clause), ((0 : Nat) : Int)) from rfl, st [] 0 a (by simp) ha (by omega) rfl]
 simp only
 rw [iter, st _ 1 b (by simp; omega) hb (by omega) rfl]
 simp only
 rw [iter, st _ 2 c (by simp; omega) hc (by omega) rfl]
 simp only
 rw [iter]
 unfold slices_Concat_api_Clause_api_Clause_L1
 simp only
 rw [show ([a, b, c].length : Int) = ((2 + 1 : Nat) : Int) from rfl, lt_f, cond_false]
 simp only [Option.bind_some, List.nil_append]
end
end Go.Proofs.YtaihlcdkcampbaaGreatDoor
namespace Go.Proofs.YtaihlcdkcampbaaGreatDoor
theorem fit_ex {x : Expr} (h : qExpr x) : ∃ n0, ∀ N, n0 ≤ N → Fit N x := by
 obtain ⟨n, hn⟩ := h
 exact ⟨3518437208781 + (2 * n + 10), fun N hN => ⟨n, hn.wide (by omega), by omega⟩⟩
theorem fit_all {α : Type} {P : Nat → α → Prop} : ∀ {l : List α}, (∀ x, x ∈ l → ∃ n0, ∀ N, n0 ≤ N → P N x) → ∃ n0, ∀ N, n0 ≤ N → ∀ x, x ∈ l → P N x
 | [], _ => ⟨0, fun _ _ x hx => by cases hx⟩
 | a :: l, h => by
  obtain ⟨n, hn⟩ := h a (List.mem_cons_self ..)
  obtain ⟨m, hm⟩ := fit_all fun x hx => h x (List.mem_cons_of_mem _ hx)
  refine ⟨n + m, fun N hN x hx => ?_⟩
  rcases List.mem_cons.1 hx with rfl | hx
  ·exact hn N (by omega)
  ·exact hm N (by omega) x hx
theorem fitL_ex {l : List Clause} (h : l.length < 9223372036854775808 ∧ ∀ c, c ∈ l → qClause c) : ∃ n0, ∀ N, n0 ≤ N → FitL N l := by
 obtain ⟨n, hn⟩ := fit_all (P := FitC) (l := l) (fun c hc => by
  obtain ⟨a, ha⟩ := fit_ex (h.2 c hc).1
  obtain ⟨b, hb⟩ := fit_ex (h.2 c hc).2
  exact ⟨a + b, fun N hN => ⟨ha N (by omega), hb N (by omega)⟩⟩)
 exact ⟨n + l.length + 1, fun N hN => ⟨by omega, h.1, hn N (by omega)⟩⟩
theorem fitX_ex {l : List Expr} (h : l.length < 9223372036854775808 ∧ ∀ c, c ∈ l → qExpr c) : ∃ n0, ∀ N, n0 ≤ N → FitX N l := by
 obtain ⟨n, hn⟩ := fit_all (P := Fit) (l := l) (fun c hc => fit_ex (h.2 c hc))
 exact ⟨n + l.length + 1, fun N hN => ⟨by omega, h.1, hn N (by omega)⟩⟩
theorem fitB_ex {b : Book} (h : qBook b) : ∃ n0, ∀ N, n0 ≤ N → FitB N b := by
 obtain ⟨h1, h2, h3, h4⟩ := h
 obtain ⟨a, ha⟩ := fitL_ex h1
 obtain ⟨b, hb⟩ := fitL_ex h2
 obtain ⟨c, hc⟩ := fitL_ex h3
 obtain ⟨d, hd⟩ := fitX_ex h4
 exact ⟨a + b + c + d, fun N hN => ⟨ha N (by omega), hb N (by omega), hc N (by omega), hd N (by omega)⟩⟩
end Go.Proofs.YtaihlcdkcampbaaGreatDoor
namespace Go.Proofs.YtaihlcdkcampbaaGreatDoor
open Go.Proofs
def rules_Points (N : Nat) (x0 : Book) (x1 : (List Int)) : Option (Int × Int) :=
 ((rules_wrong N x0 x1).bind fun r24 => (bif (r24 != 0) then some (0, r24) else ((rules_first N x0.Points x1).bind fun r35 => (bif (decide (r35 < 0)) then some (0, 70) else ((idx x0.Points r35).bind fun x46 => ((rules_value N x46.Then x1).bind fun r60 => some (r60, 0)))))))
theorem co_rules_Points : CallOk Tryz.prog 41 := fun _ _ => by kernel_rfl
theorem c_rules_Points (N : Nat) (w0 : World) (F0 : Mem) (hF : ∀ b o, F0 b = some o → w0.heap[b]? = some o) (x0 : Book) (a0_0 : Option Addr) (n0_0 : Nat) (hb0_0 : LC x0.Points.length n0_0) (hs0_0 : SlA tClause F0 a0_0 x0.Points) (a0_1 : Option Addr) (n0_1 : Nat) (hb0_1 : LC x0.Multipliers.length n0_1) (hs0_1 : SlA tClause F0 a0_1 x0.Multipliers) (a0_2 : Option Addr) (n0_2 : Nat) (hb0_2 : LC x0.Penalties.length n0_2) (hs0_2 : SlA tClause F0 a0_2 x0.Penalties) (a0_3 : Option Addr) (n0_3 : Nat) (hb0_3 : LC x0.Repeats.length n0_3) (hs0_3 : SlA tExpr F0 a0_3 x0.Repeats) (x1 : (List Int)) (a1_0 : Option Addr) (n1_0 : Nat) (hb1_0 : LC x1.length n1_0) (hs1_0 : SlA tInt F0 a1_0 x1) (r : (Int × Int)) (h : rules_Points N x0 x1 = some r) :
  Calls Tryz.prog 41 ([(.agg (kBook x0 a0_0 n0_0 a0_1 n0_1 a0_2 n0_2 a0_3 n0_3)), (.slice a1_0 x1.length n1_0)] : List Value).toArray w0 (FRet w0 F0 fun F' v => v = (.tuple #[(vi r.1), (vi r.2)])) := by
 have hs0 := HS.start hF
 refine Go 28 Tryz.func41 ?_
 refine Sq (Rg [0, 1, 2] ?_)
 refine Bx' 26 (kBook x0 a0_0 n0_0 a0_1 n0_1 a0_2 n0_2 a0_3 n0_3) hs0 (fun b21 w22 hs23 => ?_)
 refine Vs 2 ?_
 refine Nss ?_
 refine Sq (Rg [0, 1, 2, 3] ?_)
 refine Ld hs23.at0 ?_
 refine Vs 1 ?_
 obtain ⟨r24, hr25, h26⟩ := bind_some h
 refine Cl' co_rules_wrong hs23 (c_rules_wrong N w22 F0 hs23.pers (x0) a0_0 n0_0 hb0_0 hs0_0 a0_1 n0_1 hb0_1 hs0_1 a0_2 n0_2 hb0_2 hs0_2 a0_3 n0_3 hb0_3 hs0_3 (x1) a1_0 n1_0 hb1_0 hs1_0 _ hr25) ?_
 rintro _ F1 w28 hs29 le30 rfl
 refine Vs 1 ?_
 refine Nss (Rg [0, 1] ?_)
 refine Vs 2 ?_
 refine Nt ?_
 refine Cd h26 (fun hb32 h33 => ?_) (fun hb32 h34 => ?_)
 ·refine Sq (Rg [0, 1, 2] ?_)
  refine Vs 3 ?_
  refine Nt ?_
  refine Rt ?_
  refine thenQ_ret ?_
  obtain rfl := some_inj h33
  exact Re [(vi 0), (vi r24)] hs29 rfl
 ·refine Sc ?_
  refine thenQ_nrm ?_
  refine Sq (Rg [0, 1, 2, 3, 4] ?_)
  refine Vs 1 ?_
  refine Ld hs29.at0 ?_
  refine Vs 1 ?_
  obtain ⟨r35, hr36, h37⟩ := bind_some h34
  refine Cl' co_rules_first hs29 (c_rules_first N w28 F1 hs29.pers (x0.Points) a0_0 n0_0 hb0_0 (SlA.mono hs0_0 le30) (x1) a1_0 n1_0 hb1_0 (SlA.mono hs1_0 le30) _ hr36) ?_
  rintro _ F2 w39 hs40 le41 rfl
  refine Vs 1 ?_
  refine Nss ?_
  refine Sq (Rg [0, 1] ?_)
  refine Vs 2 ?_
  refine Nt ?_
  refine Cd h37 (fun hb43 h44 => ?_) (fun hb43 h45 => ?_)
  ·refine Sq (Rg [0, 1] ?_)
   refine Vs 2 ?_
   refine Nt ?_
   refine Rt ?_
   refine thenQ_ret ?_
   obtain rfl := some_inj h44
   exact Re [(vi 0), (vi 70)] hs40 rfl
  ·refine Sc ?_
   refine thenQ_nrm ?_
   refine Sq (Rg [0, 1, 2, 3, 4, 5, 6, 7, 8, 9] ?_)
   refine Vs 1 ?_
   refine Ld hs40.at0 ?_
   refine Vs 1 ?_
   obtain ⟨x46, hx47, h49⟩ := bind_some h45
   obtain ⟨hi48, hx47'⟩ := idx_spec hx47
   obtain ⟨b50, o51, C52, E53, fz54, rfl, hF56, hE57⟩ := SlA.open (SlA.mono hs0_0 (le30.trans le41)) hx47'
   obtain ⟨ae58_2, ne58_2, ae58_5, ne58_5, hc59, hbe58_2, hse58_2, hbe58_5, hse58_5⟩ := hE57 _ _ hx47'
   refine Ix hi48 ?_
   refine Vs 1 ?_
   refine Lx 3 (hs40.pers _ _ hF56) hc59 ?_
   refine Vs 1 ?_
   obtain ⟨r60, hr61, h62⟩ := bind_some h49
   refine Cl' co_rules_value hs40 (c_rules_value N w39 F2 hs40.pers (x46.Then) ae58_5 ne58_5 hbe58_5 hse58_5 (x1) a1_0 n1_0 hb1_0 (SlA.mono hs1_0 (le30.trans le41)) _ hr61) ?_
   rintro _ F3 w64 hs65 le66 rfl
   refine Vs 2 ?_
   refine Nt ?_
   refine Rt ?_
   obtain rfl := some_inj h62
   exact Re [(vi r60), (vi 0)] hs65 rfl
end Go.Proofs.YtaihlcdkcampbaaGreatDoor
namespace Go.Proofs.YtaihlcdkcampbaaGreatDoor
open Go.Proofs
def ref06_Points (N : Nat) (x0 : Book) (x1 : (List Int)) : Option (Int × Int) :=
 ((ref06_applied N x0 x1).bind fun r24 => (bif (r24 != 0) then some (0, r24) else ((ref06_first N x0.Points x1).bind fun r35 => (bif (decide (r35 < 0)) then some (0, 70) else ((idx x0.Points r35).bind fun x46 => ((ref06_value N x46.Then x1).bind fun r60 => some (r60, 0)))))))
theorem co_ref06_Points : CallOk Tryz.prog 42 := fun _ _ => by kernel_rfl
theorem c_ref06_Points (N : Nat) (w0 : World) (F0 : Mem) (hF : ∀ b o, F0 b = some o → w0.heap[b]? = some o) (x0 : Book) (a0_0 : Option Addr) (n0_0 : Nat) (hb0_0 : LC x0.Points.length n0_0) (hs0_0 : SlA tClause F0 a0_0 x0.Points) (a0_1 : Option Addr) (n0_1 : Nat) (hb0_1 : LC x0.Multipliers.length n0_1) (hs0_1 : SlA tClause F0 a0_1 x0.Multipliers) (a0_2 : Option Addr) (n0_2 : Nat) (hb0_2 : LC x0.Penalties.length n0_2) (hs0_2 : SlA tClause F0 a0_2 x0.Penalties) (a0_3 : Option Addr) (n0_3 : Nat) (hb0_3 : LC x0.Repeats.length n0_3) (hs0_3 : SlA tExpr F0 a0_3 x0.Repeats) (x1 : (List Int)) (a1_0 : Option Addr) (n1_0 : Nat) (hb1_0 : LC x1.length n1_0) (hs1_0 : SlA tInt F0 a1_0 x1) (r : (Int × Int)) (h : ref06_Points N x0 x1 = some r) :
  Calls Tryz.prog 42 ([(.agg (kBook x0 a0_0 n0_0 a0_1 n0_1 a0_2 n0_2 a0_3 n0_3)), (.slice a1_0 x1.length n1_0)] : List Value).toArray w0 (FRet w0 F0 fun F' v => v = (.tuple #[(vi r.1), (vi r.2)])) := by
 have hs0 := HS.start hF
 refine Go 28 Tryz.func42 ?_
 refine Sq (Rg [0, 1, 2] ?_)
 refine Bx' 26 (kBook x0 a0_0 n0_0 a0_1 n0_1 a0_2 n0_2 a0_3 n0_3) hs0 (fun b21 w22 hs23 => ?_)
 refine Vs 2 ?_
 refine Nss (Rg [0, 1, 2, 3] ?_)
 refine Ld hs23.at0 ?_
 refine Vs 1 ?_
 obtain ⟨r24, hr25, h26⟩ := bind_some h
 refine Cl' co_ref06_applied hs23 (c_ref06_applied N w22 F0 hs23.pers (x0) a0_0 n0_0 hb0_0 hs0_0 a0_1 n0_1 hb0_1 hs0_1 a0_2 n0_2 hb0_2 hs0_2 a0_3 n0_3 hb0_3 hs0_3 (x1) a1_0 n1_0 hb1_0 hs1_0 _ hr25) ?_
 rintro _ F1 w28 hs29 le30 rfl
 refine Vs 1 ?_
 refine Nss ?_
 refine Sq (Rg [0, 1] ?_)
 refine Vs 2 ?_
 refine Nt ?_
 refine Cd h26 (fun hb32 h33 => ?_) (fun hb32 h34 => ?_)
 ·refine Sq (Rg [0, 1, 2] ?_)
  refine Vs 3 ?_
  refine Nt ?_
  refine Rt ?_
  refine thenQ_ret ?_
  obtain rfl := some_inj h33
  exact Re [(vi 0), (vi r24)] hs29 rfl
 ·refine Sc ?_
  refine thenQ_nrm ?_
  refine Sq (Rg [0, 1, 2, 3, 4] ?_)
  refine Vs 1 ?_
  refine Ld hs29.at0 ?_
  refine Vs 1 ?_
  obtain ⟨r35, hr36, h37⟩ := bind_some h34
  refine Cl' co_ref06_first hs29 (c_ref06_first N w28 F1 hs29.pers (x0.Points) a0_0 n0_0 hb0_0 (SlA.mono hs0_0 le30) (x1) a1_0 n1_0 hb1_0 (SlA.mono hs1_0 le30) _ hr36) ?_
  rintro _ F2 w39 hs40 le41 rfl
  refine Vs 1 ?_
  refine Nss ?_
  refine Sq (Rg [0, 1] ?_)
  refine Vs 2 ?_
  refine Nt ?_
  refine Cd h37 (fun hb43 h44 => ?_) (fun hb43 h45 => ?_)
  ·refine Sq (Rg [0, 1] ?_)
   refine Vs 2 ?_
   refine Nt ?_
   refine Rt ?_
   refine thenQ_ret ?_
   obtain rfl := some_inj h44
   exact Re [(vi 0), (vi 70)] hs40 rfl
  ·refine Sc ?_
   refine thenQ_nrm ?_
   refine Sq (Rg [0, 1, 2, 3, 4, 5, 6, 7, 8, 9] ?_)
   refine Vs 1 ?_
   refine Ld hs40.at0 ?_
   refine Vs 1 ?_
   obtain ⟨x46, hx47, h49⟩ := bind_some h45
   obtain ⟨hi48, hx47'⟩ := idx_spec hx47
   obtain ⟨b50, o51, C52, E53, fz54, rfl, hF56, hE57⟩ := SlA.open (SlA.mono hs0_0 (le30.trans le41)) hx47'
   obtain ⟨ae58_2, ne58_2, ae58_5, ne58_5, hc59, hbe58_2, hse58_2, hbe58_5, hse58_5⟩ := hE57 _ _ hx47'
   refine Ix hi48 ?_
   refine Vs 1 ?_
   refine Lx 3 (hs40.pers _ _ hF56) hc59 ?_
   refine Vs 1 ?_
   obtain ⟨r60, hr61, h62⟩ := bind_some h49
   refine Cl' co_ref06_value hs40 (c_ref06_value N w39 F2 hs40.pers (x46.Then) ae58_5 ne58_5 hbe58_5 hse58_5 (x1) a1_0 n1_0 hb1_0 (SlA.mono hs1_0 (le30.trans le41)) _ hr61) ?_
   rintro _ F3 w64 hs65 le66 rfl
   refine Vs 2 ?_
   refine Nt ?_
   refine Rt ?_
   obtain rfl := some_inj h62
   exact Re [(vi r60), (vi 0)] hs65 rfl
end Go.Proofs.YtaihlcdkcampbaaGreatDoor
namespace Go.Proofs.YtaihlcdkcampbaaGreatDoor
open Go.Proofs
def rules_Penalty (N : Nat) (x0 : Book) (x1 : (List Int)) : Option (Int × Int) :=
 ((rules_wrong N x0 x1).bind fun r24 => (bif (r24 != 0) then some (0, r24) else ((rules_first N x0.Penalties x1).bind fun r35 => (bif (decide (r35 < 0)) then some (0, 0) else ((idx x0.Penalties r35).bind fun x46 => ((rules_value N x46.Then x1).bind fun r60 => some (r60, 0)))))))
theorem co_rules_Penalty : CallOk Tryz.prog 43 := fun _ _ => by kernel_rfl
theorem c_rules_Penalty (N : Nat) (w0 : World) (F0 : Mem) (hF : ∀ b o, F0 b = some o → w0.heap[b]? = some o) (x0 : Book) (a0_0 : Option Addr) (n0_0 : Nat) (hb0_0 : LC x0.Points.length n0_0) (hs0_0 : SlA tClause F0 a0_0 x0.Points) (a0_1 : Option Addr) (n0_1 : Nat) (hb0_1 : LC x0.Multipliers.length n0_1) (hs0_1 : SlA tClause F0 a0_1 x0.Multipliers) (a0_2 : Option Addr) (n0_2 : Nat) (hb0_2 : LC x0.Penalties.length n0_2) (hs0_2 : SlA tClause F0 a0_2 x0.Penalties) (a0_3 : Option Addr) (n0_3 : Nat) (hb0_3 : LC x0.Repeats.length n0_3) (hs0_3 : SlA tExpr F0 a0_3 x0.Repeats) (x1 : (List Int)) (a1_0 : Option Addr) (n1_0 : Nat) (hb1_0 : LC x1.length n1_0) (hs1_0 : SlA tInt F0 a1_0 x1) (r : (Int × Int)) (h : rules_Penalty N x0 x1 = some r) :
  Calls Tryz.prog 43 ([(.agg (kBook x0 a0_0 n0_0 a0_1 n0_1 a0_2 n0_2 a0_3 n0_3)), (.slice a1_0 x1.length n1_0)] : List Value).toArray w0 (FRet w0 F0 fun F' v => v = (.tuple #[(vi r.1), (vi r.2)])) := by
 have hs0 := HS.start hF
 refine Go 28 Tryz.func43 ?_
 refine Sq (Rg [0, 1, 2] ?_)
 refine Bx' 26 (kBook x0 a0_0 n0_0 a0_1 n0_1 a0_2 n0_2 a0_3 n0_3) hs0 (fun b21 w22 hs23 => ?_)
 refine Vs 2 ?_
 refine Nss ?_
 refine Sq (Rg [0, 1, 2, 3] ?_)
 refine Ld hs23.at0 ?_
 refine Vs 1 ?_
 obtain ⟨r24, hr25, h26⟩ := bind_some h
 refine Cl' co_rules_wrong hs23 (c_rules_wrong N w22 F0 hs23.pers (x0) a0_0 n0_0 hb0_0 hs0_0 a0_1 n0_1 hb0_1 hs0_1 a0_2 n0_2 hb0_2 hs0_2 a0_3 n0_3 hb0_3 hs0_3 (x1) a1_0 n1_0 hb1_0 hs1_0 _ hr25) ?_
 rintro _ F1 w28 hs29 le30 rfl
 refine Vs 1 ?_
 refine Nss (Rg [0, 1] ?_)
 refine Vs 2 ?_
 refine Nt ?_
 refine Cd h26 (fun hb32 h33 => ?_) (fun hb32 h34 => ?_)
 ·refine Sq (Rg [0, 1, 2] ?_)
  refine Vs 3 ?_
  refine Nt ?_
  refine Rt ?_
  refine thenQ_ret ?_
  obtain rfl := some_inj h33
  exact Re [(vi 0), (vi r24)] hs29 rfl
 ·refine Sc ?_
  refine thenQ_nrm ?_
  refine Sq (Rg [0, 1, 2, 3, 4] ?_)
  refine Vs 1 ?_
  refine Ld hs29.at0 ?_
  refine Vs 1 ?_
  obtain ⟨r35, hr36, h37⟩ := bind_some h34
  refine Cl' co_rules_first hs29 (c_rules_first N w28 F1 hs29.pers (x0.Penalties) a0_2 n0_2 hb0_2 (SlA.mono hs0_2 le30) (x1) a1_0 n1_0 hb1_0 (SlA.mono hs1_0 le30) _ hr36) ?_
  rintro _ F2 w39 hs40 le41 rfl
  refine Vs 1 ?_
  refine Nss ?_
  refine Sq (Rg [0, 1] ?_)
  refine Vs 2 ?_
  refine Nt ?_
  refine Cd h37 (fun hb43 h44 => ?_) (fun hb43 h45 => ?_)
  ·refine Sq (Rg [0, 1] ?_)
   refine Vs 2 ?_
   refine Nt ?_
   refine Rt ?_
   refine thenQ_ret ?_
   obtain rfl := some_inj h44
   exact Re [(vi 0), (vi 0)] hs40 rfl
  ·refine Sc ?_
   refine thenQ_nrm ?_
   refine Sq (Rg [0, 1, 2, 3, 4, 5, 6, 7, 8, 9] ?_)
   refine Vs 1 ?_
   refine Ld hs40.at0 ?_
   refine Vs 1 ?_
   obtain ⟨x46, hx47, h49⟩ := bind_some h45
   obtain ⟨hi48, hx47'⟩ := idx_spec hx47
   obtain ⟨b50, o51, C52, E53, fz54, rfl, hF56, hE57⟩ := SlA.open (SlA.mono hs0_2 (le30.trans le41)) hx47'
   obtain ⟨ae58_2, ne58_2, ae58_5, ne58_5, hc59, hbe58_2, hse58_2, hbe58_5, hse58_5⟩ := hE57 _ _ hx47'
   refine Ix hi48 ?_
   refine Vs 1 ?_
   refine Lx 3 (hs40.pers _ _ hF56) hc59 ?_
   refine Vs 1 ?_
   obtain ⟨r60, hr61, h62⟩ := bind_some h49
   refine Cl' co_rules_value hs40 (c_rules_value N w39 F2 hs40.pers (x46.Then) ae58_5 ne58_5 hbe58_5 hse58_5 (x1) a1_0 n1_0 hb1_0 (SlA.mono hs1_0 (le30.trans le41)) _ hr61) ?_
   rintro _ F3 w64 hs65 le66 rfl
   refine Vs 2 ?_
   refine Nt ?_
   refine Rt ?_
   obtain rfl := some_inj h62
   exact Re [(vi r60), (vi 0)] hs65 rfl
end Go.Proofs.YtaihlcdkcampbaaGreatDoor
namespace Go.Proofs.YtaihlcdkcampbaaGreatDoor
open Go.Proofs
def ref06_Penalty (N : Nat) (x0 : Book) (x1 : (List Int)) : Option (Int × Int) :=
 ((ref06_applied N x0 x1).bind fun r24 => (bif (r24 != 0) then some (0, r24) else ((ref06_first N x0.Penalties x1).bind fun r35 => (bif (decide (r35 < 0)) then some (0, 0) else ((idx x0.Penalties r35).bind fun x46 => ((ref06_value N x46.Then x1).bind fun r60 => some (r60, 0)))))))
theorem co_ref06_Penalty : CallOk Tryz.prog 44 := fun _ _ => by kernel_rfl
theorem c_ref06_Penalty (N : Nat) (w0 : World) (F0 : Mem) (hF : ∀ b o, F0 b = some o → w0.heap[b]? = some o) (x0 : Book) (a0_0 : Option Addr) (n0_0 : Nat) (hb0_0 : LC x0.Points.length n0_0) (hs0_0 : SlA tClause F0 a0_0 x0.Points) (a0_1 : Option Addr) (n0_1 : Nat) (hb0_1 : LC x0.Multipliers.length n0_1) (hs0_1 : SlA tClause F0 a0_1 x0.Multipliers) (a0_2 : Option Addr) (n0_2 : Nat) (hb0_2 : LC x0.Penalties.length n0_2) (hs0_2 : SlA tClause F0 a0_2 x0.Penalties) (a0_3 : Option Addr) (n0_3 : Nat) (hb0_3 : LC x0.Repeats.length n0_3) (hs0_3 : SlA tExpr F0 a0_3 x0.Repeats) (x1 : (List Int)) (a1_0 : Option Addr) (n1_0 : Nat) (hb1_0 : LC x1.length n1_0) (hs1_0 : SlA tInt F0 a1_0 x1) (r : (Int × Int)) (h : ref06_Penalty N x0 x1 = some r) :
  Calls Tryz.prog 44 ([(.agg (kBook x0 a0_0 n0_0 a0_1 n0_1 a0_2 n0_2 a0_3 n0_3)), (.slice a1_0 x1.length n1_0)] : List Value).toArray w0 (FRet w0 F0 fun F' v => v = (.tuple #[(vi r.1), (vi r.2)])) := by
 have hs0 := HS.start hF
 refine Go 28 Tryz.func44 ?_
 refine Sq (Rg [0, 1, 2] ?_)
 refine Bx' 26 (kBook x0 a0_0 n0_0 a0_1 n0_1 a0_2 n0_2 a0_3 n0_3) hs0 (fun b21 w22 hs23 => ?_)
 refine Vs 2 ?_
 refine Nss (Rg [0, 1, 2, 3] ?_)
 refine Ld hs23.at0 ?_
 refine Vs 1 ?_
 obtain ⟨r24, hr25, h26⟩ := bind_some h
 refine Cl' co_ref06_applied hs23 (c_ref06_applied N w22 F0 hs23.pers (x0) a0_0 n0_0 hb0_0 hs0_0 a0_1 n0_1 hb0_1 hs0_1 a0_2 n0_2 hb0_2 hs0_2 a0_3 n0_3 hb0_3 hs0_3 (x1) a1_0 n1_0 hb1_0 hs1_0 _ hr25) ?_
 rintro _ F1 w28 hs29 le30 rfl
 refine Vs 1 ?_
 refine Nss ?_
 refine Sq (Rg [0, 1] ?_)
 refine Vs 2 ?_
 refine Nt ?_
 refine Cd h26 (fun hb32 h33 => ?_) (fun hb32 h34 => ?_)
 ·refine Sq (Rg [0, 1, 2] ?_)
  refine Vs 3 ?_
  refine Nt ?_
  refine Rt ?_
  refine thenQ_ret ?_
  obtain rfl := some_inj h33
  exact Re [(vi 0), (vi r24)] hs29 rfl
 ·refine Sc ?_
  refine thenQ_nrm ?_
  refine Sq (Rg [0, 1, 2, 3, 4] ?_)
  refine Vs 1 ?_
  refine Ld hs29.at0 ?_
  refine Vs 1 ?_
  obtain ⟨r35, hr36, h37⟩ := bind_some h34
  refine Cl' co_ref06_first hs29 (c_ref06_first N w28 F1 hs29.pers (x0.Penalties) a0_2 n0_2 hb0_2 (SlA.mono hs0_2 le30) (x1) a1_0 n1_0 hb1_0 (SlA.mono hs1_0 le30) _ hr36) ?_
  rintro _ F2 w39 hs40 le41 rfl
  refine Vs 1 ?_
  refine Nss ?_
  refine Sq (Rg [0, 1] ?_)
  refine Vs 2 ?_
  refine Nt ?_
  refine Cd h37 (fun hb43 h44 => ?_) (fun hb43 h45 => ?_)
  ·refine Sq (Rg [0, 1] ?_)
   refine Vs 2 ?_
   refine Nt ?_
   refine Rt ?_
   refine thenQ_ret ?_
   obtain rfl := some_inj h44
   exact Re [(vi 0), (vi 0)] hs40 rfl
  ·refine Sc ?_
   refine thenQ_nrm ?_
   refine Sq (Rg [0, 1, 2, 3, 4, 5, 6, 7, 8, 9] ?_)
   refine Vs 1 ?_
   refine Ld hs40.at0 ?_
   refine Vs 1 ?_
   obtain ⟨x46, hx47, h49⟩ := bind_some h45
   obtain ⟨hi48, hx47'⟩ := idx_spec hx47
   obtain ⟨b50, o51, C52, E53, fz54, rfl, hF56, hE57⟩ := SlA.open (SlA.mono hs0_2 (le30.trans le41)) hx47'
   obtain ⟨ae58_2, ne58_2, ae58_5, ne58_5, hc59, hbe58_2, hse58_2, hbe58_5, hse58_5⟩ := hE57 _ _ hx47'
   refine Ix hi48 ?_
   refine Vs 1 ?_
   refine Lx 3 (hs40.pers _ _ hF56) hc59 ?_
   refine Vs 1 ?_
   obtain ⟨r60, hr61, h62⟩ := bind_some h49
   refine Cl' co_ref06_value hs40 (c_ref06_value N w39 F2 hs40.pers (x46.Then) ae58_5 ne58_5 hbe58_5 hse58_5 (x1) a1_0 n1_0 hb1_0 (SlA.mono hs1_0 (le30.trans le41)) _ hr61) ?_
   rintro _ F3 w64 hs65 le66 rfl
   refine Vs 2 ?_
   refine Nt ?_
   refine Rt ?_
   obtain rfl := some_inj h62
   exact Re [(vi r60), (vi 0)] hs65 rfl
end Go.Proofs.YtaihlcdkcampbaaGreatDoor
namespace Go.Proofs.YtaihlcdkcampbaaGreatDoor
open Go.Proofs
def rules_Keys_L0 (N : Nat) (x0 : Book) (x1 : (List Int)) (r24 : Int) : (List Key × Int) → Option (Flow ((List Key) × Int) (List Key × Int)) := fun s40 =>
 (bif (decide (s40.2 < (x0.Multipliers.length : Int))) then ((idx x0.Multipliers s40.2).bind fun x65 => ((rules_value N x65.When x1).bind fun r84 => ((bif (r84 == 1) then ((rules_value N x65.Then x1).bind fun r107 => ((apnd s40.1 [({ Clause := s40.2, Value := r107 } : Key)]).bind fun r120 => some r120)) else some s40.1).bind fun j95 => some (.next (j95, (W64 (s40.2 + 1))))))) else some (.done (s40.1, s40.2)))
def rules_Keys (N : Nat) (x0 : Book) (x1 : (List Int)) : Option ((List Key) × Int) :=
 ((rules_wrong N x0 x1).bind fun r24 => (bif (r24 != 0) then some (([] : List Key), r24) else ((iter (rules_Keys_L0 N x0 x1 r24) N (([] : List Key), 0)).bind fun o => o.k (fun r => some r) (fun s50 => some (s50.1, 0)))))
theorem co_rules_Keys : CallOk Tryz.prog 45 := fun _ _ => by kernel_rfl
theorem c_rules_Keys (N : Nat) (w0 : World) (F0 : Mem) (hF : ∀ b o, F0 b = some o → w0.heap[b]? = some o) (x0 : Book) (a0_0 : Option Addr) (n0_0 : Nat) (hb0_0 : LC x0.Points.length n0_0) (hs0_0 : SlA tClause F0 a0_0 x0.Points) (a0_1 : Option Addr) (n0_1 : Nat) (hb0_1 : LC x0.Multipliers.length n0_1) (hs0_1 : SlA tClause F0 a0_1 x0.Multipliers) (a0_2 : Option Addr) (n0_2 : Nat) (hb0_2 : LC x0.Penalties.length n0_2) (hs0_2 : SlA tClause F0 a0_2 x0.Penalties) (a0_3 : Option Addr) (n0_3 : Nat) (hb0_3 : LC x0.Repeats.length n0_3) (hs0_3 : SlA tExpr F0 a0_3 x0.Repeats) (x1 : (List Int)) (a1_0 : Option Addr) (n1_0 : Nat) (hb1_0 : LC x1.length n1_0) (hs1_0 : SlA tInt F0 a1_0 x1) (r : ((List Key) × Int)) (h : rules_Keys N x0 x1 = some r) :
  Calls Tryz.prog 45 ([(.agg (kBook x0 a0_0 n0_0 a0_1 n0_1 a0_2 n0_2 a0_3 n0_3)), (.slice a1_0 x1.length n1_0)] : List Value).toArray w0 (FRet w0 F0 fun F' v => ∃ (aq0_0 : Option Addr) (nq0_0 : Nat), v = (.tuple #[(.slice aq0_0 r.1.length nq0_0), (vi r.2)]) ∧ LC r.1.length nq0_0 ∧ SlA tKey F' aq0_0 r.1) := by
 have hs0 := HS.start hF
 refine Go 40 Tryz.func45 ?_
 refine Sq (Rg [0, 1, 2] ?_)
 refine Bx' 26 (kBook x0 a0_0 n0_0 a0_1 n0_1 a0_2 n0_2 a0_3 n0_3) hs0 (fun b21 w22 hs23 => ?_)
 refine Vs 2 ?_
 refine Nss ?_
 refine Sq (Rg [0, 1, 2, 3] ?_)
 refine Ld hs23.at0 ?_
 refine Vs 1 ?_
 obtain ⟨r24, hr25, h26⟩ := bind_some h
 refine Cl' co_rules_wrong hs23 (c_rules_wrong N w22 F0 hs23.pers (x0) a0_0 n0_0 hb0_0 hs0_0 a0_1 n0_1 hb0_1 hs0_1 a0_2 n0_2 hb0_2 hs0_2 a0_3 n0_3 hb0_3 hs0_3 (x1) a1_0 n1_0 hb1_0 hs1_0 _ hr25) ?_
 rintro _ F1 w28 hs29 le30 rfl
 refine Vs 1 ?_
 refine Nss (Rg [0, 1] ?_)
 refine Vs 2 ?_
 refine Nt ?_
 refine Cd h26 (fun hb32 h33 => ?_) (fun hb32 h34 => ?_)
 ·refine Sq (Rg [0, 1, 2] ?_)
  refine Vs 3 ?_
  refine Nt ?_
  refine Rt ?_
  refine thenQ_ret ?_
  obtain rfl := some_inj h33
  exact Re [(.slice none ([] : List Key).length 0), (vi r24)] hs29 ⟨none, 0, rfl, LC.nil, (.inl rfl)⟩
 ·refine Sc ?_
  refine thenQ_nrm ?_
  refine Sq (Rg [0] ?_)
  refine Vs 1 ?_
  refine Nss ?_
  refine Sq (Rg [0, 1, 2, 3] ?_)
  refine Vs 1 ?_
  refine Ld hs29.at0 ?_
  refine Vs 2 ?_
  refine Nt ?_
  have hs35 := hs29.dr0.dummy (oc #[] 0)
  obtain ⟨o37, ho38, h39⟩ := bind_some h34
  refine CWP.cut (fun f w => ∃ (s50 : (List Key × Int)) (F3 : Mem) (as50_0 : Option Addr) (ns50_0 : Nat) (es50_0 : Option Nat × Obj), o37 = .done s50 ∧ HS w0 F0 w F3 [es50_0] ∧ Mem.le F1 F3 ∧ FI f [] [(7, (.slice as50_0 s50.1.length ns50_0))] ∧ RowR tKey 127 F3 as50_0 ns50_0 s50.1 es50_0) ?_ ?_
  ·refine Bk ?_
   refine CWP.loop (by kernel_rfl) (fun m f w => ∃ (s40 : (List Key × Int)) (F2 : Mem) (as40_0 : Option Addr) (ns40_0 : Nat) (es40_0 : Option Nat × Obj), iter (rules_Keys_L0 N x0 x1 r24) m s40 = some o37 ∧ HS w0 F0 w F2 [es40_0] ∧ Mem.le F1 F2 ∧ FI f [] [(1, (.slice a1_0 x1.length n1_0)), (7, (.slice as40_0 s40.1.length ns40_0)), (17, (.slice a0_1 x0.Multipliers.length n0_1)), (18, (vi (x0.Multipliers.length : Int))), (19, (vi s40.2))] ∧ RowR tKey 127 F2 as40_0 ns40_0 s40.1 es40_0) N ⟨(([] : List Key), 0), F1, none, 0, (none, .cells #[] 0 (0, 0)), ho38, hs35, (Mem.le.refl _), fI, (RowR.nil tKey 127 F1 _)⟩ ?_
   rintro m56 f w41 ⟨s40, F2, as40_0, ns40_0, es40_0, hit57, hs42, le43, ⟨_, rfl⟩, hrs40_0⟩
   obtain ⟨m58, fl59, rfl, hb60, hnx61⟩ := iter_step hit57
   refine Sq (Rg [0] ?_)
   refine Vs 1 ?_
   refine Nss ?_
   refine Cd hb60 (fun hb62 h63 => ?_) (fun hb62 h64 => ?_)
   ·refine Sc ?_
    refine thenQ_nrm ?_
    refine Sq ?_
    refine Bk ?_
    refine Sq (Rg [0, 1, 2, 3, 4, 5] ?_)
    refine Vs 1 ?_
    obtain ⟨x65, hx66, h68⟩ := bind_some h63
    obtain ⟨hi67, hx66'⟩ := idx_spec hx66
    obtain ⟨b69, o70, C71, E72, fz73, rfl, hF75, hE76⟩ := SlA.open (SlA.mono hs0_1 (le30.trans le43)) hx66'
    obtain ⟨ae77_2, ne77_2, ae77_5, ne77_5, hc78, hbe77_2, hse77_2, hbe77_5, hse77_5⟩ := hE76 _ _ hx66'
    refine Ix hi67 ?_
    refine Lx 0 (hs42.pers _ _ hF75) hc78 ?_
    refine Al' 56 #[(vi 0), (vi 0), (.slice none ([] : List Expr).length 0), (vi 0), (vi 0), (.slice none ([] : List Expr).length 0)] hs42 (fun b79 w80 hs81 => ?_)
    refine Vs 1 ?_
    refine St0 (kClause x65 ae77_2 ne77_2 ae77_5 ne77_5) hs81 (fun w82 hs83 => ?_)
    refine Nss (Rg [0, 1, 2, 3, 4] ?_)
    refine Vs 1 ?_
    refine Ld hs83.at0 ?_
    refine Vs 1 ?_
    obtain ⟨r84, hr85, h86⟩ := bind_some h68
    refine Cl' co_rules_value hs83 (c_rules_value N w82 F2 hs83.pers (x65.When) ae77_2 ne77_2 hbe77_2 hse77_2 (x1) a1_0 n1_0 hb1_0 (SlA.mono hs1_0 (le30.trans le43)) _ hr85) ?_
    rintro _ F4 w88 hs89 le90 rfl
    refine Vs 1 ?_
    refine Nt ?_
    obtain ⟨j95, hj102, h103⟩ := bind_some h86
    refine CWP.cut (fun f w => ∃ (F5 : Mem) (aj95_0 : Option Addr) (nj95_0 : Nat) (ej95_0 : Option Nat × Obj), HS w0 F0 w F5 [ej95_0] ∧ Mem.le F4 F5 ∧ FI f [] [(1, (.slice a1_0 x1.length n1_0)), (7, (.slice aj95_0 j95.length nj95_0)), (17, (.slice (some ⟨b69, o70, none⟩) x0.Multipliers.length n0_1)), (18, (vi (x0.Multipliers.length : Int))), (19, (vi s40.2))] ∧ RowR tKey 127 F5 aj95_0 nj95_0 j95 ej95_0) ?_ ?_
    ·refine Cd hj102 (fun hb104 h105 => ?_) (fun hb104 h106 => ?_)
     ·refine Rg [0, 1, 2, 3, 4, 5, 6, 7, 8, 9] ?_
      refine Vs 3 ?_
      refine Ld hs89.at0 ?_
      refine Vs 1 ?_
      obtain ⟨r107, hr108, h109⟩ := bind_some h105
      refine Cl' co_rules_value hs89 (c_rules_value N w88 F4 hs89.pers (x65.Then) ae77_5 ne77_5 hbe77_5 (SlA.mono hse77_5 le90) (x1) a1_0 n1_0 hb1_0 (SlA.mono hs1_0 ((le30.trans le43).trans le90)) _ hr108) ?_
      rintro _ F6 w111 hs112 le113 rfl
      refine Vs 1 ?_
      refine Bs 127 [(vi s40.2), (vi r107)] hs112 (fun b115 w116 hs117 => ?_)
      have hr119 : RowR tKey 127 F6 (some ⟨b115, 0, none⟩) 1 [({ Clause := s40.2, Value := r107 } : Key)] (some b115, .cells ([(vi s40.2), (vi r107)] : List Value).toArray 127 (0, 0)) := RowR.lit ⟨rfl, rfl⟩ (by simp)
      obtain ⟨r120, hap121, h122⟩ := bind_some h109
      refine Ap2 oKey hs117 (hrs40_0.mono (le90.trans le113)) (hs117.rd0 hr119) hap121 (fun a123 n124 e125 w126 hs127 hr128 => ?_)
      refine Vs 1 ?_
      refine RWP.nil ?_
      obtain rfl := some_inj h122
      exact .inl ⟨rfl, F6, a123, n124, e125, hs127.dr0.dr0, le113, fI, hr128⟩
     ·refine Sc ?_
      obtain rfl := some_inj h106
      exact .inl ⟨rfl, F4, as40_0, ns40_0, es40_0, hs89.dr0, (Mem.le.refl _), fI, (hrs40_0.mono le90)⟩
    ·rintro f w92 ⟨F5, aj95_0, nj95_0, ej95_0, hs93, le94, ⟨_, rfl⟩, hrj95_0⟩
     refine blockQ_nrm ?_
     refine thenQ_nrm ?_
     refine Rg [0, 1] ?_
     refine Vs 2 ?_
     refine RWP.nil ?_
     have hn129 := iter_next h103 hnx61
     exact ⟨m58, Nat.lt_succ_self _, (j95, (W64 (s40.2 + 1))), F5, aj95_0, nj95_0, ej95_0, hn129, hs93, ((le43.trans le90).trans le94), fI, hrj95_0⟩
   ·refine Ex ?_
    refine thenQ_ex ?_
    refine thenQ_ex ?_
    refine blockQ_hit rfl ?_
    have ho130 := iter_done h64 hnx61
    exact .inl ⟨rfl, (s40.1, s40.2), F2, as40_0, ns40_0, es40_0, ho130, hs42, le43, fI, hrs40_0⟩
  ·rintro f w51 ⟨s50, F3, as50_0, ns50_0, es50_0, rfl, hs52, le53, ⟨_, rfl⟩, hrs50_0⟩
   have h131 := k_done h39
   refine thenQ_nrm ?_
   refine Sq (Rg [0, 1, 2] ?_)
   refine Vs 3 ?_
   refine Nt ?_
   refine Rt ?_
   have hb135 := RowR.bound hrs50_0
   obtain ⟨F7, hs132, le133, hs134⟩ := hs52.fr0 hrs50_0
   obtain rfl := some_inj h131
   exact Re [(.slice as50_0 s50.1.length ns50_0), (vi 0)] hs132 ⟨as50_0, ns50_0, rfl, hb135, hs134⟩
end Go.Proofs.YtaihlcdkcampbaaGreatDoor
namespace Go.Proofs.YtaihlcdkcampbaaGreatDoor
open Go.Proofs
def ref06_Keys_L0 (N : Nat) (x0 : Book) (x1 : (List Int)) (r24 : Int) : (List Key × Int) → Option (Flow ((List Key) × Int) (List Key × Int)) := fun s40 =>
 (bif (decide (s40.2 < (x0.Multipliers.length : Int))) then ((idx x0.Multipliers s40.2).bind fun x64 => ((ref06_value N x64.When x1).bind fun r78 => ((bif (r78 == 1) then ((idx x0.Multipliers s40.2).bind fun x100 => ((ref06_value N x100.Then x1).bind fun r106 => ((apnd s40.1 [({ Clause := s40.2, Value := r106 } : Key)]).bind fun r119 => some r119))) else some s40.1).bind fun j89 => some (.next (j89, (W64 (s40.2 + 1))))))) else some (.done (s40.1, s40.2)))
def ref06_Keys (N : Nat) (x0 : Book) (x1 : (List Int)) : Option ((List Key) × Int) :=
 ((ref06_applied N x0 x1).bind fun r24 => (bif (r24 != 0) then some (([] : List Key), r24) else ((iter (ref06_Keys_L0 N x0 x1 r24) N (([] : List Key), 0)).bind fun o => o.k (fun r => some r) (fun s49 => some (s49.1, 0)))))
theorem co_ref06_Keys : CallOk Tryz.prog 46 := fun _ _ => by kernel_rfl
theorem c_ref06_Keys (N : Nat) (w0 : World) (F0 : Mem) (hF : ∀ b o, F0 b = some o → w0.heap[b]? = some o) (x0 : Book) (a0_0 : Option Addr) (n0_0 : Nat) (hb0_0 : LC x0.Points.length n0_0) (hs0_0 : SlA tClause F0 a0_0 x0.Points) (a0_1 : Option Addr) (n0_1 : Nat) (hb0_1 : LC x0.Multipliers.length n0_1) (hs0_1 : SlA tClause F0 a0_1 x0.Multipliers) (a0_2 : Option Addr) (n0_2 : Nat) (hb0_2 : LC x0.Penalties.length n0_2) (hs0_2 : SlA tClause F0 a0_2 x0.Penalties) (a0_3 : Option Addr) (n0_3 : Nat) (hb0_3 : LC x0.Repeats.length n0_3) (hs0_3 : SlA tExpr F0 a0_3 x0.Repeats) (x1 : (List Int)) (a1_0 : Option Addr) (n1_0 : Nat) (hb1_0 : LC x1.length n1_0) (hs1_0 : SlA tInt F0 a1_0 x1) (r : ((List Key) × Int)) (h : ref06_Keys N x0 x1 = some r) :
  Calls Tryz.prog 46 ([(.agg (kBook x0 a0_0 n0_0 a0_1 n0_1 a0_2 n0_2 a0_3 n0_3)), (.slice a1_0 x1.length n1_0)] : List Value).toArray w0 (FRet w0 F0 fun F' v => ∃ (aq0_0 : Option Addr) (nq0_0 : Nat), v = (.tuple #[(.slice aq0_0 r.1.length nq0_0), (vi r.2)]) ∧ LC r.1.length nq0_0 ∧ SlA tKey F' aq0_0 r.1) := by
 have hs0 := HS.start hF
 refine Go 45 Tryz.func46 ?_
 refine Sq (Rg [0, 1, 2] ?_)
 refine Bx' 26 (kBook x0 a0_0 n0_0 a0_1 n0_1 a0_2 n0_2 a0_3 n0_3) hs0 (fun b21 w22 hs23 => ?_)
 refine Vs 2 ?_
 refine Nss (Rg [0, 1, 2, 3] ?_)
 refine Ld hs23.at0 ?_
 refine Vs 1 ?_
 obtain ⟨r24, hr25, h26⟩ := bind_some h
 refine Cl' co_ref06_applied hs23 (c_ref06_applied N w22 F0 hs23.pers (x0) a0_0 n0_0 hb0_0 hs0_0 a0_1 n0_1 hb0_1 hs0_1 a0_2 n0_2 hb0_2 hs0_2 a0_3 n0_3 hb0_3 hs0_3 (x1) a1_0 n1_0 hb1_0 hs1_0 _ hr25) ?_
 rintro _ F1 w28 hs29 le30 rfl
 refine Vs 1 ?_
 refine Nss ?_
 refine Sq (Rg [0, 1] ?_)
 refine Vs 2 ?_
 refine Nt ?_
 refine Cd h26 (fun hb32 h33 => ?_) (fun hb32 h34 => ?_)
 ·refine Sq (Rg [0, 1, 2] ?_)
  refine Vs 3 ?_
  refine Nt ?_
  refine Rt ?_
  refine thenQ_ret ?_
  obtain rfl := some_inj h33
  exact Re [(.slice none ([] : List Key).length 0), (vi r24)] hs29 ⟨none, 0, rfl, LC.nil, (.inl rfl)⟩
 ·refine Sc ?_
  refine thenQ_nrm ?_
  refine Sq (Rg [0] ?_)
  refine Vs 1 ?_
  refine Nss ?_
  refine Sq (Rg [0] ?_)
  refine Vs 1 ?_
  refine Nt ?_
  have hs35 := hs29.dummy (oc #[] 0)
  obtain ⟨o37, ho38, h39⟩ := bind_some h34
  refine CWP.cut (fun f w => ∃ (s49 : (List Key × Int)) (F3 : Mem) (as49_0 : Option Addr) (ns49_0 : Nat) (es49_0 : Option Nat × Obj), o37 = .done s49 ∧ HS w0 F0 w F3 [es49_0] ∧ Mem.le F1 F3 ∧ FI f [] [(7, (.slice as49_0 s49.1.length ns49_0))] ∧ RowR tKey 127 F3 as49_0 ns49_0 s49.1 es49_0) ?_ ?_
  ·refine Bk ?_
   refine CWP.loop (by kernel_rfl) (fun m f w => ∃ (s40 : (List Key × Int)) (F2 : Mem) (as40_0 : Option Addr) (ns40_0 : Nat) (es40_0 : Option Nat × Obj), iter (ref06_Keys_L0 N x0 x1 r24) m s40 = some o37 ∧ HS w0 F0 w F2 [es40_0, (sb b21 (kBook x0 a0_0 n0_0 a0_1 n0_1 a0_2 n0_2 a0_3 n0_3) 26)] ∧ Mem.le F1 F2 ∧ FI f [] [(1, (.slice a1_0 x1.length n1_0)), (2, (pt b21 0)), (7, (.slice as40_0 s40.1.length ns40_0)), (8, (vi s40.2))] ∧ RowR tKey 127 F2 as40_0 ns40_0 s40.1 es40_0) N ⟨(([] : List Key), 0), F1, none, 0, (none, .cells #[] 0 (0, 0)), ho38, hs35, (Mem.le.refl _), fI, (RowR.nil tKey 127 F1 _)⟩ ?_
   rintro m55 f w41 ⟨s40, F2, as40_0, ns40_0, es40_0, hit56, hs42, le43, ⟨_, rfl⟩, hrs40_0⟩
   obtain ⟨m57, fl58, rfl, hb59, hnx60⟩ := iter_step hit56
   refine Sq ?_
   refine Sq (Rg [0, 1, 2, 3, 4] ?_)
   refine Vs 2 ?_
   refine Ld hs42.at1 ?_
   refine Vs 2 ?_
   refine Nt ?_
   refine Cd hb59 (fun hb61 h62 => ?_) (fun hb61 h63 => ?_)
   ·refine Sc ?_
    refine thenQ_nrm ?_
    refine Sq ?_
    refine Bk ?_
    refine Sq (Rg [0, 1, 2, 3, 4, 5, 6, 7, 8] ?_)
    refine Vs 1 ?_
    refine Ld hs42.at1 ?_
    refine Vs 1 ?_
    obtain ⟨x64, hx65, h67⟩ := bind_some h62
    obtain ⟨hi66, hx65'⟩ := idx_spec hx65
    obtain ⟨b68, o69, C70, E71, fz72, rfl, hF74, hE75⟩ := SlA.open (SlA.mono hs0_1 (le30.trans le43)) hx65'
    obtain ⟨ae76_2, ne76_2, ae76_5, ne76_5, hc77, hbe76_2, hse76_2, hbe76_5, hse76_5⟩ := hE75 _ _ hx65'
    refine Ix hi66 ?_
    refine Vs 1 ?_
    refine Lx 0 (hs42.pers _ _ hF74) hc77 ?_
    refine Vs 1 ?_
    obtain ⟨r78, hr79, h80⟩ := bind_some h67
    refine Cl' co_ref06_value hs42 (c_ref06_value N w41 F2 hs42.pers (x64.When) ae76_2 ne76_2 hbe76_2 hse76_2 (x1) a1_0 n1_0 hb1_0 (SlA.mono hs1_0 (le30.trans le43)) _ hr79) ?_
    rintro _ F4 w82 hs83 le84 rfl
    refine Vs 1 ?_
    refine Nt ?_
    obtain ⟨j89, hj95, h96⟩ := bind_some h80
    refine CWP.cut (fun f w => ∃ (F5 : Mem) (aj89_0 : Option Addr) (nj89_0 : Nat) (ej89_0 : Option Nat × Obj), HS w0 F0 w F5 [ej89_0, (sb b21 (kBook x0 a0_0 n0_0 (some ⟨b68, o69, none⟩) n0_1 a0_2 n0_2 a0_3 n0_3) 26)] ∧ Mem.le F4 F5 ∧ FI f [] [(1, (.slice a1_0 x1.length n1_0)), (2, (pt b21 0)), (7, (.slice aj89_0 j89.length nj89_0)), (8, (vi s40.2))] ∧ RowR tKey 127 F5 aj89_0 nj89_0 j89 ej89_0) ?_ ?_
    ·refine Cd hj95 (fun hb97 h98 => ?_) (fun hb97 h99 => ?_)
     ·refine Rg [0, 1, 2, 3, 4, 5, 6, 7, 8, 9, 10, 11, 12, 13] ?_
      refine Vs 3 ?_
      refine Ld hs83.at1 ?_
      refine Vs 1 ?_
      obtain ⟨x100, hx101, h103⟩ := bind_some h98
      obtain ⟨hi102, hx101'⟩ := idx_spec hx101
      obtain ⟨ae104_2, ne104_2, ae104_5, ne104_5, hc105, hbe104_2, hse104_2, hbe104_5, hse104_5⟩ := hE75 _ _ hx101'
      refine Ix hi102 ?_
      refine Vs 1 ?_
      refine Lx 3 (hs83.pers _ _ (le84 _ _ hF74)) hc105 ?_
      refine Vs 1 ?_
      obtain ⟨r106, hr107, h108⟩ := bind_some h103
      refine Cl' co_ref06_value hs83 (c_ref06_value N w82 F4 hs83.pers (x100.Then) ae104_5 ne104_5 hbe104_5 (SlA.mono hse104_5 le84) (x1) a1_0 n1_0 hb1_0 (SlA.mono hs1_0 ((le30.trans le43).trans le84)) _ hr107) ?_
      rintro _ F6 w110 hs111 le112 rfl
      refine Vs 1 ?_
      refine Bs 127 [(vi s40.2), (vi r106)] hs111 (fun b114 w115 hs116 => ?_)
      have hr118 : RowR tKey 127 F6 (some ⟨b114, 0, none⟩) 1 [({ Clause := s40.2, Value := r106 } : Key)] (some b114, .cells ([(vi s40.2), (vi r106)] : List Value).toArray 127 (0, 0)) := RowR.lit ⟨rfl, rfl⟩ (by simp)
      obtain ⟨r119, hap120, h121⟩ := bind_some h108
      refine Ap1 oKey hs116 (hrs40_0.mono (le84.trans le112)) (hs116.rd0 hr118) hap120 (fun a122 n123 e124 w125 hs126 hr127 => ?_)
      refine Vs 1 ?_
      refine RWP.nil ?_
      obtain rfl := some_inj h121
      exact .inl ⟨rfl, F6, a122, n123, e124, hs126.dr0, le112, fI, hr127⟩
     ·refine Sc ?_
      obtain rfl := some_inj h99
      exact .inl ⟨rfl, F4, as40_0, ns40_0, es40_0, hs83, (Mem.le.refl _), fI, (hrs40_0.mono le84)⟩
    ·rintro f w86 ⟨F5, aj89_0, nj89_0, ej89_0, hs87, le88, ⟨_, rfl⟩, hrj89_0⟩
     refine blockQ_nrm ?_
     refine thenQ_nrm ?_
     refine Rg [0, 1, 2] ?_
     refine Vs 3 ?_
     refine RWP.nil ?_
     have hn128 := iter_next h96 hnx60
     exact ⟨m57, Nat.lt_succ_self _, (j89, (W64 (s40.2 + 1))), F5, aj89_0, nj89_0, ej89_0, hn128, hs87, ((le43.trans le84).trans le88), fI, hrj89_0⟩
   ·refine Ex ?_
    refine thenQ_ex ?_
    refine thenQ_ex ?_
    refine blockQ_hit rfl ?_
    have ho129 := iter_done h63 hnx60
    exact .inl ⟨rfl, (s40.1, s40.2), F2, as40_0, ns40_0, es40_0, ho129, hs42.dr1, le43, fI, hrs40_0⟩
  ·rintro f w50 ⟨s49, F3, as49_0, ns49_0, es49_0, rfl, hs51, le52, ⟨_, rfl⟩, hrs49_0⟩
   have h130 := k_done h39
   refine thenQ_nrm ?_
   refine Sq (Rg [0, 1, 2] ?_)
   refine Vs 3 ?_
   refine Nt ?_
   refine Rt ?_
   have hb134 := RowR.bound hrs49_0
   obtain ⟨F7, hs131, le132, hs133⟩ := hs51.fr0 hrs49_0
   obtain rfl := some_inj h130
   exact Re [(.slice as49_0 s49.1.length ns49_0), (vi 0)] hs131 ⟨as49_0, ns49_0, rfl, hb134, hs133⟩
end Go.Proofs.YtaihlcdkcampbaaGreatDoor
namespace Go.Proofs.YtaihlcdkcampbaaGreatDoor
open Go.Proofs
def rules_Repeat_L0 (N : Nat) (x0 : Book) (x1 : (List Int)) (r24 : Int) : (List Int × Int) → Option (Flow ((List Int) × Int) (List Int × Int)) := fun s40 =>
 (bif (decide (s40.2 < (x0.Repeats.length : Int))) then ((idx x0.Repeats s40.2).bind fun x65 => ((rules_value N x65 x1).bind fun r84 => ((apnd s40.1 [r84]).bind fun r97 => some (.next (r97, (W64 (s40.2 + 1))))))) else some (.done (s40.1, s40.2)))
def rules_Repeat (N : Nat) (x0 : Book) (x1 : (List Int)) : Option ((List Int) × Int) :=
 ((rules_wrong N x0 x1).bind fun r24 => (bif (r24 != 0) then some (([] : List Int), r24) else ((iter (rules_Repeat_L0 N x0 x1 r24) N (([] : List Int), 0)).bind fun o => o.k (fun r => some r) (fun s50 => some (s50.1, 0)))))
theorem co_rules_Repeat : CallOk Tryz.prog 47 := fun _ _ => by kernel_rfl
theorem c_rules_Repeat (N : Nat) (w0 : World) (F0 : Mem) (hF : ∀ b o, F0 b = some o → w0.heap[b]? = some o) (x0 : Book) (a0_0 : Option Addr) (n0_0 : Nat) (hb0_0 : LC x0.Points.length n0_0) (hs0_0 : SlA tClause F0 a0_0 x0.Points) (a0_1 : Option Addr) (n0_1 : Nat) (hb0_1 : LC x0.Multipliers.length n0_1) (hs0_1 : SlA tClause F0 a0_1 x0.Multipliers) (a0_2 : Option Addr) (n0_2 : Nat) (hb0_2 : LC x0.Penalties.length n0_2) (hs0_2 : SlA tClause F0 a0_2 x0.Penalties) (a0_3 : Option Addr) (n0_3 : Nat) (hb0_3 : LC x0.Repeats.length n0_3) (hs0_3 : SlA tExpr F0 a0_3 x0.Repeats) (x1 : (List Int)) (a1_0 : Option Addr) (n1_0 : Nat) (hb1_0 : LC x1.length n1_0) (hs1_0 : SlA tInt F0 a1_0 x1) (r : ((List Int) × Int)) (h : rules_Repeat N x0 x1 = some r) :
  Calls Tryz.prog 47 ([(.agg (kBook x0 a0_0 n0_0 a0_1 n0_1 a0_2 n0_2 a0_3 n0_3)), (.slice a1_0 x1.length n1_0)] : List Value).toArray w0 (FRet w0 F0 fun F' v => ∃ (aq0_0 : Option Addr) (nq0_0 : Nat), v = (.tuple #[(.slice aq0_0 r.1.length nq0_0), (vi r.2)]) ∧ LC r.1.length nq0_0 ∧ SlA tInt F' aq0_0 r.1) := by
 have hs0 := HS.start hF
 refine Go 31 Tryz.func47 ?_
 refine Sq (Rg [0, 1, 2] ?_)
 refine Bx' 26 (kBook x0 a0_0 n0_0 a0_1 n0_1 a0_2 n0_2 a0_3 n0_3) hs0 (fun b21 w22 hs23 => ?_)
 refine Vs 2 ?_
 refine Nss ?_
 refine Sq (Rg [0, 1, 2, 3] ?_)
 refine Ld hs23.at0 ?_
 refine Vs 1 ?_
 obtain ⟨r24, hr25, h26⟩ := bind_some h
 refine Cl' co_rules_wrong hs23 (c_rules_wrong N w22 F0 hs23.pers (x0) a0_0 n0_0 hb0_0 hs0_0 a0_1 n0_1 hb0_1 hs0_1 a0_2 n0_2 hb0_2 hs0_2 a0_3 n0_3 hb0_3 hs0_3 (x1) a1_0 n1_0 hb1_0 hs1_0 _ hr25) ?_
 rintro _ F1 w28 hs29 le30 rfl
 refine Vs 1 ?_
 refine Nss (Rg [0, 1] ?_)
 refine Vs 2 ?_
 refine Nt ?_
 refine Cd h26 (fun hb32 h33 => ?_) (fun hb32 h34 => ?_)
 ·refine Sq (Rg [0, 1, 2] ?_)
  refine Vs 3 ?_
  refine Nt ?_
  refine Rt ?_
  refine thenQ_ret ?_
  obtain rfl := some_inj h33
  exact Re [(.slice none ([] : List Int).length 0), (vi r24)] hs29 ⟨none, 0, rfl, LC.nil, (.inl rfl)⟩
 ·refine Sc ?_
  refine thenQ_nrm ?_
  refine Sq (Rg [0] ?_)
  refine Vs 1 ?_
  refine Nss ?_
  refine Sq (Rg [0, 1, 2, 3] ?_)
  refine Vs 1 ?_
  refine Ld hs29.at0 ?_
  refine Vs 2 ?_
  refine Nt ?_
  have hs35 := hs29.dr0.dummy (oc #[] 0)
  obtain ⟨o37, ho38, h39⟩ := bind_some h34
  refine CWP.cut (fun f w => ∃ (s50 : (List Int × Int)) (F3 : Mem) (as50_0 : Option Addr) (ns50_0 : Nat) (es50_0 : Option Nat × Obj), o37 = .done s50 ∧ HS w0 F0 w F3 [es50_0] ∧ Mem.le F1 F3 ∧ FI f [] [(7, (.slice as50_0 s50.1.length ns50_0))] ∧ RowR tInt 3 F3 as50_0 ns50_0 s50.1 es50_0) ?_ ?_
  ·refine Bk ?_
   refine CWP.loop (by kernel_rfl) (fun m f w => ∃ (s40 : (List Int × Int)) (F2 : Mem) (as40_0 : Option Addr) (ns40_0 : Nat) (es40_0 : Option Nat × Obj), iter (rules_Repeat_L0 N x0 x1 r24) m s40 = some o37 ∧ HS w0 F0 w F2 [es40_0] ∧ Mem.le F1 F2 ∧ FI f [] [(1, (.slice a1_0 x1.length n1_0)), (7, (.slice as40_0 s40.1.length ns40_0)), (17, (.slice a0_3 x0.Repeats.length n0_3)), (18, (vi (x0.Repeats.length : Int))), (19, (vi s40.2))] ∧ RowR tInt 3 F2 as40_0 ns40_0 s40.1 es40_0) N ⟨(([] : List Int), 0), F1, none, 0, (none, .cells #[] 0 (0, 0)), ho38, hs35, (Mem.le.refl _), fI, (RowR.nil tInt 3 F1 _)⟩ ?_
   rintro m56 f w41 ⟨s40, F2, as40_0, ns40_0, es40_0, hit57, hs42, le43, ⟨_, rfl⟩, hrs40_0⟩
   obtain ⟨m58, fl59, rfl, hb60, hnx61⟩ := iter_step hit57
   refine Sq (Rg [0] ?_)
   refine Vs 1 ?_
   refine Nss ?_
   refine Cd hb60 (fun hb62 h63 => ?_) (fun hb62 h64 => ?_)
   ·refine Sc ?_
    refine thenQ_nrm ?_
    refine Sq ?_
    refine Bk ?_
    refine Sq (Rg [0, 1, 2, 3] ?_)
    obtain ⟨x65, hx66, h68⟩ := bind_some h63
    obtain ⟨hi67, hx66'⟩ := idx_spec hx66
    obtain ⟨b69, o70, C71, E72, fz73, rfl, hF75, hE76⟩ := SlA.open (SlA.mono hs0_3 (le30.trans le43)) hx66'
    obtain ⟨ae77_2, ne77_2, hc78, hbe77_2, hse77_2⟩ := (tExpr_open (hE76 _ _ hx66'))
    refine Ix hi67 ?_
    refine Lx 0 (hs42.pers _ _ hF75) hc78 ?_
    refine Al' 33 #[(vi 0), (vi 0), (.slice none ([] : List Expr).length 0)] hs42 (fun b79 w80 hs81 => ?_)
    refine St0 (kExpr x65 ae77_2 ne77_2) hs81 (fun w82 hs83 => ?_)
    refine Nt ?_
    refine Rg [0, 1, 2, 3, 4, 5, 6] ?_
    refine Vs 1 ?_
    refine Ld hs83.at0 ?_
    refine Vs 1 ?_
    obtain ⟨r84, hr85, h86⟩ := bind_some h68
    refine Cl' co_rules_value hs83 (c_rules_value N w82 F2 hs83.pers (x65) ae77_2 ne77_2 hbe77_2 hse77_2 (x1) a1_0 n1_0 hb1_0 (SlA.mono hs1_0 (le30.trans le43)) _ hr85) ?_
    rintro _ F4 w88 hs89 le90 rfl
    refine Bs 3 [(vi r84)] hs89 (fun b92 w93 hs94 => ?_)
    have hr96 : RowR tInt 3 F4 (some ⟨b92, 0, none⟩) 1 [r84] (some b92, .cells ([(vi r84)] : List Value).toArray 3 (0, 0)) := RowR.lit ⟨rfl, rfl⟩ (by simp)
    obtain ⟨r97, hap98, h99⟩ := bind_some h86
    refine Ap2 oInt hs94 (hrs40_0.mono le90) (hs94.rd0 hr96) hap98 (fun a100 n101 e102 w103 hs104 hr105 => ?_)
    refine Vs 1 ?_
    refine RWP.nil ?_
    refine blockQ_nrm ?_
    refine thenQ_nrm ?_
    refine Rg [0, 1] ?_
    refine Vs 2 ?_
    refine RWP.nil ?_
    have hn106 := iter_next h99 hnx61
    exact ⟨m58, Nat.lt_succ_self _, (r97, (W64 (s40.2 + 1))), F4, a100, n101, e102, hn106, hs104.dr0.dr0, (le43.trans le90), fI, hr105⟩
   ·refine Ex ?_
    refine thenQ_ex ?_
    refine thenQ_ex ?_
    refine blockQ_hit rfl ?_
    have ho107 := iter_done h64 hnx61
    exact .inl ⟨rfl, (s40.1, s40.2), F2, as40_0, ns40_0, es40_0, ho107, hs42, le43, fI, hrs40_0⟩
  ·rintro f w51 ⟨s50, F3, as50_0, ns50_0, es50_0, rfl, hs52, le53, ⟨_, rfl⟩, hrs50_0⟩
   have h108 := k_done h39
   refine thenQ_nrm ?_
   refine Sq (Rg [0, 1, 2] ?_)
   refine Vs 3 ?_
   refine Nt ?_
   refine Rt ?_
   have hb112 := RowR.bound hrs50_0
   obtain ⟨F5, hs109, le110, hs111⟩ := hs52.fr0 hrs50_0
   obtain rfl := some_inj h108
   exact Re [(.slice as50_0 s50.1.length ns50_0), (vi 0)] hs109 ⟨as50_0, ns50_0, rfl, hb112, hs111⟩
end Go.Proofs.YtaihlcdkcampbaaGreatDoor
namespace Go.Proofs.YtaihlcdkcampbaaGreatDoor
open Go.Proofs
def ref06_Repeat_L0 (N : Nat) (x0 : Book) (x1 : (List Int)) (r24 : Int) : (List Int × Int) → Option (Flow ((List Int) × Int) (List Int × Int)) := fun s40 =>
 (bif (decide (s40.2 < (x0.Repeats.length : Int))) then ((idx x0.Repeats s40.2).bind fun x64 => ((ref06_value N x64 x1).bind fun r78 => ((apnd s40.1 [r78]).bind fun r91 => some (.next (r91, (W64 (s40.2 + 1))))))) else some (.done (s40.1, s40.2)))
def ref06_Repeat (N : Nat) (x0 : Book) (x1 : (List Int)) : Option ((List Int) × Int) :=
 ((ref06_applied N x0 x1).bind fun r24 => (bif (r24 != 0) then some (([] : List Int), r24) else ((iter (ref06_Repeat_L0 N x0 x1 r24) N (([] : List Int), 0)).bind fun o => o.k (fun r => some r) (fun s49 => some (s49.1, 0)))))
theorem co_ref06_Repeat : CallOk Tryz.prog 48 := fun _ _ => by kernel_rfl
theorem c_ref06_Repeat (N : Nat) (w0 : World) (F0 : Mem) (hF : ∀ b o, F0 b = some o → w0.heap[b]? = some o) (x0 : Book) (a0_0 : Option Addr) (n0_0 : Nat) (hb0_0 : LC x0.Points.length n0_0) (hs0_0 : SlA tClause F0 a0_0 x0.Points) (a0_1 : Option Addr) (n0_1 : Nat) (hb0_1 : LC x0.Multipliers.length n0_1) (hs0_1 : SlA tClause F0 a0_1 x0.Multipliers) (a0_2 : Option Addr) (n0_2 : Nat) (hb0_2 : LC x0.Penalties.length n0_2) (hs0_2 : SlA tClause F0 a0_2 x0.Penalties) (a0_3 : Option Addr) (n0_3 : Nat) (hb0_3 : LC x0.Repeats.length n0_3) (hs0_3 : SlA tExpr F0 a0_3 x0.Repeats) (x1 : (List Int)) (a1_0 : Option Addr) (n1_0 : Nat) (hb1_0 : LC x1.length n1_0) (hs1_0 : SlA tInt F0 a1_0 x1) (r : ((List Int) × Int)) (h : ref06_Repeat N x0 x1 = some r) :
  Calls Tryz.prog 48 ([(.agg (kBook x0 a0_0 n0_0 a0_1 n0_1 a0_2 n0_2 a0_3 n0_3)), (.slice a1_0 x1.length n1_0)] : List Value).toArray w0 (FRet w0 F0 fun F' v => ∃ (aq0_0 : Option Addr) (nq0_0 : Nat), v = (.tuple #[(.slice aq0_0 r.1.length nq0_0), (vi r.2)]) ∧ LC r.1.length nq0_0 ∧ SlA tInt F' aq0_0 r.1) := by
 have hs0 := HS.start hF
 refine Go 33 Tryz.func48 ?_
 refine Sq (Rg [0, 1, 2] ?_)
 refine Bx' 26 (kBook x0 a0_0 n0_0 a0_1 n0_1 a0_2 n0_2 a0_3 n0_3) hs0 (fun b21 w22 hs23 => ?_)
 refine Vs 2 ?_
 refine Nss (Rg [0, 1, 2, 3] ?_)
 refine Ld hs23.at0 ?_
 refine Vs 1 ?_
 obtain ⟨r24, hr25, h26⟩ := bind_some h
 refine Cl' co_ref06_applied hs23 (c_ref06_applied N w22 F0 hs23.pers (x0) a0_0 n0_0 hb0_0 hs0_0 a0_1 n0_1 hb0_1 hs0_1 a0_2 n0_2 hb0_2 hs0_2 a0_3 n0_3 hb0_3 hs0_3 (x1) a1_0 n1_0 hb1_0 hs1_0 _ hr25) ?_
 rintro _ F1 w28 hs29 le30 rfl
 refine Vs 1 ?_
 refine Nss ?_
 refine Sq (Rg [0, 1] ?_)
 refine Vs 2 ?_
 refine Nt ?_
 refine Cd h26 (fun hb32 h33 => ?_) (fun hb32 h34 => ?_)
 ·refine Sq (Rg [0, 1, 2] ?_)
  refine Vs 3 ?_
  refine Nt ?_
  refine Rt ?_
  refine thenQ_ret ?_
  obtain rfl := some_inj h33
  exact Re [(.slice none ([] : List Int).length 0), (vi r24)] hs29 ⟨none, 0, rfl, LC.nil, (.inl rfl)⟩
 ·refine Sc ?_
  refine thenQ_nrm ?_
  refine Sq (Rg [0] ?_)
  refine Vs 1 ?_
  refine Nss ?_
  refine Sq (Rg [0] ?_)
  refine Vs 1 ?_
  refine Nt ?_
  have hs35 := hs29.dummy (oc #[] 0)
  obtain ⟨o37, ho38, h39⟩ := bind_some h34
  refine CWP.cut (fun f w => ∃ (s49 : (List Int × Int)) (F3 : Mem) (as49_0 : Option Addr) (ns49_0 : Nat) (es49_0 : Option Nat × Obj), o37 = .done s49 ∧ HS w0 F0 w F3 [es49_0] ∧ Mem.le F1 F3 ∧ FI f [] [(7, (.slice as49_0 s49.1.length ns49_0))] ∧ RowR tInt 3 F3 as49_0 ns49_0 s49.1 es49_0) ?_ ?_
  ·refine Bk ?_
   refine CWP.loop (by kernel_rfl) (fun m f w => ∃ (s40 : (List Int × Int)) (F2 : Mem) (as40_0 : Option Addr) (ns40_0 : Nat) (es40_0 : Option Nat × Obj), iter (ref06_Repeat_L0 N x0 x1 r24) m s40 = some o37 ∧ HS w0 F0 w F2 [es40_0, (sb b21 (kBook x0 a0_0 n0_0 a0_1 n0_1 a0_2 n0_2 a0_3 n0_3) 26)] ∧ Mem.le F1 F2 ∧ FI f [] [(1, (.slice a1_0 x1.length n1_0)), (2, (pt b21 0)), (7, (.slice as40_0 s40.1.length ns40_0)), (8, (vi s40.2))] ∧ RowR tInt 3 F2 as40_0 ns40_0 s40.1 es40_0) N ⟨(([] : List Int), 0), F1, none, 0, (none, .cells #[] 0 (0, 0)), ho38, hs35, (Mem.le.refl _), fI, (RowR.nil tInt 3 F1 _)⟩ ?_
   rintro m55 f w41 ⟨s40, F2, as40_0, ns40_0, es40_0, hit56, hs42, le43, ⟨_, rfl⟩, hrs40_0⟩
   obtain ⟨m57, fl58, rfl, hb59, hnx60⟩ := iter_step hit56
   refine Sq ?_
   refine Sq (Rg [0, 1, 2, 3, 4] ?_)
   refine Vs 2 ?_
   refine Ld hs42.at1 ?_
   refine Vs 2 ?_
   refine Nt ?_
   refine Cd hb59 (fun hb61 h62 => ?_) (fun hb61 h63 => ?_)
   ·refine Sc ?_
    refine thenQ_nrm ?_
    refine Sq ?_
    refine Bk ?_
    refine Rg [0, 1, 2, 3, 4, 5, 6, 7, 8, 9, 10] ?_
    refine Vs 2 ?_
    refine Ld hs42.at1 ?_
    refine Vs 1 ?_
    obtain ⟨x64, hx65, h67⟩ := bind_some h62
    obtain ⟨hi66, hx65'⟩ := idx_spec hx65
    obtain ⟨b68, o69, C70, E71, fz72, rfl, hF74, hE75⟩ := SlA.open (SlA.mono hs0_3 (le30.trans le43)) hx65'
    obtain ⟨ae76_2, ne76_2, hc77, hbe76_2, hse76_2⟩ := (tExpr_open (hE75 _ _ hx65'))
    refine Ix hi66 ?_
    refine Lx 0 (hs42.pers _ _ hF74) hc77 ?_
    refine Vs 1 ?_
    obtain ⟨r78, hr79, h80⟩ := bind_some h67
    refine Cl' co_ref06_value hs42 (c_ref06_value N w41 F2 hs42.pers (x64) ae76_2 ne76_2 hbe76_2 hse76_2 (x1) a1_0 n1_0 hb1_0 (SlA.mono hs1_0 (le30.trans le43)) _ hr79) ?_
    rintro _ F4 w82 hs83 le84 rfl
    refine Bs 3 [(vi r78)] hs83 (fun b86 w87 hs88 => ?_)
    have hr90 : RowR tInt 3 F4 (some ⟨b86, 0, none⟩) 1 [r78] (some b86, .cells ([(vi r78)] : List Value).toArray 3 (0, 0)) := RowR.lit ⟨rfl, rfl⟩ (by simp)
    obtain ⟨r91, hap92, h93⟩ := bind_some h80
    refine Ap1 oInt hs88 (hrs40_0.mono le84) (hs88.rd0 hr90) hap92 (fun a94 n95 e96 w97 hs98 hr99 => ?_)
    refine Vs 1 ?_
    refine RWP.nil ?_
    refine blockQ_nrm ?_
    refine thenQ_nrm ?_
    refine Rg [0, 1, 2] ?_
    refine Vs 3 ?_
    refine RWP.nil ?_
    have hn100 := iter_next h93 hnx60
    exact ⟨m57, Nat.lt_succ_self _, (r91, (W64 (s40.2 + 1))), F4, a94, n95, e96, hn100, hs98.dr0, (le43.trans le84), fI, hr99⟩
   ·refine Ex ?_
    refine thenQ_ex ?_
    refine thenQ_ex ?_
    refine blockQ_hit rfl ?_
    have ho101 := iter_done h63 hnx60
    exact .inl ⟨rfl, (s40.1, s40.2), F2, as40_0, ns40_0, es40_0, ho101, hs42.dr1, le43, fI, hrs40_0⟩
  ·rintro f w50 ⟨s49, F3, as49_0, ns49_0, es49_0, rfl, hs51, le52, ⟨_, rfl⟩, hrs49_0⟩
   have h102 := k_done h39
   refine thenQ_nrm ?_
   refine Sq (Rg [0, 1, 2] ?_)
   refine Vs 3 ?_
   refine Nt ?_
   refine Rt ?_
   have hb106 := RowR.bound hrs49_0
   obtain ⟨F5, hs103, le104, hs105⟩ := hs51.fr0 hrs49_0
   obtain rfl := some_inj h102
   exact Re [(.slice as49_0 s49.1.length ns49_0), (vi 0)] hs103 ⟨as49_0, ns49_0, rfl, hb106, hs105⟩
end Go.Proofs.YtaihlcdkcampbaaGreatDoor
namespace Go.Proofs.YtaihlcdkcampbaaGreatDoor
open Go.Proofs
def ref06_SameKeys_L0 (N : Nat) (x0 : (List Key)) (x1 : (List Key)) : Int → Option (Flow Bool Int) := fun s27 =>
 (bif (decide (s27 < (x0.length : Int))) then (((idx x0 s27).bind fun x62 => ((idx x1 s27).bind fun x76 => some (!((x62.Clause == x76.Clause) && ((x62.Value == x76.Value) && true))))).bind fun j54 => (bif j54 then some (.ret false) else some (.next (W64 (s27 + 1))))) else some (.done s27))
def ref06_SameKeys (N : Nat) (x0 : (List Key)) (x1 : (List Key)) : Option Bool :=
 (bif ((x0.length : Int) != (x1.length : Int)) then some false else ((iter (ref06_SameKeys_L0 N x0 x1) N 0).bind fun o => o.k (fun r => some r) (fun s35 => some true)))
theorem co_ref06_SameKeys : CallOk Tryz.prog 49 := fun _ _ => by kernel_rfl
theorem c_ref06_SameKeys (N : Nat) (w0 : World) (F0 : Mem) (hF : ∀ b o, F0 b = some o → w0.heap[b]? = some o) (x0 : (List Key)) (a0_0 : Option Addr) (n0_0 : Nat) (hb0_0 : LC x0.length n0_0) (hs0_0 : SlA tKey F0 a0_0 x0) (x1 : (List Key)) (a1_0 : Option Addr) (n1_0 : Nat) (hb1_0 : LC x1.length n1_0) (hs1_0 : SlA tKey F0 a1_0 x1) (r : Bool) (h : ref06_SameKeys N x0 x1 = some r) :
  Calls Tryz.prog 49 ([(.slice a0_0 x0.length n0_0), (.slice a1_0 x1.length n1_0)] : List Value).toArray w0 (FRet w0 F0 fun F' v => v = (.bool r)) := by
 have hs0 := HS.start hF
 refine Go 26 Tryz.func49 ?_
 refine Sq (Rg [0] ?_)
 refine Vs 1 ?_
 refine Nss ?_
 refine Sq (Rg [0, 1, 2, 3, 4] ?_)
 refine Vs 5 ?_
 refine Nt ?_
 refine Cd h (fun hb21 h22 => ?_) (fun hb21 h23 => ?_)
 ·refine Sq (Rg [0] ?_)
  refine Vs 1 ?_
  refine Nt ?_
  refine Rt ?_
  refine thenQ_ret ?_
  obtain rfl := some_inj h22
  exact Re [(.bool false)] hs0 rfl
 ·refine Sc ?_
  refine thenQ_nrm ?_
  refine Sq ?_
  refine Sq (Rg [0] ?_)
  refine Vs 1 ?_
  refine Nt ?_
  obtain ⟨o24, ho25, h26⟩ := bind_some h23
  refine CWP.cut (fun f w => ∃ (s35 : Int) (F2 : Mem), o24 = .done s35 ∧ HS w0 F0 w F2 [] ∧ Mem.le F0 F2 ∧ FI f [] []) ?_ ?_
  ·refine Bk ?_
   refine CWP.loop (by kernel_rfl) (fun m f w => ∃ (s27 : Int) (F1 : Mem), iter (ref06_SameKeys_L0 N x0 x1) m s27 = some o24 ∧ HS w0 F0 w F1 [] ∧ Mem.le F0 F1 ∧ FI f [] [(0, (.slice a0_0 x0.length n0_0)), (1, (.slice a1_0 x1.length n1_0)), (5, (vi s27))]) N ⟨0, F0, ho25, hs0, (Mem.le.refl _), fI⟩ ?_
   rintro m40 f w28 ⟨s27, F1, hit41, hs29, le30, ⟨_, rfl⟩⟩
   obtain ⟨m42, fl43, rfl, hb44, hnx45⟩ := iter_step hit41
   refine Sq ?_
   refine Sq (Rg [0, 1, 2, 3] ?_)
   refine Vs 4 ?_
   refine Nt ?_
   refine Cd hb44 (fun hb46 h47 => ?_) (fun hb46 h48 => ?_)
   ·refine Sc ?_
    refine thenQ_nrm ?_
    refine Sq ?_
    refine Bk ?_
    refine Sq ?_
    obtain ⟨j54, hj60, h61⟩ := bind_some h47
    refine RD 9 9 [] [] hs29 (fun f w => ∃ (F3 : Mem), HS w0 F0 w F3 [] ∧ Mem.le F1 F3 ∧ FI f [] [(0, (.slice a0_0 x0.length n0_0)), (1, (.slice a1_0 x1.length n1_0)), (5, (vi s27)), (25, (.bool j54))]) (fun wd49 hw50 => ?_) ?_
    ·refine Dv [0, 1] ?_
     obtain ⟨x62, hx63, h65⟩ := bind_some hj60
     obtain ⟨hi64, hx63'⟩ := idx_spec hx63
     obtain ⟨b66, o67, C68, E69, fz70, rfl, hF72, hE73⟩ := SlA.open (SlA.mono hs0_0 le30) hx63'
     have hc75 := hE73 _ _ hx63'
     refine Di 2 hi64 ?_
     refine Dx 3 0 (fun _ hq => hq.1.1 _ _ hF72) hc75 ?_
     refine Dv [4, 5] ?_
     obtain ⟨x76, hx77, h79⟩ := bind_some h65
     obtain ⟨hi78, hx77'⟩ := idx_spec hx77
     obtain ⟨b80, o81, C82, E83, fz84, rfl, hF86, hE87⟩ := SlA.open (SlA.mono hs1_0 le30) hx77'
     have hc89 := hE87 _ _ hx77'
     refine Di 6 hi78 ?_
     refine Dx 7 0 (fun _ hq => hq.1.1 _ _ hF86) hc89 ?_
     refine Dv [8] ?_
     obtain rfl := some_inj h79
     exact DWP.done (by kernel_rfl) ⟨F1, hw50, (Mem.le.refl _), fI⟩
    ·rintro f w51 ⟨F3, hs52, le53, ⟨_, rfl⟩⟩
     refine thenQ_nrm ?_
     refine Cd h61 (fun hb90 h91 => ?_) (fun hb90 h92 => ?_)
     ·refine Sq (Rg [0] ?_)
      refine Vs 1 ?_
      refine Nt ?_
      refine Rt ?_
      refine blockQ_ret ?_
      refine thenQ_ret ?_
      refine thenQ_ret ?_
      refine blockQ_ret ?_
      have hret := iter_ret h91 hnx45
      subst hret
      refine .inr ?_
      refine thenQ_ret ?_
      obtain rfl := some_inj h26
      exact Re [(.bool false)] hs52 rfl
     ·refine Sc ?_
      refine blockQ_nrm ?_
      refine thenQ_nrm ?_
      refine Rg [0, 1, 2] ?_
      refine Vs 3 ?_
      refine RWP.nil ?_
      have hn93 := iter_next h92 hnx45
      exact ⟨m42, Nat.lt_succ_self _, (W64 (s27 + 1)), F3, hn93, hs52, (le30.trans le53), fI⟩
   ·refine Ex ?_
    refine thenQ_ex ?_
    refine thenQ_ex ?_
    refine blockQ_hit rfl ?_
    have ho94 := iter_done h48 hnx45
    exact .inl ⟨rfl, s27, F1, ho94, hs29, le30, fI⟩
  ·rintro f w36 ⟨s35, F2, rfl, hs37, le38, ⟨_, rfl⟩⟩
   have h95 := k_done h26
   refine thenQ_nrm ?_
   refine Sq (Rg [0] ?_)
   refine Vs 1 ?_
   refine Nt ?_
   refine Rt ?_
   obtain rfl := some_inj h95
   exact Re [(.bool true)] hs37 rfl
end Go.Proofs.YtaihlcdkcampbaaGreatDoor
namespace Go.Proofs.YtaihlcdkcampbaaGreatDoor
open Go.Proofs
def law06_same_L0 (N : Nat) (x0 : (List Int)) (x1 : (List Int)) : Int → Option (Flow Bool Int) := fun s27 =>
 (bif (decide (s27 < (x0.length : Int))) then (((idx x0 s27).bind fun x62 => ((idx x1 s27).bind fun x76 => some (x62 != x76))).bind fun j54 => (bif j54 then some (.ret false) else some (.next (W64 (s27 + 1))))) else some (.done s27))
def law06_same (N : Nat) (x0 : (List Int)) (x1 : (List Int)) : Option Bool :=
 (bif ((x0.length : Int) != (x1.length : Int)) then some false else ((iter (law06_same_L0 N x0 x1) N 0).bind fun o => o.k (fun r => some r) (fun s35 => some true)))
theorem co_law06_same : CallOk Tryz.prog 50 := fun _ _ => by kernel_rfl
theorem c_law06_same (N : Nat) (w0 : World) (F0 : Mem) (hF : ∀ b o, F0 b = some o → w0.heap[b]? = some o) (x0 : (List Int)) (a0_0 : Option Addr) (n0_0 : Nat) (hb0_0 : LC x0.length n0_0) (hs0_0 : SlA tInt F0 a0_0 x0) (x1 : (List Int)) (a1_0 : Option Addr) (n1_0 : Nat) (hb1_0 : LC x1.length n1_0) (hs1_0 : SlA tInt F0 a1_0 x1) (r : Bool) (h : law06_same N x0 x1 = some r) :
  Calls Tryz.prog 50 ([(.slice a0_0 x0.length n0_0), (.slice a1_0 x1.length n1_0)] : List Value).toArray w0 (FRet w0 F0 fun F' v => v = (.bool r)) := by
 have hs0 := HS.start hF
 refine Go 26 Tryz.func50 ?_
 refine Sq (Rg [0] ?_)
 refine Vs 1 ?_
 refine Nss ?_
 refine Sq (Rg [0, 1, 2, 3, 4] ?_)
 refine Vs 5 ?_
 refine Nt ?_
 refine Cd h (fun hb21 h22 => ?_) (fun hb21 h23 => ?_)
 ·refine Sq (Rg [0] ?_)
  refine Vs 1 ?_
  refine Nt ?_
  refine Rt ?_
  refine thenQ_ret ?_
  obtain rfl := some_inj h22
  exact Re [(.bool false)] hs0 rfl
 ·refine Sc ?_
  refine thenQ_nrm ?_
  refine Sq ?_
  refine Sq (Rg [0] ?_)
  refine Vs 1 ?_
  refine Nt ?_
  obtain ⟨o24, ho25, h26⟩ := bind_some h23
  refine CWP.cut (fun f w => ∃ (s35 : Int) (F2 : Mem), o24 = .done s35 ∧ HS w0 F0 w F2 [] ∧ Mem.le F0 F2 ∧ FI f [] []) ?_ ?_
  ·refine Bk ?_
   refine CWP.loop (by kernel_rfl) (fun m f w => ∃ (s27 : Int) (F1 : Mem), iter (law06_same_L0 N x0 x1) m s27 = some o24 ∧ HS w0 F0 w F1 [] ∧ Mem.le F0 F1 ∧ FI f [] [(0, (.slice a0_0 x0.length n0_0)), (1, (.slice a1_0 x1.length n1_0)), (5, (vi s27))]) N ⟨0, F0, ho25, hs0, (Mem.le.refl _), fI⟩ ?_
   rintro m40 f w28 ⟨s27, F1, hit41, hs29, le30, ⟨_, rfl⟩⟩
   obtain ⟨m42, fl43, rfl, hb44, hnx45⟩ := iter_step hit41
   refine Sq ?_
   refine Sq (Rg [0, 1, 2, 3] ?_)
   refine Vs 4 ?_
   refine Nt ?_
   refine Cd hb44 (fun hb46 h47 => ?_) (fun hb46 h48 => ?_)
   ·refine Sc ?_
    refine thenQ_nrm ?_
    refine Sq ?_
    refine Bk ?_
    refine Sq ?_
    obtain ⟨j54, hj60, h61⟩ := bind_some h47
    refine RD 9 9 [] [] hs29 (fun f w => ∃ (F3 : Mem), HS w0 F0 w F3 [] ∧ Mem.le F1 F3 ∧ FI f [] [(0, (.slice a0_0 x0.length n0_0)), (1, (.slice a1_0 x1.length n1_0)), (5, (vi s27)), (25, (.bool j54))]) (fun wd49 hw50 => ?_) ?_
    ·refine Dv [0, 1] ?_
     obtain ⟨x62, hx63, h65⟩ := bind_some hj60
     obtain ⟨hi64, hx63'⟩ := idx_spec hx63
     obtain ⟨b66, o67, C68, E69, fz70, rfl, hF72, hE73⟩ := SlA.open (SlA.mono hs0_0 le30) hx63'
     have hc75 := hE73 _ _ hx63'
     refine Di 2 hi64 ?_
     refine Dx 3 0 (fun _ hq => hq.1.1 _ _ hF72) hc75 ?_
     refine Dv [4, 5] ?_
     obtain ⟨x76, hx77, h79⟩ := bind_some h65
     obtain ⟨hi78, hx77'⟩ := idx_spec hx77
     obtain ⟨b80, o81, C82, E83, fz84, rfl, hF86, hE87⟩ := SlA.open (SlA.mono hs1_0 le30) hx77'
     have hc89 := hE87 _ _ hx77'
     refine Di 6 hi78 ?_
     refine Dx 7 0 (fun _ hq => hq.1.1 _ _ hF86) hc89 ?_
     refine Dv [8] ?_
     obtain rfl := some_inj h79
     exact DWP.done (by kernel_rfl) ⟨F1, hw50, (Mem.le.refl _), fI⟩
    ·rintro f w51 ⟨F3, hs52, le53, ⟨_, rfl⟩⟩
     refine thenQ_nrm ?_
     refine Cd h61 (fun hb90 h91 => ?_) (fun hb90 h92 => ?_)
     ·refine Sq (Rg [0] ?_)
      refine Vs 1 ?_
      refine Nt ?_
      refine Rt ?_
      refine blockQ_ret ?_
      refine thenQ_ret ?_
      refine thenQ_ret ?_
      refine blockQ_ret ?_
      have hret := iter_ret h91 hnx45
      subst hret
      refine .inr ?_
      refine thenQ_ret ?_
      obtain rfl := some_inj h26
      exact Re [(.bool false)] hs52 rfl
     ·refine Sc ?_
      refine blockQ_nrm ?_
      refine thenQ_nrm ?_
      refine Rg [0, 1, 2] ?_
      refine Vs 3 ?_
      refine RWP.nil ?_
      have hn93 := iter_next h92 hnx45
      exact ⟨m42, Nat.lt_succ_self _, (W64 (s27 + 1)), F3, hn93, hs52, (le30.trans le53), fI⟩
   ·refine Ex ?_
    refine thenQ_ex ?_
    refine thenQ_ex ?_
    refine blockQ_hit rfl ?_
    have ho94 := iter_done h48 hnx45
    exact .inl ⟨rfl, s27, F1, ho94, hs29, le30, fI⟩
  ·rintro f w36 ⟨s35, F2, rfl, hs37, le38, ⟨_, rfl⟩⟩
   have h95 := k_done h26
   refine thenQ_nrm ?_
   refine Sq (Rg [0] ?_)
   refine Vs 1 ?_
   refine Nt ?_
   refine Rt ?_
   obtain rfl := some_inj h95
   exact Re [(.bool true)] hs37 rfl
end Go.Proofs.YtaihlcdkcampbaaGreatDoor
namespace Go.Proofs.YtaihlcdkcampbaaGreatDoor
section
variable {N : Nat} {f : List Int}
theorem maxlen {a b c d : Nat} : decide ((max (max (max (a : Int) (b : Int)) (c : Int)) (d : Int)) > 64) = decide (a > 64 ∨ b > 64 ∨ c > 64 ∨ d > 64) := by
 congr 1; rw [eq_iff_iff]; omega
theorem iter_count {α : Type} (l : List α) (p : α → Bool) (n0 : Nat) {body : Int × Int → Option (Flow (Int × Int) (Int × Int))} (hs : n0 + l.length < 1000000)
  (hb : ∀ (n : Nat) (i : Nat) (h : i < l.length), body ((n : Int), (i : Int)) = bif p l[i] then some (.ret (62, W64 ((n : Int) + 1))) else some (.next (W64 ((n : Int) + 1), W64 ((i : Int) + 1)))) (he : ∀ n, body (n, (l.length : Int)) = some (.done (n, (l.length : Int))))
  (hN : l.length < N) :
  iter body N ((n0 : Int), 0) = some (bif l.any p then .ret (62, (n0 : Int) + (l.findIdx p : Int) + 1) else .done (((n0 + l.length : Nat) : Int), (l.length : Int))) := by
 obtain ⟨o, ho, rfl⟩ := iter_ex (body := body) l.length (fun i s => s = (((n0 + i : Nat) : Int), (i : Int)) ∧ ∀ k (h : k < l.length), k < i → p l[k] = false) (fun o => o = bif l.any p then .ret (62, (n0 : Int) + (l.findIdx p : Int) + 1) else .done (((n0 + l.length : Nat) : Int), (l.length : Int))) (by
  rintro i s hi ⟨rfl, hk⟩
  by_cases h : i < l.length
  ·cases e : p l[i] with
   | false =>
    refine .inl ⟨_, by rw [hb _ i h, e, cond_false, W64_succ (by omega), W64_succ (by omega)]; rfl, ⟨rfl, fun k hk' hki => ?_⟩, h⟩
    by_cases hki' : k = i
    ·subst hki'; exact e
    ·exact hk k hk' (by omega)
   | true =>
    refine .inr ⟨_, by rw [hb _ i h, e, cond_true, W64_succ (by omega)], fun _ h => (by cases h), ?_⟩
    have h1 : l.any p = true := List.any_eq_true.2 ⟨_, List.getElem_mem h, e⟩
    have h2 : l.findIdx p = i := by
     rw [List.findIdx_eq h]
     exact ⟨e, fun k hk' => hk k (by omega) hk'⟩
    rw [h1, cond_true, h2]
    congr 2
  ·have : i = l.length := by omega
   subst this
   refine .inr ⟨_, he _, fun _ h => (by cases h), ?_⟩
   have h1 : l.any p = false := by
    rw [List.any_eq_false]
    intro x hx
    obtain ⟨k, hk', rfl⟩ := List.getElem_of_mem hx
    rw [hk k hk' hk']; simp
   rw [h1, cond_false]) l.length N 0 ((n0 : Int), 0) (by omega) ⟨rfl, fun k h hk => by omega⟩ hN
 exact ho
theorem s_Check (hN : 1000 < N) {b : Book} (h : FitB N b) : rules_Check N b = some (chk b) := by
 unfold rules_Check chk
 rw [maxlen]
 by_cases hl : b.Points.length > 64 ∨ b.Multipliers.length > 64 ∨ b.Penalties.length > 64 ∨ b.Repeats.length > 64
 ·rw [decide_eq_true hl, cond_true, if_pos hl]
 ·rw [decide_eq_false hl, cond_false, if_neg hl]
  have hl' : b.Points.length ≤ 64 ∧ b.Multipliers.length ≤ 64 ∧ b.Penalties.length ≤ 64 ∧ b.Repeats.length ≤ 64 := by omega
  rw [s_Concat hN hl'.1 hl'.2.1 hl'.2.2.1, Option.bind_some]
  generalize hal : b.Points ++ b.Multipliers ++ b.Penalties = al
  have hlen : al.length ≤ 192 := by rw [← hal]; simp; omega
  have hfit : ∀ c, c ∈ al → FitC N c := by
   intro c hc
   rw [← hal] at hc
   simp only [List.mem_append] at hc
   rcases hc with (hc | hc) | hc
   ·exact h.p.c c hc
   ·exact h.m.c c hc
   ·exact h.e.c c hc
  have h1 := iter_count (N := N) al (fun c => !sndC c) 0 (body := rules_Check_L0 N b al) (by omega) (fun n i hi => by
   unfold rules_Check_L0
   simp only
   rw [lt_t hi, cond_true, idx_nat hi, Option.bind_some, s_soundClause (hfit _ (List.getElem_mem hi)), Option.bind_some]) (fun n => by unfold rules_Check_L0; simp only; rw [lt_f, cond_false]) (by omega)
  rw [show ((0 : Int), (0 : Int)) = (((0 : Nat) : Int), (0 : Int)) from rfl, h1]
  cases ha : al.any fun c => !sndC c with
  | true => simp [Flow.k]
  | false =>
   have h2 := iter_count (N := N) b.Repeats (fun e => !sndT e 1) (0 + al.length) (body := rules_Check_L1 N b al (((0 + al.length : Nat) : Int), (al.length : Int))) (by omega) (fun n i hi => by
    unfold rules_Check_L1
    simp only
    rw [lt_t hi, cond_true, idx_nat hi, Option.bind_some, s_is (h.r.c _ (List.getElem_mem hi)) (by decide), Option.bind_some]) (fun n => by unfold rules_Check_L1; simp only; rw [lt_f, cond_false]) (by omega)
   simp only [Flow.k, cond_false, Option.bind_some, Bool.false_eq_true, if_false]
   rw [h2]
   cases b.Repeats.any fun e => !sndT e 1 with
   | true => simp
   | false => simp
theorem fall {α : Type} {l : List α} {p : α → Bool} : l.findIdx p < l.length ↔ l.any p = true := by
 rw [List.findIdx_lt_length]; simp
theorem s_rCheck (hN : 1000 < N) {b : Book} (h : FitB N b) : ref06_Check N b = some (chk b) := by
 unfold ref06_Check chk
 by_cases hl : b.Points.length > 64 ∨ b.Multipliers.length > 64 ∨ b.Penalties.length > 64 ∨ b.Repeats.length > 64
 ·rw [if_pos hl]
  have : (decide ((b.Points.length : Int) > 64) || (decide ((b.Multipliers.length : Int) > 64) || (decide ((b.Penalties.length : Int) > 64) || decide ((b.Repeats.length : Int) > 64)))) = true := by
   simp; omega
  rw [this, cond_true]
 ·rw [if_neg hl]
  have hl' : b.Points.length ≤ 64 ∧ b.Multipliers.length ≤ 64 ∧ b.Penalties.length ≤ 64 ∧ b.Repeats.length ≤ 64 := by omega
  have : (decide ((b.Points.length : Int) > 64) || (decide ((b.Multipliers.length : Int) > 64) || (decide ((b.Penalties.length : Int) > 64) || decide ((b.Repeats.length : Int) > 64)))) = false := by
   simp; omega
  rw [this, cond_false]
  obtain ⟨m, rfl⟩ : ∃ m, N = m + 4 := ⟨N - 4, by omega⟩
  have st : ∀ (n k : Nat) (x : List Clause), n ≤ 1000 → x.length ≤ 64 → FitL (m + 4) x → k < 3 → [b.Points, b.Multipliers, b.Penalties][k]? = some x →
    ref06_Check_L0 (m + 4) b ((n : Int), (k : Int)) = some (bif x.any (fun c => !sndC c) then .ret (62, (n : Int) + (x.findIdx (fun c => !sndC c) : Int)) else .next (((n + x.length : Nat) : Int), ((k + 1 : Nat) : Int))) := by
   intro n k x hn hx hfit hk hg
   unfold ref06_Check_L0
   simp only
   rw [show ([b.Points, b.Multipliers, b.Penalties].length : Int) = ((3 : Nat) : Int) from rfl, lt_t hk, cond_true, idx_nat', hg, Option.bind_some, s_rclauses hfit, Option.bind_some, Option.bind_some]
   have hle : x.findIdx (fun c => !sndC c) ≤ x.length := List.findIdx_le_length
   rw [← Int.natCast_add, W64_nat (by omega)]
   cases ha : x.any fun c => !sndC c with
   | true =>
    rw [decide_eq_true (by have := fall.2 ha; omega)]; rfl
   | false =>
    have he : x.findIdx (fun c => !sndC c) = x.length := by
     rcases Nat.lt_or_ge (x.findIdx fun c => !sndC c) x.length with h | h
     ·rw [fall] at h; rw [ha] at h; cases h
     ·omega
    rw [decide_eq_false (by omega), cond_false, cond_false, W64_succ (by omega), he]
  have hany : (b.Points ++ b.Multipliers ++ b.Penalties).any (fun c => !sndC c) = (b.Points.any (fun c => !sndC c) || b.Multipliers.any (fun c => !sndC c) || b.Penalties.any (fun c => !sndC c)) := by
   rw [List.any_append, List.any_append]
  have s1 := st 1 0 b.Points (by omega) hl'.1 h.p (by omega) rfl
  have s2 := st (1 + b.Points.length) 1 b.Multipliers (by omega) hl'.2.1 h.m (by omega) rfl
  have s3 := st (1 + b.Points.length + b.Multipliers.length) 2 b.Penalties (by omega) hl'.2.2.1 h.e (by omega) rfl
  have hfi : (b.Points ++ b.Multipliers ++ b.Penalties).findIdx (fun c => !sndC c) = if b.Points.any (fun c => !sndC c) then b.Points.findIdx (fun c => !sndC c) else if b.Multipliers.any (fun c => !sndC c) then b.Points.length + b.Multipliers.findIdx (fun c => !sndC c) else b.Points.length + b.Multipliers.length + b.Penalties.findIdx (fun c => !sndC c) := by
   rw [List.append_assoc, List.findIdx_append, List.findIdx_append]
   simp only [fall]
   split
   ·rfl
   ·split <;> omega
  rw [hany, hfi]
  rw [iter, show ((1 : Int), (0 : Int)) = (((1 : Nat) : Int), ((0 : Nat) : Int)) from rfl, s1]
  cases hp : b.Points.any fun c => !sndC c with
  | true => simp [Flow.k]; omega
  | false =>
   simp only [cond_false]
   rw [iter, s2]
   cases hm : b.Multipliers.any fun c => !sndC c with
   | true => simp [Flow.k]; omega
   | false =>
    simp only [cond_false]
    rw [iter, s3]
    cases hq : b.Penalties.any fun c => !sndC c with
    | true => simp [Flow.k]; omega
    | false =>
     simp only [cond_false]
     rw [iter]
     have s4 : ∀ n, ref06_Check_L0 (m + 4) b (n, ((2 + 1 : Nat) : Int)) = some (.done (n, ((2 + 1 : Nat) : Int))) := fun n => by
      unfold ref06_Check_L0; simp only
      rw [show ([b.Points, b.Multipliers, b.Penalties].length : Int) = ((2 + 1 : Nat) : Int) from rfl, lt_f, cond_false]
     rw [s4]
     simp only [Flow.k, Option.bind_some, Bool.or_self, Bool.false_eq_true, if_false]
     rw [iter_first b.Repeats (fun e => !sndT e 1) (fun i => (62, ((1 + b.Points.length + b.Multipliers.length + b.Penalties.length + i : Nat) : Int))) (fun i hi => by
      unfold ref06_Check_L1
      rw [lt_t hi, cond_true, idx_nat hi, Option.bind_some, s_rsound (h.r.c _ (List.getElem_mem hi)), Option.bind_some]
      simp only
      rw [← Int.natCast_add, W64_nat (by omega)]) (by unfold ref06_Check_L1; rw [lt_f, cond_false]) h.r.n h.r.w]
     cases b.Repeats.any fun e => !sndT e 1 with
     | true => simp; omega
     | false => simp
noncomputable def vld (b : Book) : Bool := (chk b).1 == 0
theorem s_Valid (hN : 1000 < N) {b : Book} (h : FitB N b) : rules_Valid N b = some (vld b) := by unfold rules_Valid vld; rw [s_Check hN h]; rfl
theorem s_rValid (hN : 1000 < N) {b : Book} (h : FitB N b) : ref06_Valid N b = some (vld b) := by unfold ref06_Valid vld; rw [s_rCheck hN h]; rfl
theorem vld_iff {b : Book} : vld b = true ↔ sndL b.Points = true ∧ sndL b.Multipliers = true ∧ sndL b.Penalties = true ∧ b.Repeats.length ≤ 64 ∧ ∀ e, e ∈ b.Repeats → sndT e 1 = true := by
 unfold vld chk sndL
 by_cases hl : b.Points.length > 64 ∨ b.Multipliers.length > 64 ∨ b.Penalties.length > 64 ∨ b.Repeats.length > 64
 ·rw [if_pos hl]; simp; intro _ _ _ _ _ _; omega
 ·rw [if_neg hl]
  have hl' : b.Points.length ≤ 64 ∧ b.Multipliers.length ≤ 64 ∧ b.Penalties.length ≤ 64 ∧ b.Repeats.length ≤ 64 := by omega
  simp only [hl', decide_true, Bool.true_and]
  have hany : (b.Points ++ b.Multipliers ++ b.Penalties).any (fun c => !sndC c) = !(b.Points.all sndC && b.Multipliers.all sndC && b.Penalties.all sndC) := by
   rw [List.any_append, List.any_append, all_any, all_any, all_any]
   cases b.Points.any _ <;> cases b.Multipliers.any _ <;> cases b.Penalties.any _ <;> rfl
  have hr : (b.Repeats.any fun e => !sndT e 1) = !(b.Repeats.all fun e => sndT e 1) := by rw [all_any]; simp
  rw [hany, hr, ← List.all_eq_true (l := b.Repeats)]
  cases b.Points.all sndC <;> cases b.Multipliers.all sndC <;> cases b.Penalties.all sndC <;> cases (b.Repeats.all fun e => sndT e 1) <;> simp
noncomputable def wrg (b : Book) (f : List Int) : Int := if vld b = false then 62 else if fac f = false then 63 else 0
theorem s_wrong (hN : 1000 < N) {b : Book} (h : FitB N b) : rules_wrong N b f = some (wrg b f) := by
 unfold rules_wrong wrg; rw [s_Valid hN h, Option.bind_some, s_validFacts (by omega)]
 cases vld b
 ·rfl
 ·cases fac f <;> rfl
theorem s_applied (hN : 1000 < N) {b : Book} (h : FitB N b) : ref06_applied N b f = some (wrg b f) := by
 unfold ref06_applied wrg; rw [s_rValid hN h, Option.bind_some, s_factual (by omega)]
 cases vld b
 ·rfl
 ·cases fac f <;> rfl
theorem wrg0 {b : Book} (h : wrg b f = 0) : vld b = true ∧ fac f = true := by
 unfold wrg at h
 cases hv : vld b
 ·rw [hv] at h; simp at h
 ·cases hf : fac f
  ·rw [hv, hf] at h; simp at h
  ·exact ⟨rfl, rfl⟩
theorem wrg_ne {b : Book} (h : ¬ wrg b f = 0) : (wrg b f != 0) = true := by simpa using h
noncomputable def ptsS (l : List Clause) (b : Book) (f : List Int) (no : Int) : Int × Int :=
 if wrg b f ≠ 0 then (0, wrg b f) else if fi (isT f) l < 0 then (0, no) else (val f (l[(fi (isT f) l).toNat]?.getD ⟨zE, zE⟩).Then, 0)
theorem pts_at {l : List Clause} (h : ¬ fi (isT f) l < 0) : ∃ c, c ∈ l ∧ idx l (fi (isT f) l) = some c ∧ l[(fi (isT f) l).toNat]?.getD ⟨zE, zE⟩ = c := by
 obtain ⟨i, hi, h1, h2, _⟩ := fi_nn (p := isT f) (l := l) (by omega)
 refine ⟨l[i], List.getElem_mem hi, by rw [h1, idx_nat hi], by rw [h1, Int.toNat_natCast, List.getElem?_eq_getElem hi]; rfl⟩
theorem s_Points (hN : 1000 < N) {b : Book} (h : FitB N b) : rules_Points N b f = some (ptsS b.Points b f 70) := by
 unfold rules_Points ptsS
 rw [s_wrong hN h, Option.bind_some]
 by_cases hw : wrg b f = 0
 ·obtain ⟨hv, hf⟩ := wrg0 hw
  have hs := (vld_iff.1 hv).1
  rw [hw, if_neg (by simp), show ((0 : Int) != 0) = false from rfl, cond_false, s_first hf h.p (fun c hc => sndL_c hs hc), Option.bind_some]
  by_cases hn : fi (isT f) b.Points < 0
  ·rw [decide_eq_true hn, if_pos hn]; rfl
  ·obtain ⟨c, hc, h1, h2⟩ := pts_at hn
   rw [decide_eq_false hn, if_neg hn, cond_false, h1, h2, Option.bind_some, s_value hf (h.p.c c hc).2 (by rw [sndC_t (sndL_c hs hc)]; decide)]; rfl
 ·rw [wrg_ne hw, if_pos hw]; rfl
theorem s_rPoints (hN : 1000 < N) {b : Book} (h : FitB N b) : ref06_Points N b f = some (ptsS b.Points b f 70) := by
 unfold ref06_Points ptsS
 rw [s_applied hN h, Option.bind_some]
 by_cases hw : wrg b f = 0
 ·obtain ⟨hv, hf⟩ := wrg0 hw
  have hs := (vld_iff.1 hv).1
  rw [hw, if_neg (by simp), show ((0 : Int) != 0) = false from rfl, cond_false, s_rfirst hf h.p (fun c hc => sndL_c hs hc), Option.bind_some]
  by_cases hn : fi (isT f) b.Points < 0
  ·rw [decide_eq_true hn, if_pos hn]; rfl
  ·obtain ⟨c, hc, h1, h2⟩ := pts_at hn
   rw [decide_eq_false hn, if_neg hn, cond_false, h1, h2, Option.bind_some, s_rvalue hf (h.p.c c hc).2 (by rw [sndC_t (sndL_c hs hc)]; decide)]; rfl
 ·rw [wrg_ne hw, if_pos hw]; rfl
theorem s_Penalty (hN : 1000 < N) {b : Book} (h : FitB N b) : rules_Penalty N b f = some (ptsS b.Penalties b f 0) := by
 unfold rules_Penalty ptsS
 rw [s_wrong hN h, Option.bind_some]
 by_cases hw : wrg b f = 0
 ·obtain ⟨hv, hf⟩ := wrg0 hw
  have hs := (vld_iff.1 hv).2.2.1
  rw [hw, if_neg (by simp), show ((0 : Int) != 0) = false from rfl, cond_false, s_first hf h.e (fun c hc => sndL_c hs hc), Option.bind_some]
  by_cases hn : fi (isT f) b.Penalties < 0
  ·rw [decide_eq_true hn, if_pos hn]; rfl
  ·obtain ⟨c, hc, h1, h2⟩ := pts_at hn
   rw [decide_eq_false hn, if_neg hn, cond_false, h1, h2, Option.bind_some, s_value hf (h.e.c c hc).2 (by rw [sndC_t (sndL_c hs hc)]; decide)]; rfl
 ·rw [wrg_ne hw, if_pos hw]; rfl
theorem s_rPenalty (hN : 1000 < N) {b : Book} (h : FitB N b) : ref06_Penalty N b f = some (ptsS b.Penalties b f 0) := by
 unfold ref06_Penalty ptsS
 rw [s_applied hN h, Option.bind_some]
 by_cases hw : wrg b f = 0
 ·obtain ⟨hv, hf⟩ := wrg0 hw
  have hs := (vld_iff.1 hv).2.2.1
  rw [hw, if_neg (by simp), show ((0 : Int) != 0) = false from rfl, cond_false, s_rfirst hf h.e (fun c hc => sndL_c hs hc), Option.bind_some]
  by_cases hn : fi (isT f) b.Penalties < 0
  ·rw [decide_eq_true hn, if_pos hn]; rfl
  ·obtain ⟨c, hc, h1, h2⟩ := pts_at hn
   rw [decide_eq_false hn, if_neg hn, cond_false, h1, h2, Option.bind_some, s_rvalue hf (h.e.c c hc).2 (by rw [sndC_t (sndL_c hs hc)]; decide)]; rfl
 ·rw [wrg_ne hw, if_pos hw]; rfl
theorem iter_app {α β ρ : Type} (l : List α) (g : Nat → α → List β) {body : List β × Int → Option (Flow ρ (List β × Int))} (hl : l.length ≤ 1000) (hg : ∀ i x, (g i x).length ≤ 1)
  (hb : ∀ (s : List β) (i : Nat) (h : i < l.length), s.length ≤ 1000 → body (s, (i : Int)) = some (.next (s ++ g i l[i], W64 ((i : Int) + 1)))) (he : ∀ s, body (s, (l.length : Int)) = some (.done (s, (l.length : Int)))) (hN : l.length < N) :
  iter body N ([], 0) = some (.done (cat l.length (fun i => (l[i]?.map (g i)).getD []), (l.length : Int))) := by
 have := iter_cat' (body := body) (n := l.length) 1 (fun i => (l[i]?.map (g i)).getD []) (fun i hi => by rw [List.getElem?_eq_getElem hi]; exact hg _ _) (s0 := []) (fun i s hi hs => by
  rw [hb s i hi (by simp at hs; omega), W64_succ (by omega), List.getElem?_eq_getElem hi]; rfl) he hN
 rw [this, List.nil_append]
def keyG (f : List Int) (i : Nat) (c : Clause) : List Key := if val f c.When = 1 then [⟨(i : Int), val f c.Then⟩] else []
noncomputable def keysS (b : Book) (f : List Int) : List Key × Int := if wrg b f ≠ 0 then ([], wrg b f) else (cat b.Multipliers.length (fun i => (b.Multipliers[i]?.map (keyG f i)).getD []), 0)
theorem keyG_le (i : Nat) (c : Clause) : (keyG f i c).length ≤ 1 := by unfold keyG; split <;> simp
theorem s_Keys (hN : 1000 < N) {b : Book} (h : FitB N b) : rules_Keys N b f = some (keysS b f) := by
 unfold rules_Keys keysS
 rw [s_wrong hN h, Option.bind_some]
 by_cases hw : wrg b f = 0
 ·obtain ⟨hv, hf⟩ := wrg0 hw
  have hs := (vld_iff.1 hv).2.1
  rw [hw, if_neg (by simp), show ((0 : Int) != 0) = false from rfl, cond_false]
  rw [iter_app b.Multipliers (keyG f) (by have := sndL_n hs; omega) keyG_le (fun s i hi hs' => by
   have hc := sndL_c hs (List.getElem_mem hi)
   have hfc := h.m.c _ (List.getElem_mem hi)
   unfold rules_Keys_L0 keyG
   simp only
   rw [lt_t hi, cond_true, idx_nat hi, Option.bind_some, s_value hf hfc.1 (by rw [sndC_w hc]; decide), Option.bind_some]
   by_cases h1 : val f b.Multipliers[i].When = 1
   ·rw [show (val f b.Multipliers[i].When == 1) = true by simpa using h1, cond_true, if_pos h1, s_value hf hfc.2 (by rw [sndC_t hc]; decide), Option.bind_some, apnd_ok (by simp; omega)]; rfl
   ·rw [show (val f b.Multipliers[i].When == 1) = false by simpa using h1, cond_false, if_neg h1, List.append_nil]; rfl) (fun s => by unfold rules_Keys_L0; simp only; rw [lt_f, cond_false]) h.m.n]
  rfl
 ·rw [wrg_ne hw, if_pos hw]; rfl
theorem s_rKeys (hN : 1000 < N) {b : Book} (h : FitB N b) : ref06_Keys N b f = some (keysS b f) := by
 unfold ref06_Keys keysS
 rw [s_applied hN h, Option.bind_some]
 by_cases hw : wrg b f = 0
 ·obtain ⟨hv, hf⟩ := wrg0 hw
  have hs := (vld_iff.1 hv).2.1
  rw [hw, if_neg (by simp), show ((0 : Int) != 0) = false from rfl, cond_false]
  rw [iter_app b.Multipliers (keyG f) (by have := sndL_n hs; omega) keyG_le (fun s i hi hs' => by
   have hc := sndL_c hs (List.getElem_mem hi)
   have hfc := h.m.c _ (List.getElem_mem hi)
   unfold ref06_Keys_L0 keyG
   simp only
   rw [lt_t hi, cond_true, idx_nat hi, Option.bind_some, s_rvalue hf hfc.1 (by rw [sndC_w hc]; decide), Option.bind_some]
   by_cases h1 : val f b.Multipliers[i].When = 1
   ·rw [show (val f b.Multipliers[i].When == 1) = true by simpa using h1, cond_true, if_pos h1, Option.bind_some, s_rvalue hf hfc.2 (by rw [sndC_t hc]; decide), Option.bind_some, apnd_ok (by simp; omega)]; rfl
   ·rw [show (val f b.Multipliers[i].When == 1) = false by simpa using h1, cond_false, if_neg h1, List.append_nil]; rfl) (fun s => by unfold ref06_Keys_L0; simp only; rw [lt_f, cond_false]) h.m.n]
  rfl
 ·rw [wrg_ne hw, if_pos hw]; rfl
noncomputable def repS (b : Book) (f : List Int) : List Int × Int := if wrg b f ≠ 0 then ([], wrg b f) else (cat b.Repeats.length (fun i => (b.Repeats[i]?.map (fun e => [val f e])).getD []), 0)
theorem s_Repeat (hN : 1000 < N) {b : Book} (h : FitB N b) : rules_Repeat N b f = some (repS b f) := by
 unfold rules_Repeat repS
 rw [s_wrong hN h, Option.bind_some]
 by_cases hw : wrg b f = 0
 ·obtain ⟨hv, hf⟩ := wrg0 hw
  obtain ⟨_, _, _, hn, hs⟩ := vld_iff.1 hv
  rw [hw, if_neg (by simp), show ((0 : Int) != 0) = false from rfl, cond_false]
  rw [iter_app b.Repeats (fun _ e => [val f e]) (by omega) (fun _ _ => by simp) (fun s i hi hs' => by
   unfold rules_Repeat_L0
   simp only
   rw [lt_t hi, cond_true, idx_nat hi, Option.bind_some, s_value hf (h.r.c _ (List.getElem_mem hi)) (by rw [sndT_k (hs _ (List.getElem_mem hi))]; decide), Option.bind_some, apnd_ok (by simp; omega)]; rfl) (fun s => by unfold rules_Repeat_L0; simp only; rw [lt_f, cond_false]) h.r.n]
  rfl
 ·rw [wrg_ne hw, if_pos hw]; rfl
theorem s_rRepeat (hN : 1000 < N) {b : Book} (h : FitB N b) : ref06_Repeat N b f = some (repS b f) := by
 unfold ref06_Repeat repS
 rw [s_applied hN h, Option.bind_some]
 by_cases hw : wrg b f = 0
 ·obtain ⟨hv, hf⟩ := wrg0 hw
  obtain ⟨_, _, _, hn, hs⟩ := vld_iff.1 hv
  rw [hw, if_neg (by simp), show ((0 : Int) != 0) = false from rfl, cond_false]
  rw [iter_app b.Repeats (fun _ e => [val f e]) (by omega) (fun _ _ => by simp) (fun s i hi hs' => by
   unfold ref06_Repeat_L0
   simp only
   rw [lt_t hi, cond_true, idx_nat hi, Option.bind_some, s_rvalue hf (h.r.c _ (List.getElem_mem hi)) (by rw [sndT_k (hs _ (List.getElem_mem hi))]; decide), Option.bind_some, apnd_ok (by simp; omega)]; rfl) (fun s => by unfold ref06_Repeat_L0; simp only; rw [lt_f, cond_false]) h.r.n]
  rfl
 ·rw [wrg_ne hw, if_pos hw]; rfl
theorem any_none {α : Type} {l : List α} : (l.any fun _ => false) = false := by rw [List.any_eq_false]; simp
theorem m_same_self {l : List Int} (hN : l.length < N) (hl : l.length < 9223372036854775808) : law06_same N l l = some true := by
 unfold law06_same
 rw [show ((l.length : Int) != (l.length : Int)) = false by simp, cond_false]
 rw [iter_first l (fun _ => false) (fun _ => false) (fun i hi => by
  unfold law06_same_L0
  rw [lt_t hi, cond_true, idx_nat hi]; simp) (by unfold law06_same_L0; rw [lt_f, cond_false]) hN hl, any_none]
 rfl
theorem m_SameKeys_self {l : List Key} (hN : l.length < N) (hl : l.length < 9223372036854775808) : ref06_SameKeys N l l = some true := by
 unfold ref06_SameKeys
 rw [show ((l.length : Int) != (l.length : Int)) = false by simp, cond_false]
 rw [iter_first l (fun _ => false) (fun _ => false) (fun i hi => by
  unfold ref06_SameKeys_L0
  rw [lt_t hi, cond_true, idx_nat hi]; simp) (by unfold ref06_SameKeys_L0; rw [lt_f, cond_false]) hN hl, any_none]
 rfl
theorem keysS_le {b : Book} : (keysS b f).1.length ≤ 64 := by
 unfold keysS
 by_cases hw : wrg b f = 0
 ·rw [if_neg (by simpa using hw)]
  have := cat_le (n := b.Multipliers.length) (K := 1) (f := fun i => (b.Multipliers[i]?.map (keyG f i)).getD []) (fun i hi => by rw [List.getElem?_eq_getElem hi]; exact keyG_le _ _)
  have := sndL_n (vld_iff.1 (wrg0 hw).1).2.1
  simp only
  omega
 ·rw [if_pos hw]; simp
theorem repS_le {b : Book} : (repS b f).1.length ≤ 64 := by
 unfold repS
 by_cases hw : wrg b f = 0
 ·rw [if_neg (by simpa using hw)]
  have := cat_le (n := b.Repeats.length) (K := 1) (f := fun i => (b.Repeats[i]?.map (fun e => [val f e])).getD []) (fun i hi => by rw [List.getElem?_eq_getElem hi]; simp)
  have := (vld_iff.1 (wrg0 hw).1).2.2.2.1
  simp only
  omega
 ·rw [if_pos hw]; simp
end
end Go.Proofs.YtaihlcdkcampbaaGreatDoor
namespace Go.Proofs.YtaihlcdkcampbaaGreatDoor
open Go.Proofs
def rules_constant (N : Nat) (x0 : Int) : Option Expr :=
 some ({ Op := 1, Value := x0, Kids := ([] : List Expr) } : Expr)
theorem co_rules_constant : CallOk Tryz.prog 191 := fun _ _ => by kernel_rfl
theorem c_rules_constant (N : Nat) (w0 : World) (F0 : Mem) (hF : ∀ b o, F0 b = some o → w0.heap[b]? = some o) (x0 : Int) (r : Expr) (h : rules_constant N x0 = some r) :
  Calls Tryz.prog 191 ([(vi x0)] : List Value).toArray w0 (FRet w0 F0 fun F' v => ∃ (aq0_2 : Option Addr) (nq0_2 : Nat), v = (.agg (kExpr r aq0_2 nq0_2)) ∧ LC r.Kids.length nq0_2 ∧ SlA tExpr F' aq0_2 r.Kids) := by
 have hs0 := HS.start hF
 refine Go 5 Tryz.func191 ?_
 refine Sq (Rg [0] ?_)
 refine Al' 33 #[(vi 0), (vi 0), (.slice none ([] : List Expr).length 0)] hs0 (fun b21 w22 hs23 => ?_)
 refine Nss (Rg [0, 1, 2] ?_)
 refine Vs 2 ?_
 refine St0 #[(vi 1), (vi x0), (.slice none ([] : List Expr).length 0)] hs23 (fun w24 hs25 => ?_)
 refine Nt ?_
 refine Rt ?_
 obtain rfl := some_inj h
 exact ⟨rfl, (.agg #[(vi 1), (vi x0), (.slice none ([] : List Expr).length 0)]), res_of (l := [.cell 2 33]) (by kernel_rfl) (vs := [(.agg #[(vi 1), (vi x0), (.slice none ([] : List Expr).length 0)])]) ⟨b21, 0, rfl, run_loadVar' (t := 33) (g := true) (s := 3) (by kernel_rfl) hs25.at0 rfl (by decide), trivial⟩, (.agg #[(vi 1), (vi x0), (.slice none ([] : List Expr).length 0)]), F0, rfl, hs25.clear, ⟨none, 0, rfl, LC.nil, (.inl rfl)⟩⟩
end Go.Proofs.YtaihlcdkcampbaaGreatDoor
namespace Go.Proofs.YtaihlcdkcampbaaGreatDoor
open Go.Proofs
def rules_truthOf (N : Nat) (x0 : Bool) : Option Expr :=
 ((rules_constant N 0).bind fun r31 => ((rules_constant N 0).bind fun r39 => some ({ Op := (bif x0 then 6 else 7), Value := 0, Kids := [r31, r39] } : Expr)))
theorem co_rules_truthOf : CallOk Tryz.prog 188 := fun _ _ => by kernel_rfl
theorem c_rules_truthOf (N : Nat) (w0 : World) (F0 : Mem) (hF : ∀ b o, F0 b = some o → w0.heap[b]? = some o) (x0 : Bool) (r : Expr) (h : rules_truthOf N x0 = some r) :
  Calls Tryz.prog 188 ([(.bool x0)] : List Value).toArray w0 (FRet w0 F0 fun F' v => ∃ (aq0_2 : Option Addr) (nq0_2 : Nat), v = (.agg (kExpr r aq0_2 nq0_2)) ∧ LC r.Kids.length nq0_2 ∧ SlA tExpr F' aq0_2 r.Kids) := by
 have hs0 := HS.start hF
 refine Go 10 Tryz.func188 ?_
 refine Sq (Rg [0] ?_)
 refine Al' 33 #[(vi 0), (vi 0), (.slice none ([] : List Expr).length 0)] hs0 (fun b21 w22 hs23 => ?_)
 refine Nss (Rg [0] ?_)
 refine Vs 1 ?_
 refine Nss ?_
 refine Sq (Rg [0] ?_)
 refine Vs 1 ?_
 refine Nt ?_
 refine CWP.cut (fun f w => ∃ (F1 : Mem), HS w0 F0 w F1 [(sb b21 #[(vi 0), (vi 0), (.slice none ([] : List Expr).length 0)] 33)] ∧ Mem.le F0 F1 ∧ FI f [] [(2, (pt b21 0)), (3, (vi (bif x0 then 6 else 7)))]) ?_ ?_
 ·refine Cp x0 (fun hb30 => ?_) (fun hb30 => ?_)
  ·refine Rg [0] ?_
   refine Vs 1 ?_
   refine RWP.nil ?_
   exact .inl ⟨rfl, F0, hs23, (Mem.le.refl _), (fJ ⟨rfl, (congrArg (Value.int .i64) (bif_t hb30 (rfl))), trivial⟩)⟩
  ·refine Sc ?_
   exact .inl ⟨rfl, F0, hs23, (Mem.le.refl _), (fJ ⟨rfl, (congrArg (Value.int .i64) (bif_f hb30 (rfl))), trivial⟩)⟩
 ·rintro f w24 ⟨F1, hs25, le26, ⟨_, rfl⟩⟩
  refine thenQ_nrm ?_
  refine Sq (Rg [0, 1, 2, 3, 4, 5] ?_)
  refine Vs 1 ?_
  obtain ⟨r31, hr32, h33⟩ := bind_some h
  refine Cl' co_rules_constant hs25 (c_rules_constant N w24 F1 hs25.pers (0) _ hr32) ?_
  rintro _ F2 w35 hs36 le37 ⟨ar31_0_2, nr31_0_2, rfl, hbr31_0_2, hsr31_0_2⟩
  obtain ⟨r39, hr40, h41⟩ := bind_some h33
  refine Cl' co_rules_constant hs36 (c_rules_constant N w35 F2 hs36.pers (0) _ hr40) ?_
  rintro _ F3 w43 hs44 le45 ⟨ar39_0_2, nr39_0_2, rfl, hbr39_0_2, hsr39_0_2⟩
  refine Bs 33 [(vi r31.Op), (vi r31.Value), (.slice ar31_0_2 r31.Kids.length nr31_0_2), (vi r39.Op), (vi r39.Value), (.slice ar39_0_2 r39.Kids.length nr39_0_2)] hs44 (fun b47 w48 hs49 => ?_)
  have hr51 : RowR tExpr 33 F3 (some ⟨b47, 0, none⟩) 2 [r31, r39] (some b47, .cells ([(vi r31.Op), (vi r31.Value), (.slice ar31_0_2 r31.Kids.length nr31_0_2), (vi r39.Op), (vi r39.Value), (.slice ar39_0_2 r39.Kids.length nr39_0_2)] : List Value).toArray 33 (0, 0)) := RowR.lit ⟨(tExpr_mk ⟨ar31_0_2, nr31_0_2, rfl, hbr31_0_2, (SlA.mono hsr31_0_2 le45)⟩), ⟨(tExpr_mk ⟨ar39_0_2, nr39_0_2, rfl, hbr39_0_2, hsr39_0_2⟩), rfl⟩⟩ (by simp)
  refine Vs 1 ?_
  refine St1 #[(vi (bif x0 then 6 else 7)), (vi 0), (.slice (some ⟨b47, 0, none⟩) [r31, r39].length 2)] hs49 (fun w52 hs53 => ?_)
  refine Nt ?_
  refine Rt ?_
  have hb57 := RowR.bound hr51
  obtain ⟨F4, hs54, le55, hs56⟩ := hs53.fr0 hr51
  obtain rfl := some_inj h41
  exact ⟨rfl, (.agg #[(vi (bif x0 then 6 else 7)), (vi 0), (.slice (some ⟨b47, 0, none⟩) [r31, r39].length 2)]), res_of (l := [.cell 2 33]) (by kernel_rfl) (vs := [(.agg #[(vi (bif x0 then 6 else 7)), (vi 0), (.slice (some ⟨b47, 0, none⟩) [r31, r39].length 2)])]) ⟨b21, 0, rfl, run_loadVar' (t := 33) (g := true) (s := 3) (by kernel_rfl) hs54.at0 rfl (by decide), trivial⟩, (.agg #[(vi (bif x0 then 6 else 7)), (vi 0), (.slice (some ⟨b47, 0, none⟩) [r31, r39].length 2)]), F4, rfl, hs54.clear, ⟨(some ⟨b47, 0, none⟩), 2, rfl, hb57, hs56⟩⟩
end Go.Proofs.YtaihlcdkcampbaaGreatDoor
namespace Go.Proofs.YtaihlcdkcampbaaGreatDoor
open Go.Proofs
def rules_isTruth (N : Nat) (x0 : Expr) (x1 : Bool) : Option Bool :=
 (((rules_truthOf N x1).bind fun r34 => ((rules_same N x0 r34).bind fun r42 => some r42)).bind fun j29 => some j29)
theorem co_rules_isTruth : CallOk Tryz.prog 187 := fun _ _ => by kernel_rfl
theorem c_rules_isTruth (N : Nat) (w0 : World) (F0 : Mem) (hF : ∀ b o, F0 b = some o → w0.heap[b]? = some o) (x0 : Expr) (a0_2 : Option Addr) (n0_2 : Nat) (hb0_2 : LC x0.Kids.length n0_2) (hs0_2 : SlA tExpr F0 a0_2 x0.Kids) (x1 : Bool) (r : Bool) (h : rules_isTruth N x0 x1 = some r) :
  Calls Tryz.prog 187 ([(.agg (kExpr x0 a0_2 n0_2)), (.bool x1)] : List Value).toArray w0 (FRet w0 F0 fun F' v => v = (.bool r)) := by
 have hs0 := HS.start hF
 refine Go 9 Tryz.func187 ?_
 refine Sq (Rg [0, 1] ?_)
 refine Bx' 33 (kExpr x0 a0_2 n0_2) hs0 (fun b21 w22 hs23 => ?_)
 refine Vs 1 ?_
 refine Nss ?_
 obtain ⟨j29, hj32, h33⟩ := bind_some h
 refine RD 5 5 [(sb b21 (kExpr x0 a0_2 n0_2) 33)] [] hs23 (fun f w => ∃ (F1 : Mem), HS w0 F0 w F1 [] ∧ Mem.le F0 F1 ∧ FI f [] [(4, (.bool j29))]) (fun wd24 hw25 => ?_) ?_
 ·refine Dl 0 (fun _ hq => (hq.1.2 0 _ _ rfl)) ?_
  refine Dv [1] ?_
  refine D1 2 ?_
  obtain ⟨r34, hr35, h36⟩ := bind_some hj32
  refine DCl co_rules_truthOf hw25 (c_rules_truthOf N wd24 F0 hw25.pers (x1) _ hr35) ?_
  rintro _ F2 w38 hs39 le40 ⟨ar34_0_2, nr34_0_2, rfl, hbr34_0_2, hsr34_0_2⟩
  refine D1 3 ?_
  obtain ⟨r42, hr43, h44⟩ := bind_some h36
  refine DCl co_rules_same hs39 (c_rules_same N w38 F2 hs39.pers (x0) a0_2 n0_2 hb0_2 (SlA.mono hs0_2 le40) (r34) ar34_0_2 nr34_0_2 hbr34_0_2 hsr34_0_2 _ hr43) ?_
  rintro _ F3 w46 hs47 le48 rfl
  refine Dv [4] ?_
  obtain rfl := some_inj h44
  exact DWP.done (by kernel_rfl) ⟨F3, hs47.dr0, (le40.trans le48), fI⟩
 ·rintro f w26 ⟨F1, hs27, le28, ⟨_, rfl⟩⟩
  refine thenQ_nrm ?_
  refine Rt ?_
  obtain rfl := some_inj h33
  exact Re [(.bool j29)] hs27 rfl
end Go.Proofs.YtaihlcdkcampbaaGreatDoor
namespace Go.Proofs.YtaihlcdkcampbaaGreatDoor
open Go.Proofs
def rules_joined (N : Nat) (x0 : Expr) (x1 : Expr) (x2 : Expr) : Option Expr :=
 (((rules_isTruth N x1 (x0.Op == 5)).bind fun r46 => (bif r46 then some true else ((rules_isTruth N x2 (x0.Op == 5)).bind fun r57 => some r57))).bind fun j36 => (bif j36 then ((rules_truthOf N (x0.Op == 5)).bind fun r68 => some r68) else ((rules_isTruth N x1 (!(x0.Op == 5))).bind fun r78 => (bif r78 then some x2 else ((rules_isTruth N x2 (!(x0.Op == 5))).bind fun r91 => ((bif r91 then some r91 else ((rules_same N x1 x2).bind fun r113 => some r113)).bind fun j102 => (bif j102 then some x1 else some x0)))))))
theorem co_rules_joined : CallOk Tryz.prog 190 := fun _ _ => by kernel_rfl
theorem c_rules_joined (N : Nat) (w0 : World) (F0 : Mem) (hF : ∀ b o, F0 b = some o → w0.heap[b]? = some o) (x0 : Expr) (a0_2 : Option Addr) (n0_2 : Nat) (hb0_2 : LC x0.Kids.length n0_2) (hs0_2 : SlA tExpr F0 a0_2 x0.Kids) (x1 : Expr) (a1_2 : Option Addr) (n1_2 : Nat) (hb1_2 : LC x1.Kids.length n1_2) (hs1_2 : SlA tExpr F0 a1_2 x1.Kids) (x2 : Expr) (a2_2 : Option Addr) (n2_2 : Nat) (hb2_2 : LC x2.Kids.length n2_2) (hs2_2 : SlA tExpr F0 a2_2 x2.Kids) (r : Expr) (h : rules_joined N x0 x1 x2 = some r) :
  Calls Tryz.prog 190 ([(.agg (kExpr x0 a0_2 n0_2)), (.agg (kExpr x1 a1_2 n1_2)), (.agg (kExpr x2 a2_2 n2_2))] : List Value).toArray w0 (FRet w0 F0 fun F' v => ∃ (aq0_2 : Option Addr) (nq0_2 : Nat), v = (.agg (kExpr r aq0_2 nq0_2)) ∧ LC r.Kids.length nq0_2 ∧ SlA tExpr F' aq0_2 r.Kids) := by
 have hs0 := HS.start hF
 refine Go 38 Tryz.func190 ?_
 refine Sq (Rg [0, 1, 2, 3] ?_)
 refine Bx' 33 (kExpr x0 a0_2 n0_2) hs0 (fun b21 w22 hs23 => ?_)
 refine Bx' 33 (kExpr x1 a1_2 n1_2) hs23 (fun b24 w25 hs26 => ?_)
 refine Bx' 33 (kExpr x2 a2_2 n2_2) hs26 (fun b27 w28 hs29 => ?_)
 refine Al' 33 #[(vi 0), (vi 0), (.slice none ([] : List Expr).length 0)] hs29 (fun b30 w31 hs32 => ?_)
 refine Nss (Rg [0, 1, 2, 3] ?_)
 refine Vs 1 ?_
 refine Ld hs32.at3 ?_
 refine Vs 2 ?_
 refine Nss ?_
 refine Bk ?_
 refine Sq (Rg [0, 1, 2, 3, 4, 5, 6, 7, 8] ?_)
 obtain ⟨j36, hj44, h45⟩ := bind_some h
 refine RWP.cut (fun f w => ∃ (F1 : Mem), HS w0 F0 w F1 [(sb b30 #[(vi 0), (vi 0), (.slice none ([] : List Expr).length 0)] 33), (sb b27 (kExpr x2 a2_2 n2_2) 33), (sb b24 (kExpr x1 a1_2 n1_2) 33), (sb b21 (kExpr x0 a0_2 n0_2) 33)] ∧ Mem.le F0 F1 ∧ FI f [] [(3, (pt b21 0)), (4, (pt b24 0)), (5, (pt b27 0)), (6, (pt b30 0)), (7, (.bool (x0.Op == 5))), (11, (.bool j36))]) ?_ ?_
 ·refine Ld hs32.at2 ?_
  refine Vs 1 ?_
  obtain ⟨r46, hr47, h48⟩ := bind_some hj44
  refine Cl' co_rules_isTruth hs32 (c_rules_isTruth N w31 F0 hs32.pers (x1) a1_2 n1_2 hb1_2 hs1_2 ((x0.Op == 5)) _ hr47) ?_
  rintro _ F2 w50 hs51 le52 rfl
  refine Vs 1 ?_
  refine Sp h48 (fun hb54 h55 => ?_) (fun hb54 h56 => ?_)
  ·refine Ss hb54 3 ?_
   refine Pk1 hb54 ?_
   refine Vs 1 ?_
   obtain rfl := some_inj h55
   exact RWP.nil ⟨rfl, F2, hs51, le52, fI⟩
  ·refine Lg hb54 hs51.at1 ?_
   refine Vgs hb54 1 ?_
   obtain ⟨r57, hr58, h59⟩ := bind_some h56
   refine Cg hb54 co_rules_isTruth hs51 (c_rules_isTruth N w50 F2 hs51.pers (x2) a2_2 n2_2 hb2_2 (SlA.mono hs2_2 le52) ((x0.Op == 5)) _ hr58) ?_
   rintro _ F3 w61 hs62 le63 rfl
   refine Pk0 hb54 ?_
   refine Vs 1 ?_
   obtain rfl := some_inj h59
   exact RWP.nil ⟨rfl, F3, hs62, (le52.trans le63), fI⟩
 ·rintro f w33 ⟨F1, hs34, le35, ⟨_, rfl⟩⟩
  refine thenQ_nrm ?_
  refine Cd h45 (fun hb65 h66 => ?_) (fun hb65 h67 => ?_)
  ·refine Sq (Rg [0, 1, 2] ?_)
   refine Vs 1 ?_
   obtain ⟨r68, hr69, h70⟩ := bind_some h66
   refine Cl' co_rules_truthOf hs34 (c_rules_truthOf N w33 F1 hs34.pers ((x0.Op == 5)) _ hr69) ?_
   rintro _ F4 w72 hs73 le74 ⟨ar68_0_2, nr68_0_2, rfl, hbr68_0_2, hsr68_0_2⟩
   refine St0 (kExpr r68 ar68_0_2 nr68_0_2) hs73 (fun w76 hs77 => ?_)
   refine Nt ?_
   refine Rt ?_
   refine blockQ_ret ?_
   refine thenQ_ret ?_
   obtain rfl := some_inj h70
   exact ⟨rfl, (.agg (kExpr r68 ar68_0_2 nr68_0_2)), res_of (l := [.cell 6 33]) (by kernel_rfl) (vs := [(.agg (kExpr r68 ar68_0_2 nr68_0_2))]) ⟨b30, 0, rfl, run_loadVar' (t := 33) (g := true) (s := 3) (by kernel_rfl) hs77.at0 rfl (by decide), trivial⟩, (.agg (kExpr r68 ar68_0_2 nr68_0_2)), F4, rfl, hs77.clear, ⟨ar68_0_2, nr68_0_2, rfl, hbr68_0_2, hsr68_0_2⟩⟩
  ·refine Sq (Rg [0, 1, 2, 3, 4] ?_)
   refine Ld hs34.at2 ?_
   refine Vs 2 ?_
   obtain ⟨r78, hr79, h80⟩ := bind_some h67
   refine Cl' co_rules_isTruth hs34 (c_rules_isTruth N w33 F1 hs34.pers (x1) a1_2 n1_2 hb1_2 (SlA.mono hs1_2 le35) ((!(x0.Op == 5))) _ hr79) ?_
   rintro _ F5 w82 hs83 le84 rfl
   refine Vs 1 ?_
   refine Nt ?_
   refine Cd h80 (fun hb86 h87 => ?_) (fun hb86 h88 => ?_)
   ·refine Sq (Rg [0, 1] ?_)
    refine Ld hs83.at1 ?_
    refine St0 (kExpr x2 a2_2 n2_2) hs83 (fun w89 hs90 => ?_)
    refine Nt ?_
    refine Rt ?_
    refine blockQ_ret ?_
    refine thenQ_ret ?_
    obtain rfl := some_inj h87
    exact ⟨rfl, (.agg (kExpr x2 a2_2 n2_2)), res_of (l := [.cell 6 33]) (by kernel_rfl) (vs := [(.agg (kExpr x2 a2_2 n2_2))]) ⟨b30, 0, rfl, run_loadVar' (t := 33) (g := true) (s := 3) (by kernel_rfl) hs90.at0 rfl (by decide), trivial⟩, (.agg (kExpr x2 a2_2 n2_2)), F5, rfl, hs90.clear, ⟨a2_2, n2_2, rfl, hb2_2, (SlA.mono hs2_2 (le35.trans le84))⟩⟩
   ·refine Sq ?_
    refine Sq (Rg [0, 1, 2, 3, 4] ?_)
    refine Ld hs83.at1 ?_
    refine Vs 2 ?_
    obtain ⟨r91, hr92, h93⟩ := bind_some h88
    refine Cl' co_rules_isTruth hs83 (c_rules_isTruth N w82 F5 hs83.pers (x2) a2_2 n2_2 hb2_2 (SlA.mono hs2_2 (le35.trans le84)) ((!(x0.Op == 5))) _ hr92) ?_
    rintro _ F6 w95 hs96 le97 rfl
    refine Vs 1 ?_
    refine Nt ?_
    obtain ⟨j102, hj108, h109⟩ := bind_some h93
    refine CWP.cut (fun f w => ∃ (F7 : Mem), HS w0 F0 w F7 [(sb b30 #[(vi 0), (vi 0), (.slice none ([] : List Expr).length 0)] 33), (sb b24 (kExpr x1 a1_2 n1_2) 33), (sb b21 (kExpr x0 a0_2 n0_2) 33)] ∧ Mem.le F6 F7 ∧ FI f [] [(3, (pt b21 0)), (4, (pt b24 0)), (6, (pt b30 0)), (28, (.bool j102))]) ?_ ?_
    ·refine Cd hj108 (fun hb110 h111 => ?_) (fun hb110 h112 => ?_)
     ·refine Sc ?_
      obtain rfl := some_inj h111
      exact .inl ⟨rfl, F6, hs96.dr1, (Mem.le.refl _), fI⟩
     ·refine Rg [0, 1, 2, 3] ?_
      refine Ld hs96.at2 ?_
      refine Ld hs96.at1 ?_
      obtain ⟨r113, hr114, h115⟩ := bind_some h112
      refine Cl' co_rules_same hs96 (c_rules_same N w95 F6 hs96.pers (x1) a1_2 n1_2 hb1_2 (SlA.mono hs1_2 ((le35.trans le84).trans le97)) (x2) a2_2 n2_2 hb2_2 (SlA.mono hs2_2 ((le35.trans le84).trans le97)) _ hr114) ?_
      rintro _ F8 w117 hs118 le119 rfl
      refine Vs 1 ?_
      refine RWP.nil ?_
      obtain rfl := some_inj h115
      exact .inl ⟨rfl, F8, hs118.dr1, le119, fI⟩
    ·rintro f w99 ⟨F7, hs100, le101, ⟨_, rfl⟩⟩
     refine thenQ_nrm ?_
     refine Cd h109 (fun hb121 h122 => ?_) (fun hb121 h123 => ?_)
     ·refine Sq (Rg [0, 1] ?_)
      refine Ld hs100.at1 ?_
      refine St0 (kExpr x1 a1_2 n1_2) hs100 (fun w124 hs125 => ?_)
      refine Nt ?_
      refine Rt ?_
      refine blockQ_ret ?_
      refine thenQ_ret ?_
      obtain rfl := some_inj h122
      exact ⟨rfl, (.agg (kExpr x1 a1_2 n1_2)), res_of (l := [.cell 6 33]) (by kernel_rfl) (vs := [(.agg (kExpr x1 a1_2 n1_2))]) ⟨b30, 0, rfl, run_loadVar' (t := 33) (g := true) (s := 3) (by kernel_rfl) hs125.at0 rfl (by decide), trivial⟩, (.agg (kExpr x1 a1_2 n1_2)), F7, rfl, hs125.clear, ⟨a1_2, n1_2, rfl, hb1_2, (SlA.mono hs1_2 (((le35.trans le84).trans le97).trans le101))⟩⟩
     ·refine Sc ?_
      refine blockQ_nrm ?_
      refine thenQ_nrm ?_
      refine Sq (Rg [0, 1] ?_)
      refine Ld hs100.at2 ?_
      refine St0 (kExpr x0 a0_2 n0_2) hs100 (fun w126 hs127 => ?_)
      refine Nt ?_
      refine Rt ?_
      obtain rfl := some_inj h123
      exact ⟨rfl, (.agg (kExpr x0 a0_2 n0_2)), res_of (l := [.cell 6 33]) (by kernel_rfl) (vs := [(.agg (kExpr x0 a0_2 n0_2))]) ⟨b30, 0, rfl, run_loadVar' (t := 33) (g := true) (s := 3) (by kernel_rfl) hs127.at0 rfl (by decide), trivial⟩, (.agg (kExpr x0 a0_2 n0_2)), F7, rfl, hs127.clear, ⟨a0_2, n0_2, rfl, hb0_2, (SlA.mono hs0_2 (((le35.trans le84).trans le97).trans le101))⟩⟩
end Go.Proofs.YtaihlcdkcampbaaGreatDoor
namespace Go.Proofs.YtaihlcdkcampbaaGreatDoor
open Go.Proofs
def rules_isConstant (N : Nat) (x0 : Expr) (x1 : Int) : Option Bool :=
 some ((x0.Op == 1) && (x0.Value == x1))
theorem co_rules_isConstant : CallOk Tryz.prog 215 := fun _ _ => by kernel_rfl
theorem c_rules_isConstant (N : Nat) (w0 : World) (F0 : Mem) (hF : ∀ b o, F0 b = some o → w0.heap[b]? = some o) (x0 : Expr) (a0_2 : Option Addr) (n0_2 : Nat) (hb0_2 : LC x0.Kids.length n0_2) (hs0_2 : SlA tExpr F0 a0_2 x0.Kids) (x1 : Int) (r : Bool) (h : rules_isConstant N x0 x1 = some r) :
  Calls Tryz.prog 215 ([(.agg (kExpr x0 a0_2 n0_2)), (vi x1)] : List Value).toArray w0 (FRet w0 F0 fun F' v => v = (.bool r)) := by
 have hs0 := HS.start hF
 refine Go 14 Tryz.func215 ?_
 refine Sq (Rg [0, 1] ?_)
 refine Bx' 33 (kExpr x0 a0_2 n0_2) hs0 (fun b21 w22 hs23 => ?_)
 refine Vs 1 ?_
 refine Nss (Rg [0, 1, 2, 3, 4, 5, 6, 7, 8, 9] ?_)
 refine RWP.cut (fun f w => ∃ (F1 : Mem), HS w0 F0 w F1 [] ∧ Mem.le F0 F1 ∧ FI f [] [(4, (.bool ((x0.Op == 1) && (x0.Value == x1))))]) ?_ ?_
 ·refine Vs 1 ?_
  refine Ld hs23.at0 ?_
  refine Vs 2 ?_
  refine RWP.split (x0.Op == 1) (fun hb29 => ?_) (fun hb29 => ?_)
  ·refine Vgs hb29 1 ?_
   refine Lg hb29 hs23.at0 ?_
   refine Vgs hb29 2 ?_
   refine Pk1 hb29 ?_
   refine Vs 1 ?_
   exact RWP.nil ⟨rfl, F0, hs23.dr0, (Mem.le.refl _), (fJ ⟨(congrArg Value.bool (and_t hb29 (rfl))), trivial⟩)⟩
  ·refine Ss hb29 4 ?_
   refine Pk0 hb29 ?_
   refine Vs 1 ?_
   exact RWP.nil ⟨rfl, F0, hs23.dr0, (Mem.le.refl _), (fJ ⟨(congrArg Value.bool (and_f hb29 (rfl))), trivial⟩)⟩
 ·rintro f w24 ⟨F1, hs25, le26, ⟨_, rfl⟩⟩
  refine thenQ_nrm ?_
  refine Rt ?_
  obtain rfl := some_inj h
  exact Re [(.bool ((x0.Op == 1) && (x0.Value == x1)))] hs25 rfl
end Go.Proofs.YtaihlcdkcampbaaGreatDoor
namespace Go.Proofs.YtaihlcdkcampbaaGreatDoor
open Go.Proofs
def rules_reckoned (N : Nat) (x0 : Expr) (x1 : Expr) (x2 : Expr) : Option Expr :=
 (bif (x0.Op == 8) then ((rules_isConstant N x1 0).bind fun r36 => (bif r36 then some x2 else ((rules_isConstant N x2 0).bind fun r49 => (bif r49 then some x1 else some x0)))) else (bif (x0.Op == 9) then ((rules_isConstant N x2 0).bind fun r67 => (bif r67 then some x1 else ((rules_same N x1 x2).bind fun r80 => (bif r80 then ((rules_constant N 0).bind fun r91 => some r91) else some x0)))) else (bif (x0.Op == 10) then ((rules_isConstant N x1 1).bind fun r106 => (bif r106 then some x2 else ((rules_isConstant N x2 1).bind fun r119 => (bif r119 then some x1 else (((rules_isConstant N x1 0).bind fun r142 => (bif r142 then some true else ((rules_isConstant N x2 0).bind fun r153 => some r153))).bind fun j135 => (bif j135 then ((rules_constant N 0).bind fun r164 => some r164) else some x0)))))) else some x0)))
theorem co_rules_reckoned : CallOk Tryz.prog 192 := fun _ _ => by kernel_rfl
theorem c_rules_reckoned (N : Nat) (w0 : World) (F0 : Mem) (hF : ∀ b o, F0 b = some o → w0.heap[b]? = some o) (x0 : Expr) (a0_2 : Option Addr) (n0_2 : Nat) (hb0_2 : LC x0.Kids.length n0_2) (hs0_2 : SlA tExpr F0 a0_2 x0.Kids) (x1 : Expr) (a1_2 : Option Addr) (n1_2 : Nat) (hb1_2 : LC x1.Kids.length n1_2) (hs1_2 : SlA tExpr F0 a1_2 x1.Kids) (x2 : Expr) (a2_2 : Option Addr) (n2_2 : Nat) (hb2_2 : LC x2.Kids.length n2_2) (hs2_2 : SlA tExpr F0 a2_2 x2.Kids) (r : Expr) (h : rules_reckoned N x0 x1 x2 = some r) :
  Calls Tryz.prog 192 ([(.agg (kExpr x0 a0_2 n0_2)), (.agg (kExpr x1 a1_2 n1_2)), (.agg (kExpr x2 a2_2 n2_2))] : List Value).toArray w0 (FRet w0 F0 fun F' v => ∃ (aq0_2 : Option Addr) (nq0_2 : Nat), v = (.agg (kExpr r aq0_2 nq0_2)) ∧ LC r.Kids.length nq0_2 ∧ SlA tExpr F' aq0_2 r.Kids) := by
 have hs0 := HS.start hF
 refine Go 49 Tryz.func192 ?_
 refine Sq (Rg [0, 1, 2, 3] ?_)
 refine Bx' 33 (kExpr x0 a0_2 n0_2) hs0 (fun b21 w22 hs23 => ?_)
 refine Bx' 33 (kExpr x1 a1_2 n1_2) hs23 (fun b24 w25 hs26 => ?_)
 refine Bx' 33 (kExpr x2 a2_2 n2_2) hs26 (fun b27 w28 hs29 => ?_)
 refine Al' 33 #[(vi 0), (vi 0), (.slice none ([] : List Expr).length 0)] hs29 (fun b30 w31 hs32 => ?_)
 refine Nss ?_
 refine Sq (Rg [0, 1] ?_)
 refine Vs 1 ?_
 refine Ld hs32.at3 ?_
 refine Nt ?_
 refine Bk ?_
 refine Sq (Rg [0, 1] ?_)
 refine Vs 2 ?_
 refine Nt ?_
 refine Cd h (fun hb33 h34 => ?_) (fun hb33 h35 => ?_)
 ·refine Bk ?_
  refine Sq (Rg [0, 1, 2] ?_)
  refine Ld hs32.at2 ?_
  obtain ⟨r36, hr37, h38⟩ := bind_some h34
  refine Cl' co_rules_isConstant hs32 (c_rules_isConstant N w31 F0 hs32.pers (x1) a1_2 n1_2 hb1_2 hs1_2 (0) _ hr37) ?_
  rintro _ F1 w40 hs41 le42 rfl
  refine Vs 1 ?_
  refine Nt ?_
  refine Cd h38 (fun hb44 h45 => ?_) (fun hb44 h46 => ?_)
  ·refine Sq (Rg [0, 1] ?_)
   refine Ld hs41.at1 ?_
   refine St0 (kExpr x2 a2_2 n2_2) hs41 (fun w47 hs48 => ?_)
   refine Nt ?_
   refine Rt ?_
   refine blockQ_ret ?_
   refine blockQ_ret ?_
   refine thenQ_ret ?_
   obtain rfl := some_inj h45
   exact ⟨rfl, (.agg (kExpr x2 a2_2 n2_2)), res_of (l := [.cell 6 33]) (by kernel_rfl) (vs := [(.agg (kExpr x2 a2_2 n2_2))]) ⟨b30, 0, rfl, run_loadVar' (t := 33) (g := true) (s := 3) (by kernel_rfl) hs48.at0 rfl (by decide), trivial⟩, (.agg (kExpr x2 a2_2 n2_2)), F1, rfl, hs48.clear, ⟨a2_2, n2_2, rfl, hb2_2, (SlA.mono hs2_2 le42)⟩⟩
  ·refine Sq (Rg [0, 1, 2] ?_)
   refine Ld hs41.at1 ?_
   obtain ⟨r49, hr50, h51⟩ := bind_some h46
   refine Cl' co_rules_isConstant hs41 (c_rules_isConstant N w40 F1 hs41.pers (x2) a2_2 n2_2 hb2_2 (SlA.mono hs2_2 le42) (0) _ hr50) ?_
   rintro _ F2 w53 hs54 le55 rfl
   refine Vs 1 ?_
   refine Nt ?_
   refine Cd h51 (fun hb57 h58 => ?_) (fun hb57 h59 => ?_)
   ·refine Sq (Rg [0, 1] ?_)
    refine Ld hs54.at2 ?_
    refine St0 (kExpr x1 a1_2 n1_2) hs54 (fun w60 hs61 => ?_)
    refine Nt ?_
    refine Rt ?_
    refine blockQ_ret ?_
    refine blockQ_ret ?_
    refine thenQ_ret ?_
    obtain rfl := some_inj h58
    exact ⟨rfl, (.agg (kExpr x1 a1_2 n1_2)), res_of (l := [.cell 6 33]) (by kernel_rfl) (vs := [(.agg (kExpr x1 a1_2 n1_2))]) ⟨b30, 0, rfl, run_loadVar' (t := 33) (g := true) (s := 3) (by kernel_rfl) hs61.at0 rfl (by decide), trivial⟩, (.agg (kExpr x1 a1_2 n1_2)), F2, rfl, hs61.clear, ⟨a1_2, n1_2, rfl, hb1_2, (SlA.mono hs1_2 (le42.trans le55))⟩⟩
   ·refine Sc ?_
    refine blockQ_nrm ?_
    refine blockQ_nrm ?_
    refine thenQ_nrm ?_
    refine Sq (Rg [0, 1] ?_)
    refine Ld hs54.at3 ?_
    refine St0 (kExpr x0 a0_2 n0_2) hs54 (fun w62 hs63 => ?_)
    refine Nt ?_
    refine Rt ?_
    obtain rfl := some_inj h59
    exact ⟨rfl, (.agg (kExpr x0 a0_2 n0_2)), res_of (l := [.cell 6 33]) (by kernel_rfl) (vs := [(.agg (kExpr x0 a0_2 n0_2))]) ⟨b30, 0, rfl, run_loadVar' (t := 33) (g := true) (s := 3) (by kernel_rfl) hs63.at0 rfl (by decide), trivial⟩, (.agg (kExpr x0 a0_2 n0_2)), F2, rfl, hs63.clear, ⟨a0_2, n0_2, rfl, hb0_2, (SlA.mono hs0_2 (le42.trans le55))⟩⟩
 ·refine Sq (Rg [0, 1] ?_)
  refine Vs 2 ?_
  refine Nt ?_
  refine Cd h35 (fun hb64 h65 => ?_) (fun hb64 h66 => ?_)
  ·refine Bk ?_
   refine Sq (Rg [0, 1, 2] ?_)
   refine Ld hs32.at1 ?_
   obtain ⟨r67, hr68, h69⟩ := bind_some h65
   refine Cl' co_rules_isConstant hs32 (c_rules_isConstant N w31 F0 hs32.pers (x2) a2_2 n2_2 hb2_2 hs2_2 (0) _ hr68) ?_
   rintro _ F3 w71 hs72 le73 rfl
   refine Vs 1 ?_
   refine Nt ?_
   refine Cd h69 (fun hb75 h76 => ?_) (fun hb75 h77 => ?_)
   ·refine Sq (Rg [0, 1] ?_)
    refine Ld hs72.at2 ?_
    refine St0 (kExpr x1 a1_2 n1_2) hs72 (fun w78 hs79 => ?_)
    refine Nt ?_
    refine Rt ?_
    refine blockQ_ret ?_
    refine blockQ_ret ?_
    refine thenQ_ret ?_
    obtain rfl := some_inj h76
    exact ⟨rfl, (.agg (kExpr x1 a1_2 n1_2)), res_of (l := [.cell 6 33]) (by kernel_rfl) (vs := [(.agg (kExpr x1 a1_2 n1_2))]) ⟨b30, 0, rfl, run_loadVar' (t := 33) (g := true) (s := 3) (by kernel_rfl) hs79.at0 rfl (by decide), trivial⟩, (.agg (kExpr x1 a1_2 n1_2)), F3, rfl, hs79.clear, ⟨a1_2, n1_2, rfl, hb1_2, (SlA.mono hs1_2 le73)⟩⟩
   ·refine Sq (Rg [0, 1, 2, 3] ?_)
    refine Ld hs72.at2 ?_
    refine Ld hs72.at1 ?_
    obtain ⟨r80, hr81, h82⟩ := bind_some h77
    refine Cl' co_rules_same hs72 (c_rules_same N w71 F3 hs72.pers (x1) a1_2 n1_2 hb1_2 (SlA.mono hs1_2 le73) (x2) a2_2 n2_2 hb2_2 (SlA.mono hs2_2 le73) _ hr81) ?_
    rintro _ F4 w84 hs85 le86 rfl
    refine Vs 1 ?_
    refine Nt ?_
    refine Cd h82 (fun hb88 h89 => ?_) (fun hb88 h90 => ?_)
    ·refine Sq (Rg [0, 1] ?_)
     obtain ⟨r91, hr92, h93⟩ := bind_some h89
     refine Cl' co_rules_constant hs85 (c_rules_constant N w84 F4 hs85.pers (0) _ hr92) ?_
     rintro _ F5 w95 hs96 le97 ⟨ar91_0_2, nr91_0_2, rfl, hbr91_0_2, hsr91_0_2⟩
     refine St0 (kExpr r91 ar91_0_2 nr91_0_2) hs96 (fun w99 hs100 => ?_)
     refine Nt ?_
     refine Rt ?_
     refine blockQ_ret ?_
     refine blockQ_ret ?_
     refine thenQ_ret ?_
     obtain rfl := some_inj h93
     exact ⟨rfl, (.agg (kExpr r91 ar91_0_2 nr91_0_2)), res_of (l := [.cell 6 33]) (by kernel_rfl) (vs := [(.agg (kExpr r91 ar91_0_2 nr91_0_2))]) ⟨b30, 0, rfl, run_loadVar' (t := 33) (g := true) (s := 3) (by kernel_rfl) hs100.at0 rfl (by decide), trivial⟩, (.agg (kExpr r91 ar91_0_2 nr91_0_2)), F5, rfl, hs100.clear, ⟨ar91_0_2, nr91_0_2, rfl, hbr91_0_2, hsr91_0_2⟩⟩
    ·refine Sc ?_
     refine blockQ_nrm ?_
     refine blockQ_nrm ?_
     refine thenQ_nrm ?_
     refine Sq (Rg [0, 1] ?_)
     refine Ld hs85.at3 ?_
     refine St0 (kExpr x0 a0_2 n0_2) hs85 (fun w101 hs102 => ?_)
     refine Nt ?_
     refine Rt ?_
     obtain rfl := some_inj h90
     exact ⟨rfl, (.agg (kExpr x0 a0_2 n0_2)), res_of (l := [.cell 6 33]) (by kernel_rfl) (vs := [(.agg (kExpr x0 a0_2 n0_2))]) ⟨b30, 0, rfl, run_loadVar' (t := 33) (g := true) (s := 3) (by kernel_rfl) hs102.at0 rfl (by decide), trivial⟩, (.agg (kExpr x0 a0_2 n0_2)), F4, rfl, hs102.clear, ⟨a0_2, n0_2, rfl, hb0_2, (SlA.mono hs0_2 (le73.trans le86))⟩⟩
  ·refine Sq (Rg [0, 1] ?_)
   refine Vs 2 ?_
   refine Nt ?_
   refine Cd h66 (fun hb103 h104 => ?_) (fun hb103 h105 => ?_)
   ·refine Bk ?_
    refine Sq (Rg [0, 1, 2] ?_)
    refine Ld hs32.at2 ?_
    obtain ⟨r106, hr107, h108⟩ := bind_some h104
    refine Cl' co_rules_isConstant hs32 (c_rules_isConstant N w31 F0 hs32.pers (x1) a1_2 n1_2 hb1_2 hs1_2 (1) _ hr107) ?_
    rintro _ F6 w110 hs111 le112 rfl
    refine Vs 1 ?_
    refine Nt ?_
    refine Cd h108 (fun hb114 h115 => ?_) (fun hb114 h116 => ?_)
    ·refine Sq (Rg [0, 1] ?_)
     refine Ld hs111.at1 ?_
     refine St0 (kExpr x2 a2_2 n2_2) hs111 (fun w117 hs118 => ?_)
     refine Nt ?_
     refine Rt ?_
     refine blockQ_ret ?_
     refine blockQ_ret ?_
     refine thenQ_ret ?_
     obtain rfl := some_inj h115
     exact ⟨rfl, (.agg (kExpr x2 a2_2 n2_2)), res_of (l := [.cell 6 33]) (by kernel_rfl) (vs := [(.agg (kExpr x2 a2_2 n2_2))]) ⟨b30, 0, rfl, run_loadVar' (t := 33) (g := true) (s := 3) (by kernel_rfl) hs118.at0 rfl (by decide), trivial⟩, (.agg (kExpr x2 a2_2 n2_2)), F6, rfl, hs118.clear, ⟨a2_2, n2_2, rfl, hb2_2, (SlA.mono hs2_2 le112)⟩⟩
    ·refine Sq (Rg [0, 1, 2] ?_)
     refine Ld hs111.at1 ?_
     obtain ⟨r119, hr120, h121⟩ := bind_some h116
     refine Cl' co_rules_isConstant hs111 (c_rules_isConstant N w110 F6 hs111.pers (x2) a2_2 n2_2 hb2_2 (SlA.mono hs2_2 le112) (1) _ hr120) ?_
     rintro _ F7 w123 hs124 le125 rfl
     refine Vs 1 ?_
     refine Nt ?_
     refine Cd h121 (fun hb127 h128 => ?_) (fun hb127 h129 => ?_)
     ·refine Sq (Rg [0, 1] ?_)
      refine Ld hs124.at2 ?_
      refine St0 (kExpr x1 a1_2 n1_2) hs124 (fun w130 hs131 => ?_)
      refine Nt ?_
      refine Rt ?_
      refine blockQ_ret ?_
      refine blockQ_ret ?_
      refine thenQ_ret ?_
      obtain rfl := some_inj h128
      exact ⟨rfl, (.agg (kExpr x1 a1_2 n1_2)), res_of (l := [.cell 6 33]) (by kernel_rfl) (vs := [(.agg (kExpr x1 a1_2 n1_2))]) ⟨b30, 0, rfl, run_loadVar' (t := 33) (g := true) (s := 3) (by kernel_rfl) hs131.at0 rfl (by decide), trivial⟩, (.agg (kExpr x1 a1_2 n1_2)), F7, rfl, hs131.clear, ⟨a1_2, n1_2, rfl, hb1_2, (SlA.mono hs1_2 (le112.trans le125))⟩⟩
     ·refine Sq (Rg [0, 1, 2, 3, 4, 5, 6] ?_)
      obtain ⟨j135, hj140, h141⟩ := bind_some h129
      refine RWP.cut (fun f w => ∃ (F8 : Mem), HS w0 F0 w F8 [(sb b30 #[(vi 0), (vi 0), (.slice none ([] : List Expr).length 0)] 33), (sb b21 (kExpr x0 a0_2 n0_2) 33)] ∧ Mem.le F7 F8 ∧ FI f [] [(3, (pt b21 0)), (6, (pt b30 0)), (40, (.bool j135))]) ?_ ?_
      ·refine Ld hs124.at2 ?_
       obtain ⟨r142, hr143, h144⟩ := bind_some hj140
       refine Cl' co_rules_isConstant hs124 (c_rules_isConstant N w123 F7 hs124.pers (x1) a1_2 n1_2 hb1_2 (SlA.mono hs1_2 (le112.trans le125)) (0) _ hr143) ?_
       rintro _ F9 w146 hs147 le148 rfl
       refine Vs 1 ?_
       refine Sp h144 (fun hb150 h151 => ?_) (fun hb150 h152 => ?_)
       ·refine Ss hb150 2 ?_
        refine Pk1 hb150 ?_
        refine Vs 1 ?_
        obtain rfl := some_inj h151
        exact RWP.nil ⟨rfl, F9, hs147.dr1.dr1, le148, fI⟩
       ·refine Lg hb150 hs147.at1 ?_
        obtain ⟨r153, hr154, h155⟩ := bind_some h152
        refine Cg hb150 co_rules_isConstant hs147 (c_rules_isConstant N w146 F9 hs147.pers (x2) a2_2 n2_2 hb2_2 (SlA.mono hs2_2 ((le112.trans le125).trans le148)) (0) _ hr154) ?_
        rintro _ F10 w157 hs158 le159 rfl
        refine Pk0 hb150 ?_
        refine Vs 1 ?_
        obtain rfl := some_inj h155
        exact RWP.nil ⟨rfl, F10, hs158.dr1.dr1, (le148.trans le159), fI⟩
      ·rintro f w132 ⟨F8, hs133, le134, ⟨_, rfl⟩⟩
       refine thenQ_nrm ?_
       refine Cd h141 (fun hb161 h162 => ?_) (fun hb161 h163 => ?_)
       ·refine Sq (Rg [0, 1] ?_)
        obtain ⟨r164, hr165, h166⟩ := bind_some h162
        refine Cl' co_rules_constant hs133 (c_rules_constant N w132 F8 hs133.pers (0) _ hr165) ?_
        rintro _ F11 w168 hs169 le170 ⟨ar164_0_2, nr164_0_2, rfl, hbr164_0_2, hsr164_0_2⟩
        refine St0 (kExpr r164 ar164_0_2 nr164_0_2) hs169 (fun w172 hs173 => ?_)
        refine Nt ?_
        refine Rt ?_
        refine blockQ_ret ?_
        refine blockQ_ret ?_
        refine thenQ_ret ?_
        obtain rfl := some_inj h166
        exact ⟨rfl, (.agg (kExpr r164 ar164_0_2 nr164_0_2)), res_of (l := [.cell 6 33]) (by kernel_rfl) (vs := [(.agg (kExpr r164 ar164_0_2 nr164_0_2))]) ⟨b30, 0, rfl, run_loadVar' (t := 33) (g := true) (s := 3) (by kernel_rfl) hs173.at0 rfl (by decide), trivial⟩, (.agg (kExpr r164 ar164_0_2 nr164_0_2)), F11, rfl, hs173.clear, ⟨ar164_0_2, nr164_0_2, rfl, hbr164_0_2, hsr164_0_2⟩⟩
       ·refine Sc ?_
        refine blockQ_nrm ?_
        refine blockQ_nrm ?_
        refine thenQ_nrm ?_
        refine Sq (Rg [0, 1] ?_)
        refine Ld hs133.at1 ?_
        refine St0 (kExpr x0 a0_2 n0_2) hs133 (fun w174 hs175 => ?_)
        refine Nt ?_
        refine Rt ?_
        obtain rfl := some_inj h163
        exact ⟨rfl, (.agg (kExpr x0 a0_2 n0_2)), res_of (l := [.cell 6 33]) (by kernel_rfl) (vs := [(.agg (kExpr x0 a0_2 n0_2))]) ⟨b30, 0, rfl, run_loadVar' (t := 33) (g := true) (s := 3) (by kernel_rfl) hs175.at0 rfl (by decide), trivial⟩, (.agg (kExpr x0 a0_2 n0_2)), F8, rfl, hs175.clear, ⟨a0_2, n0_2, rfl, hb0_2, (SlA.mono hs0_2 ((le112.trans le125).trans le134))⟩⟩
   ·refine Sc ?_
    refine blockQ_nrm ?_
    refine thenQ_nrm ?_
    refine Sq (Rg [0, 1] ?_)
    refine Ld hs32.at3 ?_
    refine St0 (kExpr x0 a0_2 n0_2) hs32 (fun w176 hs177 => ?_)
    refine Nt ?_
    refine Rt ?_
    obtain rfl := some_inj h105
    exact ⟨rfl, (.agg (kExpr x0 a0_2 n0_2)), res_of (l := [.cell 6 33]) (by kernel_rfl) (vs := [(.agg (kExpr x0 a0_2 n0_2))]) ⟨b30, 0, rfl, run_loadVar' (t := 33) (g := true) (s := 3) (by kernel_rfl) hs177.at0 rfl (by decide), trivial⟩, (.agg (kExpr x0 a0_2 n0_2)), F0, rfl, hs177.clear, ⟨a0_2, n0_2, rfl, hb0_2, hs0_2⟩⟩
end Go.Proofs.YtaihlcdkcampbaaGreatDoor
namespace Go.Proofs.YtaihlcdkcampbaaGreatDoor
open Go.Proofs
def rules_simpler (N : Nat) (x0 : Expr) : Option Expr :=
 (bif ((x0.Kids.length : Int) == 0) then some x0 else ((idx x0.Kids 0).bind fun x32 => (bif (x0.Op == 3) then ((rules_isTruth N x32 true).bind fun r54 => ((bif r54 then some r54 else ((rules_isTruth N x32 false).bind fun r76 => some r76)).bind fun j65 => (bif j65 then ((rules_isTruth N x32 false).bind fun r87 => ((rules_truthOf N r87).bind fun r95 => some r95)) else (bif (x32.Op == 3) then ((idx x32.Kids 0).bind fun x108 => some x108) else some x0)))) else ((idx x0.Kids 1).bind fun x126 => (bif (bif (x0.Op == 6) then (x0.Op == 6) else (x0.Op == 7)) then ((bif ((x32.Op == 1) && (x126.Op == 1)) then some true else ((rules_same N x32 x126).bind fun r178 => some r178)).bind fun j165 => (bif j165 then ((bif (x0.Op == 6) then ((rules_same N x32 x126).bind fun r200 => (bif r200 then ((rules_truthOf N true).bind fun r211 => some (r211.Op, r211.Value, r211.Kids)) else (bif (x0.Op == 7) then (bif ((x32.Op == 1) && (x126.Op == 1)) then ((rules_truthOf N (decide (x32.Value < x126.Value))).bind fun r227 => some (r227.Op, r227.Value, r227.Kids)) else ((rules_truthOf N false).bind fun r237 => some (r237.Op, r237.Value, r237.Kids))) else ((rules_truthOf N false).bind fun r247 => some (r247.Op, r247.Value, r247.Kids))))) else (bif (x0.Op == 7) then (bif ((x32.Op == 1) && (x126.Op == 1)) then ((rules_truthOf N (decide (x32.Value < x126.Value))).bind fun r263 => some (r263.Op, r263.Value, r263.Kids)) else ((rules_truthOf N false).bind fun r273 => some (r273.Op, r273.Value, r273.Kids))) else ((rules_truthOf N false).bind fun r283 => some (r283.Op, r283.Value, r283.Kids)))).bind fun j192 => some ({ Op := j192.1, Value := j192.2.1, Kids := j192.2.2 } : Expr)) else some x0)) else (bif (bif (x0.Op == 4) then (x0.Op == 4) else (x0.Op == 5)) then ((rules_joined N x0 x32 x126).bind fun r310 => some r310) else (bif (bif (x0.Op == 8) then (x0.Op == 8) else (bif (x0.Op == 9) then (x0.Op == 9) else (x0.Op == 10))) then (((mk0 0 14).bind fun r362 => ((rules_value N x0 r362).bind fun r376 => some r376)).bind fun j352 => (bif (((x32.Op == 1) && (x126.Op == 1)) && (decide (j352 ≥ 0))) then ((rules_constant N j352).bind fun r398 => some r398) else ((rules_reckoned N x0 x32 x126).bind fun r408 => some r408))) else (bif (x0.Op == 11) then ((rules_isTruth N x32 true).bind fun r421 => (bif r421 then some x126 else ((rules_isTruth N x32 false).bind fun r434 => (bif r434 then ((idx x0.Kids 2).bind fun x445 => some x445) else (((idx x0.Kids 2).bind fun x466 => ((rules_same N x126 x466).bind fun r472 => some r472)).bind fun j458 => (bif j458 then some x126 else some x0)))))) else some x0))))))))
theorem co_rules_simpler : CallOk Tryz.prog 148 := fun _ _ => by kernel_rfl
theorem c_rules_simpler (N : Nat) (w0 : World) (F0 : Mem) (hF : ∀ b o, F0 b = some o → w0.heap[b]? = some o) (x0 : Expr) (a0_2 : Option Addr) (n0_2 : Nat) (hb0_2 : LC x0.Kids.length n0_2) (hs0_2 : SlA tExpr F0 a0_2 x0.Kids) (r : Expr) (h : rules_simpler N x0 = some r) :
  Calls Tryz.prog 148 ([(.agg (kExpr x0 a0_2 n0_2))] : List Value).toArray w0 (FRet w0 F0 fun F' v => ∃ (aq0_2 : Option Addr) (nq0_2 : Nat), v = (.agg (kExpr r aq0_2 nq0_2)) ∧ LC r.Kids.length nq0_2 ∧ SlA tExpr F' aq0_2 r.Kids) := by
 have hs0 := HS.start hF
 refine Go 130 Tryz.func148 ?_
 refine Sq (Rg [0, 1] ?_)
 refine Bx' 33 (kExpr x0 a0_2 n0_2) hs0 (fun b21 w22 hs23 => ?_)
 refine Al' 33 #[(vi 0), (vi 0), (.slice none ([] : List Expr).length 0)] hs23 (fun b24 w25 hs26 => ?_)
 refine Nss ?_
 refine Sq (Rg [0, 1, 2, 3] ?_)
 refine Vs 1 ?_
 refine Ld hs26.at1 ?_
 refine Vs 2 ?_
 refine Nt ?_
 refine Cd h (fun hb27 h28 => ?_) (fun hb27 h29 => ?_)
 ·refine Sq (Rg [0, 1] ?_)
  refine Ld hs26.at1 ?_
  refine St0 (kExpr x0 a0_2 n0_2) hs26 (fun w30 hs31 => ?_)
  refine Nt ?_
  refine Rt ?_
  refine thenQ_ret ?_
  obtain rfl := some_inj h28
  exact ⟨rfl, (.agg (kExpr x0 a0_2 n0_2)), res_of (l := [.cell 2 33]) (by kernel_rfl) (vs := [(.agg (kExpr x0 a0_2 n0_2))]) ⟨b24, 0, rfl, run_loadVar' (t := 33) (g := true) (s := 3) (by kernel_rfl) hs31.at0 rfl (by decide), trivial⟩, (.agg (kExpr x0 a0_2 n0_2)), F0, rfl, hs31.clear, ⟨a0_2, n0_2, rfl, hb0_2, hs0_2⟩⟩
 ·refine Sc ?_
  refine thenQ_nrm ?_
  refine Sq (Rg [0, 1, 2, 3, 4, 5] ?_)
  refine Vs 1 ?_
  refine Ld hs26.at1 ?_
  obtain ⟨x32, hx33, h35⟩ := bind_some h29
  obtain ⟨hi34, hx33'⟩ := idx_spec hx33
  obtain ⟨b36, o37, C38, E39, fz40, rfl, hF42, hE43⟩ := SlA.open hs0_2 hx33'
  obtain ⟨ae44_2, ne44_2, hc45, hbe44_2, hse44_2⟩ := (tExpr_open (hE43 _ _ hx33'))
  refine Ix hi34 ?_
  refine Lx 0 (hs26.pers _ _ hF42) hc45 ?_
  refine Al' 33 #[(vi 0), (vi 0), (.slice none ([] : List Expr).length 0)] hs26 (fun b46 w47 hs48 => ?_)
  refine St0 (kExpr x32 ae44_2 ne44_2) hs48 (fun w49 hs50 => ?_)
  refine Nss ?_
  refine Sq (Rg [0, 1, 2] ?_)
  refine Vs 1 ?_
  refine Ld hs50.at2 ?_
  refine Vs 1 ?_
  refine Nt ?_
  refine Cd h35 (fun hb51 h52 => ?_) (fun hb51 h53 => ?_)
  ·refine Sq ?_
   refine Bk ?_
   refine Sq ?_
   refine Sq (Rg [0, 1, 2] ?_)
   refine Ld hs50.at0 ?_
   obtain ⟨r54, hr55, h56⟩ := bind_some h52
   refine Cl' co_rules_isTruth hs50 (c_rules_isTruth N w49 F0 hs50.pers (x32) ae44_2 ne44_2 hbe44_2 hse44_2 (true) _ hr55) ?_
   rintro _ F1 w58 hs59 le60 rfl
   refine Vs 1 ?_
   refine Nt ?_
   obtain ⟨j65, hj71, h72⟩ := bind_some h56
   refine CWP.cut (fun f w => ∃ (F2 : Mem), HS w0 F0 w F2 [(sb b46 (kExpr x32 ae44_2 ne44_2) 33), (sb b24 #[(vi 0), (vi 0), (.slice none ([] : List Expr).length 0)] 33), (sb b21 (kExpr x0 (some ⟨b36, o37, none⟩) n0_2) 33)] ∧ Mem.le F1 F2 ∧ FI f [] [(1, (pt b21 0)), (2, (pt b24 0)), (3, (pt b46 0)), (19, (.bool j65))]) ?_ ?_
   ·refine Cd hj71 (fun hb73 h74 => ?_) (fun hb73 h75 => ?_)
    ·refine Sc ?_
     obtain rfl := some_inj h74
     exact .inl ⟨rfl, F1, hs59, (Mem.le.refl _), fI⟩
    ·refine Rg [0, 1, 2] ?_
     refine Ld hs59.at0 ?_
     obtain ⟨r76, hr77, h78⟩ := bind_some h75
     refine Cl' co_rules_isTruth hs59 (c_rules_isTruth N w58 F1 hs59.pers (x32) ae44_2 ne44_2 hbe44_2 (SlA.mono hse44_2 le60) (false) _ hr77) ?_
     rintro _ F3 w80 hs81 le82 rfl
     refine Vs 1 ?_
     refine RWP.nil ?_
     obtain rfl := some_inj h78
     exact .inl ⟨rfl, F3, hs81, le82, fI⟩
   ·rintro f w62 ⟨F2, hs63, le64, ⟨_, rfl⟩⟩
    refine thenQ_nrm ?_
    refine Cd h72 (fun hb84 h85 => ?_) (fun hb84 h86 => ?_)
    ·refine Sq (Rg [0, 1, 2, 3] ?_)
     refine Ld hs63.at0 ?_
     obtain ⟨r87, hr88, h89⟩ := bind_some h85
     refine Cl' co_rules_isTruth hs63 (c_rules_isTruth N w62 F2 hs63.pers (x32) ae44_2 ne44_2 hbe44_2 (SlA.mono hse44_2 (le60.trans le64)) (false) _ hr88) ?_
     rintro _ F4 w91 hs92 le93 rfl
     obtain ⟨r95, hr96, h97⟩ := bind_some h89
     refine Cl' co_rules_truthOf hs92 (c_rules_truthOf N w91 F4 hs92.pers (r87) _ hr96) ?_
     rintro _ F5 w99 hs100 le101 ⟨ar95_0_2, nr95_0_2, rfl, hbr95_0_2, hsr95_0_2⟩
     refine St1 (kExpr r95 ar95_0_2 nr95_0_2) hs100 (fun w103 hs104 => ?_)
     refine Nt ?_
     refine Rt ?_
     refine blockQ_ret ?_
     refine thenQ_ret ?_
     refine thenQ_ret ?_
     obtain rfl := some_inj h97
     exact ⟨rfl, (.agg (kExpr r95 ar95_0_2 nr95_0_2)), res_of (l := [.cell 2 33]) (by kernel_rfl) (vs := [(.agg (kExpr r95 ar95_0_2 nr95_0_2))]) ⟨b24, 0, rfl, run_loadVar' (t := 33) (g := true) (s := 3) (by kernel_rfl) hs104.at1 rfl (by decide), trivial⟩, (.agg (kExpr r95 ar95_0_2 nr95_0_2)), F5, rfl, hs104.clear, ⟨ar95_0_2, nr95_0_2, rfl, hbr95_0_2, hsr95_0_2⟩⟩
    ·refine Sq (Rg [0, 1, 2, 3] ?_)
     refine Vs 1 ?_
     refine Ld hs63.at0 ?_
     refine Vs 2 ?_
     refine Nt ?_
     refine Cd h86 (fun hb105 h106 => ?_) (fun hb105 h107 => ?_)
     ·refine Sq (Rg [0, 1, 2, 3, 4] ?_)
      refine Vs 1 ?_
      refine Ld hs63.at0 ?_
      obtain ⟨x108, hx109, h111⟩ := bind_some h106
      obtain ⟨hi110, hx109'⟩ := idx_spec hx109
      obtain ⟨b112, o113, C114, E115, fz116, rfl, hF118, hE119⟩ := SlA.open (SlA.mono hse44_2 (le60.trans le64)) hx109'
      obtain ⟨ae120_2, ne120_2, hc121, hbe120_2, hse120_2⟩ := (tExpr_open (hE119 _ _ hx109'))
      refine Ix hi110 ?_
      refine Lx 0 (hs63.pers _ _ hF118) hc121 ?_
      refine St1 (kExpr x108 ae120_2 ne120_2) hs63 (fun w122 hs123 => ?_)
      refine Nt ?_
      refine Rt ?_
      refine blockQ_ret ?_
      refine thenQ_ret ?_
      refine thenQ_ret ?_
      obtain rfl := some_inj h111
      exact ⟨rfl, (.agg (kExpr x108 ae120_2 ne120_2)), res_of (l := [.cell 2 33]) (by kernel_rfl) (vs := [(.agg (kExpr x108 ae120_2 ne120_2))]) ⟨b24, 0, rfl, run_loadVar' (t := 33) (g := true) (s := 3) (by kernel_rfl) hs123.at1 rfl (by decide), trivial⟩, (.agg (kExpr x108 ae120_2 ne120_2)), F2, rfl, hs123.clear, ⟨ae120_2, ne120_2, rfl, hbe120_2, hse120_2⟩⟩
     ·refine Sc ?_
      refine blockQ_nrm ?_
      refine thenQ_nrm ?_
      refine Sq (Rg [0, 1] ?_)
      refine Ld hs63.at2 ?_
      refine St1 (kExpr x0 (some ⟨b36, o37, none⟩) n0_2) hs63 (fun w124 hs125 => ?_)
      refine Nt ?_
      refine Rt ?_
      refine thenQ_ret ?_
      obtain rfl := some_inj h107
      exact ⟨rfl, (.agg (kExpr x0 (some ⟨b36, o37, none⟩) n0_2)), res_of (l := [.cell 2 33]) (by kernel_rfl) (vs := [(.agg (kExpr x0 (some ⟨b36, o37, none⟩) n0_2))]) ⟨b24, 0, rfl, run_loadVar' (t := 33) (g := true) (s := 3) (by kernel_rfl) hs125.at1 rfl (by decide), trivial⟩, (.agg (kExpr x0 (some ⟨b36, o37, none⟩) n0_2)), F2, rfl, hs125.clear, ⟨(some ⟨b36, o37, none⟩), n0_2, rfl, hb0_2, (SlA.mono hs0_2 (le60.trans le64))⟩⟩
  ·refine Sc ?_
   refine thenQ_nrm ?_
   refine Sq (Rg [0, 1, 2, 3, 4, 5] ?_)
   refine Vs 1 ?_
   refine Ld hs50.at2 ?_
   obtain ⟨x126, hx127, h129⟩ := bind_some h53
   obtain ⟨hi128, hx127'⟩ := idx_spec hx127
   obtain ⟨ae130_2, ne130_2, hc131, hbe130_2, hse130_2⟩ := (tExpr_open (hE43 _ _ hx127'))
   refine Ix hi128 ?_
   refine Lx 0 (hs50.pers _ _ hF42) hc131 ?_
   refine Al' 33 #[(vi 0), (vi 0), (.slice none ([] : List Expr).length 0)] hs50 (fun b132 w133 hs134 => ?_)
   refine St0 (kExpr x126 ae130_2 ne130_2) hs134 (fun w135 hs136 => ?_)
   refine Nss (Rg [0, 1, 2, 3, 4, 5, 6, 7, 8] ?_)
   refine RWP.cut (fun f w => ∃ (F6 : Mem), HS w0 F0 w F6 [(sb b132 (kExpr x126 ae130_2 ne130_2) 33), (sb b46 (kExpr x32 ae44_2 ne44_2) 33), (sb b24 #[(vi 0), (vi 0), (.slice none ([] : List Expr).length 0)] 33), (sb b21 (kExpr x0 (some ⟨b36, o37, none⟩) n0_2) 33)] ∧ Mem.le F0 F6 ∧ FI f [] [(1, (pt b21 0)), (2, (pt b24 0)), (3, (pt b46 0)), (4, (pt b132 0)), (5, (.bool ((x32.Op == 1) && (x126.Op == 1))))]) ?_ ?_
   ·refine Vs 1 ?_
    refine Ld hs136.at1 ?_
    refine Vs 2 ?_
    refine RWP.split (x32.Op == 1) (fun hb146 => ?_) (fun hb146 => ?_)
    ·refine Vgs hb146 1 ?_
     refine Lg hb146 hs136.at0 ?_
     refine Vgs hb146 1 ?_
     refine Pk1 hb146 ?_
     refine Vs 1 ?_
     exact RWP.nil ⟨rfl, F0, hs136, (Mem.le.refl _), (fJ ⟨rfl, rfl, rfl, rfl, (congrArg Value.bool (and_t hb146 (rfl))), trivial⟩)⟩
    ·refine Ss hb146 3 ?_
     refine Pk0 hb146 ?_
     refine Vs 1 ?_
     exact RWP.nil ⟨rfl, F0, hs136, (Mem.le.refl _), (fJ ⟨rfl, rfl, rfl, rfl, (congrArg Value.bool (and_f hb146 (rfl))), trivial⟩)⟩
   ·rintro f w137 ⟨F6, hs138, le139, ⟨_, rfl⟩⟩
    refine thenQ_nrm ?_
    refine Sq ?_
    refine Sq (Rg [0, 1] ?_)
    refine Vs 1 ?_
    refine Ld hs138.at3 ?_
    refine Nt ?_
    refine Bk ?_
    refine Sq ?_
    refine Sq (Rg [0, 1] ?_)
    refine Vs 2 ?_
    refine Nt ?_
    refine CWP.cut (fun f w => ∃ (F7 : Mem), HS w0 F0 w F7 [(sb b132 (kExpr x126 ae130_2 ne130_2) 33), (sb b46 (kExpr x32 ae44_2 ne44_2) 33), (sb b24 #[(vi 0), (vi 0), (.slice none ([] : List Expr).length 0)] 33), (sb b21 (kExpr x0 (some ⟨b36, o37, none⟩) n0_2) 33)] ∧ Mem.le F6 F7 ∧ FI f [] [(1, (pt b21 0)), (2, (pt b24 0)), (3, (pt b46 0)), (4, (pt b132 0)), (5, (.bool ((x32.Op == 1) && (x126.Op == 1)))), (49, (vi x0.Op)), (50, (.bool (bif (x0.Op == 6) then (x0.Op == 6) else (x0.Op == 7))))]) ?_ ?_
    ·refine Cp (x0.Op == 6) (fun hb158 => ?_) (fun hb158 => ?_)
     ·refine Sc ?_
      exact .inl ⟨rfl, F6, hs138, (Mem.le.refl _), (fJ ⟨rfl, rfl, rfl, rfl, rfl, rfl, (congrArg Value.bool (bif_t hb158 (rfl))), trivial⟩)⟩
     ·refine Rg [0, 1] ?_
      refine Vs 2 ?_
      refine RWP.nil ?_
      exact .inl ⟨rfl, F6, hs138, (Mem.le.refl _), (fJ ⟨rfl, rfl, rfl, rfl, rfl, rfl, (congrArg Value.bool (bif_f hb158 (rfl))), trivial⟩)⟩
    ·rintro f w147 ⟨F7, hs148, le149, ⟨_, rfl⟩⟩
     refine thenQ_nrm ?_
     refine Cd h129 (fun hb159 h160 => ?_) (fun hb159 h161 => ?_)
     ·refine Sq (Rg [0, 1, 2, 3, 4, 5] ?_)
      obtain ⟨j165, hj173, h174⟩ := bind_some h160
      refine RWP.cut (fun f w => ∃ (F8 : Mem), HS w0 F0 w F8 [(sb b132 (kExpr x126 ae130_2 ne130_2) 33), (sb b46 (kExpr x32 ae44_2 ne44_2) 33), (sb b24 #[(vi 0), (vi 0), (.slice none ([] : List Expr).length 0)] 33), (sb b21 (kExpr x0 (some ⟨b36, o37, none⟩) n0_2) 33)] ∧ Mem.le F7 F8 ∧ FI f [] [(1, (pt b21 0)), (2, (pt b24 0)), (3, (pt b46 0)), (4, (pt b132 0)), (5, (.bool ((x32.Op == 1) && (x126.Op == 1)))), (58, (.bool j165))]) ?_ ?_
      ·refine Vs 2 ?_
       refine Sp hj173 (fun hb175 h176 => ?_) (fun hb175 h177 => ?_)
       ·refine Ss hb175 3 ?_
        refine Pk1 hb175 ?_
        obtain rfl := some_inj h176
        exact RWP.nil ⟨rfl, F7, hs148, (Mem.le.refl _), fI⟩
       ·refine Lg hb175 hs148.at1 ?_
        refine Lg hb175 hs148.at0 ?_
        obtain ⟨r178, hr179, h180⟩ := bind_some h177
        refine Cg hb175 co_rules_same hs148 (c_rules_same N w147 F7 hs148.pers (x32) ae44_2 ne44_2 hbe44_2 (SlA.mono hse44_2 (le139.trans le149)) (x126) ae130_2 ne130_2 hbe130_2 (SlA.mono hse130_2 (le139.trans le149)) _ hr179) ?_
        rintro _ F9 w182 hs183 le184 rfl
        refine Pk0 hb175 ?_
        obtain rfl := some_inj h180
        exact RWP.nil ⟨rfl, F9, hs183, le184, fI⟩
      ·rintro f w162 ⟨F8, hs163, le164, ⟨_, rfl⟩⟩
       refine thenQ_nrm ?_
       refine Cd h174 (fun hb186 h187 => ?_) (fun hb186 h188 => ?_)
       ·refine Sq (Rg [0, 1, 2, 3, 4, 5, 6, 7, 8, 9, 10, 11, 12, 13, 14, 15, 16, 17, 18, 19, 20, 21, 22, 23, 24] ?_)
        obtain ⟨j192, hj195, h196⟩ := bind_some h187
        refine RWP.cut (fun f w => ∃ (F10 : Mem) (aj192_2 : Option Addr) (nj192_2 : Nat), HS w0 F0 w F10 [(sb b24 #[(vi j192.1), (vi j192.2.1), (.slice aj192_2 j192.2.2.length nj192_2)] 33)] ∧ Mem.le F8 F10 ∧ FI f [] [(2, (pt b24 0))] ∧ LC j192.2.2.length nj192_2 ∧ SlA tExpr F10 aj192_2 j192.2.2) ?_ ?_
        ·refine Vs 1 ?_
         refine Ld hs163.at3 ?_
         refine Vs 2 ?_
         refine Sp hj195 (fun hb197 h198 => ?_) (fun hb197 h199 => ?_)
         ·refine Lg hb197 hs163.at1 ?_
          refine Lg hb197 hs163.at0 ?_
          obtain ⟨r200, hr201, h202⟩ := bind_some h198
          refine Cg hb197 co_rules_same hs163 (c_rules_same N w162 F8 hs163.pers (x32) ae44_2 ne44_2 hbe44_2 (SlA.mono hse44_2 ((le139.trans le149).trans le164)) (x126) ae130_2 ne130_2 hbe130_2 (SlA.mono hse130_2 ((le139.trans le149).trans le164)) _ hr201) ?_
          rintro _ F11 w204 hs205 le206 rfl
          refine Pk1 hb197 ?_
          refine Vs 1 ?_
          refine Sp h202 (fun hb208 h209 => ?_) (fun hb208 h210 => ?_)
          ·refine Ss hb208 4 ?_
           refine Su' 1 ?_
           refine Ss hb208 2 ?_
           refine Su' 5 ?_
           refine Ss hb208 1 ?_
           refine Pk1 hb208 ?_
           obtain ⟨r211, hr212, h213⟩ := bind_some h209
           refine Cl' co_rules_truthOf hs205 (c_rules_truthOf N w204 F11 hs205.pers (true) _ hr212) ?_
           rintro _ F12 w215 hs216 le217 ⟨ar211_0_2, nr211_0_2, rfl, hbr211_0_2, hsr211_0_2⟩
           refine St2 (kExpr r211 ar211_0_2 nr211_0_2) hs216 (fun w219 hs220 => ?_)
           obtain rfl := some_inj h213
           exact RWP.nil ⟨rfl, F12, ar211_0_2, nr211_0_2, hs220.dr0.dr0.dr1, (le206.trans le217), fI, hbr211_0_2, hsr211_0_2⟩
          ·refine Vgs hb208 1 ?_
           refine Lg hb208 hs205.at3 ?_
           refine Vgs hb208 2 ?_
           refine Sp h210 (fun hb221 h222 => ?_) (fun hb221 h223 => ?_)
           ·refine Vgs hb221 1 ?_
            refine Pg1 hb208 hb221 ?_
            refine Vgs hb208 1 ?_
            refine Sp h222 (fun hb224 h225 => ?_) (fun hb224 h226 => ?_)
            ·refine Vgs hb224 1 ?_
             refine Lg hb224 hs205.at1 ?_
             refine Vgs hb224 1 ?_
             refine Lg hb224 hs205.at0 ?_
             refine Vgs hb224 1 ?_
             refine Pg1 hb208 hb224 ?_
             refine Pk0 hb208 ?_
             obtain ⟨r227, hr228, h229⟩ := bind_some h225
             refine Cl' co_rules_truthOf hs205 (c_rules_truthOf N w204 F11 hs205.pers ((decide (x32.Value < x126.Value))) _ hr228) ?_
             rintro _ F13 w231 hs232 le233 ⟨ar227_0_2, nr227_0_2, rfl, hbr227_0_2, hsr227_0_2⟩
             refine St2 (kExpr r227 ar227_0_2 nr227_0_2) hs232 (fun w235 hs236 => ?_)
             obtain rfl := some_inj h229
             exact RWP.nil ⟨rfl, F13, ar227_0_2, nr227_0_2, hs236.dr0.dr0.dr1, (le206.trans le233), fI, hbr227_0_2, hsr227_0_2⟩
            ·refine Ss hb224 5 ?_
             refine Pg0 hb208 hb224 ?_
             refine Pk0 hb208 ?_
             obtain ⟨r237, hr238, h239⟩ := bind_some h226
             refine Cl' co_rules_truthOf hs205 (c_rules_truthOf N w204 F11 hs205.pers (false) _ hr238) ?_
             rintro _ F14 w241 hs242 le243 ⟨ar237_0_2, nr237_0_2, rfl, hbr237_0_2, hsr237_0_2⟩
             refine St2 (kExpr r237 ar237_0_2 nr237_0_2) hs242 (fun w245 hs246 => ?_)
             obtain rfl := some_inj h239
             exact RWP.nil ⟨rfl, F14, ar237_0_2, nr237_0_2, hs246.dr0.dr0.dr1, (le206.trans le243), fI, hbr237_0_2, hsr237_0_2⟩
           ·refine Ss hb221 1 ?_
            refine Pg0 hb208 hb221 ?_
            refine Vgs hb208 1 ?_
            refine Ss (rfl : false = false) 5 ?_
            refine Pg0 hb208 (rfl : false = false) ?_
            refine Pk0 hb208 ?_
            obtain ⟨r247, hr248, h249⟩ := bind_some h223
            refine Cl' co_rules_truthOf hs205 (c_rules_truthOf N w204 F11 hs205.pers (false) _ hr248) ?_
            rintro _ F15 w251 hs252 le253 ⟨ar247_0_2, nr247_0_2, rfl, hbr247_0_2, hsr247_0_2⟩
            refine St2 (kExpr r247 ar247_0_2 nr247_0_2) hs252 (fun w255 hs256 => ?_)
            obtain rfl := some_inj h249
            exact RWP.nil ⟨rfl, F15, ar247_0_2, nr247_0_2, hs256.dr0.dr0.dr1, (le206.trans le253), fI, hbr247_0_2, hsr247_0_2⟩
         ·refine Ss hb197 3 ?_
          refine Pk0 hb197 ?_
          refine Vs 1 ?_
          refine Vg 68 0 8 false 67 rfl (fa 33 1 0 0 1 b21 0 0) ?_
          refine Vg 69 3 8 false 67 rfl (ld 3 68 b21 0 false 1 (vi x0.Op) hs163.at3) ?_
          refine Vg 70 4 8 false 67 rfl (run_eql (t := 3) (t' := 3) (x := (.tmp 69)) (y := (.const (vi 7))) (k := .i64) (a := x0.Op) (b := 7) rfl rfl) ?_
          refine Vg 71 4 8 false 67 rfl (mv 70 (.bool (x0.Op == 7))) ?_
          refine Sp h199 (fun hb257 h258 => ?_) (fun hb257 h259 => ?_)
          ·refine Vgs hb257 1 ?_
           refine Vg 73 4 8 false 67 rfl (p1 71 (.tmp 72) (.const (.bool false)) (.bool ((x32.Op == 1) && (x126.Op == 1))) hb257) ?_
           refine Vg 74 4 8 false 67 rfl (mv 73 (.bool ((x32.Op == 1) && (x126.Op == 1)))) ?_
           refine Sp h258 (fun hb260 h261 => ?_) (fun hb260 h262 => ?_)
           ·refine Vgs hb260 1 ?_
            refine Lg hb260 hs163.at1 ?_
            refine Vgs hb260 1 ?_
            refine Lg hb260 hs163.at0 ?_
            refine Vgs hb260 1 ?_
            refine Vg 80 4 8 false 67 rfl (p1 74 (.tmp 79) (.const (.bool false)) (.bool (decide (x32.Value < x126.Value))) hb260) ?_
            refine Pk0 (rfl : false = false) ?_
            obtain ⟨r263, hr264, h265⟩ := bind_some h261
            refine Cl' co_rules_truthOf hs163 (c_rules_truthOf N w162 F8 hs163.pers ((decide (x32.Value < x126.Value))) _ hr264) ?_
            rintro _ F16 w267 hs268 le269 ⟨ar263_0_2, nr263_0_2, rfl, hbr263_0_2, hsr263_0_2⟩
            refine St2 (kExpr r263 ar263_0_2 nr263_0_2) hs268 (fun w271 hs272 => ?_)
            obtain rfl := some_inj h265
            exact RWP.nil ⟨rfl, F16, ar263_0_2, nr263_0_2, hs272.dr0.dr0.dr1, le269, fI, hbr263_0_2, hsr263_0_2⟩
           ·refine Ss hb260 5 ?_
            refine Vg 80 4 8 false 67 rfl (p0 74 (.tmp 79) (.const (.bool false)) (.bool false) hb260) ?_
            refine Pk0 (rfl : false = false) ?_
            obtain ⟨r273, hr274, h275⟩ := bind_some h262
            refine Cl' co_rules_truthOf hs163 (c_rules_truthOf N w162 F8 hs163.pers (false) _ hr274) ?_
            rintro _ F17 w277 hs278 le279 ⟨ar273_0_2, nr273_0_2, rfl, hbr273_0_2, hsr273_0_2⟩
            refine St2 (kExpr r273 ar273_0_2 nr273_0_2) hs278 (fun w281 hs282 => ?_)
            obtain rfl := some_inj h275
            exact RWP.nil ⟨rfl, F17, ar273_0_2, nr273_0_2, hs282.dr0.dr0.dr1, le279, fI, hbr273_0_2, hsr273_0_2⟩
          ·refine Ss hb257 1 ?_
           refine Vg 73 4 8 false 67 rfl (p0 71 (.tmp 72) (.const (.bool false)) (.bool false) hb257) ?_
           refine Vg 74 4 8 false 67 rfl (mv 73 (.bool false)) ?_
           refine Ss (rfl : false = false) 5 ?_
           refine Vg 80 4 8 false 67 rfl (p0 74 (.tmp 79) (.const (.bool false)) (.bool false) rfl) ?_
           refine Pk0 (rfl : false = false) ?_
           obtain ⟨r283, hr284, h285⟩ := bind_some h259
           refine Cl' co_rules_truthOf hs163 (c_rules_truthOf N w162 F8 hs163.pers (false) _ hr284) ?_
           rintro _ F18 w287 hs288 le289 ⟨ar283_0_2, nr283_0_2, rfl, hbr283_0_2, hsr283_0_2⟩
           refine St2 (kExpr r283 ar283_0_2 nr283_0_2) hs288 (fun w291 hs292 => ?_)
           obtain rfl := some_inj h285
           exact RWP.nil ⟨rfl, F18, ar283_0_2, nr283_0_2, hs292.dr0.dr0.dr1, le289, fI, hbr283_0_2, hsr283_0_2⟩
        ·rintro f w189 ⟨F10, aj192_2, nj192_2, hs190, le191, ⟨_, rfl⟩, hbj192_2, hsj192_2⟩
         refine thenQ_nrm ?_
         refine Rt ?_
         refine blockQ_ret ?_
         refine thenQ_ret ?_
         obtain rfl := some_inj h196
         exact ⟨rfl, (.agg #[(vi j192.1), (vi j192.2.1), (.slice aj192_2 j192.2.2.length nj192_2)]), res_of (l := [.cell 2 33]) (by kernel_rfl) (vs := [(.agg #[(vi j192.1), (vi j192.2.1), (.slice aj192_2 j192.2.2.length nj192_2)])]) ⟨b24, 0, rfl, run_loadVar' (t := 33) (g := true) (s := 3) (by kernel_rfl) hs190.at0 rfl (by decide), trivial⟩, (.agg #[(vi j192.1), (vi j192.2.1), (.slice aj192_2 j192.2.2.length nj192_2)]), F10, rfl, hs190.clear, ⟨aj192_2, nj192_2, rfl, hbj192_2, hsj192_2⟩⟩
       ·refine Sc ?_
        refine blockQ_nrm ?_
        refine thenQ_nrm ?_
        refine Sq (Rg [0, 1] ?_)
        refine Ld hs163.at3 ?_
        refine St2 (kExpr x0 (some ⟨b36, o37, none⟩) n0_2) hs163 (fun w293 hs294 => ?_)
        refine Nt ?_
        refine Rt ?_
        obtain rfl := some_inj h188
        exact ⟨rfl, (.agg (kExpr x0 (some ⟨b36, o37, none⟩) n0_2)), res_of (l := [.cell 2 33]) (by kernel_rfl) (vs := [(.agg (kExpr x0 (some ⟨b36, o37, none⟩) n0_2))]) ⟨b24, 0, rfl, run_loadVar' (t := 33) (g := true) (s := 3) (by kernel_rfl) hs294.at2 rfl (by decide), trivial⟩, (.agg (kExpr x0 (some ⟨b36, o37, none⟩) n0_2)), F8, rfl, hs294.clear, ⟨(some ⟨b36, o37, none⟩), n0_2, rfl, hb0_2, (SlA.mono hs0_2 ((le139.trans le149).trans le164))⟩⟩
     ·refine Sq ?_
      refine Sq (Rg [0, 1] ?_)
      refine Vs 2 ?_
      refine Nt ?_
      refine CWP.cut (fun f w => ∃ (F19 : Mem), HS w0 F0 w F19 [(sb b132 (kExpr x126 ae130_2 ne130_2) 33), (sb b46 (kExpr x32 ae44_2 ne44_2) 33), (sb b24 #[(vi 0), (vi 0), (.slice none ([] : List Expr).length 0)] 33), (sb b21 (kExpr x0 (some ⟨b36, o37, none⟩) n0_2) 33)] ∧ Mem.le F7 F19 ∧ FI f [] [(1, (pt b21 0)), (2, (pt b24 0)), (3, (pt b46 0)), (4, (pt b132 0)), (5, (.bool ((x32.Op == 1) && (x126.Op == 1)))), (49, (vi x0.Op)), (83, (.bool (bif (x0.Op == 4) then (x0.Op == 4) else (x0.Op == 5))))]) ?_ ?_
      ·refine Cp (x0.Op == 4) (fun hb306 => ?_) (fun hb306 => ?_)
       ·refine Sc ?_
        exact .inl ⟨rfl, F7, hs148, (Mem.le.refl _), (fJ ⟨rfl, rfl, rfl, rfl, rfl, rfl, (congrArg Value.bool (bif_t hb306 (rfl))), trivial⟩)⟩
       ·refine Rg [0, 1] ?_
        refine Vs 2 ?_
        refine RWP.nil ?_
        exact .inl ⟨rfl, F7, hs148, (Mem.le.refl _), (fJ ⟨rfl, rfl, rfl, rfl, rfl, rfl, (congrArg Value.bool (bif_f hb306 (rfl))), trivial⟩)⟩
      ·rintro f w295 ⟨F19, hs296, le297, ⟨_, rfl⟩⟩
       refine thenQ_nrm ?_
       refine Cd h161 (fun hb307 h308 => ?_) (fun hb307 h309 => ?_)
       ·refine Sq (Rg [0, 1, 2, 3, 4] ?_)
        refine Ld hs296.at3 ?_
        refine Ld hs296.at1 ?_
        refine Ld hs296.at0 ?_
        obtain ⟨r310, hr311, h312⟩ := bind_some h308
        refine Cl' co_rules_joined hs296 (c_rules_joined N w295 F19 hs296.pers (x0) (some ⟨b36, o37, none⟩) n0_2 hb0_2 (SlA.mono hs0_2 ((le139.trans le149).trans le297)) (x32) ae44_2 ne44_2 hbe44_2 (SlA.mono hse44_2 ((le139.trans le149).trans le297)) (x126) ae130_2 ne130_2 hbe130_2 (SlA.mono hse130_2 ((le139.trans le149).trans le297)) _ hr311) ?_
        rintro _ F20 w314 hs315 le316 ⟨ar310_0_2, nr310_0_2, rfl, hbr310_0_2, hsr310_0_2⟩
        refine St2 (kExpr r310 ar310_0_2 nr310_0_2) hs315 (fun w318 hs319 => ?_)
        refine Nt ?_
        refine Rt ?_
        refine blockQ_ret ?_
        refine thenQ_ret ?_
        obtain rfl := some_inj h312
        exact ⟨rfl, (.agg (kExpr r310 ar310_0_2 nr310_0_2)), res_of (l := [.cell 2 33]) (by kernel_rfl) (vs := [(.agg (kExpr r310 ar310_0_2 nr310_0_2))]) ⟨b24, 0, rfl, run_loadVar' (t := 33) (g := true) (s := 3) (by kernel_rfl) hs319.at2 rfl (by decide), trivial⟩, (.agg (kExpr r310 ar310_0_2 nr310_0_2)), F20, rfl, hs319.clear, ⟨ar310_0_2, nr310_0_2, rfl, hbr310_0_2, hsr310_0_2⟩⟩
       ·refine Sq ?_
        refine Sq (Rg [0, 1] ?_)
        refine Vs 2 ?_
        refine Nt ?_
        refine CWP.cut (fun f w => ∃ (F21 : Mem), HS w0 F0 w F21 [(sb b132 (kExpr x126 ae130_2 ne130_2) 33), (sb b46 (kExpr x32 ae44_2 ne44_2) 33), (sb b24 #[(vi 0), (vi 0), (.slice none ([] : List Expr).length 0)] 33), (sb b21 (kExpr x0 (some ⟨b36, o37, none⟩) n0_2) 33)] ∧ Mem.le F19 F21 ∧ FI f [] [(1, (pt b21 0)), (2, (pt b24 0)), (3, (pt b46 0)), (4, (pt b132 0)), (5, (.bool ((x32.Op == 1) && (x126.Op == 1)))), (49, (vi x0.Op)), (90, (.bool (bif (x0.Op == 8) then (x0.Op == 8) else (bif (x0.Op == 9) then (x0.Op == 9) else (x0.Op == 10)))))]) ?_ ?_
        ·refine Cp (x0.Op == 8) (fun hb331 => ?_) (fun hb331 => ?_)
         ·refine Sc ?_
          exact .inl ⟨rfl, F19, hs296, (Mem.le.refl _), (fJ ⟨rfl, rfl, rfl, rfl, rfl, rfl, (congrArg Value.bool (bif_t hb331 (rfl))), trivial⟩)⟩
         ·refine Sq (Rg [0, 1] ?_)
          refine Vs 2 ?_
          refine Nt ?_
          refine CWP.cut (fun f w => ∃ (F22 : Mem), HS w0 F0 w F22 [(sb b132 (kExpr x126 ae130_2 ne130_2) 33), (sb b46 (kExpr x32 ae44_2 ne44_2) 33), (sb b24 #[(vi 0), (vi 0), (.slice none ([] : List Expr).length 0)] 33), (sb b21 (kExpr x0 (some ⟨b36, o37, none⟩) n0_2) 33)] ∧ Mem.le F19 F22 ∧ FI f [] [(1, (pt b21 0)), (2, (pt b24 0)), (3, (pt b46 0)), (4, (pt b132 0)), (5, (.bool ((x32.Op == 1) && (x126.Op == 1)))), (49, (vi x0.Op)), (90, (.bool (bif (x0.Op == 9) then (x0.Op == 9) else (x0.Op == 10))))]) ?_ ?_
          ·refine Cp (x0.Op == 9) (fun hb343 => ?_) (fun hb343 => ?_)
           ·refine Sc ?_
            exact .inl ⟨rfl, F19, hs296, (Mem.le.refl _), (fJ ⟨rfl, rfl, rfl, rfl, rfl, rfl, (congrArg Value.bool (bif_t hb343 (rfl))), trivial⟩)⟩
           ·refine Rg [0, 1] ?_
            refine Vs 2 ?_
            refine RWP.nil ?_
            exact .inl ⟨rfl, F19, hs296, (Mem.le.refl _), (fJ ⟨rfl, rfl, rfl, rfl, rfl, rfl, (congrArg Value.bool (bif_f hb343 (rfl))), trivial⟩)⟩
          ·rintro f w332 ⟨F22, hs333, le334, ⟨_, rfl⟩⟩
           exact .inl ⟨rfl, F22, hs333, le334, (fJ ⟨rfl, rfl, rfl, rfl, rfl, rfl, (congrArg Value.bool (bif_f hb331 (rfl))), trivial⟩)⟩
        ·rintro f w320 ⟨F21, hs321, le322, ⟨_, rfl⟩⟩
         refine thenQ_nrm ?_
         refine Cd h309 (fun hb344 h345 => ?_) (fun hb344 h346 => ?_)
         ·refine Sq ?_
          refine Sq ?_
          obtain ⟨j352, hj360, h361⟩ := bind_some h345
          refine RD 4 4 [(sb b132 (kExpr x126 ae130_2 ne130_2) 33), (sb b46 (kExpr x32 ae44_2 ne44_2) 33), (sb b24 #[(vi 0), (vi 0), (.slice none ([] : List Expr).length 0)] 33), (sb b21 (kExpr x0 (some ⟨b36, o37, none⟩) n0_2) 33)] [] hs321 (fun f w => ∃ (F23 : Mem), HS w0 F0 w F23 [(sb b132 (kExpr x126 ae130_2 ne130_2) 33), (sb b46 (kExpr x32 ae44_2 ne44_2) 33), (sb b24 #[(vi 0), (vi 0), (.slice none ([] : List Expr).length 0)] 33), (sb b21 (kExpr x0 (some ⟨b36, o37, none⟩) n0_2) 33)] ∧ Mem.le F21 F23 ∧ FI f [] [(1, (pt b21 0)), (2, (pt b24 0)), (3, (pt b46 0)), (4, (pt b132 0)), (5, (.bool ((x32.Op == 1) && (x126.Op == 1)))), (6, (vi j352))]) (fun wd347 hw348 => ?_) ?_
          ·refine Dl 0 (fun _ hq => (hq.1.2 3 _ _ rfl)) ?_
           refine D1 1 ?_
           obtain ⟨r362, hm363, h364⟩ := bind_some hj360
           refine DStep.makeSlice (l' := [true, true, false, false]) (zd := true) (by kernel_rfl) (by kernel_rfl) (dst := (some 95)) (ty := 47) (g := none) (by kernel_rfl) rfl (x := (.const (vi 14))) (y := (.const (vi 14))) (t := 47) (by_ := 8) (z := (vi 0)) (T := tInt) (E := 3) rfl rfl (by kernel_rfl) (by decide) (by kernel_rfl) (z0 := 0) (fun _ => rfl) (by decide) hw348 hm363 (Mem.le.refl _) (by simp) (fun e => by cases e) (fun b365 n366 C367 w368 (hs369 : HS w0 F0 w368 F21 [(some b365, .cells C367 3 (0, 0)), (sb b132 (kExpr x126 ae130_2 ne130_2) 33), (sb b46 (kExpr x32 ae44_2 ne44_2) 33), (sb b24 #[(vi 0), (vi 0), (.slice none ([] : List Expr).length 0)] 33), (sb b21 (kExpr x0 (some ⟨b36, o37, none⟩) n0_2) 33)]) hr370 => ?_)
           refine D1 2 ?_
           have hb375 := RowR.bound hr370
           obtain ⟨F24, hs372, le373, hs374⟩ := hs369.fr0 hr370
           obtain ⟨r376, hr377, h378⟩ := bind_some h364
           refine DCl co_rules_value hs372 (c_rules_value N w368 F24 hs372.pers (x0) (some ⟨b36, o37, none⟩) n0_2 hb0_2 (SlA.mono hs0_2 ((((le139.trans le149).trans le297).trans le322).trans le373)) (r362) (some ⟨b365, 0, none⟩) n366 hb375 hs374 _ hr377) ?_
           rintro _ F25 w380 hs381 le382 rfl
           refine Dv [3] ?_
           obtain rfl := some_inj h378
           exact DWP.done (by kernel_rfl) ⟨F25, hs381, (le373.trans le382), fI⟩
          ·rintro f w349 ⟨F23, hs350, le351, ⟨_, rfl⟩⟩
           refine thenQ_nrm ?_
           refine Sq (Rg [0, 1, 2, 3, 4] ?_)
           refine RWP.cut (fun f w => ∃ (F26 : Mem), HS w0 F0 w F26 [(sb b132 (kExpr x126 ae130_2 ne130_2) 33), (sb b46 (kExpr x32 ae44_2 ne44_2) 33), (sb b24 #[(vi 0), (vi 0), (.slice none ([] : List Expr).length 0)] 33), (sb b21 (kExpr x0 (some ⟨b36, o37, none⟩) n0_2) 33)] ∧ Mem.le F23 F26 ∧ FI f [] [(1, (pt b21 0)), (2, (pt b24 0)), (3, (pt b46 0)), (4, (pt b132 0)), (6, (vi j352)), (101, (.bool (((x32.Op == 1) && (x126.Op == 1)) && (decide (j352 ≥ 0)))))]) ?_ ?_
           ·refine Vs 2 ?_
            refine RWP.split ((x32.Op == 1) && (x126.Op == 1)) (fun hb394 => ?_) (fun hb394 => ?_)
            ·refine Vgs hb394 2 ?_
             refine Pk1 hb394 ?_
             exact RWP.nil ⟨rfl, F23, hs350, (Mem.le.refl _), (fJ ⟨rfl, rfl, rfl, rfl, rfl, (congrArg Value.bool (and_t hb394 (rfl))), trivial⟩)⟩
            ·refine Ss hb394 2 ?_
             refine Pk0 hb394 ?_
             exact RWP.nil ⟨rfl, F23, hs350, (Mem.le.refl _), (fJ ⟨rfl, rfl, rfl, rfl, rfl, (congrArg Value.bool (and_f hb394 (rfl))), trivial⟩)⟩
           ·rintro f w384 ⟨F26, hs385, le386, ⟨_, rfl⟩⟩
            refine thenQ_nrm ?_
            refine Cd h361 (fun hb395 h396 => ?_) (fun hb395 h397 => ?_)
            ·refine Sq (Rg [0, 1, 2] ?_)
             refine Vs 1 ?_
             obtain ⟨r398, hr399, h400⟩ := bind_some h396
             refine Cl' co_rules_constant hs385 (c_rules_constant N w384 F26 hs385.pers (j352) _ hr399) ?_
             rintro _ F27 w402 hs403 le404 ⟨ar398_0_2, nr398_0_2, rfl, hbr398_0_2, hsr398_0_2⟩
             refine St2 (kExpr r398 ar398_0_2 nr398_0_2) hs403 (fun w406 hs407 => ?_)
             refine Nt ?_
             refine Rt ?_
             refine thenQ_ret ?_
             refine blockQ_ret ?_
             refine thenQ_ret ?_
             obtain rfl := some_inj h400
             exact ⟨rfl, (.agg (kExpr r398 ar398_0_2 nr398_0_2)), res_of (l := [.cell 2 33]) (by kernel_rfl) (vs := [(.agg (kExpr r398 ar398_0_2 nr398_0_2))]) ⟨b24, 0, rfl, run_loadVar' (t := 33) (g := true) (s := 3) (by kernel_rfl) hs407.at2 rfl (by decide), trivial⟩, (.agg (kExpr r398 ar398_0_2 nr398_0_2)), F27, rfl, hs407.clear, ⟨ar398_0_2, nr398_0_2, rfl, hbr398_0_2, hsr398_0_2⟩⟩
            ·refine Sc ?_
             refine thenQ_nrm ?_
             refine Sq (Rg [0, 1, 2, 3, 4] ?_)
             refine Ld hs385.at3 ?_
             refine Ld hs385.at1 ?_
             refine Ld hs385.at0 ?_
             obtain ⟨r408, hr409, h410⟩ := bind_some h397
             refine Cl' co_rules_reckoned hs385 (c_rules_reckoned N w384 F26 hs385.pers (x0) (some ⟨b36, o37, none⟩) n0_2 hb0_2 (SlA.mono hs0_2 (((((le139.trans le149).trans le297).trans le322).trans le351).trans le386)) (x32) ae44_2 ne44_2 hbe44_2 (SlA.mono hse44_2 (((((le139.trans le149).trans le297).trans le322).trans le351).trans le386)) (x126) ae130_2 ne130_2 hbe130_2 (SlA.mono hse130_2 (((((le139.trans le149).trans le297).trans le322).trans le351).trans le386)) _ hr409) ?_
             rintro _ F28 w412 hs413 le414 ⟨ar408_0_2, nr408_0_2, rfl, hbr408_0_2, hsr408_0_2⟩
             refine St2 (kExpr r408 ar408_0_2 nr408_0_2) hs413 (fun w416 hs417 => ?_)
             refine Nt ?_
             refine Rt ?_
             refine blockQ_ret ?_
             refine thenQ_ret ?_
             obtain rfl := some_inj h410
             exact ⟨rfl, (.agg (kExpr r408 ar408_0_2 nr408_0_2)), res_of (l := [.cell 2 33]) (by kernel_rfl) (vs := [(.agg (kExpr r408 ar408_0_2 nr408_0_2))]) ⟨b24, 0, rfl, run_loadVar' (t := 33) (g := true) (s := 3) (by kernel_rfl) hs417.at2 rfl (by decide), trivial⟩, (.agg (kExpr r408 ar408_0_2 nr408_0_2)), F28, rfl, hs417.clear, ⟨ar408_0_2, nr408_0_2, rfl, hbr408_0_2, hsr408_0_2⟩⟩
         ·refine Sq (Rg [0, 1] ?_)
          refine Vs 2 ?_
          refine Nt ?_
          refine Cd h346 (fun hb418 h419 => ?_) (fun hb418 h420 => ?_)
          ·refine Bk ?_
           refine Sq (Rg [0, 1, 2] ?_)
           refine Ld hs321.at1 ?_
           obtain ⟨r421, hr422, h423⟩ := bind_some h419
           refine Cl' co_rules_isTruth hs321 (c_rules_isTruth N w320 F21 hs321.pers (x32) ae44_2 ne44_2 hbe44_2 (SlA.mono hse44_2 (((le139.trans le149).trans le297).trans le322)) (true) _ hr422) ?_
           rintro _ F29 w425 hs426 le427 rfl
           refine Vs 1 ?_
           refine Nt ?_
           refine Cd h423 (fun hb429 h430 => ?_) (fun hb429 h431 => ?_)
           ·refine Sq (Rg [0, 1] ?_)
            refine Ld hs426.at0 ?_
            refine St2 (kExpr x126 ae130_2 ne130_2) hs426 (fun w432 hs433 => ?_)
            refine Nt ?_
            refine Rt ?_
            refine blockQ_ret ?_
            refine blockQ_ret ?_
            refine thenQ_ret ?_
            obtain rfl := some_inj h430
            exact ⟨rfl, (.agg (kExpr x126 ae130_2 ne130_2)), res_of (l := [.cell 2 33]) (by kernel_rfl) (vs := [(.agg (kExpr x126 ae130_2 ne130_2))]) ⟨b24, 0, rfl, run_loadVar' (t := 33) (g := true) (s := 3) (by kernel_rfl) hs433.at2 rfl (by decide), trivial⟩, (.agg (kExpr x126 ae130_2 ne130_2)), F29, rfl, hs433.clear, ⟨ae130_2, ne130_2, rfl, hbe130_2, (SlA.mono hse130_2 ((((le139.trans le149).trans le297).trans le322).trans le427))⟩⟩
           ·refine Sq (Rg [0, 1, 2] ?_)
            refine Ld hs426.at1 ?_
            obtain ⟨r434, hr435, h436⟩ := bind_some h431
            refine Cl' co_rules_isTruth hs426 (c_rules_isTruth N w425 F29 hs426.pers (x32) ae44_2 ne44_2 hbe44_2 (SlA.mono hse44_2 ((((le139.trans le149).trans le297).trans le322).trans le427)) (false) _ hr435) ?_
            rintro _ F30 w438 hs439 le440 rfl
            refine Vs 1 ?_
            refine Nt ?_
            refine Cd h436 (fun hb442 h443 => ?_) (fun hb442 h444 => ?_)
            ·refine Sq (Rg [0, 1, 2, 3, 4] ?_)
             refine Vs 1 ?_
             refine Ld hs439.at3 ?_
             obtain ⟨x445, hx446, h448⟩ := bind_some h443
             obtain ⟨hi447, hx446'⟩ := idx_spec hx446
             obtain ⟨ae449_2, ne449_2, hc450, hbe449_2, hse449_2⟩ := (tExpr_open (hE43 _ _ hx446'))
             refine Ix hi447 ?_
             refine Lx 0 (hs439.pers _ _ ((((((le139.trans le149).trans le297).trans le322).trans le427).trans le440) _ _ hF42)) hc450 ?_
             refine St2 (kExpr x445 ae449_2 ne449_2) hs439 (fun w451 hs452 => ?_)
             refine Nt ?_
             refine Rt ?_
             refine blockQ_ret ?_
             refine blockQ_ret ?_
             refine thenQ_ret ?_
             obtain rfl := some_inj h448
             exact ⟨rfl, (.agg (kExpr x445 ae449_2 ne449_2)), res_of (l := [.cell 2 33]) (by kernel_rfl) (vs := [(.agg (kExpr x445 ae449_2 ne449_2))]) ⟨b24, 0, rfl, run_loadVar' (t := 33) (g := true) (s := 3) (by kernel_rfl) hs452.at2 rfl (by decide), trivial⟩, (.agg (kExpr x445 ae449_2 ne449_2)), F30, rfl, hs452.clear, ⟨ae449_2, ne449_2, rfl, hbe449_2, (SlA.mono hse449_2 (((((le139.trans le149).trans le297).trans le322).trans le427).trans le440))⟩⟩
            ·refine Sq ?_
             obtain ⟨j458, hj464, h465⟩ := bind_some h444
             refine RD 7 7 [(sb b132 (kExpr x126 ae130_2 ne130_2) 33), (sb b46 (kExpr x32 ae44_2 ne44_2) 33), (sb b24 #[(vi 0), (vi 0), (.slice none ([] : List Expr).length 0)] 33), (sb b21 (kExpr x0 (some ⟨b36, o37, none⟩) n0_2) 33)] [] hs439 (fun f w => ∃ (F31 : Mem), HS w0 F0 w F31 [(sb b132 (kExpr x126 ae130_2 ne130_2) 33), (sb b24 #[(vi 0), (vi 0), (.slice none ([] : List Expr).length 0)] 33), (sb b21 (kExpr x0 (some ⟨b36, o37, none⟩) n0_2) 33)] ∧ Mem.le F30 F31 ∧ FI f [] [(1, (pt b21 0)), (2, (pt b24 0)), (4, (pt b132 0)), (121, (.bool j458))]) (fun wd453 hw454 => ?_) ?_
             ·refine Dl 0 (fun _ hq => (hq.1.2 0 _ _ rfl)) ?_
              refine Dv [1] ?_
              refine Dl 2 (fun _ hq => (hq.1.2 3 _ _ rfl)) ?_
              obtain ⟨x466, hx467, h469⟩ := bind_some hj464
              obtain ⟨hi468, hx467'⟩ := idx_spec hx467
              obtain ⟨ae470_2, ne470_2, hc471, hbe470_2, hse470_2⟩ := (tExpr_open (hE43 _ _ hx467'))
              refine Di 3 hi468 ?_
              refine Dx 4 0 (fun _ hq => hq.1.1 _ _ ((((((le139.trans le149).trans le297).trans le322).trans le427).trans le440) _ _ hF42)) hc471 ?_
              refine D1 5 ?_
              obtain ⟨r472, hr473, h474⟩ := bind_some h469
              refine DCl co_rules_same hw454 (c_rules_same N wd453 F30 hw454.pers (x126) ae130_2 ne130_2 hbe130_2 (SlA.mono hse130_2 (((((le139.trans le149).trans le297).trans le322).trans le427).trans le440)) (x466) ae470_2 ne470_2 hbe470_2 (SlA.mono hse470_2 (((((le139.trans le149).trans le297).trans le322).trans le427).trans le440)) _ hr473) ?_
              rintro _ F32 w476 hs477 le478 rfl
              refine Dv [6] ?_
              obtain rfl := some_inj h474
              exact DWP.done (by kernel_rfl) ⟨F32, hs477.dr1, le478, fI⟩
             ·rintro f w455 ⟨F31, hs456, le457, ⟨_, rfl⟩⟩
              refine thenQ_nrm ?_
              refine Cd h465 (fun hb480 h481 => ?_) (fun hb480 h482 => ?_)
              ·refine Sq (Rg [0, 1] ?_)
               refine Ld hs456.at0 ?_
               refine St1 (kExpr x126 ae130_2 ne130_2) hs456 (fun w483 hs484 => ?_)
               refine Nt ?_
               refine Rt ?_
               refine blockQ_ret ?_
               refine blockQ_ret ?_
               refine thenQ_ret ?_
               obtain rfl := some_inj h481
               exact ⟨rfl, (.agg (kExpr x126 ae130_2 ne130_2)), res_of (l := [.cell 2 33]) (by kernel_rfl) (vs := [(.agg (kExpr x126 ae130_2 ne130_2))]) ⟨b24, 0, rfl, run_loadVar' (t := 33) (g := true) (s := 3) (by kernel_rfl) hs484.at1 rfl (by decide), trivial⟩, (.agg (kExpr x126 ae130_2 ne130_2)), F31, rfl, hs484.clear, ⟨ae130_2, ne130_2, rfl, hbe130_2, (SlA.mono hse130_2 ((((((le139.trans le149).trans le297).trans le322).trans le427).trans le440).trans le457))⟩⟩
              ·refine Sc ?_
               refine blockQ_nrm ?_
               refine blockQ_nrm ?_
               refine thenQ_nrm ?_
               refine Sq (Rg [0, 1] ?_)
               refine Ld hs456.at2 ?_
               refine St1 (kExpr x0 (some ⟨b36, o37, none⟩) n0_2) hs456 (fun w485 hs486 => ?_)
               refine Nt ?_
               refine Rt ?_
               obtain rfl := some_inj h482
               exact ⟨rfl, (.agg (kExpr x0 (some ⟨b36, o37, none⟩) n0_2)), res_of (l := [.cell 2 33]) (by kernel_rfl) (vs := [(.agg (kExpr x0 (some ⟨b36, o37, none⟩) n0_2))]) ⟨b24, 0, rfl, run_loadVar' (t := 33) (g := true) (s := 3) (by kernel_rfl) hs486.at1 rfl (by decide), trivial⟩, (.agg (kExpr x0 (some ⟨b36, o37, none⟩) n0_2)), F31, rfl, hs486.clear, ⟨(some ⟨b36, o37, none⟩), n0_2, rfl, hb0_2, (SlA.mono hs0_2 ((((((le139.trans le149).trans le297).trans le322).trans le427).trans le440).trans le457))⟩⟩
          ·refine Sc ?_
           refine blockQ_nrm ?_
           refine thenQ_nrm ?_
           refine Sq (Rg [0, 1] ?_)
           refine Ld hs321.at3 ?_
           refine St2 (kExpr x0 (some ⟨b36, o37, none⟩) n0_2) hs321 (fun w487 hs488 => ?_)
           refine Nt ?_
           refine Rt ?_
           obtain rfl := some_inj h420
           exact ⟨rfl, (.agg (kExpr x0 (some ⟨b36, o37, none⟩) n0_2)), res_of (l := [.cell 2 33]) (by kernel_rfl) (vs := [(.agg (kExpr x0 (some ⟨b36, o37, none⟩) n0_2))]) ⟨b24, 0, rfl, run_loadVar' (t := 33) (g := true) (s := 3) (by kernel_rfl) hs488.at2 rfl (by decide), trivial⟩, (.agg (kExpr x0 (some ⟨b36, o37, none⟩) n0_2)), F21, rfl, hs488.clear, ⟨(some ⟨b36, o37, none⟩), n0_2, rfl, hb0_2, (SlA.mono hs0_2 (((le139.trans le149).trans le297).trans le322))⟩⟩
end Go.Proofs.YtaihlcdkcampbaaGreatDoor
namespace Go.Proofs.YtaihlcdkcampbaaGreatDoor
open Go.Proofs
def Self94 (sR94 : Expr → Option Expr) : Prop := ∀ (w0 : World) (F0 : Mem) (hF : ∀ b o, F0 b = some o → w0.heap[b]? = some o) (x0 : Expr) (a0_2 : Option Addr) (n0_2 : Nat) (hb0_2 : LC x0.Kids.length n0_2) (hs0_2 : SlA tExpr F0 a0_2 x0.Kids) (r : Expr), sR94 x0 = some r → Calls Tryz.prog 94 ([(.agg #[(.int .i64 x0.Op), (.int .i64 x0.Value), (.slice a0_2 x0.Kids.length n0_2)])] : List Value).toArray w0 (FRet w0 F0 fun F' v => ∃ (aq0_2 : Option Addr) (nq0_2 : Nat), v = (.agg #[(.int .i64 r.Op), (.int .i64 r.Value), (.slice aq0_2 r.Kids.length nq0_2)]) ∧ LC r.Kids.length nq0_2 ∧ SlA tExpr F' aq0_2 r.Kids)
theorem co_rules_simplified : CallOk Tryz.prog 94 := fun _ _ => by kernel_rfl
end Go.Proofs.YtaihlcdkcampbaaGreatDoor
namespace Go.Proofs.YtaihlcdkcampbaaGreatDoor
open Go.Proofs
def rules_simplified_L0 (N : Nat) (sR94 : Expr → Option Expr) (x0 : Expr) : (Int × List Expr) → Option (Flow Expr (Int × List Expr)) := fun s37 =>
 (bif (decide (s37.1 < (x0.Kids.length : Int))) then ((idx x0.Kids s37.1).bind fun x63 => (((sR94 x63).bind fun r96 => ((apnd s37.2 [r96]).bind fun r109 => some r109)).bind fun j87 => some (.next ((W64 (s37.1 + 1)), j87)))) else some (.done (s37.1, s37.2)))
def rules_simplified_S (N : Nat) (sR94 : Expr → Option Expr) (x0 : Expr) : Option Expr :=
 ((iter (rules_simplified_L0 N sR94 x0) N (0, ([] : List Expr))).bind fun o => o.k (fun r => some r) (fun s47 => ((rules_simpler N ({ Op := x0.Op, Value := x0.Value, Kids := s47.2 } : Expr)).bind fun r127 => some r127)))
theorem cS_rules_simplified (N : Nat) (sR94 : Expr → Option Expr) (hsR94 : Self94 sR94) (w0 : World) (F0 : Mem) (hF : ∀ b o, F0 b = some o → w0.heap[b]? = some o) (x0 : Expr) (a0_2 : Option Addr) (n0_2 : Nat) (hb0_2 : LC x0.Kids.length n0_2) (hs0_2 : SlA tExpr F0 a0_2 x0.Kids) (r : Expr) (h : rules_simplified_S N sR94 x0 = some r) :
  Calls Tryz.prog 94 ([(.agg (kExpr x0 a0_2 n0_2))] : List Value).toArray w0 (FRet w0 F0 fun F' v => ∃ (aq0_2 : Option Addr) (nq0_2 : Nat), v = (.agg (kExpr r aq0_2 nq0_2)) ∧ LC r.Kids.length nq0_2 ∧ SlA tExpr F' aq0_2 r.Kids) := by
 have hs0 := HS.start hF
 refine Go 28 Tryz.func94 ?_
 refine Sq (Rg [0, 1] ?_)
 refine Bx' 33 (kExpr x0 a0_2 n0_2) hs0 (fun b21 w22 hs23 => ?_)
 refine Al' 33 #[(vi 0), (vi 0), (.slice none ([] : List Expr).length 0)] hs23 (fun b24 w25 hs26 => ?_)
 refine Nss (Rg [0, 1, 2, 3, 4, 5, 6] ?_)
 refine Vs 1 ?_
 refine Ld hs26.at1 ?_
 refine Vs 1 ?_
 refine Ld hs26.at1 ?_
 refine Vs 1 ?_
 refine Al' 33 #[(vi 0), (vi 0), (.slice none ([] : List Expr).length 0)] hs26 (fun b27 w28 hs29 => ?_)
 refine St0 #[(vi x0.Op), (vi x0.Value), (.slice none ([] : List Expr).length 0)] hs29 (fun w30 hs31 => ?_)
 refine Nss ?_
 refine Sq (Rg [0, 1, 2, 3] ?_)
 refine Vs 1 ?_
 refine Ld hs31.at2 ?_
 refine Vs 2 ?_
 refine Nt ?_
 have hs32 := hs31.dr2.dummy (oc #[] 0)
 obtain ⟨o34, ho35, h36⟩ := bind_some h
 refine CWP.cut (fun f w => ∃ (s47 : (Int × List Expr)) (F2 : Mem) (as47_1 : Option Addr) (ns47_1 : Nat) (es47_1 : Option Nat × Obj), o34 = .done s47 ∧ HS w0 F0 w F2 [es47_1, (sb b27 #[(vi x0.Op), (vi x0.Value), (.slice as47_1 s47.2.length ns47_1)] 33), (sb b24 #[(vi 0), (vi 0), (.slice none ([] : List Expr).length 0)] 33)] ∧ Mem.le F0 F2 ∧ FI f [] [(2, (pt b24 0)), (3, (pt b27 0))] ∧ RowR tExpr 33 F2 as47_1 ns47_1 s47.2 es47_1) ?_ ?_
 ·refine Bk ?_
  refine CWP.loop (by kernel_rfl) (fun m f w => ∃ (s37 : (Int × List Expr)) (F1 : Mem) (as37_1 : Option Addr) (ns37_1 : Nat) (es37_1 : Option Nat × Obj), iter (rules_simplified_L0 N sR94 x0) m s37 = some o34 ∧ HS w0 F0 w F1 [es37_1, (sb b27 #[(vi x0.Op), (vi x0.Value), (.slice as37_1 s37.2.length ns37_1)] 33), (sb b24 #[(vi 0), (vi 0), (.slice none ([] : List Expr).length 0)] 33)] ∧ Mem.le F0 F1 ∧ FI f [] [(2, (pt b24 0)), (3, (pt b27 0)), (12, (.slice a0_2 x0.Kids.length n0_2)), (13, (vi (x0.Kids.length : Int))), (14, (vi s37.1))] ∧ RowR tExpr 33 F1 as37_1 ns37_1 s37.2 es37_1) N ⟨(0, ([] : List Expr)), F0, none, 0, (none, .cells #[] 0 (0, 0)), ho35, hs32, (Mem.le.refl _), fI, (RowR.nil tExpr 33 F0 _)⟩ ?_
  rintro m54 f w38 ⟨s37, F1, as37_1, ns37_1, es37_1, hit55, hs39, le40, ⟨_, rfl⟩, hrs37_1⟩
  obtain ⟨m56, fl57, rfl, hb58, hnx59⟩ := iter_step hit55
  refine Sq (Rg [0] ?_)
  refine Vs 1 ?_
  refine Nss ?_
  refine Cd hb58 (fun hb60 h61 => ?_) (fun hb60 h62 => ?_)
  ·refine Sc ?_
   refine thenQ_nrm ?_
   refine Sq ?_
   refine Bk ?_
   refine Sq (Rg [0, 1, 2, 3] ?_)
   obtain ⟨x63, hx64, h66⟩ := bind_some h61
   obtain ⟨hi65, hx64'⟩ := idx_spec hx64
   obtain ⟨b67, o68, C69, E70, fz71, rfl, hF73, hE74⟩ := SlA.open (SlA.mono hs0_2 le40) hx64'
   obtain ⟨ae75_2, ne75_2, hc76, hbe75_2, hse75_2⟩ := (tExpr_open (hE74 _ _ hx64'))
   refine Ix hi65 ?_
   refine Lx 0 (hs39.pers _ _ hF73) hc76 ?_
   refine Al' 33 #[(vi 0), (vi 0), (.slice none ([] : List Expr).length 0)] hs39 (fun b77 w78 hs79 => ?_)
   refine St0 (kExpr x63 ae75_2 ne75_2) hs79 (fun w80 hs81 => ?_)
   refine Nt ?_
   obtain ⟨j87, hj94, h95⟩ := bind_some h66
   refine RD 7 8 [(sb b77 (kExpr x63 ae75_2 ne75_2) 33), (sb b24 #[(vi 0), (vi 0), (.slice none ([] : List Expr).length 0)] 33)] [(sb b27 #[(vi x0.Op), (vi x0.Value), (.slice as37_1 s37.2.length ns37_1)] 33)] hs81 (fun f w => ∃ (F3 : Mem) (aj87_0 : Option Addr) (nj87_0 : Nat) (ej87_0 : Option Nat × Obj), HS w0 F0 w F3 [ej87_0, (sb b27 #[(vi x0.Op), (vi x0.Value), (.slice aj87_0 j87.length nj87_0)] 33), (sb b24 #[(vi 0), (vi 0), (.slice none ([] : List Expr).length 0)] 33)] ∧ Mem.le F1 F3 ∧ FI f [] [(2, (pt b24 0)), (3, (pt b27 0)), (12, (.slice (some ⟨b67, o68, none⟩) x0.Kids.length n0_2)), (13, (vi (x0.Kids.length : Int))), (14, (vi s37.1))] ∧ RowR tExpr 33 F3 aj87_0 nj87_0 j87 ej87_0) (fun wd82 hw83 => ?_) ?_
   ·refine Dv [0] ?_
    refine Dl 1 (fun _ hq => ((hq.2 rfl).2 0 _ _ rfl)) ?_
    refine Dl 2 (fun _ hq => (hq.1.2 0 _ _ rfl)) ?_
    refine D1 3 ?_
    obtain ⟨r96, hr97, h98⟩ := bind_some hj94
    refine DCl co_rules_simplified hw83 (hsR94 wd82 F1 hw83.pers (x63) ae75_2 ne75_2 hbe75_2 hse75_2 _ hr97) ?_
    rintro _ F4 w100 hs101 le102 ⟨ar96_0_2, nr96_0_2, rfl, hbr96_0_2, hsr96_0_2⟩
    refine D1 4 ?_
    refine DBs 33 [(vi r96.Op), (vi r96.Value), (.slice ar96_0_2 r96.Kids.length nr96_0_2)] hs101 le102 (fun b104 w105 hs106 => ?_)
    have hr108 : RowR tExpr 33 F4 (some ⟨b104, 0, none⟩) 1 [r96] (some b104, .cells ([(vi r96.Op), (vi r96.Value), (.slice ar96_0_2 r96.Kids.length nr96_0_2)] : List Value).toArray 33 (0, 0)) := RowR.lit ⟨(tExpr_mk ⟨ar96_0_2, nr96_0_2, rfl, hbr96_0_2, hsr96_0_2⟩), rfl⟩ (by simp)
    refine D1 5 ?_
    obtain ⟨r109, hap110, h111⟩ := bind_some h98
    refine DAp2 oExpr hs106 (hrs37_1.mono le102) (hs106.rd0 hr108) hap110 le102 (fun a112 n113 e114 w115 hs116 hr117 => ?_)
    refine Dv [6] ?_
    refine D1 7 ?_
    refine DSt3 #[(vi x0.Op), (vi x0.Value), (.slice a112 r109.length n113)] hs116 le102 (fun w118 hs119 => ?_)
    obtain rfl := some_inj h111
    exact DWP.done (by kernel_rfl) ⟨F4, a112, n113, e114, hs119.dr0.dr0, le102, fI, hr117⟩
   ·rintro f w84 ⟨F3, aj87_0, nj87_0, ej87_0, hs85, le86, ⟨_, rfl⟩, hrj87_0⟩
    refine blockQ_nrm ?_
    refine thenQ_nrm ?_
    refine Rg [0, 1] ?_
    refine Vs 2 ?_
    refine RWP.nil ?_
    have hn120 := iter_next h95 hnx59
    exact ⟨m56, Nat.lt_succ_self _, ((W64 (s37.1 + 1)), j87), F3, aj87_0, nj87_0, ej87_0, hn120, hs85, (le40.trans le86), fI, hrj87_0⟩
  ·refine Ex ?_
   refine thenQ_ex ?_
   refine thenQ_ex ?_
   refine blockQ_hit rfl ?_
   have ho121 := iter_done h62 hnx59
   exact .inl ⟨rfl, (s37.1, s37.2), F1, as37_1, ns37_1, es37_1, ho121, hs39, le40, fI, hrs37_1⟩
 ·rintro f w48 ⟨s47, F2, as47_1, ns47_1, es47_1, rfl, hs49, le50, ⟨_, rfl⟩, hrs47_1⟩
  have h122 := k_done h36
  refine thenQ_nrm ?_
  refine Sq (Rg [0, 1, 2] ?_)
  refine Ld hs49.at1 ?_
  have hb126 := RowR.bound hrs47_1
  obtain ⟨F5, hs123, le124, hs125⟩ := hs49.fr0 hrs47_1
  obtain ⟨r127, hr128, h129⟩ := bind_some h122
  refine Cl' co_rules_simpler hs123 (c_rules_simpler N w48 F5 hs123.pers (({ Op := x0.Op, Value := x0.Value, Kids := s47.2 } : Expr)) as47_1 ns47_1 hb126 hs125 _ hr128) ?_
  rintro _ F6 w131 hs132 le133 ⟨ar127_0_2, nr127_0_2, rfl, hbr127_0_2, hsr127_0_2⟩
  refine St1 (kExpr r127 ar127_0_2 nr127_0_2) hs132 (fun w135 hs136 => ?_)
  refine Nt ?_
  refine Rt ?_
  obtain rfl := some_inj h129
  exact ⟨rfl, (.agg (kExpr r127 ar127_0_2 nr127_0_2)), res_of (l := [.cell 2 33]) (by kernel_rfl) (vs := [(.agg (kExpr r127 ar127_0_2 nr127_0_2))]) ⟨b24, 0, rfl, run_loadVar' (t := 33) (g := true) (s := 3) (by kernel_rfl) hs136.at1 rfl (by decide), trivial⟩, (.agg (kExpr r127 ar127_0_2 nr127_0_2)), F6, rfl, hs136.clear, ⟨ar127_0_2, nr127_0_2, rfl, hbr127_0_2, hsr127_0_2⟩⟩
end Go.Proofs.YtaihlcdkcampbaaGreatDoor
namespace Go.Proofs.YtaihlcdkcampbaaGreatDoor
open Go.Proofs
structure Rec94 where
 q94 : Expr → Option Expr
def rec94 (N : Nat) : Nat → Rec94
 | 0 => ⟨fun _ => none⟩
 | k + 1 => ⟨rules_simplified_S N (rec94 N k).q94⟩
theorem rec94_ok (N : Nat) : ∀ k, Self94 (rec94 N k).q94
 | 0 => (by unfold Self94; intros; rename_i h; cases h)
 | k + 1 => by
  have ih := rec94_ok N k
  exact @cS_rules_simplified N (rec94 N k).q94 ih
def rules_simplified (N : Nat) (x0 : Expr) : Option Expr := (rec94 N N).q94 x0
theorem c_rules_simplified (N : Nat) (w0 : World) (F0 : Mem) (hF : ∀ b o, F0 b = some o → w0.heap[b]? = some o) (x0 : Expr) (a0_2 : Option Addr) (n0_2 : Nat) (hb0_2 : LC x0.Kids.length n0_2) (hs0_2 : SlA tExpr F0 a0_2 x0.Kids) (r : Expr) (h : rules_simplified N x0 = some r) :
  Calls Tryz.prog 94 ([(.agg #[(.int .i64 x0.Op), (.int .i64 x0.Value), (.slice a0_2 x0.Kids.length n0_2)])] : List Value).toArray w0 (FRet w0 F0 fun F' v => ∃ (aq0_2 : Option Addr) (nq0_2 : Nat), v = (.agg #[(.int .i64 r.Op), (.int .i64 r.Value), (.slice aq0_2 r.Kids.length nq0_2)]) ∧ LC r.Kids.length nq0_2 ∧ SlA tExpr F' aq0_2 r.Kids) := (rec94_ok N N) w0 F0 hF x0 a0_2 n0_2 hb0_2 hs0_2 r h
end Go.Proofs.YtaihlcdkcampbaaGreatDoor
