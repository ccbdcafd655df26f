/- Lemmas of the claim RulesFirst, printed by a program of the claimant and by hand. No statement of the seat is proved here. -/
import Derived.Test.YtaihlcdkcampbaaGreatDoorA4
set_option linter.unusedVariables false
set_option linter.unusedSimpArgs false
set_option linter.unusedSectionVars false
set_option maxHeartbeats 4000000
set_option maxRecDepth 100000
namespace Go.Proofs.YtaihlcdkcampbaaGreatDoor
open Go.Proofs
def law06_RulesFirst_L0 (N : Nat) (x0 : Book) (x1 : (List Int)) (r24 : Bool) (j35 : (Bool)) (r57 : (Int × Int)) (r65 : (Int × Int)) : Int → Option (Flow Bool Int) := fun s111 =>
 (bif (decide (s111 ≤ r57.1)) then ((idx x0.Points s111).bind fun x143 => ((rules_Eval N x143.When x1).bind fun r157 => (bif ((r157.2 != 0) || (!((r157.1 == 1) == (s111 == r57.1)))) then some (.ret false) else some (.next (W64 (s111 + 1)))))) else some (.done s111))
def law06_RulesFirst (N : Nat) (x0 : Book) (x1 : (List Int)) : Option Bool :=
 ((law06_awake N ).bind fun r24 => (((law06_light N x0).bind fun r43 => (bif (!r43) then some true else some (decide ((x1.length : Int) > 40)))).bind fun j35 => (bif j35 then some r24 else ((rules_First N x0.Points x1).bind fun r57 => ((rules_Points N x0 x1).bind fun r65 => (bif (r57.2 == 3) then some (r24 && (bif (r65.2 == 70) then (r65.1 == 0) else ((r65.2 == 62) && (r65.1 == 0)))) else (bif (r57.2 != 0) then some (r24 && (r57.1 == 0)) else (bif ((decide (r57.1 < 0)) || (decide (r57.1 ≥ (x0.Points.length : Int)))) then some false else ((iter (law06_RulesFirst_L0 N x0 x1 r24 j35 r57 r65) N 0).bind fun o => o.k (fun r => some r) (fun s123 => ((idx x0.Points r57.1).bind fun x184 => ((rules_Eval N x184.Then x1).bind fun r198 => some (r24 && ((r198.2 == 0) && ((r65.2 == 62) || ((r65.2 == 0) && (r65.1 == r198.1)))))))))))))))))
theorem c_law06_RulesFirst (N : Nat) (w0 : World) (F0 : Mem) (hF : ∀ b o, F0 b = some o → w0.heap[b]? = some o) (hG : Glob F0) (x0 : Book) (a0_0 : Option Addr) (n0_0 : Nat) (hb0_0 : LC x0.Points.length n0_0) (hs0_0 : SlA tClause F0 a0_0 x0.Points) (a0_1 : Option Addr) (n0_1 : Nat) (hb0_1 : LC x0.Multipliers.length n0_1) (hs0_1 : SlA tClause F0 a0_1 x0.Multipliers) (a0_2 : Option Addr) (n0_2 : Nat) (hb0_2 : LC x0.Penalties.length n0_2) (hs0_2 : SlA tClause F0 a0_2 x0.Penalties) (a0_3 : Option Addr) (n0_3 : Nat) (hb0_3 : LC x0.Repeats.length n0_3) (hs0_3 : SlA tExpr F0 a0_3 x0.Repeats) (x1 : (List Int)) (a1_0 : Option Addr) (n1_0 : Nat) (hb1_0 : LC x1.length n1_0) (hs1_0 : SlA tInt F0 a1_0 x1) (r : Bool) (h : law06_RulesFirst N x0 x1 = some r) :
  Calls Tryz.prog 8 ([(.agg (kBook x0 a0_0 n0_0 a0_1 n0_1 a0_2 n0_2 a0_3 n0_3)), (.slice a1_0 x1.length n1_0)] : List Value).toArray w0 (FRet w0 F0 fun F' v => v = (.bool r)) := by
 have hs0 := HS.start hF
 refine Go 124 Tryz.func8 ?_
 refine Sq (Rg [0, 1] ?_)
 refine Bx' 26 (kBook x0 a0_0 n0_0 a0_1 n0_1 a0_2 n0_2 a0_3 n0_3) hs0 (fun b21 w22 hs23 => ?_)
 refine Vs 1 ?_
 refine Nss (Rg [0, 1] ?_)
 obtain ⟨r24, hr25, h26⟩ := bind_some h
 refine Cl' co_law06_awake hs23 (c_law06_awake N w22 F0 hs23.pers hG  _ hr25) ?_
 rintro _ F1 w28 hs29 le30 rfl
 refine Vs 1 ?_
 refine Nss ?_
 refine Sq (Rg [0, 1, 2, 3, 4, 5, 6, 7] ?_)
 obtain ⟨j35, hj41, h42⟩ := bind_some h26
 refine RWP.cut (fun f w => ∃ (F2 : Mem), HS w0 F0 w F2 [(sb b21 (kBook x0 a0_0 n0_0 a0_1 n0_1 a0_2 n0_2 a0_3 n0_3) 26)] ∧ Mem.le F1 F2 ∧ FI f [] [(1, (.slice a1_0 x1.length n1_0)), (2, (pt b21 0)), (5, (.bool r24)), (23, (.bool j35))]) ?_ ?_
 ·refine Ld hs29.at0 ?_
  obtain ⟨r43, hr44, h45⟩ := bind_some hj41
  refine Cl' co_law06_light hs29 (c_law06_light N w28 F1 hs29.pers (x0) a0_0 n0_0 hb0_0 (SlA.mono hs0_0 le30) a0_1 n0_1 hb0_1 (SlA.mono hs0_1 le30) a0_2 n0_2 hb0_2 (SlA.mono hs0_2 le30) a0_3 n0_3 hb0_3 (SlA.mono hs0_3 le30) _ hr44) ?_
  rintro _ F3 w47 hs48 le49 rfl
  refine Vs 2 ?_
  refine Sp h45 (fun hb51 h52 => ?_) (fun hb51 h53 => ?_)
  ·refine Ss hb51 3 ?_
   refine Pk1 hb51 ?_
   obtain rfl := some_inj h52
   exact RWP.nil ⟨rfl, F3, hs48, le49, fI⟩
  ·refine Vgs hb51 3 ?_
   refine Pk0 hb51 ?_
   obtain rfl := some_inj h53
   exact RWP.nil ⟨rfl, F3, hs48, le49, fI⟩
 ·rintro f w32 ⟨F2, hs33, le34, ⟨_, rfl⟩⟩
  refine thenQ_nrm ?_
  refine Cd h42 (fun hb54 h55 => ?_) (fun hb54 h56 => ?_)
  ·refine Sq (Rg [0, 1] ?_)
   refine Vs 2 ?_
   refine Nt ?_
   refine Rt ?_
   refine thenQ_ret ?_
   obtain rfl := some_inj h55
   exact Re [(.bool r24)] hs33 rfl
  ·refine Sc ?_
   refine thenQ_nrm ?_
   refine Sq (Rg [0, 1, 2, 3, 4, 5, 6, 7, 8] ?_)
   refine Vs 1 ?_
   refine Ld hs33.at0 ?_
   refine Vs 1 ?_
   obtain ⟨r57, hr58, h59⟩ := bind_some h56
   refine Cl' co_rules_First hs33 (c_rules_First N w32 F2 hs33.pers (x0.Points) a0_0 n0_0 hb0_0 (SlA.mono hs0_0 (le30.trans le34)) (x1) a1_0 n1_0 hb1_0 (SlA.mono hs1_0 (le30.trans le34)) _ hr58) ?_
   rintro _ F4 w61 hs62 le63 rfl
   refine Vs 5 ?_
   refine Nss (Rg [0, 1, 2, 3, 4, 5, 6, 7] ?_)
   refine Ld hs62.at0 ?_
   refine Vs 1 ?_
   obtain ⟨r65, hr66, h67⟩ := bind_some h59
   refine Cl' co_rules_Points hs62 (c_rules_Points N w61 F4 hs62.pers (x0) a0_0 n0_0 hb0_0 (SlA.mono hs0_0 ((le30.trans le34).trans le63)) a0_1 n0_1 hb0_1 (SlA.mono hs0_1 ((le30.trans le34).trans le63)) a0_2 n0_2 hb0_2 (SlA.mono hs0_2 ((le30.trans le34).trans le63)) a0_3 n0_3 hb0_3 (SlA.mono hs0_3 ((le30.trans le34).trans le63)) (x1) a1_0 n1_0 hb1_0 (SlA.mono hs1_0 ((le30.trans le34).trans le63)) _ hr66) ?_
   rintro _ F5 w69 hs70 le71 rfl
   refine Vs 5 ?_
   refine Nss ?_
   refine Sq (Rg [0, 1] ?_)
   refine Vs 2 ?_
   refine Nt ?_
   refine Cd h67 (fun hb73 h74 => ?_) (fun hb73 h75 => ?_)
   ·refine Sq (Rg [0, 1, 2, 3, 4, 5, 6, 7, 8, 9, 10, 11, 12, 13] ?_)
    refine RWP.cut (fun f w => ∃ (F6 : Mem), HS w0 F0 w F6 [] ∧ Mem.le F5 F6 ∧ FI f [] [(4, (.bool (r24 && (bif (r65.2 == 70) then (r65.1 == 0) else ((r65.2 == 62) && (r65.1 == 0))))))]) ?_ ?_
    ·refine Vs 2 ?_
     refine RWP.split r24 (fun hb81 => ?_) (fun hb81 => ?_)
     ·refine Vgs hb81 3 ?_
      refine RWP.split (r65.2 == 70) (fun hb82 => ?_) (fun hb82 => ?_)
      ·refine Ss hb82 2 ?_
       refine Vg 47 4 1 true 41 hb81 (p1 44 (.const (.bool true)) (.tmp 46) (.bool true) hb82) ?_
       refine Pk1 hb81 ?_
       refine Vs 1 ?_
       refine Vg 50 3 9 true 49 rfl (mv 8 (vi r65.1)) ?_
       refine Vg 51 4 9 true 49 rfl (run_eql (t := 3) (t' := 3) (x := (.tmp 50)) (y := (.const (vi 0))) (k := .i64) (a := r65.1) (b := 0) rfl rfl) ?_
       refine Pk1 (rfl : true = true) ?_
       refine Vs 1 ?_
       exact RWP.nil ⟨rfl, F5, hs70.dr0, (Mem.le.refl _), (fJ ⟨(congrArg Value.bool (and_t hb81 (bif_t hb82 (rfl)))), trivial⟩)⟩
      ·refine Vgs hb82 2 ?_
       refine Vg 47 4 1 true 41 hb81 (p0 44 (.const (.bool true)) (.tmp 46) (.bool (r65.2 == 62)) hb82) ?_
       refine Pk1 hb81 ?_
       refine Vs 1 ?_
       refine RWP.split (r65.2 == 62) (fun hb83 => ?_) (fun hb83 => ?_)
       ·refine Vgs hb83 2 ?_
        refine Pk1 hb83 ?_
        refine Vs 1 ?_
        exact RWP.nil ⟨rfl, F5, hs70.dr0, (Mem.le.refl _), (fJ ⟨(congrArg Value.bool (and_t hb81 (bif_f hb82 (and_t hb83 (rfl))))), trivial⟩)⟩
       ·refine Ss hb83 2 ?_
        refine Pk0 hb83 ?_
        refine Vs 1 ?_
        exact RWP.nil ⟨rfl, F5, hs70.dr0, (Mem.le.refl _), (fJ ⟨(congrArg Value.bool (and_t hb81 (bif_f hb82 (and_f hb83 (rfl))))), trivial⟩)⟩
     ·refine Ss hb81 3 ?_
      refine Su' 2 ?_
      refine Ss hb81 1 ?_
      refine Pk0 hb81 ?_
      refine Vs 1 ?_
      refine Ss (rfl : false = false) 2 ?_
      refine Pk0 (rfl : false = false) ?_
      refine Vs 1 ?_
      exact RWP.nil ⟨rfl, F5, hs70.dr0, (Mem.le.refl _), (fJ ⟨(congrArg Value.bool (and_f hb81 (rfl))), trivial⟩)⟩
    ·rintro f w76 ⟨F6, hs77, le78, ⟨_, rfl⟩⟩
     refine thenQ_nrm ?_
     refine Rt ?_
     refine thenQ_ret ?_
     obtain rfl := some_inj h74
     exact Re [(.bool (r24 && (bif (r65.2 == 70) then (r65.1 == 0) else ((r65.2 == 62) && (r65.1 == 0)))))] hs77 rfl
   ·refine Sc ?_
    refine thenQ_nrm ?_
    refine Sq ?_
    refine Sq (Rg [0, 1] ?_)
    refine Vs 2 ?_
    refine Nt ?_
    refine Cd h75 (fun hb84 h85 => ?_) (fun hb84 h86 => ?_)
    ·refine Sq (Rg [0, 1, 2, 3, 4, 5] ?_)
     refine RWP.cut (fun f w => ∃ (F7 : Mem), HS w0 F0 w F7 [] ∧ Mem.le F5 F7 ∧ FI f [] [(4, (.bool (r24 && (r57.1 == 0))))]) ?_ ?_
     ·refine Vs 2 ?_
      refine RWP.split r24 (fun hb92 => ?_) (fun hb92 => ?_)
      ·refine Vgs hb92 2 ?_
       refine Pk1 hb92 ?_
       refine Vs 1 ?_
       exact RWP.nil ⟨rfl, F5, hs70.dr0, (Mem.le.refl _), (fJ ⟨(congrArg Value.bool (and_t hb92 (rfl))), trivial⟩)⟩
      ·refine Ss hb92 2 ?_
       refine Pk0 hb92 ?_
       refine Vs 1 ?_
       exact RWP.nil ⟨rfl, F5, hs70.dr0, (Mem.le.refl _), (fJ ⟨(congrArg Value.bool (and_f hb92 (rfl))), trivial⟩)⟩
     ·rintro f w87 ⟨F7, hs88, le89, ⟨_, rfl⟩⟩
      refine thenQ_nrm ?_
      refine Rt ?_
      refine thenQ_ret ?_
      obtain rfl := some_inj h85
      exact Re [(.bool (r24 && (r57.1 == 0)))] hs88 rfl
    ·refine Sc ?_
     refine thenQ_nrm ?_
     refine Sq ?_
     refine Sq (Rg [0, 1, 2, 3, 4, 5, 6, 7, 8] ?_)
     refine RWP.cut (fun f w => ∃ (F8 : Mem), HS w0 F0 w F8 [(sb b21 (kBook x0 a0_0 n0_0 a0_1 n0_1 a0_2 n0_2 a0_3 n0_3) 26)] ∧ Mem.le F5 F8 ∧ FI f [] [(1, (.slice a1_0 x1.length n1_0)), (2, (pt b21 0)), (5, (.bool r24)), (6, (vi r57.1)), (8, (vi r65.1)), (9, (vi r65.2)), (68, (.bool ((decide (r57.1 < 0)) || (decide (r57.1 ≥ (x0.Points.length : Int))))))]) ?_ ?_
     ·refine Vs 3 ?_
      refine RWP.split (decide (r57.1 < 0)) (fun hb104 => ?_) (fun hb104 => ?_)
      ·refine Ss hb104 5 ?_
       refine Pk1 hb104 ?_
       exact RWP.nil ⟨rfl, F5, hs70, (Mem.le.refl _), (fJ ⟨rfl, rfl, rfl, rfl, rfl, rfl, (congrArg Value.bool (or_t hb104 (rfl))), trivial⟩)⟩
      ·refine Vgs hb104 2 ?_
       refine Vg 65 23 2 false 62 hb104 (ld 23 64 b21 0 false 1 (.slice a0_0 x0.Points.length n0_0) hs70.at0) ?_
       refine Vgs hb104 2 ?_
       refine Pk0 hb104 ?_
       exact RWP.nil ⟨rfl, F5, hs70, (Mem.le.refl _), (fJ ⟨rfl, rfl, rfl, rfl, rfl, rfl, (congrArg Value.bool (or_f hb104 (rfl))), trivial⟩)⟩
     ·rintro f w93 ⟨F8, hs94, le95, ⟨_, rfl⟩⟩
      refine thenQ_nrm ?_
      refine Cd h86 (fun hb105 h106 => ?_) (fun hb105 h107 => ?_)
      ·refine Sq (Rg [0] ?_)
       refine Vs 1 ?_
       refine Nt ?_
       refine Rt ?_
       refine thenQ_ret ?_
       obtain rfl := some_inj h106
       exact Re [(.bool false)] hs94 rfl
      ·refine Sc ?_
       refine thenQ_nrm ?_
       refine Sq ?_
       refine Sq (Rg [0] ?_)
       refine Vs 1 ?_
       refine Nt ?_
       obtain ⟨o108, ho109, h110⟩ := bind_some h107
       refine CWP.cut (fun f w => ∃ (s123 : Int) (F10 : Mem), o108 = .done s123 ∧ HS w0 F0 w F10 [(sb b21 (kBook x0 a0_0 n0_0 a0_1 n0_1 a0_2 n0_2 a0_3 n0_3) 26)] ∧ Mem.le F8 F10 ∧ FI f [] [(1, (.slice a1_0 x1.length n1_0)), (2, (pt b21 0)), (5, (.bool r24)), (6, (vi r57.1)), (8, (vi r65.1)), (9, (vi r65.2))]) ?_ ?_
       ·refine Bk ?_
        refine CWP.loop (by kernel_rfl) (fun m f w => ∃ (s111 : Int) (F9 : Mem), iter (law06_RulesFirst_L0 N x0 x1 r24 j35 r57 r65) m s111 = some o108 ∧ HS w0 F0 w F9 [(sb b21 (kBook x0 a0_0 n0_0 a0_1 n0_1 a0_2 n0_2 a0_3 n0_3) 26)] ∧ Mem.le F8 F9 ∧ FI f [] [(1, (.slice a1_0 x1.length n1_0)), (2, (pt b21 0)), (5, (.bool r24)), (6, (vi r57.1)), (8, (vi r65.1)), (9, (vi r65.2)), (10, (vi s111))]) N ⟨0, F8, ho109, hs94, (Mem.le.refl _), fI⟩ ?_
        rintro m134 f w112 ⟨s111, F9, hit135, hs113, le114, ⟨_, rfl⟩⟩
        obtain ⟨m136, fl137, rfl, hb138, hnx139⟩ := iter_step hit135
        refine Sq ?_
        refine Sq (Rg [0, 1, 2] ?_)
        refine Vs 3 ?_
        refine Nt ?_
        refine Cd hb138 (fun hb140 h141 => ?_) (fun hb140 h142 => ?_)
        ·refine Sc ?_
         refine thenQ_nrm ?_
         refine Sq ?_
         refine Bk ?_
         refine Sq (Rg [0, 1, 2, 3, 4, 5, 6, 7, 8, 9, 10, 11, 12] ?_)
         refine Vs 1 ?_
         refine Ld hs113.at0 ?_
         refine Vs 1 ?_
         obtain ⟨x143, hx144, h146⟩ := bind_some h141
         obtain ⟨hi145, hx144'⟩ := idx_spec hx144
         obtain ⟨b147, o148, C149, E150, fz151, rfl, hF153, hE154⟩ := SlA.open (SlA.mono hs0_0 (((((le30.trans le34).trans le63).trans le71).trans le95).trans le114)) hx144'
         obtain ⟨ae155_2, ne155_2, ae155_5, ne155_5, hc156, hbe155_2, hse155_2, hbe155_5, hse155_5⟩ := hE154 _ _ hx144'
         refine Ix hi145 ?_
         refine Vs 1 ?_
         refine Lx 0 (hs113.pers _ _ hF153) hc156 ?_
         refine Vs 1 ?_
         obtain ⟨r157, hr158, h159⟩ := bind_some h146
         refine Cl' co_rules_Eval hs113 (c_rules_Eval N w112 F9 hs113.pers (x143.When) ae155_2 ne155_2 hbe155_2 hse155_2 (x1) a1_0 n1_0 hb1_0 (SlA.mono hs1_0 (((((le30.trans le34).trans le63).trans le71).trans le95).trans le114)) _ hr158) ?_
         rintro _ F11 w161 hs162 le163 rfl
         refine Vs 5 ?_
         refine Nss (Rg [0, 1, 2, 3, 4, 5, 6, 7, 8, 9] ?_)
         refine RWP.cut (fun f w => ∃ (F12 : Mem), HS w0 F0 w F12 [(sb b21 (kBook x0 (some ⟨b147, o148, none⟩) n0_0 a0_1 n0_1 a0_2 n0_2 a0_3 n0_3) 26)] ∧ Mem.le F11 F12 ∧ FI f [] [(1, (.slice a1_0 x1.length n1_0)), (2, (pt b21 0)), (5, (.bool r24)), (6, (vi r57.1)), (8, (vi r65.1)), (9, (vi r65.2)), (10, (vi s111)), (94, (.bool ((r157.2 != 0) || (!((r157.1 == 1) == (s111 == r57.1))))))]) ?_ ?_
         ·refine Vs 3 ?_
          refine RWP.split (r157.2 != 0) (fun hb177 => ?_) (fun hb177 => ?_)
          ·refine Ss hb177 6 ?_
           refine Pk1 hb177 ?_
           exact RWP.nil ⟨rfl, F11, hs162, (Mem.le.refl _), (fJ ⟨rfl, rfl, rfl, rfl, rfl, rfl, rfl, (congrArg Value.bool (or_t hb177 (rfl))), trivial⟩)⟩
          ·refine Vgs hb177 6 ?_
           refine Pk0 hb177 ?_
           exact RWP.nil ⟨rfl, F11, hs162, (Mem.le.refl _), (fJ ⟨rfl, rfl, rfl, rfl, rfl, rfl, rfl, (congrArg Value.bool (or_f hb177 (rfl))), trivial⟩)⟩
         ·rintro f w165 ⟨F12, hs166, le167, ⟨_, rfl⟩⟩
          refine thenQ_nrm ?_
          refine Cd h159 (fun hb178 h179 => ?_) (fun hb178 h180 => ?_)
          ·refine Sq (Rg [0] ?_)
           refine Vs 1 ?_
           refine Nt ?_
           refine Rt ?_
           refine blockQ_ret ?_
           refine thenQ_ret ?_
           refine thenQ_ret ?_
           refine blockQ_ret ?_
           have hret := iter_ret h179 hnx139
           subst hret
           refine .inr ?_
           refine thenQ_ret ?_
           obtain rfl := some_inj h110
           exact Re [(.bool false)] hs166 rfl
          ·refine Sc ?_
           refine blockQ_nrm ?_
           refine thenQ_nrm ?_
           refine Rg [0, 1, 2] ?_
           refine Vs 3 ?_
           refine RWP.nil ?_
           have hn181 := iter_next h180 hnx139
           exact ⟨m136, Nat.lt_succ_self _, (W64 (s111 + 1)), F12, hn181, hs166, ((le114.trans le163).trans le167), fI⟩
        ·refine Ex ?_
         refine thenQ_ex ?_
         refine thenQ_ex ?_
         refine blockQ_hit rfl ?_
         have ho182 := iter_done h142 hnx139
         exact .inl ⟨rfl, s111, F9, ho182, hs113, le114, fI⟩
       ·rintro f w124 ⟨s123, F10, rfl, hs125, le126, ⟨_, rfl⟩⟩
        have h183 := k_done h110
        refine thenQ_nrm ?_
        refine Sq (Rg [0, 1, 2, 3, 4, 5, 6, 7, 8, 9, 10, 11, 12] ?_)
        refine Vs 1 ?_
        refine Ld hs125.at0 ?_
        refine Vs 1 ?_
        obtain ⟨x184, hx185, h187⟩ := bind_some h183
        obtain ⟨hi186, hx185'⟩ := idx_spec hx185
        obtain ⟨b188, o189, C190, E191, fz192, rfl, hF194, hE195⟩ := SlA.open (SlA.mono hs0_0 (((((le30.trans le34).trans le63).trans le71).trans le95).trans le126)) hx185'
        obtain ⟨ae196_2, ne196_2, ae196_5, ne196_5, hc197, hbe196_2, hse196_2, hbe196_5, hse196_5⟩ := hE195 _ _ hx185'
        refine Ix hi186 ?_
        refine Vs 1 ?_
        refine Lx 3 (hs125.pers _ _ hF194) hc197 ?_
        refine Vs 1 ?_
        obtain ⟨r198, hr199, h200⟩ := bind_some h187
        refine Cl' co_rules_Eval hs125 (c_rules_Eval N w124 F10 hs125.pers (x184.Then) ae196_5 ne196_5 hbe196_5 hse196_5 (x1) a1_0 n1_0 hb1_0 (SlA.mono hs1_0 (((((le30.trans le34).trans le63).trans le71).trans le95).trans le126)) _ hr199) ?_
        rintro _ F13 w202 hs203 le204 rfl
        refine Vs 5 ?_
        refine Nss (Rg [0, 1, 2, 3, 4, 5, 6, 7, 8, 9, 10, 11, 12, 13, 14, 15, 16, 17, 18] ?_)
        refine RWP.cut (fun f w => ∃ (F14 : Mem), HS w0 F0 w F14 [] ∧ Mem.le F13 F14 ∧ FI f [] [(4, (.bool (r24 && ((r198.2 == 0) && ((r65.2 == 62) || ((r65.2 == 0) && (r65.1 == r198.1)))))))]) ?_ ?_
        ·refine Vs 2 ?_
         refine RWP.split r24 (fun hb211 => ?_) (fun hb211 => ?_)
         ·refine Vgs hb211 2 ?_
          refine Pk1 hb211 ?_
          refine Vs 1 ?_
          refine RWP.split (r198.2 == 0) (fun hb212 => ?_) (fun hb212 => ?_)
          ·refine Vgs hb212 3 ?_
           refine RWP.split (r65.2 == 62) (fun hb213 => ?_) (fun hb213 => ?_)
           ·refine Ss hb213 3 ?_
            refine Su' 3 ?_
            refine Ss hb213 1 ?_
            refine Vg 122 4 5 true 111 hb212 (p1 114 (.const (.bool true)) (.tmp 121) (.bool true) hb213) ?_
            refine Pk1 hb212 ?_
            refine Vs 1 ?_
            exact RWP.nil ⟨rfl, F13, hs203.dr0, (Mem.le.refl _), (fJ ⟨(congrArg Value.bool (and_t hb211 (and_t hb212 (or_t hb213 (rfl))))), trivial⟩)⟩
           ·refine Vgs hb213 3 ?_
            refine RWP.split (r65.2 == 0) (fun hb214 => ?_) (fun hb214 => ?_)
            ·refine Vgs hb214 3 ?_
             refine Vg 121 4 8 false 114 hb213 (p1 117 (.tmp 120) (.const (.bool false)) (.bool (r65.1 == r198.1)) hb214) ?_
             refine Vg 122 4 5 true 111 hb212 (p0 114 (.const (.bool true)) (.tmp 121) (.bool (r65.1 == r198.1)) hb213) ?_
             refine Pk1 hb212 ?_
             refine Vs 1 ?_
             exact RWP.nil ⟨rfl, F13, hs203.dr0, (Mem.le.refl _), (fJ ⟨(congrArg Value.bool (and_t hb211 (and_t hb212 (or_f hb213 (and_t hb214 (rfl)))))), trivial⟩)⟩
            ·refine Ss hb214 3 ?_
             refine Vg 121 4 8 false 114 hb213 (p0 117 (.tmp 120) (.const (.bool false)) (.bool false) hb214) ?_
             refine Vg 122 4 5 true 111 hb212 (p0 114 (.const (.bool true)) (.tmp 121) (.bool false) hb213) ?_
             refine Pk1 hb212 ?_
             refine Vs 1 ?_
             exact RWP.nil ⟨rfl, F13, hs203.dr0, (Mem.le.refl _), (fJ ⟨(congrArg Value.bool (and_t hb211 (and_t hb212 (or_f hb213 (and_f hb214 (rfl)))))), trivial⟩)⟩
          ·refine Ss hb212 3 ?_
           refine Su' 3 ?_
           refine Su' 3 ?_
           refine Su' 1 ?_
           refine Ss hb212 1 ?_
           refine Pk0 hb212 ?_
           refine Vs 1 ?_
           exact RWP.nil ⟨rfl, F13, hs203.dr0, (Mem.le.refl _), (fJ ⟨(congrArg Value.bool (and_t hb211 (and_f hb212 (rfl)))), trivial⟩)⟩
         ·refine Ss hb211 2 ?_
          refine Pk0 hb211 ?_
          refine Vs 1 ?_
          refine Ss (rfl : false = false) 3 ?_
          refine Su' 3 ?_
          refine Su' 3 ?_
          refine Su' 1 ?_
          refine Ss (rfl : false = false) 1 ?_
          refine Pk0 (rfl : false = false) ?_
          refine Vs 1 ?_
          exact RWP.nil ⟨rfl, F13, hs203.dr0, (Mem.le.refl _), (fJ ⟨(congrArg Value.bool (and_f hb211 (rfl))), trivial⟩)⟩
        ·rintro f w206 ⟨F14, hs207, le208, ⟨_, rfl⟩⟩
         refine thenQ_nrm ?_
         refine Rt ?_
         obtain rfl := some_inj h200
         exact Re [(.bool (r24 && ((r198.2 == 0) && ((r65.2 == 62) || ((r65.2 == 0) && (r65.1 == r198.1))))))] hs207 rfl
end Go.Proofs.YtaihlcdkcampbaaGreatDoor
namespace Go.Proofs.YtaihlcdkcampbaaGreatDoor
section
variable {N : Nat}
theorem first_holds (b : Book) (f : List Int) (hN : 1000 < N) (hb : FitB N b) : law06_RulesFirst N b f = some true := by
 unfold law06_RulesFirst law06_awake
 rw [s_light hb]
 simp only [Option.bind_some]
 generalize lightS b = b1
 generalize decide ((f.length : Int) > 40) = b3
 cases b1 <;> cases b3
 ·rfl
 ·rfl
 ·simp only [Bool.not_true, cond_false, Option.bind_some]
  rw [s_First (by omega) hb.p, Option.bind_some, s_Points hN hb, Option.bind_some]
  unfold firstS
  cases hs : sndL b.Points
  ·rfl
  ·cases hf : fac f
   ·rfl
   ·simp only [Bool.true_eq_false, if_false]
    by_cases hn : fi (isT f) b.Points < 0
    ·rw [if_pos hn]
     unfold ptsS
     by_cases hw : wrg b f = 0
     ·rw [if_neg (by simpa using hw), if_pos hn]; rfl
     ·rw [if_pos hw]
      rcases wrg_cases (f := f) b with h | h | h
      ·rw [h]; rfl
      ·exfalso
       unfold wrg at h
       cases hv : vld b <;> rw [hv] at h <;> simp [hf] at h
      ·exact absurd h hw
    ·rw [if_neg hn]
     obtain ⟨i, hi, h1, h2, h3⟩ := fi_nn (p := isT f) (l := b.Points) (by omega)
     rw [h1]
     simp only
     have hc := sndL_c hs (List.getElem_mem hi)
     have hfc := hb.p.c _ (List.getElem_mem hi)
     have hsn : ∀ (k : Nat) (hk : k < b.Points.length), snd0 b.Points[k].When = true ∧ snd0 b.Points[k].Then = true := fun k hk => by
      have := sndL_c hs (List.getElem_mem hk)
      unfold sndC sndT at this
      unfold snd0
      simp only [Bool.and_eq_true, decide_eq_true_eq] at this ⊢
      refine ⟨⟨this.1.1, by rw [this.1.2]; decide⟩, ⟨this.2.1, by rw [this.2.2]; decide⟩⟩
     have hev : ∀ (k : Nat) (hk : k < b.Points.length), rules_Eval N b.Points[k].When f = some (val f b.Points[k].When, 0) := fun k hk => by
      rw [s_Eval (by omega) (hb.p.c _ (List.getElem_mem hk)).1]
      unfold evalS
      rw [(hsn k hk).1, hf]; rfl
     have hev2 : rules_Eval N b.Points[i].Then f = some (val f b.Points[i].Then, 0) := by
      rw [s_Eval (by omega) (hb.p.c _ (List.getElem_mem hi)).2]
      unfold evalS
      rw [(hsn i hi).2, hf]; rfl
     rw [show ((0 : Int) == 3) = false from rfl, show ((0 : Int) != 0) = false from rfl, cond_false, cond_false]
     have : (decide ((i : Int) < 0) || decide ((i : Int) ≥ (b.Points.length : Int))) = false := by simp; omega
     rw [this, cond_false]
     have hit : iter (law06_RulesFirst_L0 N b f true false ((i : Int), 0) (ptsS b.Points b f 70)) N 0 = some (.done ((i + 1 : Nat) : Int)) := by
      have := iter_first (List.range (i + 1)) (fun _ => false) (fun _ => false) (body := law06_RulesFirst_L0 N b f true false ((i : Int), 0) (ptsS b.Points b f 70)) (N := N) (fun k hk => by
       simp only [List.length_range] at hk
       unfold law06_RulesFirst_L0
       simp only
       rw [decide_eq_true (by omega), cond_true, idx_nat (show k < b.Points.length by omega), Option.bind_some, hev k (by omega), Option.bind_some]
       have : ((val f b.Points[k].When == 1) == ((k : Int) == (i : Int))) = true := by
        rw [ofNat_eq]
        by_cases hki : k = i
        ·subst hki
         have : isT f b.Points[k] = true := h2
         unfold isT at this
         rw [this]; simp
        ·have : isT f b.Points[k] = false := h3 k (by omega)
         unfold isT at this
         rw [this]; simp [hki]
       simp only [this]
       rfl) (by
       unfold law06_RulesFirst_L0
       simp only [List.length_range]
       rw [decide_eq_false (by omega), cond_false]) (by have := hb.p.n; simp; omega) (by have := hb.p.w; simp; omega)
      rw [this, any_none]
      simp
     rw [hit, Option.bind_some]
     simp only [Flow.k]
     rw [idx_nat hi, Option.bind_some, hev2, Option.bind_some]
     unfold ptsS
     by_cases hw : wrg b f = 0
     ·rw [if_neg (by simpa using hw), if_neg hn, h1, Int.toNat_natCast, List.getElem?_eq_getElem hi]
      simp
     ·rw [if_pos hw]
      rcases wrg_cases (f := f) b with h | h | h
      ·rw [h]; rfl
      ·exfalso
       unfold wrg at h
       cases hv : vld b <;> rw [hv] at h <;> simp [hf] at h
      ·exact absurd h hw
 ·rfl
end
end Go.Proofs.YtaihlcdkcampbaaGreatDoor
namespace Go.Proofs.YtaihlcdkcampbaaGreatDoor
theorem first_row (b : Book) (f : List Int) (h0 : qBook b) (_ : f.length < 9223372036854775808 ∧ ∀ c, c ∈ f → rI c) : ∃ N, law06_RulesFirst N b f = some true := by
 obtain ⟨a, ha⟩ := fitB_ex h0
 exact ⟨a + 1001, first_holds b f (by omega) (ha _ (by omega))⟩
end Go.Proofs.YtaihlcdkcampbaaGreatDoor
