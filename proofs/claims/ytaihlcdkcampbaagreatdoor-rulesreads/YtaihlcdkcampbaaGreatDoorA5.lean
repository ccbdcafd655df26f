/- Lemmas of the claim RulesReads, printed by a program of the claimant and by hand. No statement of the seat is proved here. -/
import Derived.Test.YtaihlcdkcampbaaGreatDoorA4
set_option linter.unusedVariables false
set_option linter.unusedSimpArgs false
set_option linter.unusedSectionVars false
set_option maxHeartbeats 4000000
set_option maxRecDepth 100000
namespace Go.Proofs.YtaihlcdkcampbaaGreatDoor
open Go.Proofs
def rules_simpler (N : Nat) (x0 : Expr) : Option Expr :=
 (bif ((x0.Kids.length : Int) == 0) then some x0 else ((idx x0.Kids 0).bind fun x32 => (bif (x0.Op == 3) then none else ((idx x0.Kids 1).bind fun x54 => (bif (bif (x0.Op == 6) then (x0.Op == 6) else (x0.Op == 7)) then ((bif ((x32.Op == 1) && (x54.Op == 1)) then some true else ((rules_same N x32 x54).bind fun r106 => some r106)).bind fun j93 => (bif j93 then (bif (x0.Op == 6) then ((rules_same N x32 x54).bind fun r120 => (bif r120 then ((rules_truthOf N true).bind fun r131 => some r131) else (bif (x0.Op == 7) then none else none))) else (bif (x0.Op == 7) then none else none)) else some x0)) else (bif (bif (x0.Op == 4) then (x0.Op == 4) else (x0.Op == 5)) then none else (bif (bif (x0.Op == 8) then (x0.Op == 8) else (bif (x0.Op == 9) then (x0.Op == 9) else (x0.Op == 10))) then (((mk0 0 14).bind fun r206 => ((rules_value N x0 r206).bind fun r220 => some r220)).bind fun j196 => (bif (((x32.Op == 1) && (x54.Op == 1)) && (decide (j196 ≥ 0))) then ((rules_constant N j196).bind fun r242 => some r242) else ((rules_reckoned N x0 x32 x54).bind fun r252 => some r252))) else (bif (x0.Op == 11) then ((rules_isTruth N x32 true).bind fun r265 => (bif r265 then some x54 else ((rules_isTruth N x32 false).bind fun r278 => (bif r278 then ((idx x0.Kids 2).bind fun x289 => some x289) else (((idx x0.Kids 2).bind fun x310 => ((rules_same N x54 x310).bind fun r316 => some r316)).bind fun j302 => (bif j302 then some x54 else some x0)))))) else none))))))))
theorem co_rules_simpler : CallOk Tryz.prog 148 := fun _ _ => by kernel_rfl
theorem c_rules_simpler (N : Nat) (w0 : World) (F0 : Mem) (hF : ∀ b o, F0 b = some o → w0.heap[b]? = some o) (x0 : Expr) (a0_2 : Option Addr) (n0_2 : Nat) (hb0_2 : LC x0.Kids.length n0_2) (hs0_2 : SlA tExpr F0 a0_2 x0.Kids) (r : Expr) (h : rules_simpler N x0 = some r) :
  Calls Tryz.prog 148 ([(.agg (kExpr x0 a0_2 n0_2))] : List Value).toArray w0 (FRet w0 F0 fun F' v => ∃ (aq0_2 : Option Addr) (nq0_2 : Nat), v = (.agg (kExpr r aq0_2 nq0_2)) ∧ LC r.Kids.length nq0_2 ∧ SlA tExpr F' aq0_2 r.Kids) := by
 have hs0 := HS.start hF
 refine Go 130 Tryz.func148 ?_
 refine Sq (Rg [0, 1] ?_)
 refine Bx' 33 (kExpr x0 a0_2 n0_2) hs0 (fun b21 w22 hs23 => ?_)
 refine Al' 33 #[(vi 0), (vi 0), (.slice none ([] : List Expr).length 0)] hs23 (fun b24 w25 hs26 => ?_)
 refine Nss ?_
 refine Sq (Rg [0, 1, 2, 3] ?_)
 refine Vs 1 ?_
 refine Ld hs26.at1 ?_
 refine Vs 2 ?_
 refine Nt ?_
 refine Cd h (fun hb27 h28 => ?_) (fun hb27 h29 => ?_)
 ·refine Sq (Rg [0, 1] ?_)
  refine Ld hs26.at1 ?_
  refine St0 (kExpr x0 a0_2 n0_2) hs26 (fun w30 hs31 => ?_)
  refine Nt ?_
  refine Rt ?_
  refine thenQ_ret ?_
  obtain rfl := some_inj h28
  exact ⟨rfl, (.agg (kExpr x0 a0_2 n0_2)), res_of (l := [.cell 2 33]) (by kernel_rfl) (vs := [(.agg (kExpr x0 a0_2 n0_2))]) ⟨b24, 0, rfl, run_loadVar' (t := 33) (g := true) (s := 3) (by kernel_rfl) hs31.at0 rfl (by decide), trivial⟩, (.agg (kExpr x0 a0_2 n0_2)), F0, rfl, hs31.clear, ⟨a0_2, n0_2, rfl, hb0_2, hs0_2⟩⟩
 ·refine Sc ?_
  refine thenQ_nrm ?_
  refine Sq (Rg [0, 1, 2, 3, 4, 5] ?_)
  refine Vs 1 ?_
  refine Ld hs26.at1 ?_
  obtain ⟨x32, hx33, h35⟩ := bind_some h29
  obtain ⟨hi34, hx33'⟩ := idx_spec hx33
  obtain ⟨b36, o37, C38, E39, fz40, rfl, hF42, hE43⟩ := SlA.open hs0_2 hx33'
  obtain ⟨ae44_2, ne44_2, hc45, hbe44_2, hse44_2⟩ := (tExpr_open (hE43 _ _ hx33'))
  refine Ix hi34 ?_
  refine Lx 0 (hs26.pers _ _ hF42) hc45 ?_
  refine Al' 33 #[(vi 0), (vi 0), (.slice none ([] : List Expr).length 0)] hs26 (fun b46 w47 hs48 => ?_)
  refine St0 (kExpr x32 ae44_2 ne44_2) hs48 (fun w49 hs50 => ?_)
  refine Nss ?_
  refine Sq (Rg [0, 1, 2] ?_)
  refine Vs 1 ?_
  refine Ld hs50.at2 ?_
  refine Vs 1 ?_
  refine Nt ?_
  refine Cd h35 (fun hb51 h52 => ?_) (fun hb51 h53 => ?_)
  ·cases h52
  ·refine Sc ?_
   refine thenQ_nrm ?_
   refine Sq (Rg [0, 1, 2, 3, 4, 5] ?_)
   refine Vs 1 ?_
   refine Ld hs50.at2 ?_
   obtain ⟨x54, hx55, h57⟩ := bind_some h53
   obtain ⟨hi56, hx55'⟩ := idx_spec hx55
   obtain ⟨ae58_2, ne58_2, hc59, hbe58_2, hse58_2⟩ := (tExpr_open (hE43 _ _ hx55'))
   refine Ix hi56 ?_
   refine Lx 0 (hs50.pers _ _ hF42) hc59 ?_
   refine Al' 33 #[(vi 0), (vi 0), (.slice none ([] : List Expr).length 0)] hs50 (fun b60 w61 hs62 => ?_)
   refine St0 (kExpr x54 ae58_2 ne58_2) hs62 (fun w63 hs64 => ?_)
   refine Nss (Rg [0, 1, 2, 3, 4, 5, 6, 7, 8] ?_)
   refine RWP.cut (fun f w => ∃ (F1 : Mem), HS w0 F0 w F1 [(sb b60 (kExpr x54 ae58_2 ne58_2) 33), (sb b46 (kExpr x32 ae44_2 ne44_2) 33), (sb b24 #[(vi 0), (vi 0), (.slice none ([] : List Expr).length 0)] 33), (sb b21 (kExpr x0 (some ⟨b36, o37, none⟩) n0_2) 33)] ∧ Mem.le F0 F1 ∧ FI f [] [(1, (pt b21 0)), (2, (pt b24 0)), (3, (pt b46 0)), (4, (pt b60 0)), (5, (.bool ((x32.Op == 1) && (x54.Op == 1))))]) ?_ ?_
   ·refine Vs 1 ?_
    refine Ld hs64.at1 ?_
    refine Vs 2 ?_
    refine RWP.split (x32.Op == 1) (fun hb74 => ?_) (fun hb74 => ?_)
    ·refine Vgs hb74 1 ?_
     refine Lg hb74 hs64.at0 ?_
     refine Vgs hb74 1 ?_
     refine Pk1 hb74 ?_
     refine Vs 1 ?_
     exact RWP.nil ⟨rfl, F0, hs64, (Mem.le.refl _), (fJ ⟨rfl, rfl, rfl, rfl, (congrArg Value.bool (and_t hb74 (rfl))), trivial⟩)⟩
    ·refine Ss hb74 3 ?_
     refine Pk0 hb74 ?_
     refine Vs 1 ?_
     exact RWP.nil ⟨rfl, F0, hs64, (Mem.le.refl _), (fJ ⟨rfl, rfl, rfl, rfl, (congrArg Value.bool (and_f hb74 (rfl))), trivial⟩)⟩
   ·rintro f w65 ⟨F1, hs66, le67, ⟨_, rfl⟩⟩
    refine thenQ_nrm ?_
    refine Sq ?_
    refine Sq (Rg [0, 1] ?_)
    refine Vs 1 ?_
    refine Ld hs66.at3 ?_
    refine Nt ?_
    refine Bk ?_
    refine Sq ?_
    refine Sq (Rg [0, 1] ?_)
    refine Vs 2 ?_
    refine Nt ?_
    refine CWP.cut (fun f w => ∃ (F2 : Mem), HS w0 F0 w F2 [(sb b60 (kExpr x54 ae58_2 ne58_2) 33), (sb b46 (kExpr x32 ae44_2 ne44_2) 33), (sb b24 #[(vi 0), (vi 0), (.slice none ([] : List Expr).length 0)] 33), (sb b21 (kExpr x0 (some ⟨b36, o37, none⟩) n0_2) 33)] ∧ Mem.le F1 F2 ∧ FI f [] [(1, (pt b21 0)), (2, (pt b24 0)), (3, (pt b46 0)), (4, (pt b60 0)), (5, (.bool ((x32.Op == 1) && (x54.Op == 1)))), (49, (vi x0.Op)), (50, (.bool (bif (x0.Op == 6) then (x0.Op == 6) else (x0.Op == 7))))]) ?_ ?_
    ·refine Cp (x0.Op == 6) (fun hb86 => ?_) (fun hb86 => ?_)
     ·refine Sc ?_
      exact .inl ⟨rfl, F1, hs66, (Mem.le.refl _), (fJ ⟨rfl, rfl, rfl, rfl, rfl, rfl, (congrArg Value.bool (bif_t hb86 (rfl))), trivial⟩)⟩
     ·refine Rg [0, 1] ?_
      refine Vs 2 ?_
      refine RWP.nil ?_
      exact .inl ⟨rfl, F1, hs66, (Mem.le.refl _), (fJ ⟨rfl, rfl, rfl, rfl, rfl, rfl, (congrArg Value.bool (bif_f hb86 (rfl))), trivial⟩)⟩
    ·rintro f w75 ⟨F2, hs76, le77, ⟨_, rfl⟩⟩
     refine thenQ_nrm ?_
     refine Cd h57 (fun hb87 h88 => ?_) (fun hb87 h89 => ?_)
     ·refine Sq (Rg [0, 1, 2, 3, 4, 5] ?_)
      obtain ⟨j93, hj101, h102⟩ := bind_some h88
      refine RWP.cut (fun f w => ∃ (F3 : Mem), HS w0 F0 w F3 [(sb b60 (kExpr x54 ae58_2 ne58_2) 33), (sb b46 (kExpr x32 ae44_2 ne44_2) 33), (sb b24 #[(vi 0), (vi 0), (.slice none ([] : List Expr).length 0)] 33), (sb b21 (kExpr x0 (some ⟨b36, o37, none⟩) n0_2) 33)] ∧ Mem.le F2 F3 ∧ FI f [] [(1, (pt b21 0)), (2, (pt b24 0)), (3, (pt b46 0)), (4, (pt b60 0)), (5, (.bool ((x32.Op == 1) && (x54.Op == 1)))), (58, (.bool j93))]) ?_ ?_
      ·refine Vs 2 ?_
       refine Sp hj101 (fun hb103 h104 => ?_) (fun hb103 h105 => ?_)
       ·refine Ss hb103 3 ?_
        refine Pk1 hb103 ?_
        obtain rfl := some_inj h104
        exact RWP.nil ⟨rfl, F2, hs76, (Mem.le.refl _), fI⟩
       ·refine Lg hb103 hs76.at1 ?_
        refine Lg hb103 hs76.at0 ?_
        obtain ⟨r106, hr107, h108⟩ := bind_some h105
        refine Cg hb103 co_rules_same hs76 (c_rules_same N w75 F2 hs76.pers (x32) ae44_2 ne44_2 hbe44_2 (SlA.mono hse44_2 (le67.trans le77)) (x54) ae58_2 ne58_2 hbe58_2 (SlA.mono hse58_2 (le67.trans le77)) _ hr107) ?_
        rintro _ F4 w110 hs111 le112 rfl
        refine Pk0 hb103 ?_
        obtain rfl := some_inj h108
        exact RWP.nil ⟨rfl, F4, hs111, le112, fI⟩
      ·rintro f w90 ⟨F3, hs91, le92, ⟨_, rfl⟩⟩
       refine thenQ_nrm ?_
       refine Cd h102 (fun hb114 h115 => ?_) (fun hb114 h116 => ?_)
       ·refine Sq (Rg [0, 1, 2, 3, 4, 5, 6, 7, 8, 9, 10, 11, 12, 13, 14, 15, 16, 17, 18, 19, 20, 21, 22, 23, 24] ?_)
        refine Vs 1 ?_
        refine Ld hs91.at3 ?_
        refine Vs 2 ?_
        refine Sp h115 (fun hb117 h118 => ?_) (fun hb117 h119 => ?_)
        ·refine Lg hb117 hs91.at1 ?_
         refine Lg hb117 hs91.at0 ?_
         obtain ⟨r120, hr121, h122⟩ := bind_some h118
         refine Cg hb117 co_rules_same hs91 (c_rules_same N w90 F3 hs91.pers (x32) ae44_2 ne44_2 hbe44_2 (SlA.mono hse44_2 ((le67.trans le77).trans le92)) (x54) ae58_2 ne58_2 hbe58_2 (SlA.mono hse58_2 ((le67.trans le77).trans le92)) _ hr121) ?_
         rintro _ F5 w124 hs125 le126 rfl
         refine Pk1 hb117 ?_
         refine Vs 1 ?_
         refine Sp h122 (fun hb128 h129 => ?_) (fun hb128 h130 => ?_)
         ·refine Ss hb128 4 ?_
          refine Su' 1 ?_
          refine Ss hb128 2 ?_
          refine Su' 5 ?_
          refine Ss hb128 1 ?_
          refine Pk1 hb128 ?_
          obtain ⟨r131, hr132, h133⟩ := bind_some h129
          refine Cl' co_rules_truthOf hs125 (c_rules_truthOf N w124 F5 hs125.pers (true) _ hr132) ?_
          rintro _ F6 w135 hs136 le137 ⟨ar131_0_2, nr131_0_2, rfl, hbr131_0_2, hsr131_0_2⟩
          refine St2 (kExpr r131 ar131_0_2 nr131_0_2) hs136 (fun w139 hs140 => ?_)
          refine Nt ?_
          refine Rt ?_
          refine blockQ_ret ?_
          refine thenQ_ret ?_
          obtain rfl := some_inj h133
          exact ⟨rfl, (.agg (kExpr r131 ar131_0_2 nr131_0_2)), res_of (l := [.cell 2 33]) (by kernel_rfl) (vs := [(.agg (kExpr r131 ar131_0_2 nr131_0_2))]) ⟨b24, 0, rfl, run_loadVar' (t := 33) (g := true) (s := 3) (by kernel_rfl) hs140.at2 rfl (by decide), trivial⟩, (.agg (kExpr r131 ar131_0_2 nr131_0_2)), F6, rfl, hs140.clear, ⟨ar131_0_2, nr131_0_2, rfl, hbr131_0_2, hsr131_0_2⟩⟩
         ·refine Vgs hb128 1 ?_
          refine Lg hb128 hs125.at3 ?_
          refine Vgs hb128 2 ?_
          refine Sp h130 (fun hb141 h142 => ?_) (fun hb141 h143 => ?_)
          ·cases h142
          ·cases h143
        ·refine Ss hb117 3 ?_
         refine Pk0 hb117 ?_
         refine Vs 1 ?_
         refine Vg 68 0 8 false 67 rfl (fa 33 1 0 0 1 b21 0 0) ?_
         refine Vg 69 3 8 false 67 rfl (ld 3 68 b21 0 false 1 (vi x0.Op) hs91.at3) ?_
         refine Vg 70 4 8 false 67 rfl (run_eql (t := 3) (t' := 3) (x := (.tmp 69)) (y := (.const (vi 7))) (k := .i64) (a := x0.Op) (b := 7) rfl rfl) ?_
         refine Vg 71 4 8 false 67 rfl (mv 70 (.bool (x0.Op == 7))) ?_
         refine Sp h119 (fun hb144 h145 => ?_) (fun hb144 h146 => ?_)
         ·cases h145
         ·cases h146
       ·refine Sc ?_
        refine blockQ_nrm ?_
        refine thenQ_nrm ?_
        refine Sq (Rg [0, 1] ?_)
        refine Ld hs91.at3 ?_
        refine St2 (kExpr x0 (some ⟨b36, o37, none⟩) n0_2) hs91 (fun w147 hs148 => ?_)
        refine Nt ?_
        refine Rt ?_
        obtain rfl := some_inj h116
        exact ⟨rfl, (.agg (kExpr x0 (some ⟨b36, o37, none⟩) n0_2)), res_of (l := [.cell 2 33]) (by kernel_rfl) (vs := [(.agg (kExpr x0 (some ⟨b36, o37, none⟩) n0_2))]) ⟨b24, 0, rfl, run_loadVar' (t := 33) (g := true) (s := 3) (by kernel_rfl) hs148.at2 rfl (by decide), trivial⟩, (.agg (kExpr x0 (some ⟨b36, o37, none⟩) n0_2)), F3, rfl, hs148.clear, ⟨(some ⟨b36, o37, none⟩), n0_2, rfl, hb0_2, (SlA.mono hs0_2 ((le67.trans le77).trans le92))⟩⟩
     ·refine Sq ?_
      refine Sq (Rg [0, 1] ?_)
      refine Vs 2 ?_
      refine Nt ?_
      refine CWP.cut (fun f w => ∃ (F7 : Mem), HS w0 F0 w F7 [(sb b60 (kExpr x54 ae58_2 ne58_2) 33), (sb b46 (kExpr x32 ae44_2 ne44_2) 33), (sb b24 #[(vi 0), (vi 0), (.slice none ([] : List Expr).length 0)] 33), (sb b21 (kExpr x0 (some ⟨b36, o37, none⟩) n0_2) 33)] ∧ Mem.le F2 F7 ∧ FI f [] [(1, (pt b21 0)), (2, (pt b24 0)), (3, (pt b46 0)), (4, (pt b60 0)), (5, (.bool ((x32.Op == 1) && (x54.Op == 1)))), (49, (vi x0.Op)), (83, (.bool (bif (x0.Op == 4) then (x0.Op == 4) else (x0.Op == 5))))]) ?_ ?_
      ·refine Cp (x0.Op == 4) (fun hb160 => ?_) (fun hb160 => ?_)
       ·refine Sc ?_
        exact .inl ⟨rfl, F2, hs76, (Mem.le.refl _), (fJ ⟨rfl, rfl, rfl, rfl, rfl, rfl, (congrArg Value.bool (bif_t hb160 (rfl))), trivial⟩)⟩
       ·refine Rg [0, 1] ?_
        refine Vs 2 ?_
        refine RWP.nil ?_
        exact .inl ⟨rfl, F2, hs76, (Mem.le.refl _), (fJ ⟨rfl, rfl, rfl, rfl, rfl, rfl, (congrArg Value.bool (bif_f hb160 (rfl))), trivial⟩)⟩
      ·rintro f w149 ⟨F7, hs150, le151, ⟨_, rfl⟩⟩
       refine thenQ_nrm ?_
       refine Cd h89 (fun hb161 h162 => ?_) (fun hb161 h163 => ?_)
       ·cases h162
       ·refine Sq ?_
        refine Sq (Rg [0, 1] ?_)
        refine Vs 2 ?_
        refine Nt ?_
        refine CWP.cut (fun f w => ∃ (F8 : Mem), HS w0 F0 w F8 [(sb b60 (kExpr x54 ae58_2 ne58_2) 33), (sb b46 (kExpr x32 ae44_2 ne44_2) 33), (sb b24 #[(vi 0), (vi 0), (.slice none ([] : List Expr).length 0)] 33), (sb b21 (kExpr x0 (some ⟨b36, o37, none⟩) n0_2) 33)] ∧ Mem.le F7 F8 ∧ FI f [] [(1, (pt b21 0)), (2, (pt b24 0)), (3, (pt b46 0)), (4, (pt b60 0)), (5, (.bool ((x32.Op == 1) && (x54.Op == 1)))), (49, (vi x0.Op)), (90, (.bool (bif (x0.Op == 8) then (x0.Op == 8) else (bif (x0.Op == 9) then (x0.Op == 9) else (x0.Op == 10)))))]) ?_ ?_
        ·refine Cp (x0.Op == 8) (fun hb175 => ?_) (fun hb175 => ?_)
         ·refine Sc ?_
          exact .inl ⟨rfl, F7, hs150, (Mem.le.refl _), (fJ ⟨rfl, rfl, rfl, rfl, rfl, rfl, (congrArg Value.bool (bif_t hb175 (rfl))), trivial⟩)⟩
         ·refine Sq (Rg [0, 1] ?_)
          refine Vs 2 ?_
          refine Nt ?_
          refine CWP.cut (fun f w => ∃ (F9 : Mem), HS w0 F0 w F9 [(sb b60 (kExpr x54 ae58_2 ne58_2) 33), (sb b46 (kExpr x32 ae44_2 ne44_2) 33), (sb b24 #[(vi 0), (vi 0), (.slice none ([] : List Expr).length 0)] 33), (sb b21 (kExpr x0 (some ⟨b36, o37, none⟩) n0_2) 33)] ∧ Mem.le F7 F9 ∧ FI f [] [(1, (pt b21 0)), (2, (pt b24 0)), (3, (pt b46 0)), (4, (pt b60 0)), (5, (.bool ((x32.Op == 1) && (x54.Op == 1)))), (49, (vi x0.Op)), (90, (.bool (bif (x0.Op == 9) then (x0.Op == 9) else (x0.Op == 10))))]) ?_ ?_
          ·refine Cp (x0.Op == 9) (fun hb187 => ?_) (fun hb187 => ?_)
           ·refine Sc ?_
            exact .inl ⟨rfl, F7, hs150, (Mem.le.refl _), (fJ ⟨rfl, rfl, rfl, rfl, rfl, rfl, (congrArg Value.bool (bif_t hb187 (rfl))), trivial⟩)⟩
           ·refine Rg [0, 1] ?_
            refine Vs 2 ?_
            refine RWP.nil ?_
            exact .inl ⟨rfl, F7, hs150, (Mem.le.refl _), (fJ ⟨rfl, rfl, rfl, rfl, rfl, rfl, (congrArg Value.bool (bif_f hb187 (rfl))), trivial⟩)⟩
          ·rintro f w176 ⟨F9, hs177, le178, ⟨_, rfl⟩⟩
           exact .inl ⟨rfl, F9, hs177, le178, (fJ ⟨rfl, rfl, rfl, rfl, rfl, rfl, (congrArg Value.bool (bif_f hb175 (rfl))), trivial⟩)⟩
        ·rintro f w164 ⟨F8, hs165, le166, ⟨_, rfl⟩⟩
         refine thenQ_nrm ?_
         refine Cd h163 (fun hb188 h189 => ?_) (fun hb188 h190 => ?_)
         ·refine Sq ?_
          refine Sq ?_
          obtain ⟨j196, hj204, h205⟩ := bind_some h189
          refine RD 4 4 [(sb b60 (kExpr x54 ae58_2 ne58_2) 33), (sb b46 (kExpr x32 ae44_2 ne44_2) 33), (sb b24 #[(vi 0), (vi 0), (.slice none ([] : List Expr).length 0)] 33), (sb b21 (kExpr x0 (some ⟨b36, o37, none⟩) n0_2) 33)] [] hs165 (fun f w => ∃ (F10 : Mem), HS w0 F0 w F10 [(sb b60 (kExpr x54 ae58_2 ne58_2) 33), (sb b46 (kExpr x32 ae44_2 ne44_2) 33), (sb b24 #[(vi 0), (vi 0), (.slice none ([] : List Expr).length 0)] 33), (sb b21 (kExpr x0 (some ⟨b36, o37, none⟩) n0_2) 33)] ∧ Mem.le F8 F10 ∧ FI f [] [(1, (pt b21 0)), (2, (pt b24 0)), (3, (pt b46 0)), (4, (pt b60 0)), (5, (.bool ((x32.Op == 1) && (x54.Op == 1)))), (6, (vi j196))]) (fun wd191 hw192 => ?_) ?_
          ·refine Dl 0 (fun _ hq => (hq.1.2 3 _ _ rfl)) ?_
           refine D1 1 ?_
           obtain ⟨r206, hm207, h208⟩ := bind_some hj204
           refine DStep.makeSlice (l' := [true, true, false, false]) (zd := true) (by kernel_rfl) (by kernel_rfl) (dst := (some 95)) (ty := 47) (g := none) (by kernel_rfl) rfl (x := (.const (vi 14))) (y := (.const (vi 14))) (t := 47) (by_ := 8) (z := (vi 0)) (T := tInt) (E := 3) rfl rfl (by kernel_rfl) (by decide) (by kernel_rfl) (z0 := 0) (fun _ => rfl) (by decide) hw192 hm207 (Mem.le.refl _) (by simp) (fun e => by cases e) (fun b209 n210 C211 w212 (hs213 : HS w0 F0 w212 F8 [(some b209, .cells C211 3 (0, 0)), (sb b60 (kExpr x54 ae58_2 ne58_2) 33), (sb b46 (kExpr x32 ae44_2 ne44_2) 33), (sb b24 #[(vi 0), (vi 0), (.slice none ([] : List Expr).length 0)] 33), (sb b21 (kExpr x0 (some ⟨b36, o37, none⟩) n0_2) 33)]) hr214 => ?_)
           refine D1 2 ?_
           have hb219 := RowR.bound hr214
           obtain ⟨F11, hs216, le217, hs218⟩ := hs213.fr0 hr214
           obtain ⟨r220, hr221, h222⟩ := bind_some h208
           refine DCl co_rules_value hs216 (c_rules_value N w212 F11 hs216.pers (x0) (some ⟨b36, o37, none⟩) n0_2 hb0_2 (SlA.mono hs0_2 ((((le67.trans le77).trans le151).trans le166).trans le217)) (r206) (some ⟨b209, 0, none⟩) n210 hb219 hs218 _ hr221) ?_
           rintro _ F12 w224 hs225 le226 rfl
           refine Dv [3] ?_
           obtain rfl := some_inj h222
           exact DWP.done (by kernel_rfl) ⟨F12, hs225, (le217.trans le226), fI⟩
          ·rintro f w193 ⟨F10, hs194, le195, ⟨_, rfl⟩⟩
           refine thenQ_nrm ?_
           refine Sq (Rg [0, 1, 2, 3, 4] ?_)
           refine RWP.cut (fun f w => ∃ (F13 : Mem), HS w0 F0 w F13 [(sb b60 (kExpr x54 ae58_2 ne58_2) 33), (sb b46 (kExpr x32 ae44_2 ne44_2) 33), (sb b24 #[(vi 0), (vi 0), (.slice none ([] : List Expr).length 0)] 33), (sb b21 (kExpr x0 (some ⟨b36, o37, none⟩) n0_2) 33)] ∧ Mem.le F10 F13 ∧ FI f [] [(1, (pt b21 0)), (2, (pt b24 0)), (3, (pt b46 0)), (4, (pt b60 0)), (6, (vi j196)), (101, (.bool (((x32.Op == 1) && (x54.Op == 1)) && (decide (j196 ≥ 0)))))]) ?_ ?_
           ·refine Vs 2 ?_
            refine RWP.split ((x32.Op == 1) && (x54.Op == 1)) (fun hb238 => ?_) (fun hb238 => ?_)
            ·refine Vgs hb238 2 ?_
             refine Pk1 hb238 ?_
             exact RWP.nil ⟨rfl, F10, hs194, (Mem.le.refl _), (fJ ⟨rfl, rfl, rfl, rfl, rfl, (congrArg Value.bool (and_t hb238 (rfl))), trivial⟩)⟩
            ·refine Ss hb238 2 ?_
             refine Pk0 hb238 ?_
             exact RWP.nil ⟨rfl, F10, hs194, (Mem.le.refl _), (fJ ⟨rfl, rfl, rfl, rfl, rfl, (congrArg Value.bool (and_f hb238 (rfl))), trivial⟩)⟩
           ·rintro f w228 ⟨F13, hs229, le230, ⟨_, rfl⟩⟩
            refine thenQ_nrm ?_
            refine Cd h205 (fun hb239 h240 => ?_) (fun hb239 h241 => ?_)
            ·refine Sq (Rg [0, 1, 2] ?_)
             refine Vs 1 ?_
             obtain ⟨r242, hr243, h244⟩ := bind_some h240
             refine Cl' co_rules_constant hs229 (c_rules_constant N w228 F13 hs229.pers (j196) _ hr243) ?_
             rintro _ F14 w246 hs247 le248 ⟨ar242_0_2, nr242_0_2, rfl, hbr242_0_2, hsr242_0_2⟩
             refine St2 (kExpr r242 ar242_0_2 nr242_0_2) hs247 (fun w250 hs251 => ?_)
             refine Nt ?_
             refine Rt ?_
             refine thenQ_ret ?_
             refine blockQ_ret ?_
             refine thenQ_ret ?_
             obtain rfl := some_inj h244
             exact ⟨rfl, (.agg (kExpr r242 ar242_0_2 nr242_0_2)), res_of (l := [.cell 2 33]) (by kernel_rfl) (vs := [(.agg (kExpr r242 ar242_0_2 nr242_0_2))]) ⟨b24, 0, rfl, run_loadVar' (t := 33) (g := true) (s := 3) (by kernel_rfl) hs251.at2 rfl (by decide), trivial⟩, (.agg (kExpr r242 ar242_0_2 nr242_0_2)), F14, rfl, hs251.clear, ⟨ar242_0_2, nr242_0_2, rfl, hbr242_0_2, hsr242_0_2⟩⟩
            ·refine Sc ?_
             refine thenQ_nrm ?_
             refine Sq (Rg [0, 1, 2, 3, 4] ?_)
             refine Ld hs229.at3 ?_
             refine Ld hs229.at1 ?_
             refine Ld hs229.at0 ?_
             obtain ⟨r252, hr253, h254⟩ := bind_some h241
             refine Cl' co_rules_reckoned hs229 (c_rules_reckoned N w228 F13 hs229.pers (x0) (some ⟨b36, o37, none⟩) n0_2 hb0_2 (SlA.mono hs0_2 (((((le67.trans le77).trans le151).trans le166).trans le195).trans le230)) (x32) ae44_2 ne44_2 hbe44_2 (SlA.mono hse44_2 (((((le67.trans le77).trans le151).trans le166).trans le195).trans le230)) (x54) ae58_2 ne58_2 hbe58_2 (SlA.mono hse58_2 (((((le67.trans le77).trans le151).trans le166).trans le195).trans le230)) _ hr253) ?_
             rintro _ F15 w256 hs257 le258 ⟨ar252_0_2, nr252_0_2, rfl, hbr252_0_2, hsr252_0_2⟩
             refine St2 (kExpr r252 ar252_0_2 nr252_0_2) hs257 (fun w260 hs261 => ?_)
             refine Nt ?_
             refine Rt ?_
             refine blockQ_ret ?_
             refine thenQ_ret ?_
             obtain rfl := some_inj h254
             exact ⟨rfl, (.agg (kExpr r252 ar252_0_2 nr252_0_2)), res_of (l := [.cell 2 33]) (by kernel_rfl) (vs := [(.agg (kExpr r252 ar252_0_2 nr252_0_2))]) ⟨b24, 0, rfl, run_loadVar' (t := 33) (g := true) (s := 3) (by kernel_rfl) hs261.at2 rfl (by decide), trivial⟩, (.agg (kExpr r252 ar252_0_2 nr252_0_2)), F15, rfl, hs261.clear, ⟨ar252_0_2, nr252_0_2, rfl, hbr252_0_2, hsr252_0_2⟩⟩
         ·refine Sq (Rg [0, 1] ?_)
          refine Vs 2 ?_
          refine Nt ?_
          refine Cd h190 (fun hb262 h263 => ?_) (fun hb262 h264 => ?_)
          ·refine Bk ?_
           refine Sq (Rg [0, 1, 2] ?_)
           refine Ld hs165.at1 ?_
           obtain ⟨r265, hr266, h267⟩ := bind_some h263
           refine Cl' co_rules_isTruth hs165 (c_rules_isTruth N w164 F8 hs165.pers (x32) ae44_2 ne44_2 hbe44_2 (SlA.mono hse44_2 (((le67.trans le77).trans le151).trans le166)) (true) _ hr266) ?_
           rintro _ F16 w269 hs270 le271 rfl
           refine Vs 1 ?_
           refine Nt ?_
           refine Cd h267 (fun hb273 h274 => ?_) (fun hb273 h275 => ?_)
           ·refine Sq (Rg [0, 1] ?_)
            refine Ld hs270.at0 ?_
            refine St2 (kExpr x54 ae58_2 ne58_2) hs270 (fun w276 hs277 => ?_)
            refine Nt ?_
            refine Rt ?_
            refine blockQ_ret ?_
            refine blockQ_ret ?_
            refine thenQ_ret ?_
            obtain rfl := some_inj h274
            exact ⟨rfl, (.agg (kExpr x54 ae58_2 ne58_2)), res_of (l := [.cell 2 33]) (by kernel_rfl) (vs := [(.agg (kExpr x54 ae58_2 ne58_2))]) ⟨b24, 0, rfl, run_loadVar' (t := 33) (g := true) (s := 3) (by kernel_rfl) hs277.at2 rfl (by decide), trivial⟩, (.agg (kExpr x54 ae58_2 ne58_2)), F16, rfl, hs277.clear, ⟨ae58_2, ne58_2, rfl, hbe58_2, (SlA.mono hse58_2 ((((le67.trans le77).trans le151).trans le166).trans le271))⟩⟩
           ·refine Sq (Rg [0, 1, 2] ?_)
            refine Ld hs270.at1 ?_
            obtain ⟨r278, hr279, h280⟩ := bind_some h275
            refine Cl' co_rules_isTruth hs270 (c_rules_isTruth N w269 F16 hs270.pers (x32) ae44_2 ne44_2 hbe44_2 (SlA.mono hse44_2 ((((le67.trans le77).trans le151).trans le166).trans le271)) (false) _ hr279) ?_
            rintro _ F17 w282 hs283 le284 rfl
            refine Vs 1 ?_
            refine Nt ?_
            refine Cd h280 (fun hb286 h287 => ?_) (fun hb286 h288 => ?_)
            ·refine Sq (Rg [0, 1, 2, 3, 4] ?_)
             refine Vs 1 ?_
             refine Ld hs283.at3 ?_
             obtain ⟨x289, hx290, h292⟩ := bind_some h287
             obtain ⟨hi291, hx290'⟩ := idx_spec hx290
             obtain ⟨ae293_2, ne293_2, hc294, hbe293_2, hse293_2⟩ := (tExpr_open (hE43 _ _ hx290'))
             refine Ix hi291 ?_
             refine Lx 0 (hs283.pers _ _ ((((((le67.trans le77).trans le151).trans le166).trans le271).trans le284) _ _ hF42)) hc294 ?_
             refine St2 (kExpr x289 ae293_2 ne293_2) hs283 (fun w295 hs296 => ?_)
             refine Nt ?_
             refine Rt ?_
             refine blockQ_ret ?_
             refine blockQ_ret ?_
             refine thenQ_ret ?_
             obtain rfl := some_inj h292
             exact ⟨rfl, (.agg (kExpr x289 ae293_2 ne293_2)), res_of (l := [.cell 2 33]) (by kernel_rfl) (vs := [(.agg (kExpr x289 ae293_2 ne293_2))]) ⟨b24, 0, rfl, run_loadVar' (t := 33) (g := true) (s := 3) (by kernel_rfl) hs296.at2 rfl (by decide), trivial⟩, (.agg (kExpr x289 ae293_2 ne293_2)), F17, rfl, hs296.clear, ⟨ae293_2, ne293_2, rfl, hbe293_2, (SlA.mono hse293_2 (((((le67.trans le77).trans le151).trans le166).trans le271).trans le284))⟩⟩
            ·refine Sq ?_
             obtain ⟨j302, hj308, h309⟩ := bind_some h288
             refine RD 7 7 [(sb b60 (kExpr x54 ae58_2 ne58_2) 33), (sb b46 (kExpr x32 ae44_2 ne44_2) 33), (sb b24 #[(vi 0), (vi 0), (.slice none ([] : List Expr).length 0)] 33), (sb b21 (kExpr x0 (some ⟨b36, o37, none⟩) n0_2) 33)] [] hs283 (fun f w => ∃ (F18 : Mem), HS w0 F0 w F18 [(sb b60 (kExpr x54 ae58_2 ne58_2) 33), (sb b24 #[(vi 0), (vi 0), (.slice none ([] : List Expr).length 0)] 33), (sb b21 (kExpr x0 (some ⟨b36, o37, none⟩) n0_2) 33)] ∧ Mem.le F17 F18 ∧ FI f [] [(1, (pt b21 0)), (2, (pt b24 0)), (4, (pt b60 0)), (121, (.bool j302))]) (fun wd297 hw298 => ?_) ?_
             ·refine Dl 0 (fun _ hq => (hq.1.2 0 _ _ rfl)) ?_
              refine Dv [1] ?_
              refine Dl 2 (fun _ hq => (hq.1.2 3 _ _ rfl)) ?_
              obtain ⟨x310, hx311, h313⟩ := bind_some hj308
              obtain ⟨hi312, hx311'⟩ := idx_spec hx311
              obtain ⟨ae314_2, ne314_2, hc315, hbe314_2, hse314_2⟩ := (tExpr_open (hE43 _ _ hx311'))
              refine Di 3 hi312 ?_
              refine Dx 4 0 (fun _ hq => hq.1.1 _ _ ((((((le67.trans le77).trans le151).trans le166).trans le271).trans le284) _ _ hF42)) hc315 ?_
              refine D1 5 ?_
              obtain ⟨r316, hr317, h318⟩ := bind_some h313
              refine DCl co_rules_same hw298 (c_rules_same N wd297 F17 hw298.pers (x54) ae58_2 ne58_2 hbe58_2 (SlA.mono hse58_2 (((((le67.trans le77).trans le151).trans le166).trans le271).trans le284)) (x310) ae314_2 ne314_2 hbe314_2 (SlA.mono hse314_2 (((((le67.trans le77).trans le151).trans le166).trans le271).trans le284)) _ hr317) ?_
              rintro _ F19 w320 hs321 le322 rfl
              refine Dv [6] ?_
              obtain rfl := some_inj h318
              exact DWP.done (by kernel_rfl) ⟨F19, hs321.dr1, le322, fI⟩
             ·rintro f w299 ⟨F18, hs300, le301, ⟨_, rfl⟩⟩
              refine thenQ_nrm ?_
              refine Cd h309 (fun hb324 h325 => ?_) (fun hb324 h326 => ?_)
              ·refine Sq (Rg [0, 1] ?_)
               refine Ld hs300.at0 ?_
               refine St1 (kExpr x54 ae58_2 ne58_2) hs300 (fun w327 hs328 => ?_)
               refine Nt ?_
               refine Rt ?_
               refine blockQ_ret ?_
               refine blockQ_ret ?_
               refine thenQ_ret ?_
               obtain rfl := some_inj h325
               exact ⟨rfl, (.agg (kExpr x54 ae58_2 ne58_2)), res_of (l := [.cell 2 33]) (by kernel_rfl) (vs := [(.agg (kExpr x54 ae58_2 ne58_2))]) ⟨b24, 0, rfl, run_loadVar' (t := 33) (g := true) (s := 3) (by kernel_rfl) hs328.at1 rfl (by decide), trivial⟩, (.agg (kExpr x54 ae58_2 ne58_2)), F18, rfl, hs328.clear, ⟨ae58_2, ne58_2, rfl, hbe58_2, (SlA.mono hse58_2 ((((((le67.trans le77).trans le151).trans le166).trans le271).trans le284).trans le301))⟩⟩
              ·refine Sc ?_
               refine blockQ_nrm ?_
               refine blockQ_nrm ?_
               refine thenQ_nrm ?_
               refine Sq (Rg [0, 1] ?_)
               refine Ld hs300.at2 ?_
               refine St1 (kExpr x0 (some ⟨b36, o37, none⟩) n0_2) hs300 (fun w329 hs330 => ?_)
               refine Nt ?_
               refine Rt ?_
               obtain rfl := some_inj h326
               exact ⟨rfl, (.agg (kExpr x0 (some ⟨b36, o37, none⟩) n0_2)), res_of (l := [.cell 2 33]) (by kernel_rfl) (vs := [(.agg (kExpr x0 (some ⟨b36, o37, none⟩) n0_2))]) ⟨b24, 0, rfl, run_loadVar' (t := 33) (g := true) (s := 3) (by kernel_rfl) hs330.at1 rfl (by decide), trivial⟩, (.agg (kExpr x0 (some ⟨b36, o37, none⟩) n0_2)), F18, rfl, hs330.clear, ⟨(some ⟨b36, o37, none⟩), n0_2, rfl, hb0_2, (SlA.mono hs0_2 ((((((le67.trans le77).trans le151).trans le166).trans le271).trans le284).trans le301))⟩⟩
          ·cases h264
end Go.Proofs.YtaihlcdkcampbaaGreatDoor
namespace Go.Proofs.YtaihlcdkcampbaaGreatDoor
open Go.Proofs
def Self94 (sR94 : Expr → Option Expr) : Prop := ∀ (w0 : World) (F0 : Mem) (hF : ∀ b o, F0 b = some o → w0.heap[b]? = some o) (x0 : Expr) (a0_2 : Option Addr) (n0_2 : Nat) (hb0_2 : LC x0.Kids.length n0_2) (hs0_2 : SlA tExpr F0 a0_2 x0.Kids) (r : Expr), sR94 x0 = some r → Calls Tryz.prog 94 ([(.agg #[(.int .i64 x0.Op), (.int .i64 x0.Value), (.slice a0_2 x0.Kids.length n0_2)])] : List Value).toArray w0 (FRet w0 F0 fun F' v => ∃ (aq0_2 : Option Addr) (nq0_2 : Nat), v = (.agg #[(.int .i64 r.Op), (.int .i64 r.Value), (.slice aq0_2 r.Kids.length nq0_2)]) ∧ LC r.Kids.length nq0_2 ∧ SlA tExpr F' aq0_2 r.Kids)
theorem co_rules_simplified : CallOk Tryz.prog 94 := fun _ _ => by kernel_rfl
end Go.Proofs.YtaihlcdkcampbaaGreatDoor
namespace Go.Proofs.YtaihlcdkcampbaaGreatDoor
open Go.Proofs
def rules_simplified_L0 (N : Nat) (sR94 : Expr → Option Expr) (x0 : Expr) : (Int × List Expr) → Option (Flow Expr (Int × List Expr)) := fun s37 =>
 (bif (decide (s37.1 < (x0.Kids.length : Int))) then ((idx x0.Kids s37.1).bind fun x63 => (((sR94 x63).bind fun r96 => ((apnd s37.2 [r96]).bind fun r109 => some r109)).bind fun j87 => some (.next ((W64 (s37.1 + 1)), j87)))) else some (.done (s37.1, s37.2)))
def rules_simplified_S (N : Nat) (sR94 : Expr → Option Expr) (x0 : Expr) : Option Expr :=
 ((iter (rules_simplified_L0 N sR94 x0) N (0, ([] : List Expr))).bind fun o => o.k (fun r => some r) (fun s47 => ((rules_simpler N ({ Op := x0.Op, Value := x0.Value, Kids := s47.2 } : Expr)).bind fun r127 => some r127)))
theorem cS_rules_simplified (N : Nat) (sR94 : Expr → Option Expr) (hsR94 : Self94 sR94) (w0 : World) (F0 : Mem) (hF : ∀ b o, F0 b = some o → w0.heap[b]? = some o) (x0 : Expr) (a0_2 : Option Addr) (n0_2 : Nat) (hb0_2 : LC x0.Kids.length n0_2) (hs0_2 : SlA tExpr F0 a0_2 x0.Kids) (r : Expr) (h : rules_simplified_S N sR94 x0 = some r) :
  Calls Tryz.prog 94 ([(.agg (kExpr x0 a0_2 n0_2))] : List Value).toArray w0 (FRet w0 F0 fun F' v => ∃ (aq0_2 : Option Addr) (nq0_2 : Nat), v = (.agg (kExpr r aq0_2 nq0_2)) ∧ LC r.Kids.length nq0_2 ∧ SlA tExpr F' aq0_2 r.Kids) := by
 have hs0 := HS.start hF
 refine Go 28 Tryz.func94 ?_
 refine Sq (Rg [0, 1] ?_)
 refine Bx' 33 (kExpr x0 a0_2 n0_2) hs0 (fun b21 w22 hs23 => ?_)
 refine Al' 33 #[(vi 0), (vi 0), (.slice none ([] : List Expr).length 0)] hs23 (fun b24 w25 hs26 => ?_)
 refine Nss (Rg [0, 1, 2, 3, 4, 5, 6] ?_)
 refine Vs 1 ?_
 refine Ld hs26.at1 ?_
 refine Vs 1 ?_
 refine Ld hs26.at1 ?_
 refine Vs 1 ?_
 refine Al' 33 #[(vi 0), (vi 0), (.slice none ([] : List Expr).length 0)] hs26 (fun b27 w28 hs29 => ?_)
 refine St0 #[(vi x0.Op), (vi x0.Value), (.slice none ([] : List Expr).length 0)] hs29 (fun w30 hs31 => ?_)
 refine Nss ?_
 refine Sq (Rg [0, 1, 2, 3] ?_)
 refine Vs 1 ?_
 refine Ld hs31.at2 ?_
 refine Vs 2 ?_
 refine Nt ?_
 have hs32 := hs31.dr2.dummy (oc #[] 0)
 obtain ⟨o34, ho35, h36⟩ := bind_some h
 refine CWP.cut (fun f w => ∃ (s47 : (Int × List Expr)) (F2 : Mem) (as47_1 : Option Addr) (ns47_1 : Nat) (es47_1 : Option Nat × Obj), o34 = .done s47 ∧ HS w0 F0 w F2 [es47_1, (sb b27 #[(vi x0.Op), (vi x0.Value), (.slice as47_1 s47.2.length ns47_1)] 33), (sb b24 #[(vi 0), (vi 0), (.slice none ([] : List Expr).length 0)] 33)] ∧ Mem.le F0 F2 ∧ FI f [] [(2, (pt b24 0)), (3, (pt b27 0))] ∧ RowR tExpr 33 F2 as47_1 ns47_1 s47.2 es47_1) ?_ ?_
 ·refine Bk ?_
  refine CWP.loop (by kernel_rfl) (fun m f w => ∃ (s37 : (Int × List Expr)) (F1 : Mem) (as37_1 : Option Addr) (ns37_1 : Nat) (es37_1 : Option Nat × Obj), iter (rules_simplified_L0 N sR94 x0) m s37 = some o34 ∧ HS w0 F0 w F1 [es37_1, (sb b27 #[(vi x0.Op), (vi x0.Value), (.slice as37_1 s37.2.length ns37_1)] 33), (sb b24 #[(vi 0), (vi 0), (.slice none ([] : List Expr).length 0)] 33)] ∧ Mem.le F0 F1 ∧ FI f [] [(2, (pt b24 0)), (3, (pt b27 0)), (12, (.slice a0_2 x0.Kids.length n0_2)), (13, (vi (x0.Kids.length : Int))), (14, (vi s37.1))] ∧ RowR tExpr 33 F1 as37_1 ns37_1 s37.2 es37_1) N ⟨(0, ([] : List Expr)), F0, none, 0, (none, .cells #[] 0 (0, 0)), ho35, hs32, (Mem.le.refl _), fI, (RowR.nil tExpr 33 F0 _)⟩ ?_
  rintro m54 f w38 ⟨s37, F1, as37_1, ns37_1, es37_1, hit55, hs39, le40, ⟨_, rfl⟩, hrs37_1⟩
  obtain ⟨m56, fl57, rfl, hb58, hnx59⟩ := iter_step hit55
  refine Sq (Rg [0] ?_)
  refine Vs 1 ?_
  refine Nss ?_
  refine Cd hb58 (fun hb60 h61 => ?_) (fun hb60 h62 => ?_)
  ·refine Sc ?_
   refine thenQ_nrm ?_
   refine Sq ?_
   refine Bk ?_
   refine Sq (Rg [0, 1, 2, 3] ?_)
   obtain ⟨x63, hx64, h66⟩ := bind_some h61
   obtain ⟨hi65, hx64'⟩ := idx_spec hx64
   obtain ⟨b67, o68, C69, E70, fz71, rfl, hF73, hE74⟩ := SlA.open (SlA.mono hs0_2 le40) hx64'
   obtain ⟨ae75_2, ne75_2, hc76, hbe75_2, hse75_2⟩ := (tExpr_open (hE74 _ _ hx64'))
   refine Ix hi65 ?_
   refine Lx 0 (hs39.pers _ _ hF73) hc76 ?_
   refine Al' 33 #[(vi 0), (vi 0), (.slice none ([] : List Expr).length 0)] hs39 (fun b77 w78 hs79 => ?_)
   refine St0 (kExpr x63 ae75_2 ne75_2) hs79 (fun w80 hs81 => ?_)
   refine Nt ?_
   obtain ⟨j87, hj94, h95⟩ := bind_some h66
   refine RD 7 8 [(sb b77 (kExpr x63 ae75_2 ne75_2) 33), (sb b24 #[(vi 0), (vi 0), (.slice none ([] : List Expr).length 0)] 33)] [(sb b27 #[(vi x0.Op), (vi x0.Value), (.slice as37_1 s37.2.length ns37_1)] 33)] hs81 (fun f w => ∃ (F3 : Mem) (aj87_0 : Option Addr) (nj87_0 : Nat) (ej87_0 : Option Nat × Obj), HS w0 F0 w F3 [ej87_0, (sb b27 #[(vi x0.Op), (vi x0.Value), (.slice aj87_0 j87.length nj87_0)] 33), (sb b24 #[(vi 0), (vi 0), (.slice none ([] : List Expr).length 0)] 33)] ∧ Mem.le F1 F3 ∧ FI f [] [(2, (pt b24 0)), (3, (pt b27 0)), (12, (.slice (some ⟨b67, o68, none⟩) x0.Kids.length n0_2)), (13, (vi (x0.Kids.length : Int))), (14, (vi s37.1))] ∧ RowR tExpr 33 F3 aj87_0 nj87_0 j87 ej87_0) (fun wd82 hw83 => ?_) ?_
   ·refine Dv [0] ?_
    refine Dl 1 (fun _ hq => ((hq.2 rfl).2 0 _ _ rfl)) ?_
    refine Dl 2 (fun _ hq => (hq.1.2 0 _ _ rfl)) ?_
    refine D1 3 ?_
    obtain ⟨r96, hr97, h98⟩ := bind_some hj94
    refine DCl co_rules_simplified hw83 (hsR94 wd82 F1 hw83.pers (x63) ae75_2 ne75_2 hbe75_2 hse75_2 _ hr97) ?_
    rintro _ F4 w100 hs101 le102 ⟨ar96_0_2, nr96_0_2, rfl, hbr96_0_2, hsr96_0_2⟩
    refine D1 4 ?_
    refine DBs 33 [(vi r96.Op), (vi r96.Value), (.slice ar96_0_2 r96.Kids.length nr96_0_2)] hs101 le102 (fun b104 w105 hs106 => ?_)
    have hr108 : RowR tExpr 33 F4 (some ⟨b104, 0, none⟩) 1 [r96] (some b104, .cells ([(vi r96.Op), (vi r96.Value), (.slice ar96_0_2 r96.Kids.length nr96_0_2)] : List Value).toArray 33 (0, 0)) := RowR.lit ⟨(tExpr_mk ⟨ar96_0_2, nr96_0_2, rfl, hbr96_0_2, hsr96_0_2⟩), rfl⟩ (by simp)
    refine D1 5 ?_
    obtain ⟨r109, hap110, h111⟩ := bind_some h98
    refine DAp2 oExpr hs106 (hrs37_1.mono le102) (hs106.rd0 hr108) hap110 le102 (fun a112 n113 e114 w115 hs116 hr117 => ?_)
    refine Dv [6] ?_
    refine D1 7 ?_
    refine DSt3 #[(vi x0.Op), (vi x0.Value), (.slice a112 r109.length n113)] hs116 le102 (fun w118 hs119 => ?_)
    obtain rfl := some_inj h111
    exact DWP.done (by kernel_rfl) ⟨F4, a112, n113, e114, hs119.dr0.dr0, le102, fI, hr117⟩
   ·rintro f w84 ⟨F3, aj87_0, nj87_0, ej87_0, hs85, le86, ⟨_, rfl⟩, hrj87_0⟩
    refine blockQ_nrm ?_
    refine thenQ_nrm ?_
    refine Rg [0, 1] ?_
    refine Vs 2 ?_
    refine RWP.nil ?_
    have hn120 := iter_next h95 hnx59
    exact ⟨m56, Nat.lt_succ_self _, ((W64 (s37.1 + 1)), j87), F3, aj87_0, nj87_0, ej87_0, hn120, hs85, (le40.trans le86), fI, hrj87_0⟩
  ·refine Ex ?_
   refine thenQ_ex ?_
   refine thenQ_ex ?_
   refine blockQ_hit rfl ?_
   have ho121 := iter_done h62 hnx59
   exact .inl ⟨rfl, (s37.1, s37.2), F1, as37_1, ns37_1, es37_1, ho121, hs39, le40, fI, hrs37_1⟩
 ·rintro f w48 ⟨s47, F2, as47_1, ns47_1, es47_1, rfl, hs49, le50, ⟨_, rfl⟩, hrs47_1⟩
  have h122 := k_done h36
  refine thenQ_nrm ?_
  refine Sq (Rg [0, 1, 2] ?_)
  refine Ld hs49.at1 ?_
  have hb126 := RowR.bound hrs47_1
  obtain ⟨F5, hs123, le124, hs125⟩ := hs49.fr0 hrs47_1
  obtain ⟨r127, hr128, h129⟩ := bind_some h122
  refine Cl' co_rules_simpler hs123 (c_rules_simpler N w48 F5 hs123.pers (({ Op := x0.Op, Value := x0.Value, Kids := s47.2 } : Expr)) as47_1 ns47_1 hb126 hs125 _ hr128) ?_
  rintro _ F6 w131 hs132 le133 ⟨ar127_0_2, nr127_0_2, rfl, hbr127_0_2, hsr127_0_2⟩
  refine St1 (kExpr r127 ar127_0_2 nr127_0_2) hs132 (fun w135 hs136 => ?_)
  refine Nt ?_
  refine Rt ?_
  obtain rfl := some_inj h129
  exact ⟨rfl, (.agg (kExpr r127 ar127_0_2 nr127_0_2)), res_of (l := [.cell 2 33]) (by kernel_rfl) (vs := [(.agg (kExpr r127 ar127_0_2 nr127_0_2))]) ⟨b24, 0, rfl, run_loadVar' (t := 33) (g := true) (s := 3) (by kernel_rfl) hs136.at1 rfl (by decide), trivial⟩, (.agg (kExpr r127 ar127_0_2 nr127_0_2)), F6, rfl, hs136.clear, ⟨ar127_0_2, nr127_0_2, rfl, hbr127_0_2, hsr127_0_2⟩⟩
end Go.Proofs.YtaihlcdkcampbaaGreatDoor
namespace Go.Proofs.YtaihlcdkcampbaaGreatDoor
open Go.Proofs
structure Rec94 where
 q94 : Expr → Option Expr
def rec94 (N : Nat) : Nat → Rec94
 | 0 => ⟨fun _ => none⟩
 | k + 1 => ⟨rules_simplified_S N (rec94 N k).q94⟩
theorem rec94_ok (N : Nat) : ∀ k, Self94 (rec94 N k).q94
 | 0 => (by unfold Self94; intros; rename_i h; cases h)
 | k + 1 => by
  have ih := rec94_ok N k
  exact @cS_rules_simplified N (rec94 N k).q94 ih
def rules_simplified (N : Nat) (x0 : Expr) : Option Expr := (rec94 N N).q94 x0
theorem c_rules_simplified (N : Nat) (w0 : World) (F0 : Mem) (hF : ∀ b o, F0 b = some o → w0.heap[b]? = some o) (x0 : Expr) (a0_2 : Option Addr) (n0_2 : Nat) (hb0_2 : LC x0.Kids.length n0_2) (hs0_2 : SlA tExpr F0 a0_2 x0.Kids) (r : Expr) (h : rules_simplified N x0 = some r) :
  Calls Tryz.prog 94 ([(.agg #[(.int .i64 x0.Op), (.int .i64 x0.Value), (.slice a0_2 x0.Kids.length n0_2)])] : List Value).toArray w0 (FRet w0 F0 fun F' v => ∃ (aq0_2 : Option Addr) (nq0_2 : Nat), v = (.agg #[(.int .i64 r.Op), (.int .i64 r.Value), (.slice aq0_2 r.Kids.length nq0_2)]) ∧ LC r.Kids.length nq0_2 ∧ SlA tExpr F' aq0_2 r.Kids) := (rec94_ok N N) w0 F0 hF x0 a0_2 n0_2 hb0_2 hs0_2 r h
end Go.Proofs.YtaihlcdkcampbaaGreatDoor
namespace Go.Proofs.YtaihlcdkcampbaaGreatDoor
open Go.Proofs
def rules_Simplify (N : Nat) (x0 : Expr) : Option (Expr × Int) :=
 ((rules_sound N x0).bind fun r27 => (bif (!r27) then some (({ Op := 0, Value := 0, Kids := ([] : List Expr) } : Expr), 61) else ((rules_simplified N x0).bind fun r40 => some (r40, 0))))
theorem co_rules_Simplify : CallOk Tryz.prog 30 := fun _ _ => by kernel_rfl
theorem c_rules_Simplify (N : Nat) (w0 : World) (F0 : Mem) (hF : ∀ b o, F0 b = some o → w0.heap[b]? = some o) (x0 : Expr) (a0_2 : Option Addr) (n0_2 : Nat) (hb0_2 : LC x0.Kids.length n0_2) (hs0_2 : SlA tExpr F0 a0_2 x0.Kids) (r : (Expr × Int)) (h : rules_Simplify N x0 = some r) :
  Calls Tryz.prog 30 ([(.agg (kExpr x0 a0_2 n0_2))] : List Value).toArray w0 (FRet w0 F0 fun F' v => ∃ (aq0_2 : Option Addr) (nq0_2 : Nat), v = (.tuple #[(.agg (kExpr r.1 aq0_2 nq0_2)), (vi r.2)]) ∧ LC r.1.Kids.length nq0_2 ∧ SlA tExpr F' aq0_2 r.1.Kids) := by
 have hs0 := HS.start hF
 refine Go 10 Tryz.func30 ?_
 refine Sq (Rg [0, 1, 2] ?_)
 refine Bx' 33 (kExpr x0 a0_2 n0_2) hs0 (fun b21 w22 hs23 => ?_)
 refine Al' 33 #[(vi 0), (vi 0), (.slice none ([] : List Expr).length 0)] hs23 (fun b24 w25 hs26 => ?_)
 refine Vs 1 ?_
 refine Nss ?_
 refine Sq (Rg [0, 1, 2] ?_)
 refine Ld hs26.at1 ?_
 obtain ⟨r27, hr28, h29⟩ := bind_some h
 refine Cl' co_rules_sound hs26 (c_rules_sound N w25 F0 hs26.pers (x0) a0_2 n0_2 hb0_2 hs0_2 _ hr28) ?_
 rintro _ F1 w31 hs32 le33 rfl
 refine Vs 1 ?_
 refine Nt ?_
 refine Cd h29 (fun hb35 h36 => ?_) (fun hb35 h37 => ?_)
 ·refine Sq (Rg [0, 1, 2] ?_)
  refine Vs 1 ?_
  refine St0 #[(vi 0), (vi 0), (.slice none ([] : List Expr).length 0)] hs32 (fun w38 hs39 => ?_)
  refine Vs 1 ?_
  refine Nt ?_
  refine Rt ?_
  refine thenQ_ret ?_
  obtain rfl := some_inj h36
  exact ⟨rfl, (.tuple #[(.agg #[(vi 0), (vi 0), (.slice none ([] : List Expr).length 0)]), (vi 61)]), res_of (l := [.cell 2 33, .tmp 3]) (by kernel_rfl) (vs := [(.agg #[(vi 0), (vi 0), (.slice none ([] : List Expr).length 0)]), (vi 61)]) ⟨b24, 0, rfl, run_loadVar' (t := 33) (g := true) (s := 3) (by kernel_rfl) hs39.at0 rfl (by decide), ⟨rfl, trivial⟩⟩, (.tuple #[(.agg #[(vi 0), (vi 0), (.slice none ([] : List Expr).length 0)]), (vi 61)]), F1, rfl, hs39.clear, ⟨none, 0, rfl, LC.nil, (.inl rfl)⟩⟩
 ·refine Sc ?_
  refine thenQ_nrm ?_
  refine Sq (Rg [0, 1, 2, 3] ?_)
  refine Ld hs32.at1 ?_
  obtain ⟨r40, hr41, h42⟩ := bind_some h37
  refine Cl' co_rules_simplified hs32 (c_rules_simplified N w31 F1 hs32.pers (x0) a0_2 n0_2 hb0_2 (SlA.mono hs0_2 le33) _ hr41) ?_
  rintro _ F2 w44 hs45 le46 ⟨ar40_0_2, nr40_0_2, rfl, hbr40_0_2, hsr40_0_2⟩
  refine St0 (kExpr r40 ar40_0_2 nr40_0_2) hs45 (fun w48 hs49 => ?_)
  refine Vs 1 ?_
  refine Nt ?_
  refine Rt ?_
  obtain rfl := some_inj h42
  exact ⟨rfl, (.tuple #[(.agg (kExpr r40 ar40_0_2 nr40_0_2)), (vi 0)]), res_of (l := [.cell 2 33, .tmp 3]) (by kernel_rfl) (vs := [(.agg (kExpr r40 ar40_0_2 nr40_0_2)), (vi 0)]) ⟨b24, 0, rfl, run_loadVar' (t := 33) (g := true) (s := 3) (by kernel_rfl) hs49.at0 rfl (by decide), ⟨rfl, trivial⟩⟩, (.tuple #[(.agg (kExpr r40 ar40_0_2 nr40_0_2)), (vi 0)]), F2, rfl, hs49.clear, ⟨ar40_0_2, nr40_0_2, rfl, hbr40_0_2, hsr40_0_2⟩⟩
end Go.Proofs.YtaihlcdkcampbaaGreatDoor
namespace Go.Proofs.YtaihlcdkcampbaaGreatDoor
open Go.Proofs
def rules_signOf (N : Nat) (x0 : Int) : Option (rules_sign × Bool) :=
 (bif (x0 == 5) then some (({ text_ := ([111, 114] : List UInt8), rank_ := 1, left_ := 1, right_ := 2 } : rules_sign), true) else (bif (x0 == 4) then some (({ text_ := ([97, 110, 100] : List UInt8), rank_ := 2, left_ := 2, right_ := 3 } : rules_sign), true) else (bif (x0 == 6) then some (({ text_ := ([61] : List UInt8), rank_ := 4, left_ := 5, right_ := 5 } : rules_sign), true) else (bif (x0 == 7) then some (({ text_ := ([60] : List UInt8), rank_ := 4, left_ := 5, right_ := 5 } : rules_sign), true) else (bif (x0 == 8) then some (({ text_ := ([43] : List UInt8), rank_ := 5, left_ := 5, right_ := 6 } : rules_sign), true) else (bif (x0 == 9) then some (({ text_ := ([45] : List UInt8), rank_ := 5, left_ := 5, right_ := 6 } : rules_sign), true) else (bif (x0 == 10) then some (({ text_ := ([42] : List UInt8), rank_ := 6, left_ := 6, right_ := 7 } : rules_sign), true) else some (({ text_ := ([] : List UInt8), rank_ := 0, left_ := 0, right_ := 0 } : rules_sign), false))))))))
theorem co_rules_signOf : CallOk Tryz.prog 150 := fun _ _ => by kernel_rfl
theorem c_rules_signOf (N : Nat) (w0 : World) (F0 : Mem) (hF : ∀ b o, F0 b = some o → w0.heap[b]? = some o) (x0 : Int) (r : (rules_sign × Bool)) (h : rules_signOf N x0 = some r) :
  Calls Tryz.prog 150 ([(vi x0)] : List Value).toArray w0 (FRet w0 F0 fun F' v => v = (.tuple #[(.agg (krules_sign r.1)), (.bool r.2)])) := by
 have hs0 := HS.start hF
 refine Go 27 Tryz.func150 ?_
 refine Sq (Rg [0, 1] ?_)
 refine Al' 173 #[(.string ⟨(([] : List UInt8)).toArray⟩), (vi 0), (vi 0), (vi 0)] hs0 (fun b21 w22 hs23 => ?_)
 refine Vs 1 ?_
 refine Nss ?_
 refine Sq (Rg [0] ?_)
 refine Vs 1 ?_
 refine Nt ?_
 refine Bk ?_
 refine Sq (Rg [0, 1] ?_)
 refine Vs 2 ?_
 refine Nt ?_
 refine Cd h (fun hb24 h25 => ?_) (fun hb24 h26 => ?_)
 ·refine Sq (Rg [0, 1, 2] ?_)
  refine Vs 1 ?_
  refine St0 #[(.string ⟨(([111, 114] : List UInt8)).toArray⟩), (vi 1), (vi 1), (vi 2)] hs23 (fun w27 hs28 => ?_)
  refine Vs 1 ?_
  refine Nt ?_
  refine Rt ?_
  refine blockQ_ret ?_
  refine thenQ_ret ?_
  obtain rfl := some_inj h25
  exact ⟨rfl, (.tuple #[(.agg #[(.string ⟨(([111, 114] : List UInt8)).toArray⟩), (vi 1), (vi 1), (vi 2)]), (.bool true)]), res_of (l := [.cell 2 173, .tmp 3]) (by kernel_rfl) (vs := [(.agg #[(.string ⟨(([111, 114] : List UInt8)).toArray⟩), (vi 1), (vi 1), (vi 2)]), (.bool true)]) ⟨b21, 0, rfl, run_loadVar' (t := 173) (g := true) (s := 4) (by kernel_rfl) hs28.at0 rfl (by decide), ⟨rfl, trivial⟩⟩, (.tuple #[(.agg #[(.string ⟨(([111, 114] : List UInt8)).toArray⟩), (vi 1), (vi 1), (vi 2)]), (.bool true)]), F0, rfl, hs28.clear, rfl⟩
 ·refine Sq (Rg [0, 1] ?_)
  refine Vs 2 ?_
  refine Nt ?_
  refine Cd h26 (fun hb29 h30 => ?_) (fun hb29 h31 => ?_)
  ·refine Sq (Rg [0, 1, 2] ?_)
   refine Vs 1 ?_
   refine St0 #[(.string ⟨(([97, 110, 100] : List UInt8)).toArray⟩), (vi 2), (vi 2), (vi 3)] hs23 (fun w32 hs33 => ?_)
   refine Vs 1 ?_
   refine Nt ?_
   refine Rt ?_
   refine blockQ_ret ?_
   refine thenQ_ret ?_
   obtain rfl := some_inj h30
   exact ⟨rfl, (.tuple #[(.agg #[(.string ⟨(([97, 110, 100] : List UInt8)).toArray⟩), (vi 2), (vi 2), (vi 3)]), (.bool true)]), res_of (l := [.cell 2 173, .tmp 3]) (by kernel_rfl) (vs := [(.agg #[(.string ⟨(([97, 110, 100] : List UInt8)).toArray⟩), (vi 2), (vi 2), (vi 3)]), (.bool true)]) ⟨b21, 0, rfl, run_loadVar' (t := 173) (g := true) (s := 4) (by kernel_rfl) hs33.at0 rfl (by decide), ⟨rfl, trivial⟩⟩, (.tuple #[(.agg #[(.string ⟨(([97, 110, 100] : List UInt8)).toArray⟩), (vi 2), (vi 2), (vi 3)]), (.bool true)]), F0, rfl, hs33.clear, rfl⟩
  ·refine Sq (Rg [0, 1] ?_)
   refine Vs 2 ?_
   refine Nt ?_
   refine Cd h31 (fun hb34 h35 => ?_) (fun hb34 h36 => ?_)
   ·refine Sq (Rg [0, 1, 2] ?_)
    refine Vs 1 ?_
    refine St0 #[(.string ⟨(([61] : List UInt8)).toArray⟩), (vi 4), (vi 5), (vi 5)] hs23 (fun w37 hs38 => ?_)
    refine Vs 1 ?_
    refine Nt ?_
    refine Rt ?_
    refine blockQ_ret ?_
    refine thenQ_ret ?_
    obtain rfl := some_inj h35
    exact ⟨rfl, (.tuple #[(.agg #[(.string ⟨(([61] : List UInt8)).toArray⟩), (vi 4), (vi 5), (vi 5)]), (.bool true)]), res_of (l := [.cell 2 173, .tmp 3]) (by kernel_rfl) (vs := [(.agg #[(.string ⟨(([61] : List UInt8)).toArray⟩), (vi 4), (vi 5), (vi 5)]), (.bool true)]) ⟨b21, 0, rfl, run_loadVar' (t := 173) (g := true) (s := 4) (by kernel_rfl) hs38.at0 rfl (by decide), ⟨rfl, trivial⟩⟩, (.tuple #[(.agg #[(.string ⟨(([61] : List UInt8)).toArray⟩), (vi 4), (vi 5), (vi 5)]), (.bool true)]), F0, rfl, hs38.clear, rfl⟩
   ·refine Sq (Rg [0, 1] ?_)
    refine Vs 2 ?_
    refine Nt ?_
    refine Cd h36 (fun hb39 h40 => ?_) (fun hb39 h41 => ?_)
    ·refine Sq (Rg [0, 1, 2] ?_)
     refine Vs 1 ?_
     refine St0 #[(.string ⟨(([60] : List UInt8)).toArray⟩), (vi 4), (vi 5), (vi 5)] hs23 (fun w42 hs43 => ?_)
     refine Vs 1 ?_
     refine Nt ?_
     refine Rt ?_
     refine blockQ_ret ?_
     refine thenQ_ret ?_
     obtain rfl := some_inj h40
     exact ⟨rfl, (.tuple #[(.agg #[(.string ⟨(([60] : List UInt8)).toArray⟩), (vi 4), (vi 5), (vi 5)]), (.bool true)]), res_of (l := [.cell 2 173, .tmp 3]) (by kernel_rfl) (vs := [(.agg #[(.string ⟨(([60] : List UInt8)).toArray⟩), (vi 4), (vi 5), (vi 5)]), (.bool true)]) ⟨b21, 0, rfl, run_loadVar' (t := 173) (g := true) (s := 4) (by kernel_rfl) hs43.at0 rfl (by decide), ⟨rfl, trivial⟩⟩, (.tuple #[(.agg #[(.string ⟨(([60] : List UInt8)).toArray⟩), (vi 4), (vi 5), (vi 5)]), (.bool true)]), F0, rfl, hs43.clear, rfl⟩
    ·refine Sq (Rg [0, 1] ?_)
     refine Vs 2 ?_
     refine Nt ?_
     refine Cd h41 (fun hb44 h45 => ?_) (fun hb44 h46 => ?_)
     ·refine Sq (Rg [0, 1, 2] ?_)
      refine Vs 1 ?_
      refine St0 #[(.string ⟨(([43] : List UInt8)).toArray⟩), (vi 5), (vi 5), (vi 6)] hs23 (fun w47 hs48 => ?_)
      refine Vs 1 ?_
      refine Nt ?_
      refine Rt ?_
      refine blockQ_ret ?_
      refine thenQ_ret ?_
      obtain rfl := some_inj h45
      exact ⟨rfl, (.tuple #[(.agg #[(.string ⟨(([43] : List UInt8)).toArray⟩), (vi 5), (vi 5), (vi 6)]), (.bool true)]), res_of (l := [.cell 2 173, .tmp 3]) (by kernel_rfl) (vs := [(.agg #[(.string ⟨(([43] : List UInt8)).toArray⟩), (vi 5), (vi 5), (vi 6)]), (.bool true)]) ⟨b21, 0, rfl, run_loadVar' (t := 173) (g := true) (s := 4) (by kernel_rfl) hs48.at0 rfl (by decide), ⟨rfl, trivial⟩⟩, (.tuple #[(.agg #[(.string ⟨(([43] : List UInt8)).toArray⟩), (vi 5), (vi 5), (vi 6)]), (.bool true)]), F0, rfl, hs48.clear, rfl⟩
     ·refine Sq (Rg [0, 1] ?_)
      refine Vs 2 ?_
      refine Nt ?_
      refine Cd h46 (fun hb49 h50 => ?_) (fun hb49 h51 => ?_)
      ·refine Sq (Rg [0, 1, 2] ?_)
       refine Vs 1 ?_
       refine St0 #[(.string ⟨(([45] : List UInt8)).toArray⟩), (vi 5), (vi 5), (vi 6)] hs23 (fun w52 hs53 => ?_)
       refine Vs 1 ?_
       refine Nt ?_
       refine Rt ?_
       refine blockQ_ret ?_
       refine thenQ_ret ?_
       obtain rfl := some_inj h50
       exact ⟨rfl, (.tuple #[(.agg #[(.string ⟨(([45] : List UInt8)).toArray⟩), (vi 5), (vi 5), (vi 6)]), (.bool true)]), res_of (l := [.cell 2 173, .tmp 3]) (by kernel_rfl) (vs := [(.agg #[(.string ⟨(([45] : List UInt8)).toArray⟩), (vi 5), (vi 5), (vi 6)]), (.bool true)]) ⟨b21, 0, rfl, run_loadVar' (t := 173) (g := true) (s := 4) (by kernel_rfl) hs53.at0 rfl (by decide), ⟨rfl, trivial⟩⟩, (.tuple #[(.agg #[(.string ⟨(([45] : List UInt8)).toArray⟩), (vi 5), (vi 5), (vi 6)]), (.bool true)]), F0, rfl, hs53.clear, rfl⟩
      ·refine Sq (Rg [0, 1] ?_)
       refine Vs 2 ?_
       refine Nt ?_
       refine Cd h51 (fun hb54 h55 => ?_) (fun hb54 h56 => ?_)
       ·refine Sq (Rg [0, 1, 2] ?_)
        refine Vs 1 ?_
        refine St0 #[(.string ⟨(([42] : List UInt8)).toArray⟩), (vi 6), (vi 6), (vi 7)] hs23 (fun w57 hs58 => ?_)
        refine Vs 1 ?_
        refine Nt ?_
        refine Rt ?_
        refine blockQ_ret ?_
        refine thenQ_ret ?_
        obtain rfl := some_inj h55
        exact ⟨rfl, (.tuple #[(.agg #[(.string ⟨(([42] : List UInt8)).toArray⟩), (vi 6), (vi 6), (vi 7)]), (.bool true)]), res_of (l := [.cell 2 173, .tmp 3]) (by kernel_rfl) (vs := [(.agg #[(.string ⟨(([42] : List UInt8)).toArray⟩), (vi 6), (vi 6), (vi 7)]), (.bool true)]) ⟨b21, 0, rfl, run_loadVar' (t := 173) (g := true) (s := 4) (by kernel_rfl) hs58.at0 rfl (by decide), ⟨rfl, trivial⟩⟩, (.tuple #[(.agg #[(.string ⟨(([42] : List UInt8)).toArray⟩), (vi 6), (vi 6), (vi 7)]), (.bool true)]), F0, rfl, hs58.clear, rfl⟩
       ·refine Sc ?_
        refine blockQ_nrm ?_
        refine thenQ_nrm ?_
        refine Sq (Rg [0, 1, 2] ?_)
        refine Vs 1 ?_
        refine St0 #[(.string ⟨(([] : List UInt8)).toArray⟩), (vi 0), (vi 0), (vi 0)] hs23 (fun w59 hs60 => ?_)
        refine Vs 1 ?_
        refine Nt ?_
        refine Rt ?_
        obtain rfl := some_inj h56
        exact ⟨rfl, (.tuple #[(.agg #[(.string ⟨(([] : List UInt8)).toArray⟩), (vi 0), (vi 0), (vi 0)]), (.bool false)]), res_of (l := [.cell 2 173, .tmp 3]) (by kernel_rfl) (vs := [(.agg #[(.string ⟨(([] : List UInt8)).toArray⟩), (vi 0), (vi 0), (vi 0)]), (.bool false)]) ⟨b21, 0, rfl, run_loadVar' (t := 173) (g := true) (s := 4) (by kernel_rfl) hs60.at0 rfl (by decide), ⟨rfl, trivial⟩⟩, (.tuple #[(.agg #[(.string ⟨(([] : List UInt8)).toArray⟩), (vi 0), (vi 0), (vi 0)]), (.bool false)]), F0, rfl, hs60.clear, rfl⟩
end Go.Proofs.YtaihlcdkcampbaaGreatDoor
namespace Go.Proofs.YtaihlcdkcampbaaGreatDoor
open Go.Proofs
def Self97 (sR97 : Expr → Int → Option (List UInt8)) : Prop := ∀ (w0 : World) (F0 : Mem) (hF : ∀ b o, F0 b = some o → w0.heap[b]? = some o) (hG : Glob F0) (x0 : Expr) (a0_2 : Option Addr) (n0_2 : Nat) (hb0_2 : LC x0.Kids.length n0_2) (hs0_2 : SlA tExpr F0 a0_2 x0.Kids) (x1 : Int) (r : (List UInt8)), sR97 x0 x1 = some r → Calls Tryz.prog 97 ([(.agg #[(.int .i64 x0.Op), (.int .i64 x0.Value), (.slice a0_2 x0.Kids.length n0_2)]), (.int .i64 x1)] : List Value).toArray w0 (FRet w0 F0 fun F' v => v = (.string ⟨(r).toArray⟩))
theorem co_rules_printed : CallOk Tryz.prog 97 := fun _ _ => by kernel_rfl
end Go.Proofs.YtaihlcdkcampbaaGreatDoor
namespace Go.Proofs.YtaihlcdkcampbaaGreatDoor
open Go.Proofs
def rules_printed_S (N : Nat) (sR97 : Expr → Int → Option (List UInt8)) (x0 : Expr) (x1 : Int) : Option (List UInt8) :=
 ((rules_signOf N x0.Op).bind fun r24 => ((bif r24.2 then (((idx x0.Kids 0).bind fun x62 => ((idx x0.Kids 1).bind fun x76 => ((sR97 x62 r24.1.left_).bind fun r82 => ((sadd r82 ([32] : List UInt8)).bind fun r90 => ((sadd r90 r24.1.text_).bind fun r93 => ((sadd r93 ([32] : List UInt8)).bind fun r96 => ((sR97 x76 r24.1.right_).bind fun r99 => ((sadd r96 r99).bind fun r107 => some r107)))))))).bind fun j55 => some (r24.1.rank_, j55)) else ((bif (x0.Op == 1) then ((strconv_Itoa N x0.Value).bind fun r123 => some (7, r123)) else ((bif (x0.Op == 2) then (((rules_names N ).bind fun r156 => ((idx r156 x0.Value).bind fun x164 => some x164)).bind fun j149 => some (7, j149)) else ((bif (x0.Op == 3) then ((idx x0.Kids 0).bind fun x191 => ((sR97 x191 3).bind fun r205 => ((sadd ([110, 111, 116, 32] : List UInt8) r205).bind fun r213 => some (3, r213)))) else (bif (x0.Op == 11) then none else some (7, ([] : List UInt8)))).bind fun j181 => some (j181.1, j181.2))).bind fun j134 => some (j134.1, j134.2))).bind fun j113 => some (j113.1, j113.2))).bind fun j40 => (bif (decide (j40.1 < x1)) then ((sadd ([40] : List UInt8) j40.2).bind fun r222 => ((sadd r222 ([41] : List UInt8)).bind fun r225 => some r225)) else some j40.2)))
theorem cS_rules_printed (N : Nat) (sR97 : Expr → Int → Option (List UInt8)) (hsR97 : Self97 sR97) (w0 : World) (F0 : Mem) (hF : ∀ b o, F0 b = some o → w0.heap[b]? = some o) (hG : Glob F0) (x0 : Expr) (a0_2 : Option Addr) (n0_2 : Nat) (hb0_2 : LC x0.Kids.length n0_2) (hs0_2 : SlA tExpr F0 a0_2 x0.Kids) (x1 : Int) (r : (List UInt8)) (h : rules_printed_S N sR97 x0 x1 = some r) :
  Calls Tryz.prog 97 ([(.agg (kExpr x0 a0_2 n0_2)), (vi x1)] : List Value).toArray w0 (FRet w0 F0 fun F' v => v = (.string ⟨(r).toArray⟩)) := by
 have hs0 := HS.start hF
 refine Go 97 Tryz.func97 ?_
 refine Sq (Rg [0, 1] ?_)
 refine Bx' 33 (kExpr x0 a0_2 n0_2) hs0 (fun b21 w22 hs23 => ?_)
 refine Vs 1 ?_
 refine Nss (Rg [0, 1] ?_)
 refine Vs 2 ?_
 refine Nss (Rg [0, 1, 2, 3, 4, 5, 6, 7, 8] ?_)
 refine Vs 1 ?_
 refine Ld hs23.at0 ?_
 obtain ⟨r24, hr25, h26⟩ := bind_some h
 refine Cl' co_rules_signOf hs23 (c_rules_signOf N w22 F0 hs23.pers (x0.Op) _ hr25) ?_
 rintro _ F1 w28 hs29 le30 rfl
 refine Vs 3 ?_
 refine Al' 173 #[(.string ⟨(([] : List UInt8)).toArray⟩), (vi 0), (vi 0), (vi 0)] hs29 (fun b32 w33 hs34 => ?_)
 refine St0 (krules_sign r24.1) hs34 (fun w35 hs36 => ?_)
 refine Vs 1 ?_
 refine Nss ?_
 refine Bk ?_
 refine Sq (Rg [0, 1] ?_)
 refine Vs 2 ?_
 refine Nt ?_
 obtain ⟨j40, hj45, h46⟩ := bind_some h26
 refine CWP.cut (fun f w => ∃ (F2 : Mem), HS w0 F0 w F2 [] ∧ Mem.le F1 F2 ∧ FI f [] [(1, (vi x1)), (5, (vi j40.1)), (6, (.string ⟨(j40.2).toArray⟩))]) ?_ ?_
 ·refine Cd hj45 (fun hb47 h48 => ?_) (fun hb47 h49 => ?_)
  ·obtain ⟨j55, hj60, h61⟩ := bind_some h48
   refine RD 24 24 [(sb b32 (krules_sign r24.1) 173), (sb b21 (kExpr x0 a0_2 n0_2) 33)] [] hs36 (fun f w => ∃ (F3 : Mem), HS w0 F0 w F3 [] ∧ Mem.le F1 F3 ∧ FI f [] [(1, (vi x1)), (5, (vi r24.1.rank_)), (6, (.string ⟨(j55).toArray⟩))]) (fun wd50 hw51 => ?_) ?_
   ·refine Dvl [0] [tt, ff, ff, ff, ff, ff, ff, ff, ff, ff, ff, ff, ff, ff, ff, ff, ff, ff, ff, ff, ff, ff, ff, ff] ?_
    refine Dl 1 (fun _ hq => (hq.1.2 0 _ _ rfl)) ?_
    refine Dvl [2] [tt, tt, tt, ff, ff, ff, ff, ff, ff, ff, ff, ff, ff, ff, ff, ff, ff, ff, ff, ff, ff, ff, ff, ff] ?_
    refine Dl 3 (fun _ hq => (hq.1.2 1 _ _ rfl)) ?_
    obtain ⟨x62, hx63, h65⟩ := bind_some hj60
    obtain ⟨hi64, hx63'⟩ := idx_spec hx63
    obtain ⟨b66, o67, C68, E69, fz70, rfl, hF72, hE73⟩ := SlA.open (SlA.mono hs0_2 le30) hx63'
    obtain ⟨ae74_2, ne74_2, hc75, hbe74_2, hse74_2⟩ := (tExpr_open (hE73 _ _ hx63'))
    refine Di 4 hi64 ?_
    refine Dx 5 0 (fun _ hq => hq.1.1 _ _ hF72) hc75 ?_
    refine Dvl [6] [tt, tt, tt, tt, tt, tt, tt, ff, ff, ff, ff, ff, ff, ff, ff, ff, ff, ff, ff, ff, ff, ff, ff, ff] ?_
    refine Dl 7 (fun _ hq => (hq.1.2 0 _ _ rfl)) ?_
    refine Dvl [10] [tt, tt, tt, tt, tt, tt, tt, tt, ff, ff, tt, ff, ff, ff, ff, ff, ff, ff, ff, ff, ff, ff, ff, ff] ?_
    refine Dl 11 (fun _ hq => (hq.1.2 0 _ _ rfl)) ?_
    refine Dvl [14] [tt, tt, tt, tt, tt, tt, tt, tt, ff, ff, tt, tt, ff, ff, tt, ff, ff, ff, ff, ff, ff, ff, ff, ff] ?_
    refine Dl 15 (fun _ hq => (hq.1.2 1 _ _ rfl)) ?_
    obtain ⟨x76, hx77, h79⟩ := bind_some h65
    obtain ⟨hi78, hx77'⟩ := idx_spec hx77
    obtain ⟨ae80_2, ne80_2, hc81, hbe80_2, hse80_2⟩ := (tExpr_open (hE73 _ _ hx77'))
    refine Di 16 hi78 ?_
    refine Dx 17 0 (fun _ hq => hq.1.1 _ _ hF72) hc81 ?_
    refine Dvl [18] [tt, tt, tt, tt, tt, tt, tt, tt, ff, ff, tt, tt, ff, ff, tt, tt, tt, tt, tt, ff, ff, ff, ff, ff] ?_
    refine Dl 19 (fun _ hq => (hq.1.2 0 _ _ rfl)) ?_
    refine D1 8 ?_
    obtain ⟨r82, hr83, h84⟩ := bind_some h79
    refine DCl co_rules_printed hw51 (hsR97 wd50 F1 hw51.pers (hG.mono le30) (x62) ae74_2 ne74_2 hbe74_2 hse74_2 (r24.1.left_) _ hr83) ?_
    rintro _ F4 w86 hs87 le88 rfl
    obtain ⟨r90, hr91, h92⟩ := bind_some h84
    refine Dtl 9 26 9 (.string ⟨(r90).toArray⟩) [tt, tt, tt, tt, tt, tt, tt, tt, tt, tt, tt, tt, ff, ff, tt, tt, tt, tt, tt, tt, ff, ff, ff, ff] (fun _ hq => run_sadd (t := 9) (t' := 9) (x := (.tmp 25)) (y := (.const (.string ⟨([32] : List UInt8).toArray⟩))) (a := r82) (b := ([32] : List UInt8)) (v := r90) rfl rfl hr91) ?_
    obtain ⟨r93, hr94, h95⟩ := bind_some h92
    refine Dtl 12 29 9 (.string ⟨(r93).toArray⟩) [tt, tt, tt, tt, tt, tt, tt, tt, tt, tt, tt, tt, tt, ff, tt, tt, tt, tt, tt, tt, ff, ff, ff, ff] (fun _ hq => run_sadd (t := 9) (t' := 9) (x := (.tmp 26)) (y := (.tmp 28)) (a := r90) (b := r24.1.text_) (v := r93) rfl rfl hr94) ?_
    obtain ⟨r96, hr97, h98⟩ := bind_some h95
    refine Dtl 13 30 9 (.string ⟨(r96).toArray⟩) [tt, tt, tt, tt, tt, tt, tt, tt, tt, tt, tt, tt, tt, tt, tt, tt, tt, tt, tt, tt, ff, ff, ff, ff] (fun _ hq => run_sadd (t := 9) (t' := 9) (x := (.tmp 29)) (y := (.const (.string ⟨([32] : List UInt8).toArray⟩))) (a := r93) (b := ([32] : List UInt8)) (v := r96) rfl rfl hr97) ?_
    refine D1 20 ?_
    obtain ⟨r99, hr100, h101⟩ := bind_some h98
    refine DCl co_rules_printed hs87 (hsR97 w86 F4 hs87.pers (hG.mono (le30.trans le88)) (x76) ae80_2 ne80_2 hbe80_2 (SlA.mono hse80_2 le88) (r24.1.right_) _ hr100) ?_
    rintro _ F5 w103 hs104 le105 rfl
    obtain ⟨r107, hr108, h109⟩ := bind_some h101
    refine Dtl 21 38 9 (.string ⟨(r107).toArray⟩) [tt, tt, tt, tt, tt, tt, tt, tt, tt, tt, tt, tt, tt, tt, tt, tt, tt, tt, tt, tt, tt, tt, ff, ff] (fun _ hq => run_sadd (t := 9) (t' := 9) (x := (.tmp 30)) (y := (.tmp 37)) (a := r96) (b := r99) (v := r107) rfl rfl hr108) ?_
    refine Dvl [22, 23] [tt, tt, tt, tt, tt, tt, tt, tt, tt, tt, tt, tt, tt, tt, tt, tt, tt, tt, tt, tt, tt, tt, tt, tt] ?_
    obtain rfl := some_inj h109
    exact DWP.done (by kernel_rfl) ⟨F5, hs104.dr0.dr0, (le88.trans le105), fI⟩
   ·rintro f w52 ⟨F3, hs53, le54, ⟨_, rfl⟩⟩
    obtain rfl := some_inj h61
    exact .inl ⟨rfl, F3, hs53, le54, fI⟩
  ·refine Sq (Rg [0, 1, 2, 3] ?_)
   refine Vs 1 ?_
   refine Ld hs36.at1 ?_
   refine Vs 2 ?_
   refine Nt ?_
   obtain ⟨j113, hj118, h119⟩ := bind_some h49
   refine CWP.cut (fun f w => ∃ (F6 : Mem), HS w0 F0 w F6 [] ∧ Mem.le F1 F6 ∧ FI f [] [(1, (vi x1)), (5, (vi j113.1)), (6, (.string ⟨(j113.2).toArray⟩))]) ?_ ?_
   ·refine Cd hj118 (fun hb120 h121 => ?_) (fun hb120 h122 => ?_)
    ·refine Rg [0, 1, 2, 3] ?_
     refine Vs 1 ?_
     refine Ld hs36.at1 ?_
     obtain ⟨r123, hr124, h125⟩ := bind_some h121
     refine Cl' co_strconv_Itoa hs36 (c_strconv_Itoa N w35 F1 hs36.pers (hG.mono le30) (x0.Value) _ hr124) ?_
     rintro _ F7 w127 hs128 le129 rfl
     refine Vs 1 ?_
     refine RWP.nil ?_
     obtain rfl := some_inj h125
     exact .inl ⟨rfl, F7, hs128.dr0.dr0, le129, fI⟩
    ·refine Sq (Rg [0, 1, 2, 3] ?_)
     refine Vs 1 ?_
     refine Ld hs36.at1 ?_
     refine Vs 2 ?_
     refine Nt ?_
     obtain ⟨j134, hj139, h140⟩ := bind_some h122
     refine CWP.cut (fun f w => ∃ (F8 : Mem), HS w0 F0 w F8 [] ∧ Mem.le F1 F8 ∧ FI f [] [(1, (vi x1)), (5, (vi j134.1)), (6, (.string ⟨(j134.2).toArray⟩))]) ?_ ?_
     ·refine Cd hj139 (fun hb141 h142 => ?_) (fun hb141 h143 => ?_)
      ·obtain ⟨j149, hj154, h155⟩ := bind_some h142
       refine RD 6 6 [(sb b32 (krules_sign r24.1) 173), (sb b21 (kExpr x0 a0_2 n0_2) 33)] [] hs36 (fun f w => ∃ (F9 : Mem), HS w0 F0 w F9 [] ∧ Mem.le F1 F9 ∧ FI f [] [(1, (vi x1)), (5, (vi 7)), (6, (.string ⟨(j149).toArray⟩))]) (fun wd144 hw145 => ?_) ?_
       ·refine Dv [1] ?_
        refine Dl 2 (fun _ hq => (hq.1.2 1 _ _ rfl)) ?_
        refine D1 0 ?_
        obtain ⟨r156, hr157, h158⟩ := bind_some hj154
        refine DCl co_rules_names hw145 (c_rules_names N wd144 F1 hw145.pers  _ hr157) ?_
        rintro _ F10 w160 hs161 le162 ⟨ar156_0_0, nr156_0_0, rfl, hbr156_0_0, hsr156_0_0⟩
        obtain ⟨x164, hx165, h167⟩ := bind_some h158
        obtain ⟨hi166, hx165'⟩ := idx_spec hx165
        obtain ⟨b168, o169, C170, E171, fz172, rfl, hF174, hE175⟩ := SlA.open hsr156_0_0 hx165'
        have hc177 := hE175 _ _ hx165'
        refine Di 3 hi166 ?_
        refine D1 4 ?_
        refine DStep.val (l' := [true, true, true, true, true, false]) (zd := true) (by kernel_rfl) (by kernel_rfl) (dst := (some 54)) (ty := 9) (g := none) (by kernel_rfl) rfl (run_loadE (t := 9) (x := (.tmp 53)) (b := b168) (o := (o169 + (x0.Value : Int).toNat * 1)) (j := 0) (C := C170) (kk := 1) (cs := [(.string ⟨(x164).toArray⟩)]) (gg := false) (s := 1) (v := (.string ⟨(x164).toArray⟩)) rfl (by kernel_rfl) (hs161.pers _ _ hF174) hc177 (by decide) (by exact ⟨rfl, trivial⟩) rfl rfl) (dz_of hs161 le162 (by simp) (fun e => by cases e)) ?_
        refine Dv [5] ?_
        obtain rfl := some_inj h167
        exact DWP.done (by kernel_rfl) ⟨F10, hs161.dr0.dr0, le162, fI⟩
       ·rintro f w146 ⟨F9, hs147, le148, ⟨_, rfl⟩⟩
        obtain rfl := some_inj h155
        exact .inl ⟨rfl, F9, hs147, le148, fI⟩
      ·refine Sq (Rg [0, 1, 2, 3] ?_)
       refine Vs 1 ?_
       refine Ld hs36.at1 ?_
       refine Vs 2 ?_
       refine Nt ?_
       obtain ⟨j181, hj186, h187⟩ := bind_some h143
       refine CWP.cut (fun f w => ∃ (F11 : Mem), HS w0 F0 w F11 [] ∧ Mem.le F1 F11 ∧ FI f [] [(1, (vi x1)), (5, (vi j181.1)), (6, (.string ⟨(j181.2).toArray⟩))]) ?_ ?_
       ·refine Cd hj186 (fun hb188 h189 => ?_) (fun hb188 h190 => ?_)
        ·refine Rg [0, 1, 2, 3, 4, 5, 6, 7] ?_
         refine Vs 1 ?_
         refine Ld hs36.at1 ?_
         obtain ⟨x191, hx192, h194⟩ := bind_some h189
         obtain ⟨hi193, hx192'⟩ := idx_spec hx192
         obtain ⟨b195, o196, C197, E198, fz199, rfl, hF201, hE202⟩ := SlA.open (SlA.mono hs0_2 le30) hx192'
         obtain ⟨ae203_2, ne203_2, hc204, hbe203_2, hse203_2⟩ := (tExpr_open (hE202 _ _ hx192'))
         refine Ix hi193 ?_
         refine Lx 0 (hs36.pers _ _ hF201) hc204 ?_
         obtain ⟨r205, hr206, h207⟩ := bind_some h194
         refine Cl' co_rules_printed hs36 (hsR97 w35 F1 hs36.pers (hG.mono le30) (x191) ae203_2 ne203_2 hbe203_2 hse203_2 (3) _ hr206) ?_
         rintro _ F12 w209 hs210 le211 rfl
         obtain ⟨r213, hr214, h215⟩ := bind_some h207
         refine V 64 9 (run_sadd (t := 9) (t' := 9) (x := (.const (.string ⟨([110, 111, 116, 32] : List UInt8).toArray⟩))) (y := (.tmp 63)) (a := ([110, 111, 116, 32] : List UInt8)) (b := r205) (v := r213) rfl rfl hr214) ?_
         refine Vs 2 ?_
         refine RWP.nil ?_
         obtain rfl := some_inj h215
         exact .inl ⟨rfl, F12, hs210.dr0.dr0, le211, fI⟩
        ·refine Sq (Rg [0, 1, 2, 3] ?_)
         refine Vs 1 ?_
         refine Ld hs36.at1 ?_
         refine Vs 2 ?_
         refine Nt ?_
         refine Cd h190 (fun hb216 h217 => ?_) (fun hb216 h218 => ?_)
         ·cases h217
         ·refine Sc ?_
          obtain rfl := some_inj h218
          exact .inl ⟨rfl, F1, hs36.dr0.dr0, (Mem.le.refl _), fI⟩
       ·rintro f w178 ⟨F11, hs179, le180, ⟨_, rfl⟩⟩
        obtain rfl := some_inj h187
        exact .inl ⟨rfl, F11, hs179, le180, fI⟩
     ·rintro f w131 ⟨F8, hs132, le133, ⟨_, rfl⟩⟩
      obtain rfl := some_inj h140
      exact .inl ⟨rfl, F8, hs132, le133, fI⟩
   ·rintro f w110 ⟨F6, hs111, le112, ⟨_, rfl⟩⟩
    obtain rfl := some_inj h119
    exact .inl ⟨rfl, F6, hs111, le112, fI⟩
 ·rintro f w37 ⟨F2, hs38, le39, ⟨_, rfl⟩⟩
  refine blockQ_nrm ?_
  refine thenQ_nrm ?_
  refine Sq ?_
  refine Sq (Rg [0, 1, 2] ?_)
  refine Vs 3 ?_
  refine Nt ?_
  refine Cd h46 (fun hb219 h220 => ?_) (fun hb219 h221 => ?_)
  ·refine Sq (Rg [0, 1, 2, 3] ?_)
   refine Vs 1 ?_
   obtain ⟨r222, hr223, h224⟩ := bind_some h220
   refine V 94 9 (run_sadd (t := 9) (t' := 9) (x := (.const (.string ⟨([40] : List UInt8).toArray⟩))) (y := (.tmp 93)) (a := ([40] : List UInt8)) (b := j40.2) (v := r222) rfl rfl hr223) ?_
   obtain ⟨r225, hr226, h227⟩ := bind_some h224
   refine V 95 9 (run_sadd (t := 9) (t' := 9) (x := (.tmp 94)) (y := (.const (.string ⟨([41] : List UInt8).toArray⟩))) (a := r222) (b := ([41] : List UInt8)) (v := r225) rfl rfl hr226) ?_
   refine Vs 1 ?_
   refine Nt ?_
   refine Rt ?_
   refine thenQ_ret ?_
   obtain rfl := some_inj h227
   exact Re [(.string ⟨(r225).toArray⟩)] hs38 rfl
  ·refine Sc ?_
   refine thenQ_nrm ?_
   refine Sq (Rg [0, 1] ?_)
   refine Vs 2 ?_
   refine Nt ?_
   refine Rt ?_
   obtain rfl := some_inj h221
   exact Re [(.string ⟨(j40.2).toArray⟩)] hs38 rfl
end Go.Proofs.YtaihlcdkcampbaaGreatDoor
namespace Go.Proofs.YtaihlcdkcampbaaGreatDoor
open Go.Proofs
structure Rec97 where
 q97 : Expr → Int → Option (List UInt8)
def rec97 (N : Nat) : Nat → Rec97
 | 0 => ⟨fun _ _ => none⟩
 | k + 1 => ⟨rules_printed_S N (rec97 N k).q97⟩
theorem rec97_ok (N : Nat) : ∀ k, Self97 (rec97 N k).q97
 | 0 => (by unfold Self97; intros; rename_i h; cases h)
 | k + 1 => by
  have ih := rec97_ok N k
  exact @cS_rules_printed N (rec97 N k).q97 ih
def rules_printed (N : Nat) (x0 : Expr) (x1 : Int) : Option (List UInt8) := (rec97 N N).q97 x0 x1
theorem c_rules_printed (N : Nat) (w0 : World) (F0 : Mem) (hF : ∀ b o, F0 b = some o → w0.heap[b]? = some o) (hG : Glob F0) (x0 : Expr) (a0_2 : Option Addr) (n0_2 : Nat) (hb0_2 : LC x0.Kids.length n0_2) (hs0_2 : SlA tExpr F0 a0_2 x0.Kids) (x1 : Int) (r : (List UInt8)) (h : rules_printed N x0 x1 = some r) :
  Calls Tryz.prog 97 ([(.agg #[(.int .i64 x0.Op), (.int .i64 x0.Value), (.slice a0_2 x0.Kids.length n0_2)]), (.int .i64 x1)] : List Value).toArray w0 (FRet w0 F0 fun F' v => v = (.string ⟨(r).toArray⟩)) := (rec97_ok N N) w0 F0 hF hG x0 a0_2 n0_2 hb0_2 hs0_2 x1 r h
end Go.Proofs.YtaihlcdkcampbaaGreatDoor
namespace Go.Proofs.YtaihlcdkcampbaaGreatDoor
open Go.Proofs
def rules_PrintExpr (N : Nat) (x0 : Expr) : Option ((List UInt8) × Int) :=
 ((rules_sound N x0).bind fun r24 => (bif (!r24) then some (([] : List UInt8), 61) else ((rules_printed N x0 1).bind fun r35 => some (r35, 0))))
theorem co_rules_PrintExpr : CallOk Tryz.prog 33 := fun _ _ => by kernel_rfl
theorem c_rules_PrintExpr (N : Nat) (w0 : World) (F0 : Mem) (hF : ∀ b o, F0 b = some o → w0.heap[b]? = some o) (hG : Glob F0) (x0 : Expr) (a0_2 : Option Addr) (n0_2 : Nat) (hb0_2 : LC x0.Kids.length n0_2) (hs0_2 : SlA tExpr F0 a0_2 x0.Kids) (r : ((List UInt8) × Int)) (h : rules_PrintExpr N x0 = some r) :
  Calls Tryz.prog 33 ([(.agg (kExpr x0 a0_2 n0_2))] : List Value).toArray w0 (FRet w0 F0 fun F' v => v = (.tuple #[(.string ⟨(r.1).toArray⟩), (vi r.2)])) := by
 have hs0 := HS.start hF
 refine Go 9 Tryz.func33 ?_
 refine Sq (Rg [0, 1, 2] ?_)
 refine Bx' 33 (kExpr x0 a0_2 n0_2) hs0 (fun b21 w22 hs23 => ?_)
 refine Vs 2 ?_
 refine Nss ?_
 refine Sq (Rg [0, 1, 2] ?_)
 refine Ld hs23.at0 ?_
 obtain ⟨r24, hr25, h26⟩ := bind_some h
 refine Cl' co_rules_sound hs23 (c_rules_sound N w22 F0 hs23.pers (x0) a0_2 n0_2 hb0_2 hs0_2 _ hr25) ?_
 rintro _ F1 w28 hs29 le30 rfl
 refine Vs 1 ?_
 refine Nt ?_
 refine Cd h26 (fun hb32 h33 => ?_) (fun hb32 h34 => ?_)
 ·refine Sq (Rg [0, 1] ?_)
  refine Vs 2 ?_
  refine Nt ?_
  refine Rt ?_
  refine thenQ_ret ?_
  obtain rfl := some_inj h33
  exact Re [(.string ⟨(([] : List UInt8)).toArray⟩), (vi 61)] hs29 rfl
 ·refine Sc ?_
  refine thenQ_nrm ?_
  refine Sq (Rg [0, 1, 2, 3] ?_)
  refine Ld hs29.at0 ?_
  obtain ⟨r35, hr36, h37⟩ := bind_some h34
  refine Cl' co_rules_printed hs29 (c_rules_printed N w28 F1 hs29.pers (hG.mono le30) (x0) a0_2 n0_2 hb0_2 (SlA.mono hs0_2 le30) (1) _ hr36) ?_
  rintro _ F2 w39 hs40 le41 rfl
  refine Vs 2 ?_
  refine Nt ?_
  refine Rt ?_
  obtain rfl := some_inj h37
  exact Re [(.string ⟨(r35).toArray⟩), (vi 0)] hs40 rfl
end Go.Proofs.YtaihlcdkcampbaaGreatDoor
namespace Go.Proofs.YtaihlcdkcampbaaGreatDoor
open Go.Proofs
def rules_Points (N : Nat) (x0 : Book) (x1 : (List Int)) : Option (Int × Int) :=
 ((rules_wrong N x0 x1).bind fun r24 => (bif (r24 != 0) then some (0, r24) else ((rules_first N x0.Points x1).bind fun r35 => (bif (decide (r35 < 0)) then some (0, 70) else ((idx x0.Points r35).bind fun x46 => ((rules_value N x46.Then x1).bind fun r60 => some (r60, 0)))))))
theorem co_rules_Points : CallOk Tryz.prog 41 := fun _ _ => by kernel_rfl
theorem c_rules_Points (N : Nat) (w0 : World) (F0 : Mem) (hF : ∀ b o, F0 b = some o → w0.heap[b]? = some o) (x0 : Book) (a0_0 : Option Addr) (n0_0 : Nat) (hb0_0 : LC x0.Points.length n0_0) (hs0_0 : SlA tClause F0 a0_0 x0.Points) (a0_1 : Option Addr) (n0_1 : Nat) (hb0_1 : LC x0.Multipliers.length n0_1) (hs0_1 : SlA tClause F0 a0_1 x0.Multipliers) (a0_2 : Option Addr) (n0_2 : Nat) (hb0_2 : LC x0.Penalties.length n0_2) (hs0_2 : SlA tClause F0 a0_2 x0.Penalties) (a0_3 : Option Addr) (n0_3 : Nat) (hb0_3 : LC x0.Repeats.length n0_3) (hs0_3 : SlA tExpr F0 a0_3 x0.Repeats) (x1 : (List Int)) (a1_0 : Option Addr) (n1_0 : Nat) (hb1_0 : LC x1.length n1_0) (hs1_0 : SlA tInt F0 a1_0 x1) (r : (Int × Int)) (h : rules_Points N x0 x1 = some r) :
  Calls Tryz.prog 41 ([(.agg (kBook x0 a0_0 n0_0 a0_1 n0_1 a0_2 n0_2 a0_3 n0_3)), (.slice a1_0 x1.length n1_0)] : List Value).toArray w0 (FRet w0 F0 fun F' v => v = (.tuple #[(vi r.1), (vi r.2)])) := by
 have hs0 := HS.start hF
 refine Go 28 Tryz.func41 ?_
 refine Sq (Rg [0, 1, 2] ?_)
 refine Bx' 26 (kBook x0 a0_0 n0_0 a0_1 n0_1 a0_2 n0_2 a0_3 n0_3) hs0 (fun b21 w22 hs23 => ?_)
 refine Vs 2 ?_
 refine Nss ?_
 refine Sq (Rg [0, 1, 2, 3] ?_)
 refine Ld hs23.at0 ?_
 refine Vs 1 ?_
 obtain ⟨r24, hr25, h26⟩ := bind_some h
 refine Cl' co_rules_wrong hs23 (c_rules_wrong N w22 F0 hs23.pers (x0) a0_0 n0_0 hb0_0 hs0_0 a0_1 n0_1 hb0_1 hs0_1 a0_2 n0_2 hb0_2 hs0_2 a0_3 n0_3 hb0_3 hs0_3 (x1) a1_0 n1_0 hb1_0 hs1_0 _ hr25) ?_
 rintro _ F1 w28 hs29 le30 rfl
 refine Vs 1 ?_
 refine Nss (Rg [0, 1] ?_)
 refine Vs 2 ?_
 refine Nt ?_
 refine Cd h26 (fun hb32 h33 => ?_) (fun hb32 h34 => ?_)
 ·refine Sq (Rg [0, 1, 2] ?_)
  refine Vs 3 ?_
  refine Nt ?_
  refine Rt ?_
  refine thenQ_ret ?_
  obtain rfl := some_inj h33
  exact Re [(vi 0), (vi r24)] hs29 rfl
 ·refine Sc ?_
  refine thenQ_nrm ?_
  refine Sq (Rg [0, 1, 2, 3, 4] ?_)
  refine Vs 1 ?_
  refine Ld hs29.at0 ?_
  refine Vs 1 ?_
  obtain ⟨r35, hr36, h37⟩ := bind_some h34
  refine Cl' co_rules_first hs29 (c_rules_first N w28 F1 hs29.pers (x0.Points) a0_0 n0_0 hb0_0 (SlA.mono hs0_0 le30) (x1) a1_0 n1_0 hb1_0 (SlA.mono hs1_0 le30) _ hr36) ?_
  rintro _ F2 w39 hs40 le41 rfl
  refine Vs 1 ?_
  refine Nss ?_
  refine Sq (Rg [0, 1] ?_)
  refine Vs 2 ?_
  refine Nt ?_
  refine Cd h37 (fun hb43 h44 => ?_) (fun hb43 h45 => ?_)
  ·refine Sq (Rg [0, 1] ?_)
   refine Vs 2 ?_
   refine Nt ?_
   refine Rt ?_
   refine thenQ_ret ?_
   obtain rfl := some_inj h44
   exact Re [(vi 0), (vi 70)] hs40 rfl
  ·refine Sc ?_
   refine thenQ_nrm ?_
   refine Sq (Rg [0, 1, 2, 3, 4, 5, 6, 7, 8, 9] ?_)
   refine Vs 1 ?_
   refine Ld hs40.at0 ?_
   refine Vs 1 ?_
   obtain ⟨x46, hx47, h49⟩ := bind_some h45
   obtain ⟨hi48, hx47'⟩ := idx_spec hx47
   obtain ⟨b50, o51, C52, E53, fz54, rfl, hF56, hE57⟩ := SlA.open (SlA.mono hs0_0 (le30.trans le41)) hx47'
   obtain ⟨ae58_2, ne58_2, ae58_5, ne58_5, hc59, hbe58_2, hse58_2, hbe58_5, hse58_5⟩ := hE57 _ _ hx47'
   refine Ix hi48 ?_
   refine Vs 1 ?_
   refine Lx 3 (hs40.pers _ _ hF56) hc59 ?_
   refine Vs 1 ?_
   obtain ⟨r60, hr61, h62⟩ := bind_some h49
   refine Cl' co_rules_value hs40 (c_rules_value N w39 F2 hs40.pers (x46.Then) ae58_5 ne58_5 hbe58_5 hse58_5 (x1) a1_0 n1_0 hb1_0 (SlA.mono hs1_0 (le30.trans le41)) _ hr61) ?_
   rintro _ F3 w64 hs65 le66 rfl
   refine Vs 2 ?_
   refine Nt ?_
   refine Rt ?_
   obtain rfl := some_inj h62
   exact Re [(vi r60), (vi 0)] hs65 rfl
end Go.Proofs.YtaihlcdkcampbaaGreatDoor
namespace Go.Proofs.YtaihlcdkcampbaaGreatDoor
open Go.Proofs
def rules_parser_placed (N : Nat) (x0 : rules_parser) : Option (rules_bad ⊕ (rules_parser × rules_placed)) :=
 ((idx x0.l_ 0).bind fun x24 => ((rules_parser_expr N x0).bind fun r38 => sk r38 (fun b50 => some (.inl b50)) (fun r41 => some (.inr (r41.1, ({ Expr := r41.2, at_ := x24.at_ } : rules_placed))))))
theorem co_rules_parser_placed : CallOk Tryz.prog 86 := fun _ _ => by kernel_rfl
theorem c_rules_parser_placed (N : Nat) {wb w0 : World} {Fb F0 : Mem} {Lf : Own} (hG : Glob F0) (bp0 : Nat) (x0 : rules_parser) (a0_0 : Option Addr) (n0_0 : Nat) (hb0_0 : LC x0.l_.length n0_0) (hs0_0 : SlA trules_token F0 a0_0 x0.l_) (hs0 : HS wb Fb w0 F0 ((sb bp0 (krules_parser x0 a0_0 n0_0) 100) :: Lf)) (r : (rules_bad ⊕ (rules_parser × rules_placed))) (h : rules_parser_placed N x0 = some r) :
  Calls Tryz.prog 86 ([(pt bp0 0)] : List Value).toArray w0 (BRetP wb Fb F0 Lf r (fun b => (.iface 158 (.agg (krules_bad b)))) fun a F' v L' => ∃ (aq0_0 : Option Addr) (nq0_0 : Nat) (aq1_2 : Option Addr) (nq1_2 : Nat), v = (.agg (krules_placed a.2 aq1_2 nq1_2)) ∧ L' = (sb bp0 (krules_parser a.1 aq0_0 nq0_0) 100) :: Lf ∧ LC a.1.l_.length nq0_0 ∧ SlA trules_token F' aq0_0 a.1.l_ ∧ LC a.2.Expr.Kids.length nq1_2 ∧ SlA tExpr F' aq1_2 a.2.Expr.Kids) := by
 refine Go 15 Tryz.func86 ?_
 refine Sq (Rg [0] ?_)
 refine Al' 113 #[(vi 0), (vi 0), (.slice none ([] : List Expr).length 0), (vi 0)] hs0 (fun b21 w22 hs23 => ?_)
 refine Nss (Rg [0, 1, 2, 3, 4, 5, 6, 7] ?_)
 refine Vs 3 ?_
 refine Ld hs23.at1 ?_
 obtain ⟨x24, hx25, h27⟩ := bind_some h
 obtain ⟨hi26, hx25'⟩ := idx_spec hx25
 obtain ⟨b28, o29, C30, E31, fz32, rfl, hF34, hE35⟩ := SlA.open hs0_0 hx25'
 have hc37 := hE35 _ _ hx25'
 refine Ix hi26 ?_
 refine Vs 1 ?_
 refine Lx 1 (hs23.pers _ _ hF34) hc37 ?_
 refine Vs 1 ?_
 refine Nss (Rg [0, 1, 2, 3, 4] ?_)
 refine Vs 1 ?_
 obtain ⟨r38, hr39, h40⟩ := bind_some h27
 refine CP co_rules_parser_expr (c_rules_parser_expr N hG bp0 (x0) (some ⟨b28, o29, none⟩) n0_0 hb0_0 hs0_0 hs23.pk1 _ hr39) ?_ ?_
 ·rintro r41 _ F1 w43 _ rfl hs44 le45 ⟨ar41_0_0, nr41_0_0, ar41_1_2, nr41_1_2, rfl, rfl, hbr41_0_0, hsr41_0_0, hbr41_1_2, hsr41_1_2⟩
  have h47 := sk_r h40
  refine Vs 2 ?_
  refine St1 #[(vi r41.2.Op), (vi r41.2.Value), (.slice ar41_1_2 r41.2.Kids.length nr41_1_2), (vi x24.at_)] hs44 (fun w48 hs49 => ?_)
  refine Nt ?_
  refine Rt ?_
  obtain rfl := some_inj h47
  exact ⟨rfl, (.agg #[(vi r41.2.Op), (vi r41.2.Value), (.slice ar41_1_2 r41.2.Kids.length nr41_1_2), (vi x24.at_)]), res_of (l := [.cell 2 113]) (by kernel_rfl) (vs := [(.agg #[(vi r41.2.Op), (vi r41.2.Value), (.slice ar41_1_2 r41.2.Kids.length nr41_1_2), (vi x24.at_)])]) ⟨b21, 0, rfl, run_loadVar' (t := 113) (g := true) (s := 4) (by kernel_rfl) hs49.at1 rfl (by decide), trivial⟩, .inl ⟨_, F1, _, _, rfl, rfl, hs49.dr1, le45, ⟨ar41_0_0, nr41_0_0, ar41_1_2, nr41_1_2, rfl, rfl, hbr41_0_0, hsr41_0_0, hbr41_1_2, hsr41_1_2⟩⟩⟩
 ·rintro b50 F2 w51 rfl hs52 le53
  have h54 := sk_l h40
  refine thenQ_pan ?_
  obtain rfl := some_inj h54
  exact RePi hs52.dr0 le53
end Go.Proofs.YtaihlcdkcampbaaGreatDoor
namespace Go.Proofs.YtaihlcdkcampbaaGreatDoor
open Go.Proofs
def rules_parser_check (N : Nat) (x0 : rules_parser) (x1 : rules_placed) (x2 : Int) : Option (rules_bad ⊕ Unit) :=
 ((rules_kindOf N x1.Expr).bind fun r24 => ((rules_Depth N x1.Expr).bind fun r32 => (bif (decide (r32 > 32)) then ((rules_parser_fail N x0 2 x1.at_).bind fun r43 => sk r43 (fun b48 => some (.inl b48)) (fun r46 => none)) else (bif ((r24 == 0) || ((x2 != 0) && (r24 != x2))) then ((rules_parser_fail N x0 61 x1.at_).bind fun r66 => sk r66 (fun b71 => some (.inl b71)) (fun r69 => none)) else some (.inr ())))))
theorem co_rules_parser_check : CallOk Tryz.prog 88 := fun _ _ => by kernel_rfl
theorem c_rules_parser_check (N : Nat) {wb w0 : World} {Fb F0 : Mem} {Lf : Own} (bp0 : Nat) (x0 : rules_parser) (a0_0 : Option Addr) (n0_0 : Nat) (hb0_0 : LC x0.l_.length n0_0) (hs0_0 : SlA trules_token F0 a0_0 x0.l_) (x1 : rules_placed) (a1_2 : Option Addr) (n1_2 : Nat) (hb1_2 : LC x1.Expr.Kids.length n1_2) (hs1_2 : SlA tExpr F0 a1_2 x1.Expr.Kids) (x2 : Int) (hs0 : HS wb Fb w0 F0 ((sb bp0 (krules_parser x0 a0_0 n0_0) 100) :: Lf)) (r : (rules_bad ⊕ Unit)) (h : rules_parser_check N x0 x1 x2 = some r) :
  Calls Tryz.prog 88 ([(pt bp0 0), (.agg (krules_placed x1 a1_2 n1_2)), (vi x2)] : List Value).toArray w0 (BRetP wb Fb F0 Lf r (fun b => (.iface 158 (.agg (krules_bad b)))) fun a F' v L' => v = (.tuple #[]) ∧ L' = (sb bp0 (krules_parser x0 a0_0 n0_0) 100) :: Lf) := by
 refine Go 35 Tryz.func88 ?_
 refine Sq (Rg [0] ?_)
 refine Bx' 113 (krules_placed x1 a1_2 n1_2) hs0 (fun b21 w22 hs23 => ?_)
 refine Nss (Rg [0, 1, 2, 3] ?_)
 refine Vs 1 ?_
 refine Ld hs23.at0 ?_
 obtain ⟨r24, hr25, h26⟩ := bind_some h
 refine Cl' co_rules_kindOf hs23 (c_rules_kindOf N w22 F0 hs23.pers (x1.Expr) a1_2 n1_2 hb1_2 hs1_2 _ hr25) ?_
 rintro _ F1 w28 hs29 le30 rfl
 refine Vs 1 ?_
 refine Nt ?_
 refine Bk ?_
 refine Sq (Rg [0, 1, 2, 3, 4] ?_)
 refine Vs 1 ?_
 refine Ld hs29.at0 ?_
 obtain ⟨r32, hr33, h34⟩ := bind_some h26
 refine Cl' co_rules_Depth hs29 (c_rules_Depth N w28 F1 hs29.pers (x1.Expr) a1_2 n1_2 hb1_2 (SlA.mono hs1_2 le30) _ hr33) ?_
 rintro _ F2 w36 hs37 le38 rfl
 refine Vs 2 ?_
 refine Nt ?_
 refine Cd h34 (fun hb40 h41 => ?_) (fun hb40 h42 => ?_)
 ·refine Rg [0, 1, 2, 3] ?_
  refine Vs 2 ?_
  refine Ld hs37.at0 ?_
  obtain ⟨r43, hr44, h45⟩ := bind_some h41
  refine CP co_rules_parser_fail (c_rules_parser_fail N bp0 (x0) a0_0 n0_0 hb0_0 (SlA.mono hs0_0 (le30.trans le38)) (2) (x1.at_) hs37.pk1 _ hr44) ?_ ?_
  ·rintro _ _ _ _ _ rfl _ _ _; cases hr44
  ·rintro b48 F4 w49 rfl hs50 le51
   have h52 := sk_l h45
   refine blockQ_pan ?_
   obtain rfl := some_inj h52
   exact RePi hs50.dr0 ((le30.trans le38).trans le51)
 ·refine Sq (Rg [0, 1, 2, 3, 4, 5, 6, 7, 8, 9, 10, 11] ?_)
  refine RWP.cut (fun f w => ∃ (F5 : Mem), HS wb Fb w F5 ((sb b21 (krules_placed x1 a1_2 n1_2) 113) :: (sb bp0 (krules_parser x0 a0_0 n0_0) 100) :: Lf) ∧ Mem.le F2 F5 ∧ FI f [] [(0, (pt bp0 0)), (4, (pt b21 0)), (19, (.bool ((r24 == 0) || ((x2 != 0) && (r24 != x2)))))]) ?_ ?_
  ·refine Vs 3 ?_
   refine RWP.split (r24 == 0) (fun hb61 => ?_) (fun hb61 => ?_)
   ·refine Ss hb61 3 ?_
    refine Su' 3 ?_
    refine Ss hb61 1 ?_
    refine Pk1 hb61 ?_
    refine Vs 1 ?_
    exact RWP.nil ⟨rfl, F2, hs37, (Mem.le.refl _), (fJ ⟨rfl, rfl, (congrArg Value.bool (or_t hb61 (rfl))), trivial⟩)⟩
   ·refine Vgs hb61 3 ?_
    refine RWP.split (x2 != 0) (fun hb62 => ?_) (fun hb62 => ?_)
    ·refine Vgs hb62 3 ?_
     refine Pg1 hb61 hb62 ?_
     refine Pk0 hb61 ?_
     refine Vs 1 ?_
     exact RWP.nil ⟨rfl, F2, hs37, (Mem.le.refl _), (fJ ⟨rfl, rfl, (congrArg Value.bool (or_f hb61 (and_t hb62 (rfl)))), trivial⟩)⟩
    ·refine Ss hb62 3 ?_
     refine Pg0 hb61 hb62 ?_
     refine Pk0 hb61 ?_
     refine Vs 1 ?_
     exact RWP.nil ⟨rfl, F2, hs37, (Mem.le.refl _), (fJ ⟨rfl, rfl, (congrArg Value.bool (or_f hb61 (and_f hb62 (rfl)))), trivial⟩)⟩
  ·rintro f w54 ⟨F5, hs55, le56, ⟨_, rfl⟩⟩
   refine thenQ_nrm ?_
   refine Cd h42 (fun hb63 h64 => ?_) (fun hb63 h65 => ?_)
   ·refine Rg [0, 1, 2, 3] ?_
    refine Vs 2 ?_
    refine Ld hs55.at0 ?_
    obtain ⟨r66, hr67, h68⟩ := bind_some h64
    refine CP co_rules_parser_fail (c_rules_parser_fail N bp0 (x0) a0_0 n0_0 hb0_0 (SlA.mono hs0_0 ((le30.trans le38).trans le56)) (61) (x1.at_) hs55.pk1 _ hr67) ?_ ?_
    ·rintro _ _ _ _ _ rfl _ _ _; cases hr67
    ·rintro b71 F7 w72 rfl hs73 le74
     have h75 := sk_l h68
     refine blockQ_pan ?_
     obtain rfl := some_inj h75
     exact RePi hs73.dr0 (((le30.trans le38).trans le56).trans le74)
   ·refine Sc ?_
    refine blockQ_nrm ?_
    obtain rfl := some_inj h65
    exact ReP [] hs55.dr0 ((le30.trans le38).trans le56) ⟨rfl, rfl⟩
end Go.Proofs.YtaihlcdkcampbaaGreatDoor
namespace Go.Proofs.YtaihlcdkcampbaaGreatDoor
open Go.Proofs
def rules_ParseExpr_1 (N : Nat) (x0 : rules_parser) (z0 : rules_placed) : Option (rules_bad ⊕ (rules_parser × rules_placed)) :=
 ((rules_parser_placed N x0).bind fun r21 => sk r21 (fun b83 => some (.inl b83)) (fun r24 => ((idx r24.1.l_ 0).bind fun x33 => (bif (x33.kind_ != 0) then ((idx r24.1.l_ 0).bind fun x50 => ((rules_parser_fail N r24.1 60 x50.at_).bind fun r56 => sk r56 (fun b61 => some (.inl b61)) (fun r59 => none))) else ((rules_parser_check N r24.1 r24.2 0).bind fun r67 => sk r67 (fun b77 => some (.inl b77)) (fun r70 => some (.inr (r24.1, r24.2))))))))
theorem co_rules_ParseExpr_1 : CallOk Tryz.prog 85 := fun _ _ => by kernel_rfl
theorem c_rules_ParseExpr_1 (N : Nat) {wb w0 : World} {Fb F0 : Mem} {Lf : Own} (hG : Glob F0) (bp0 : Nat) (x0 : rules_parser) (a0_0 : Option Addr) (n0_0 : Nat) (hb0_0 : LC x0.l_.length n0_0) (hs0_0 : SlA trules_token F0 a0_0 x0.l_) (bz0 : Nat) (z0 : rules_placed) (az0_2 : Option Addr) (nz0_2 : Nat) (hbz0_2 : LC z0.Expr.Kids.length nz0_2) (hsz0_2 : SlA tExpr F0 az0_2 z0.Expr.Kids) (hs0 : HS wb Fb w0 F0 ((sb bp0 (krules_parser x0 a0_0 n0_0) 100) :: (sb bz0 (krules_placed z0 az0_2 nz0_2) 113) :: Lf)) (r : (rules_bad ⊕ (rules_parser × rules_placed))) (h : rules_ParseExpr_1 N x0 z0 = some r) :
  Calls Tryz.prog 85 ([(pt bp0 0), (pt bz0 0)] : List Value).toArray w0 (BRetP wb Fb F0 Lf r (fun b => (.iface 158 (.agg (krules_bad b)))) fun a F' v L' => ∃ (aq0_0 : Option Addr) (nq0_0 : Nat) (aq1_2 : Option Addr) (nq1_2 : Nat), v = (.tuple #[]) ∧ L' = (sb bp0 (krules_parser a.1 aq0_0 nq0_0) 100) :: (sb bz0 (krules_placed a.2 aq1_2 nq1_2) 113) :: Lf ∧ LC a.1.l_.length nq0_0 ∧ SlA trules_token F' aq0_0 a.1.l_ ∧ LC a.2.Expr.Kids.length nq1_2 ∧ SlA tExpr F' aq1_2 a.2.Expr.Kids) := by
 refine Go 25 Tryz.func85 ?_
 refine Sq (Rg [0, 1, 2] ?_)
 refine Vs 1 ?_
 obtain ⟨r21, hr22, h23⟩ := bind_some h
 refine CP co_rules_parser_placed (c_rules_parser_placed N hG bp0 (x0) a0_0 n0_0 hb0_0 hs0_0 hs0 _ hr22) ?_ ?_
 ·rintro r24 _ F1 w26 _ rfl hs27 le28 ⟨ar24_0_0, nr24_0_0, ar24_1_2, nr24_1_2, rfl, rfl, hbr24_0_0, hsr24_0_0, hbr24_1_2, hsr24_1_2⟩
  have h30 := sk_r h23
  refine St1 (krules_placed r24.2 ar24_1_2 nr24_1_2) hs27 (fun w31 hs32 => ?_)
  refine Nss ?_
  refine Sq (Rg [0, 1, 2, 3, 4, 5, 6, 7] ?_)
  refine Vs 3 ?_
  refine Ld hs32.at0 ?_
  obtain ⟨x33, hx34, h36⟩ := bind_some h30
  obtain ⟨hi35, hx34'⟩ := idx_spec hx34
  obtain ⟨b37, o38, C39, E40, fz41, rfl, hF43, hE44⟩ := SlA.open hsr24_0_0 hx34'
  have hc46 := hE44 _ _ hx34'
  refine Ix hi35 ?_
  refine Vs 1 ?_
  refine Lx 0 (hs32.pers _ _ hF43) hc46 ?_
  refine Vs 1 ?_
  refine Nt ?_
  refine Cd h36 (fun hb47 h48 => ?_) (fun hb47 h49 => ?_)
  ·refine Rg [0, 1, 2, 3, 4, 5, 6, 7, 8] ?_
   refine Vs 4 ?_
   refine Ld hs32.at0 ?_
   obtain ⟨x50, hx51, h53⟩ := bind_some h48
   obtain ⟨hi52, hx51'⟩ := idx_spec hx51
   have hc55 := hE44 _ _ hx51'
   refine Ix hi52 ?_
   refine Vs 1 ?_
   refine Lx 1 (hs32.pers _ _ hF43) hc55 ?_
   obtain ⟨r56, hr57, h58⟩ := bind_some h53
   refine CP co_rules_parser_fail (c_rules_parser_fail N bp0 (r24.1) (some ⟨b37, o38, none⟩) nr24_0_0 hbr24_0_0 hsr24_0_0 (60) (x50.at_) hs32 _ hr57) ?_ ?_
   ·rintro _ _ _ _ _ rfl _ _ _; cases hr57
   ·rintro b61 F3 w62 rfl hs63 le64
    have h65 := sk_l h58
    refine thenQ_pan ?_
    obtain rfl := some_inj h65
    exact RePi hs63.dr0 (le28.trans le64)
  ·refine Sc ?_
   refine thenQ_nrm ?_
   refine Rg [0, 1, 2] ?_
   refine Vs 1 ?_
   refine Ld hs32.at1 ?_
   obtain ⟨r67, hr68, h69⟩ := bind_some h49
   refine CP co_rules_parser_check (c_rules_parser_check N bp0 (r24.1) (some ⟨b37, o38, none⟩) nr24_0_0 hbr24_0_0 hsr24_0_0 (r24.2) ar24_1_2 nr24_1_2 hbr24_1_2 hsr24_1_2 (0) hs32 _ hr68) ?_ ?_
   ·rintro r70 _ F4 w72 _ rfl hs73 le74 ⟨rfl, rfl⟩
    have h76 := sk_r h69
    refine RWP.nil ?_
    obtain rfl := some_inj h76
    exact ReP [] hs73 (le28.trans le74) ⟨(some ⟨b37, o38, none⟩), nr24_0_0, ar24_1_2, nr24_1_2, rfl, rfl, hbr24_0_0, (SlA.mono hsr24_0_0 le74), hbr24_1_2, (SlA.mono hsr24_1_2 le74)⟩
   ·rintro b77 F5 w78 rfl hs79 le80
    have h81 := sk_l h69
    obtain rfl := some_inj h81
    exact RePi hs79.dr0 (le28.trans le80)
 ·rintro b83 F6 w84 rfl hs85 le86
  have h87 := sk_l h23
  refine thenQ_pan ?_
  obtain rfl := some_inj h87
  exact RePi hs85.dr0 le86
end Go.Proofs.YtaihlcdkcampbaaGreatDoor
namespace Go.Proofs.YtaihlcdkcampbaaGreatDoor
open Go.Proofs
def rules_parser_ended (N : Nat) (x0 : rules_parser) : Option (rules_bad ⊕ Unit) :=
 (((idx x0.l_ 0).bind fun x30 => (bif (x30.kind_ != 0) then ((rules_parser_peek N x0 ([10] : List UInt8)).bind fun r47 => some (!r47)) else some false)).bind fun j24 => (bif j24 then ((idx x0.l_ 0).bind fun x57 => ((rules_parser_fail N x0 60 x57.at_).bind fun r71 => sk r71 (fun b76 => some (.inl b76)) (fun r74 => none))) else some (.inr ())))
theorem co_rules_parser_ended : CallOk Tryz.prog 136 := fun _ _ => by kernel_rfl
theorem c_rules_parser_ended (N : Nat) {wb w0 : World} {Fb F0 : Mem} {Lf : Own} (bp0 : Nat) (x0 : rules_parser) (a0_0 : Option Addr) (n0_0 : Nat) (hb0_0 : LC x0.l_.length n0_0) (hs0_0 : SlA trules_token F0 a0_0 x0.l_) (hs0 : HS wb Fb w0 F0 ((sb bp0 (krules_parser x0 a0_0 n0_0) 100) :: Lf)) (r : (rules_bad ⊕ Unit)) (h : rules_parser_ended N x0 = some r) :
  Calls Tryz.prog 136 ([(pt bp0 0)] : List Value).toArray w0 (BRetP wb Fb F0 Lf r (fun b => (.iface 158 (.agg (krules_bad b)))) fun a F' v L' => v = (.tuple #[]) ∧ L' = (sb bp0 (krules_parser x0 a0_0 n0_0) 100) :: Lf) := by
 refine Go 24 Tryz.func136 ?_
 refine Sq (Rg [0, 1, 2, 3, 4, 5, 6, 7, 8, 9, 10, 11, 12] ?_)
 obtain ⟨j24, hj28, h29⟩ := bind_some h
 refine RWP.cut (fun f w => ∃ (F1 : Mem), HS wb Fb w F1 ((sb bp0 (krules_parser x0 a0_0 n0_0) 100) :: Lf) ∧ Mem.le F0 F1 ∧ FI f [] [(0, (pt bp0 0)), (14, (.bool j24))]) ?_ ?_
 ·refine Vs 3 ?_
  refine Ld hs0.at0 ?_
  obtain ⟨x30, hx31, h33⟩ := bind_some hj28
  obtain ⟨hi32, hx31'⟩ := idx_spec hx31
  obtain ⟨b34, o35, C36, E37, fz38, rfl, hF40, hE41⟩ := SlA.open hs0_0 hx31'
  have hc43 := hE41 _ _ hx31'
  refine Ix hi32 ?_
  refine Vs 1 ?_
  refine Lx 0 (hs0.pers _ _ hF40) hc43 ?_
  refine Vs 2 ?_
  refine Sp h33 (fun hb44 h45 => ?_) (fun hb44 h46 => ?_)
  ·refine Vgs hb44 1 ?_
   obtain ⟨r47, hr48, h49⟩ := bind_some h45
   refine RWP.callB (dst := (some 12)) (ty := 4) (g := (some (8, true))) (by kernel_rfl) (gd_y (d := 10) (by kernel_rfl) rfl hb44) (f0 := (.func 134)) (aos := #[(.tmp 11), (.const (.string ⟨([10] : List UInt8).toArray⟩))]) (ats := #[95, 9]) (fid := 134) (first := #[]) (cap := #[]) (args := [(pt bp0 0), (.string ⟨(([10] : List UInt8)).toArray⟩)]) rfl co_rules_parser_peek (rfl) (c_rules_parser_peek N bp0 (x0) (some ⟨b34, o35, none⟩) n0_0 hb0_0 hs0_0 (([10] : List UInt8)) hs0 _ hr48) ?_
   rintro _ F2 w50 _ hs51 le52 ⟨rfl, rfl⟩
   refine Vgs hb44 1 ?_
   refine Pk1 hb44 ?_
   obtain rfl := some_inj h49
   exact RWP.nil ⟨rfl, F2, hs51, le52, fI⟩
  ·refine Ss hb44 3 ?_
   refine Pk0 hb44 ?_
   obtain rfl := some_inj h46
   exact RWP.nil ⟨rfl, F0, hs0, (Mem.le.refl _), fI⟩
 ·rintro f w21 ⟨F1, hs22, le23, ⟨_, rfl⟩⟩
  refine thenQ_nrm ?_
  refine Cd h29 (fun hb54 h55 => ?_) (fun hb54 h56 => ?_)
  ·refine Rg [0, 1, 2, 3, 4, 5, 6, 7, 8] ?_
   refine Vs 4 ?_
   refine Ld hs22.at0 ?_
   obtain ⟨x57, hx58, h60⟩ := bind_some h55
   obtain ⟨hi59, hx58'⟩ := idx_spec hx58
   obtain ⟨b61, o62, C63, E64, fz65, rfl, hF67, hE68⟩ := SlA.open (SlA.mono hs0_0 le23) hx58'
   have hc70 := hE68 _ _ hx58'
   refine Ix hi59 ?_
   refine Vs 1 ?_
   refine Lx 1 (hs22.pers _ _ hF67) hc70 ?_
   obtain ⟨r71, hr72, h73⟩ := bind_some h60
   refine CP co_rules_parser_fail (c_rules_parser_fail N bp0 (x0) (some ⟨b61, o62, none⟩) n0_0 hb0_0 (SlA.mono hs0_0 le23) (60) (x57.at_) hs22 _ hr72) ?_ ?_
   ·rintro _ _ _ _ _ rfl _ _ _; cases hr72
   ·rintro b76 F4 w77 rfl hs78 le79
    have h80 := sk_l h73
    obtain rfl := some_inj h80
    exact RePi hs78 (le23.trans le79)
  ·refine Sc ?_
   obtain rfl := some_inj h56
   exact ReP [] hs22 le23 ⟨rfl, rfl⟩
end Go.Proofs.YtaihlcdkcampbaaGreatDoor
namespace Go.Proofs.YtaihlcdkcampbaaGreatDoor
open Go.Proofs
def rules_room_api_Expr (N : Nat) (x0 : rules_parser) (x1 : (List Expr)) (x2 : Int) : Option (rules_bad ⊕ Unit) :=
 (bif ((x1.length : Int) == 64) then ((rules_parser_fail N x0 2 x2).bind fun r24 => sk r24 (fun b29 => some (.inl b29)) (fun r27 => none)) else some (.inr ()))
theorem co_rules_room_api_Expr : CallOk Tryz.prog 137 := fun _ _ => by kernel_rfl
theorem c_rules_room_api_Expr (N : Nat) {wb w0 : World} {Fb F0 : Mem} {Lf : Own} (bp0 : Nat) (x0 : rules_parser) (a0_0 : Option Addr) (n0_0 : Nat) (hb0_0 : LC x0.l_.length n0_0) (hs0_0 : SlA trules_token F0 a0_0 x0.l_) (x1 : (List Expr)) (a1_0 : Option Addr) (n1_0 : Nat) (x2 : Int) (hs0 : HS wb Fb w0 F0 ((sb bp0 (krules_parser x0 a0_0 n0_0) 100) :: Lf)) (r : (rules_bad ⊕ Unit)) (h : rules_room_api_Expr N x0 x1 x2 = some r) :
  Calls Tryz.prog 137 ([(pt bp0 0), (.slice a1_0 x1.length n1_0), (vi x2)] : List Value).toArray w0 (BRetP wb Fb F0 Lf r (fun b => (.iface 158 (.agg (krules_bad b)))) fun a F' v L' => v = (.tuple #[]) ∧ L' = (sb bp0 (krules_parser x0 a0_0 n0_0) 100) :: Lf) := by
 refine Go 12 Tryz.func137 ?_
 refine Sq (Rg [0, 1, 2] ?_)
 refine Vs 3 ?_
 refine Nt ?_
 refine Cd h (fun hb21 h22 => ?_) (fun hb21 h23 => ?_)
 ·refine Rg [0, 1, 2] ?_
  refine Vs 2 ?_
  obtain ⟨r24, hr25, h26⟩ := bind_some h22
  refine CP co_rules_parser_fail (c_rules_parser_fail N bp0 (x0) a0_0 n0_0 hb0_0 hs0_0 (2) (x2) hs0 _ hr25) ?_ ?_
  ·rintro _ _ _ _ _ rfl _ _ _; cases hr25
  ·rintro b29 F2 w30 rfl hs31 le32
   have h33 := sk_l h26
   obtain rfl := some_inj h33
   exact RePi hs31 le32
 ·refine Sc ?_
  obtain rfl := some_inj h23
  exact ReP [] hs0 (Mem.le.refl _) ⟨rfl, rfl⟩
end Go.Proofs.YtaihlcdkcampbaaGreatDoor
namespace Go.Proofs.YtaihlcdkcampbaaGreatDoor
open Go.Proofs
def rules_room_api_Clause (N : Nat) (x0 : rules_parser) (x1 : (List Clause)) (x2 : Int) : Option (rules_bad ⊕ Unit) :=
 (bif ((x1.length : Int) == 64) then ((rules_parser_fail N x0 2 x2).bind fun r24 => sk r24 (fun b29 => some (.inl b29)) (fun r27 => none)) else some (.inr ()))
theorem co_rules_room_api_Clause : CallOk Tryz.prog 138 := fun _ _ => by kernel_rfl
theorem c_rules_room_api_Clause (N : Nat) {wb w0 : World} {Fb F0 : Mem} {Lf : Own} (bp0 : Nat) (x0 : rules_parser) (a0_0 : Option Addr) (n0_0 : Nat) (hb0_0 : LC x0.l_.length n0_0) (hs0_0 : SlA trules_token F0 a0_0 x0.l_) (x1 : (List Clause)) (a1_0 : Option Addr) (n1_0 : Nat) (x2 : Int) (hs0 : HS wb Fb w0 F0 ((sb bp0 (krules_parser x0 a0_0 n0_0) 100) :: Lf)) (r : (rules_bad ⊕ Unit)) (h : rules_room_api_Clause N x0 x1 x2 = some r) :
  Calls Tryz.prog 138 ([(pt bp0 0), (.slice a1_0 x1.length n1_0), (vi x2)] : List Value).toArray w0 (BRetP wb Fb F0 Lf r (fun b => (.iface 158 (.agg (krules_bad b)))) fun a F' v L' => v = (.tuple #[]) ∧ L' = (sb bp0 (krules_parser x0 a0_0 n0_0) 100) :: Lf) := by
 refine Go 12 Tryz.func138 ?_
 refine Sq (Rg [0, 1, 2] ?_)
 refine Vs 3 ?_
 refine Nt ?_
 refine Cd h (fun hb21 h22 => ?_) (fun hb21 h23 => ?_)
 ·refine Rg [0, 1, 2] ?_
  refine Vs 2 ?_
  obtain ⟨r24, hr25, h26⟩ := bind_some h22
  refine CP co_rules_parser_fail (c_rules_parser_fail N bp0 (x0) a0_0 n0_0 hb0_0 hs0_0 (2) (x2) hs0 _ hr25) ?_ ?_
  ·rintro _ _ _ _ _ rfl _ _ _; cases hr25
  ·rintro b29 F2 w30 rfl hs31 le32
   have h33 := sk_l h26
   obtain rfl := some_inj h33
   exact RePi hs31 le32
 ·refine Sc ?_
  obtain rfl := some_inj h23
  exact ReP [] hs0 (Mem.le.refl _) ⟨rfl, rfl⟩
end Go.Proofs.YtaihlcdkcampbaaGreatDoor
namespace Go.Proofs.YtaihlcdkcampbaaGreatDoor
open Go.Proofs
def PMap (b : Nat) (S : List UInt8 → Option Value) (e : Option Nat × Obj) : Prop :=
 ∃ es clk, e = (some b, .map es clk) ∧ ∀ k : List UInt8, ∃ r, Instr.findNow .string (.string ⟨k.toArray⟩) es.toList 0 = some r ∧ r.map (·.2) = S k
def supd (S : List UInt8 → Option Value) (k : List UInt8) (v : Value) : List UInt8 → Option Value := fun x => if x = k then some v else S x
theorem findNow_snoc {d : TypeDesc} {k : Value} {e : MapEntry} {b : Bool} (hs : Instr.sameNow d k e.key = some b) : ∀ (es : List MapEntry) (i : Nat) (r : Option (Nat × Value)), Instr.findNow d k es i = some r →
  ∃ r', Instr.findNow d k (es ++ [e]) i = some r' ∧ r'.map (·.2) = match r with | some p => some p.2 | none => if b then some e.val else none
 | [], i, r, h => by
  simp only [Instr.findNow, Option.some.injEq] at h; subst h
  cases b with
  | true => exact ⟨some (i, e.val), by simp [Instr.findNow, hs], rfl⟩
  | false => exact ⟨none, by simp [Instr.findNow, hs], rfl⟩
 | x :: es, i, r, h => by
  unfold Instr.findNow at h
  cases hx : Instr.sameNow d k x.key with
  | none => rw [hx] at h; cases h
  | some c =>
   rw [hx] at h
   cases c with
   | true => simp only [Option.some.injEq] at h; subst h; exact ⟨some (i, x.val), by simp [Instr.findNow, hx], rfl⟩
   | false =>
    simp only at h
    obtain ⟨r', h1, h2⟩ := findNow_snoc hs es (i + 1) r h
    exact ⟨r', by simp [Instr.findNow, hx, h1], h2⟩
theorem PMap.ins {b clk : Nat} {S : List UInt8 → Option Value} {es : Array MapEntry} (h : ∀ k : List UInt8, ∃ r, Instr.findNow .string (.string ⟨k.toArray⟩) es.toList 0 = some r ∧ r.map (·.2) = S k) (k0 : List UInt8) (v : Value) (hn : S k0 = none) :
  PMap b (supd S k0 v) (some b, .map (es.push ⟨.string ⟨k0.toArray⟩, v, clk⟩) (clk + 1)) := by
 refine ⟨_, _, rfl, fun k => ?_⟩
 obtain ⟨r, h1, h2⟩ := h k
 have hs : Instr.sameNow .string (.string ⟨k.toArray⟩) (.string ⟨k0.toArray⟩) = some (decide (k = k0)) := by
  simp only [Instr.sameNow, Option.some.injEq]
  rw [beq_toListBytes, ByteArray.toList_eq, ByteArray.toList_eq, Bool.eq_iff_iff]; simp
 obtain ⟨r', h3, h4⟩ := findNow_snoc (e := ⟨.string ⟨k0.toArray⟩, v, clk⟩) hs es.toList 0 r h1
 refine ⟨r', by rw [Array.toList_push]; exact h3, ?_⟩
 rw [h4]
 unfold supd
 cases r with
 | some p =>
  simp only at h2 ⊢
  have hne : k ≠ k0 := fun e => by rw [e, hn] at h2; cases h2
  rw [if_neg hne, ← h2]; rfl
 | none =>
  simp only at h2 ⊢
  by_cases hk : k = k0
  ·simp [hk]
  ·simp only [hk, decide_false, Bool.false_eq_true, if_false]; rw [← h2]; rfl
theorem PMap.nil (b : Nat) : PMap b (fun _ => none) (some b, .map #[] 0) := ⟨_, _, rfl, fun _ => ⟨none, rfl, rfl⟩⟩
theorem PMap.congr {b : Nat} {S S' : List UInt8 → Option Value} {e : Option Nat × Obj} (h : PMap b S e) (hs : ∀ k, S k = S' k) : PMap b S' e := by
 obtain ⟨es, clk, h1, h2⟩ := h; exact ⟨es, clk, h1, fun k => by rw [← hs k]; exact h2 k⟩
section
variable {P : Program} {w w0 : World} {F0 F : Mem} {L : Own} {ρ : Operand → Value} {ty : TypeId}
theorem HS.ownAt' {k : Nat} {e : Option Nat × Obj} (h : HS w0 F0 w F L) (hk : L[k]? = some e) : ∀ b o, e = (some b, o) → w.heap[b]? = some o := fun b o he => h.ownAt (by rw [hk, he])
theorem run_lookPM1 {mt k vt : TypeId} {m x : Operand} {b : Nat} {S : List UInt8 → Option Value} {e : Option Nat × Obj} {t : List UInt8} {v : Value} (hm : ρ m = .map (some b)) (hx : ρ x = .string ⟨t.toArray⟩) (hu : P.underlying mt = some (.map k vt)) (hk : P.underlying k = some .string)
  (hw : ∀ b o, e = (some b, o) → w.heap[b]? = some o) (hp : PMap b S e) (hS : S t = some v) : (execB ρ (.lookup mt m x true) ty).run P w = .ok (.value (.tuple #[v, .bool true])) w := by
 obtain ⟨es, clk, rfl, h2⟩ := hp
 have hb := hw b _ rfl
 obtain ⟨r, h3, h4⟩ := h2 t
 rw [hS] at h4
 cases r with
 | none => cases h4
 | some p =>
  obtain ⟨i, v'⟩ := p
  simp only [Option.map_some, Option.some.injEq] at h4
  subst h4
  have e : execB ρ (.lookup mt m x true) ty = (do pure (Next.value (← Instr.lookup mt (ρ m) (ρ x) true))) := rfl
  rw [e, hm, hx]
  simp [Instr.lookup, run_underlying hu, MapKept.run_getObj_map hb, MapKept.run_checkKey hk (k := .string ⟨t.toArray⟩) trivial, MapKept.run_findKey hk h3, Result.andThen]
end
section
variable {P : Program} {n : Nat} {R : Array Oper} {PQ : List PanicEntry → List Deferred → World → Prop} {Post : Fr → World → Prop} {zz fuel : Nat} {ll l' : List Bool} {zd : Bool} {Fs : Mem} {Lc Lz : Own} {w w0 : World} {F0 F : Mem} {L : Own} {f : Fr} {i : Nat} {dst : Option Nat} {ty : TypeId} {g : Option (Nat × Bool)}
theorem DStep.pMake {t : TypeId} (hl : ll.set i true = l') (hzd : l'.toArray.getD zz true = zd) (ho : opq R i = some (dst, .makeMap t none, ty, g)) (hg : gd R f g = true) (hs : HS w0 F0 w F L) (hle : Mem.le Fs F) (hL : ∀ p, p ∈ Lc → p ∈ L) (hLz : zd = false → ∀ p, p ∈ Lz → p ∈ L)
  (kk : ∀ b e w', HS w0 F0 w' F (e :: L) → PMap b (fun _ => none) e → DWP P n R PQ Post zz (DZ Fs Lc Lz) fuel l' (updo f dst (.map (some b))) w') : DStep P n R PQ Post zz (DZ Fs Lc Lz) fuel ll i f w :=
 DStep.val hl hzd ho hg run_makeMap (dz_of (hs.alloc _) hle (fun p hp => List.mem_cons_of_mem _ (hL p hp)) (fun e p hp => List.mem_cons_of_mem _ (hLz e p hp))) (kk _ _ _ (hs.alloc _) (PMap.nil _))
theorem DStep.pIns {mt k vt : TypeId} {m x y : Operand} {b : Nat} {S : List UInt8 → Option Value} {k0 : List UInt8} {v : Value} {e : Option Nat × Obj} (hl : ll.set i true = l') (hzd : l'.toArray.getD zz true = zd) (ho : opq R i = some (none, .insert mt m x y, ty, g)) (hg : gd R f g = true)
  (hm : fev f m = .map (some b)) (hx : fev f x = .string ⟨k0.toArray⟩) (hy : fev f y = v) (hu : P.underlying mt = some (.map k vt)) (hk : P.underlying k = some .string) (hn : S k0 = none)
  (hs : HS w0 F0 w F (e :: L)) (hp : PMap b S e) (hle : Mem.le Fs F) (hL : ∀ p, p ∈ Lc → p ∈ L) (hLz : zd = false → ∀ p, p ∈ Lz → p ∈ L)
  (kk : ∀ e' w', HS w0 F0 w' F (e' :: L) → PMap b (supd S k0 v) e' → DWP P n R PQ Post zz (DZ Fs Lc Lz) fuel l' f w') : DStep P n R PQ Post zz (DZ Fs Lc Lz) fuel ll i f w := by
 obtain ⟨es, clk, rfl, h2⟩ := hp
 have hb := hs.ownAt (k := 0) rfl
 obtain ⟨r, h3, h4⟩ := h2 k0
 rw [hn] at h4
 have hr : r = none := by cases r with | none => rfl | some p => cases h4
 subst hr
 have hs' := hs.put (k := 0) rfl (.map (es.push ⟨.string ⟨k0.toArray⟩, v, clk⟩) (clk + 1))
 have hset : (setObj b (.map (es.push ⟨.string ⟨k0.toArray⟩, v, clk⟩) (clk + 1))).run P w = .ok () (putB w b (.map (es.push ⟨.string ⟨k0.toArray⟩, v, clk⟩) (clk + 1))) := by
  rw [MapKept.run_setObj_map _ hb]; rfl
 refine DStep.unit hl hzd ho hg (w' := putB w b (.map (es.push ⟨.string ⟨k0.toArray⟩, v, clk⟩) (clk + 1))) ?_ (dz_of hs' hle (fun p hp => List.mem_cons_of_mem _ (hL p hp)) (fun e p hp => List.mem_cons_of_mem _ (hLz e p hp))) (kk _ _ hs' (PMap.ins h2 k0 v hn))
 have e : execB (fev f) (.insert mt m x y) ty = (do Instr.mapUpdate mt (fev f m) (fev f x) (fev f y); pure .skip) := rfl
 rw [e, hm, hx, hy]
 simp [Instr.mapUpdate, run_underlying hu, MapKept.run_getObj_map hb, MapKept.run_checkKey hk (k := .string ⟨k0.toArray⟩) trivial, MapKept.run_findKey hk h3, Result.andThen, hset]
end
def listsAt (b : Nat) : List UInt8 → Option Value := fun t => if t = [112, 111, 105, 110, 116, 115] then some (.pointer (some ⟨b, 0, none⟩)) else if t = [109, 117, 108, 116, 105, 112, 108, 105, 101, 114] then some (.pointer (some ⟨b, 1, none⟩)) else if t = [112, 101, 110, 97, 108, 116, 121] then some (.pointer (some ⟨b, 2, none⟩)) else none
section
variable {b : Nat} {t : List UInt8}
theorem listsAt_0 (h : (t == ([112, 111, 105, 110, 116, 115] : List UInt8)) = true) : listsAt b t = some (.pointer (some ⟨b, 0, none⟩)) := by
 have := eq_of_beq h; subst this; rfl
end
theorem part_lists {wb w : World} {Fb F : Mem} {L : Own} {f : Fr} {bp : Nat} {Q : Exit → Fr → World → Prop} (hs0 : HS wb Fb w F L) (h1 : f 1 = .pointer (some ⟨bp, 0, none⟩))
  (k : ∀ (f' : Fr) (w' : World) (e : Option Nat × Obj) (b : Nat), HS wb Fb w' F (e :: L) → PMap b (listsAt bp) e → f' 6 = .map (some b) → (f'.d = f.d ∧ f' 0 = f 0 ∧ f' 4 = f 4) → Q .normal f' w') : CWP Tryz.prog none 114 (cs1 (cs2 (cs2 (bodyOf Tryz.f81)))) Q f w := by
 refine CWP.regionD (by kernel_rfl) (by kernel_rfl) (by kernel_rfl) (by kernel_rfl) (z := 15) (F := F) (Lc := []) (Lz := []) (l := [false, false, false, false, false, false, false, false, false, false, false, false, false, false, false]) (fuel := 15) (by kernel_rfl) (by kernel_rfl) hs0 (by simp) (by simp) (fun f' w' => ∃ e b, HS wb Fb w' F (e :: L) ∧ PMap b (listsAt bp) e ∧ f' 6 = .map (some b) ∧ f'.d = f.d ∧ f' 0 = f 0 ∧ f' 4 = f 4) (fun wd hw => ?_) ?_
 ·refine DWP.take (i := 1) (v := (.pointer (some ⟨bp, 0, none⟩))) (zd := true) (dst := (some 49)) (ty := 102) (g := none) (by kernel_rfl) (by kernel_rfl) (by kernel_rfl) (by kernel_rfl) (by kernel_rfl) rfl (fun wq hq => (run_move (x := .tmp 1) (v := (.pointer (some ⟨bp, 0, none⟩))) h1)) (l' := [false, true, false, false, false, false, false, false, false, false, false, false, false, false, false]) (by kernel_rfl) ?_
  refine DWP.take (i := 2) (v := (.pointer (some ⟨bp, 0, none⟩))) (zd := true) (dst := (some 50)) (ty := 0) (g := none) (by kernel_rfl) (by kernel_rfl) (by kernel_rfl) (by kernel_rfl) (by kernel_rfl) rfl (fun wq hq => (run_nilCheck (x := .tmp 49) (a := ⟨bp, 0, none⟩) rfl)) (l' := [false, true, true, false, false, false, false, false, false, false, false, false, false, false, false]) (by kernel_rfl) ?_
  refine DWP.take (i := 3) (v := (.pointer (some ⟨bp, 0, none⟩))) (zd := true) (dst := (some 51)) (ty := 0) (g := none) (by kernel_rfl) (by kernel_rfl) (by kernel_rfl) (by kernel_rfl) (by kernel_rfl) rfl (fun wq hq => (run_fieldAddr (s := 26) (x := .tmp 50) (i := 0) (o := 0) (k := 1) (b := bp) (o0 := 0) rfl (by kernel_rfl) rfl (o1 := 0) rfl)) (l' := [false, true, true, true, false, false, false, false, false, false, false, false, false, false, false]) (by kernel_rfl) ?_
  refine DWP.take (i := 5) (v := (.pointer (some ⟨bp, 0, none⟩))) (zd := true) (dst := (some 52)) (ty := 102) (g := none) (by kernel_rfl) (by kernel_rfl) (by kernel_rfl) (by kernel_rfl) (by kernel_rfl) rfl (fun wq hq => (run_move (x := .tmp 1) (v := (.pointer (some ⟨bp, 0, none⟩))) h1)) (l' := [false, true, true, true, false, true, false, false, false, false, false, false, false, false, false]) (by kernel_rfl) ?_
  refine DWP.take (i := 6) (v := (.pointer (some ⟨bp, 0, none⟩))) (zd := true) (dst := (some 53)) (ty := 0) (g := none) (by kernel_rfl) (by kernel_rfl) (by kernel_rfl) (by kernel_rfl) (by kernel_rfl) rfl (fun wq hq => (run_nilCheck (x := .tmp 52) (a := ⟨bp, 0, none⟩) rfl)) (l' := [false, true, true, true, false, true, true, false, false, false, false, false, false, false, false]) (by kernel_rfl) ?_
  refine DWP.take (i := 7) (v := (.pointer (some ⟨bp, 1, none⟩))) (zd := true) (dst := (some 54)) (ty := 0) (g := none) (by kernel_rfl) (by kernel_rfl) (by kernel_rfl) (by kernel_rfl) (by kernel_rfl) rfl (fun wq hq => (run_fieldAddr (s := 26) (x := .tmp 53) (i := 1) (o := 1) (k := 1) (b := bp) (o0 := 0) rfl (by kernel_rfl) rfl (o1 := 1) rfl)) (l' := [false, true, true, true, false, true, true, true, false, false, false, false, false, false, false]) (by kernel_rfl) ?_
  refine DWP.take (i := 9) (v := (.pointer (some ⟨bp, 0, none⟩))) (zd := true) (dst := (some 55)) (ty := 102) (g := none) (by kernel_rfl) (by kernel_rfl) (by kernel_rfl) (by kernel_rfl) (by kernel_rfl) rfl (fun wq hq => (run_move (x := .tmp 1) (v := (.pointer (some ⟨bp, 0, none⟩))) h1)) (l' := [false, true, true, true, false, true, true, true, false, true, false, false, false, false, false]) (by kernel_rfl) ?_
  refine DWP.take (i := 10) (v := (.pointer (some ⟨bp, 0, none⟩))) (zd := true) (dst := (some 56)) (ty := 0) (g := none) (by kernel_rfl) (by kernel_rfl) (by kernel_rfl) (by kernel_rfl) (by kernel_rfl) rfl (fun wq hq => (run_nilCheck (x := .tmp 55) (a := ⟨bp, 0, none⟩) rfl)) (l' := [false, true, true, true, false, true, true, true, false, true, true, false, false, false, false]) (by kernel_rfl) ?_
  refine DWP.take (i := 11) (v := (.pointer (some ⟨bp, 2, none⟩))) (zd := true) (dst := (some 57)) (ty := 0) (g := none) (by kernel_rfl) (by kernel_rfl) (by kernel_rfl) (by kernel_rfl) (by kernel_rfl) rfl (fun wq hq => (run_fieldAddr (s := 26) (x := .tmp 56) (i := 2) (o := 2) (k := 1) (b := bp) (o0 := 0) rfl (by kernel_rfl) rfl (o1 := 2) rfl)) (l' := [false, true, true, true, false, true, true, true, false, true, true, true, false, false, false]) (by kernel_rfl) ?_
  refine DWP.one (i := 0) (by kernel_rfl) ?_
  refine DStep.pMake (l' := [true, true, true, true, false, true, true, true, false, true, true, true, false, false, false]) (zd := true) (by kernel_rfl) (by kernel_rfl) (dst := some 48) (ty := 167) (g := none) (by kernel_rfl) rfl (t := 167) hw (Mem.le.refl _) (by simp) (fun e => by cases e) (fun b e0 w0 hs1 hp0 => ?_)
  refine DWP.three (i := 4) (j := 8) (k := 12) (by kernel_rfl) ?_ ?_ ?_
  ·
   refine DStep.pIns (l' := [true, true, true, true, true, true, true, true, false, true, true, true, false, false, false]) (zd := true) (by kernel_rfl) (by kernel_rfl) (ty := 0) (g := none) (by kernel_rfl) rfl (mt := 167) (k := 9) (vt := 166) (m := .tmp 48) (x := .const (.string ⟨([112, 111, 105, 110, 116, 115] : List UInt8).toArray⟩)) (y := .tmp 51) (k0 := [112, 111, 105, 110, 116, 115]) (v := .pointer (some ⟨bp, 0, none⟩)) rfl rfl rfl (by kernel_rfl) (by kernel_rfl) (by simp [supd]) hs1 hp0 (Mem.le.refl _) (by simp) (fun e => by cases e) (fun e11 w11 hs11 hp11 => ?_)
   refine DWP.two (i := 8) (j := 12) (by kernel_rfl) ?_ ?_
   ·
    refine DStep.pIns (l' := [true, true, true, true, true, true, true, true, true, true, true, true, false, false, false]) (zd := true) (by kernel_rfl) (by kernel_rfl) (ty := 0) (g := none) (by kernel_rfl) rfl (mt := 167) (k := 9) (vt := 166) (m := .tmp 48) (x := .const (.string ⟨([109, 117, 108, 116, 105, 112, 108, 105, 101, 114] : List UInt8).toArray⟩)) (y := .tmp 54) (k0 := [109, 117, 108, 116, 105, 112, 108, 105, 101, 114]) (v := .pointer (some ⟨bp, 1, none⟩)) rfl rfl rfl (by kernel_rfl) (by kernel_rfl) (by simp [supd]) hs11 hp11 (Mem.le.refl _) (by simp) (fun e => by cases e) (fun e12 w12 hs12 hp12 => ?_)
    refine DWP.one (i := 12) (by kernel_rfl) ?_
    refine DStep.pIns (l' := [true, true, true, true, true, true, true, true, true, true, true, true, true, false, false]) (zd := true) (by kernel_rfl) (by kernel_rfl) (ty := 0) (g := none) (by kernel_rfl) rfl (mt := 167) (k := 9) (vt := 166) (m := .tmp 48) (x := .const (.string ⟨([112, 101, 110, 97, 108, 116, 121] : List UInt8).toArray⟩)) (y := .tmp 57) (k0 := [112, 101, 110, 97, 108, 116, 121]) (v := .pointer (some ⟨bp, 2, none⟩)) rfl rfl rfl (by kernel_rfl) (by kernel_rfl) (by simp [supd]) hs12 hp12 (Mem.le.refl _) (by simp) (fun e => by cases e) (fun e13 w13 hs13 hp13 => ?_)
    refine DWP.one (i := 13) (by kernel_rfl) ?_
    refine DStep.val (l' := [true, true, true, true, true, true, true, true, true, true, true, true, true, true, false]) (zd := true) (by kernel_rfl) (by kernel_rfl) (dst := some 58) (ty := 167) (g := none) (by kernel_rfl) rfl (run_move (x := .tmp 48) (v := .map (some b)) rfl) (dz_of hs13 (Mem.le.refl _) (by simp) (fun e => by cases e)) ?_
    refine DWP.one (i := 14) (by kernel_rfl) ?_
    refine DStep.val (l' := [true, true, true, true, true, true, true, true, true, true, true, true, true, true, true]) (zd := true) (by kernel_rfl) (by kernel_rfl) (dst := some 6) (ty := 167) (g := none) (by kernel_rfl) rfl (run_assign (x := .tmp 58) (v := .map (some b)) rfl) (dz_of hs13 (Mem.le.refl _) (by simp) (fun e => by cases e)) ?_
    exact DWP.done (by kernel_rfl) ⟨_, b, hs13, hp13.congr (fun k => by by_cases a : k = [112, 111, 105, 110, 116, 115] <;> by_cases b : k = [109, 117, 108, 116, 105, 112, 108, 105, 101, 114] <;> by_cases c : k = [112, 101, 110, 97, 108, 116, 121] <;> simp_all [supd, listsAt]), rfl, rfl, rfl, rfl⟩
   ·
    refine DStep.pIns (l' := [true, true, true, true, true, true, true, true, false, true, true, true, true, false, false]) (zd := true) (by kernel_rfl) (by kernel_rfl) (ty := 0) (g := none) (by kernel_rfl) rfl (mt := 167) (k := 9) (vt := 166) (m := .tmp 48) (x := .const (.string ⟨([112, 101, 110, 97, 108, 116, 121] : List UInt8).toArray⟩)) (y := .tmp 57) (k0 := [112, 101, 110, 97, 108, 116, 121]) (v := .pointer (some ⟨bp, 2, none⟩)) rfl rfl rfl (by kernel_rfl) (by kernel_rfl) (by simp [supd]) hs11 hp11 (Mem.le.refl _) (by simp) (fun e => by cases e) (fun e14 w14 hs14 hp14 => ?_)
    refine DWP.one (i := 8) (by kernel_rfl) ?_
    refine DStep.pIns (l' := [true, true, true, true, true, true, true, true, true, true, true, true, true, false, false]) (zd := true) (by kernel_rfl) (by kernel_rfl) (ty := 0) (g := none) (by kernel_rfl) rfl (mt := 167) (k := 9) (vt := 166) (m := .tmp 48) (x := .const (.string ⟨([109, 117, 108, 116, 105, 112, 108, 105, 101, 114] : List UInt8).toArray⟩)) (y := .tmp 54) (k0 := [109, 117, 108, 116, 105, 112, 108, 105, 101, 114]) (v := .pointer (some ⟨bp, 1, none⟩)) rfl rfl rfl (by kernel_rfl) (by kernel_rfl) (by simp [supd]) hs14 hp14 (Mem.le.refl _) (by simp) (fun e => by cases e) (fun e15 w15 hs15 hp15 => ?_)
    refine DWP.one (i := 13) (by kernel_rfl) ?_
    refine DStep.val (l' := [true, true, true, true, true, true, true, true, true, true, true, true, true, true, false]) (zd := true) (by kernel_rfl) (by kernel_rfl) (dst := some 58) (ty := 167) (g := none) (by kernel_rfl) rfl (run_move (x := .tmp 48) (v := .map (some b)) rfl) (dz_of hs15 (Mem.le.refl _) (by simp) (fun e => by cases e)) ?_
    refine DWP.one (i := 14) (by kernel_rfl) ?_
    refine DStep.val (l' := [true, true, true, true, true, true, true, true, true, true, true, true, true, true, true]) (zd := true) (by kernel_rfl) (by kernel_rfl) (dst := some 6) (ty := 167) (g := none) (by kernel_rfl) rfl (run_assign (x := .tmp 58) (v := .map (some b)) rfl) (dz_of hs15 (Mem.le.refl _) (by simp) (fun e => by cases e)) ?_
    exact DWP.done (by kernel_rfl) ⟨_, b, hs15, hp15.congr (fun k => by by_cases a : k = [112, 111, 105, 110, 116, 115] <;> by_cases b : k = [109, 117, 108, 116, 105, 112, 108, 105, 101, 114] <;> by_cases c : k = [112, 101, 110, 97, 108, 116, 121] <;> simp_all [supd, listsAt]), rfl, rfl, rfl, rfl⟩
  ·
   refine DStep.pIns (l' := [true, true, true, true, false, true, true, true, true, true, true, true, false, false, false]) (zd := true) (by kernel_rfl) (by kernel_rfl) (ty := 0) (g := none) (by kernel_rfl) rfl (mt := 167) (k := 9) (vt := 166) (m := .tmp 48) (x := .const (.string ⟨([109, 117, 108, 116, 105, 112, 108, 105, 101, 114] : List UInt8).toArray⟩)) (y := .tmp 54) (k0 := [109, 117, 108, 116, 105, 112, 108, 105, 101, 114]) (v := .pointer (some ⟨bp, 1, none⟩)) rfl rfl rfl (by kernel_rfl) (by kernel_rfl) (by simp [supd]) hs1 hp0 (Mem.le.refl _) (by simp) (fun e => by cases e) (fun e16 w16 hs16 hp16 => ?_)
   refine DWP.two (i := 4) (j := 12) (by kernel_rfl) ?_ ?_
   ·
    refine DStep.pIns (l' := [true, true, true, true, true, true, true, true, true, true, true, true, false, false, false]) (zd := true) (by kernel_rfl) (by kernel_rfl) (ty := 0) (g := none) (by kernel_rfl) rfl (mt := 167) (k := 9) (vt := 166) (m := .tmp 48) (x := .const (.string ⟨([112, 111, 105, 110, 116, 115] : List UInt8).toArray⟩)) (y := .tmp 51) (k0 := [112, 111, 105, 110, 116, 115]) (v := .pointer (some ⟨bp, 0, none⟩)) rfl rfl rfl (by kernel_rfl) (by kernel_rfl) (by simp [supd]) hs16 hp16 (Mem.le.refl _) (by simp) (fun e => by cases e) (fun e17 w17 hs17 hp17 => ?_)
    refine DWP.one (i := 12) (by kernel_rfl) ?_
    refine DStep.pIns (l' := [true, true, true, true, true, true, true, true, true, true, true, true, true, false, false]) (zd := true) (by kernel_rfl) (by kernel_rfl) (ty := 0) (g := none) (by kernel_rfl) rfl (mt := 167) (k := 9) (vt := 166) (m := .tmp 48) (x := .const (.string ⟨([112, 101, 110, 97, 108, 116, 121] : List UInt8).toArray⟩)) (y := .tmp 57) (k0 := [112, 101, 110, 97, 108, 116, 121]) (v := .pointer (some ⟨bp, 2, none⟩)) rfl rfl rfl (by kernel_rfl) (by kernel_rfl) (by simp [supd]) hs17 hp17 (Mem.le.refl _) (by simp) (fun e => by cases e) (fun e18 w18 hs18 hp18 => ?_)
    refine DWP.one (i := 13) (by kernel_rfl) ?_
    refine DStep.val (l' := [true, true, true, true, true, true, true, true, true, true, true, true, true, true, false]) (zd := true) (by kernel_rfl) (by kernel_rfl) (dst := some 58) (ty := 167) (g := none) (by kernel_rfl) rfl (run_move (x := .tmp 48) (v := .map (some b)) rfl) (dz_of hs18 (Mem.le.refl _) (by simp) (fun e => by cases e)) ?_
    refine DWP.one (i := 14) (by kernel_rfl) ?_
    refine DStep.val (l' := [true, true, true, true, true, true, true, true, true, true, true, true, true, true, true]) (zd := true) (by kernel_rfl) (by kernel_rfl) (dst := some 6) (ty := 167) (g := none) (by kernel_rfl) rfl (run_assign (x := .tmp 58) (v := .map (some b)) rfl) (dz_of hs18 (Mem.le.refl _) (by simp) (fun e => by cases e)) ?_
    exact DWP.done (by kernel_rfl) ⟨_, b, hs18, hp18.congr (fun k => by by_cases a : k = [112, 111, 105, 110, 116, 115] <;> by_cases b : k = [109, 117, 108, 116, 105, 112, 108, 105, 101, 114] <;> by_cases c : k = [112, 101, 110, 97, 108, 116, 121] <;> simp_all [supd, listsAt]), rfl, rfl, rfl, rfl⟩
   ·
    refine DStep.pIns (l' := [true, true, true, true, false, true, true, true, true, true, true, true, true, false, false]) (zd := true) (by kernel_rfl) (by kernel_rfl) (ty := 0) (g := none) (by kernel_rfl) rfl (mt := 167) (k := 9) (vt := 166) (m := .tmp 48) (x := .const (.string ⟨([112, 101, 110, 97, 108, 116, 121] : List UInt8).toArray⟩)) (y := .tmp 57) (k0 := [112, 101, 110, 97, 108, 116, 121]) (v := .pointer (some ⟨bp, 2, none⟩)) rfl rfl rfl (by kernel_rfl) (by kernel_rfl) (by simp [supd]) hs16 hp16 (Mem.le.refl _) (by simp) (fun e => by cases e) (fun e19 w19 hs19 hp19 => ?_)
    refine DWP.one (i := 4) (by kernel_rfl) ?_
    refine DStep.pIns (l' := [true, true, true, true, true, true, true, true, true, true, true, true, true, false, false]) (zd := true) (by kernel_rfl) (by kernel_rfl) (ty := 0) (g := none) (by kernel_rfl) rfl (mt := 167) (k := 9) (vt := 166) (m := .tmp 48) (x := .const (.string ⟨([112, 111, 105, 110, 116, 115] : List UInt8).toArray⟩)) (y := .tmp 51) (k0 := [112, 111, 105, 110, 116, 115]) (v := .pointer (some ⟨bp, 0, none⟩)) rfl rfl rfl (by kernel_rfl) (by kernel_rfl) (by simp [supd]) hs19 hp19 (Mem.le.refl _) (by simp) (fun e => by cases e) (fun e20 w20 hs20 hp20 => ?_)
    refine DWP.one (i := 13) (by kernel_rfl) ?_
    refine DStep.val (l' := [true, true, true, true, true, true, true, true, true, true, true, true, true, true, false]) (zd := true) (by kernel_rfl) (by kernel_rfl) (dst := some 58) (ty := 167) (g := none) (by kernel_rfl) rfl (run_move (x := .tmp 48) (v := .map (some b)) rfl) (dz_of hs20 (Mem.le.refl _) (by simp) (fun e => by cases e)) ?_
    refine DWP.one (i := 14) (by kernel_rfl) ?_
    refine DStep.val (l' := [true, true, true, true, true, true, true, true, true, true, true, true, true, true, true]) (zd := true) (by kernel_rfl) (by kernel_rfl) (dst := some 6) (ty := 167) (g := none) (by kernel_rfl) rfl (run_assign (x := .tmp 58) (v := .map (some b)) rfl) (dz_of hs20 (Mem.le.refl _) (by simp) (fun e => by cases e)) ?_
    exact DWP.done (by kernel_rfl) ⟨_, b, hs20, hp20.congr (fun k => by by_cases a : k = [112, 111, 105, 110, 116, 115] <;> by_cases b : k = [109, 117, 108, 116, 105, 112, 108, 105, 101, 114] <;> by_cases c : k = [112, 101, 110, 97, 108, 116, 121] <;> simp_all [supd, listsAt]), rfl, rfl, rfl, rfl⟩
  ·
   refine DStep.pIns (l' := [true, true, true, true, false, true, true, true, false, true, true, true, true, false, false]) (zd := true) (by kernel_rfl) (by kernel_rfl) (ty := 0) (g := none) (by kernel_rfl) rfl (mt := 167) (k := 9) (vt := 166) (m := .tmp 48) (x := .const (.string ⟨([112, 101, 110, 97, 108, 116, 121] : List UInt8).toArray⟩)) (y := .tmp 57) (k0 := [112, 101, 110, 97, 108, 116, 121]) (v := .pointer (some ⟨bp, 2, none⟩)) rfl rfl rfl (by kernel_rfl) (by kernel_rfl) (by simp [supd]) hs1 hp0 (Mem.le.refl _) (by simp) (fun e => by cases e) (fun e21 w21 hs21 hp21 => ?_)
   refine DWP.two (i := 4) (j := 8) (by kernel_rfl) ?_ ?_
   ·
    refine DStep.pIns (l' := [true, true, true, true, true, true, true, true, false, true, true, true, true, false, false]) (zd := true) (by kernel_rfl) (by kernel_rfl) (ty := 0) (g := none) (by kernel_rfl) rfl (mt := 167) (k := 9) (vt := 166) (m := .tmp 48) (x := .const (.string ⟨([112, 111, 105, 110, 116, 115] : List UInt8).toArray⟩)) (y := .tmp 51) (k0 := [112, 111, 105, 110, 116, 115]) (v := .pointer (some ⟨bp, 0, none⟩)) rfl rfl rfl (by kernel_rfl) (by kernel_rfl) (by simp [supd]) hs21 hp21 (Mem.le.refl _) (by simp) (fun e => by cases e) (fun e22 w22 hs22 hp22 => ?_)
    refine DWP.one (i := 8) (by kernel_rfl) ?_
    refine DStep.pIns (l' := [true, true, true, true, true, true, true, true, true, true, true, true, true, false, false]) (zd := true) (by kernel_rfl) (by kernel_rfl) (ty := 0) (g := none) (by kernel_rfl) rfl (mt := 167) (k := 9) (vt := 166) (m := .tmp 48) (x := .const (.string ⟨([109, 117, 108, 116, 105, 112, 108, 105, 101, 114] : List UInt8).toArray⟩)) (y := .tmp 54) (k0 := [109, 117, 108, 116, 105, 112, 108, 105, 101, 114]) (v := .pointer (some ⟨bp, 1, none⟩)) rfl rfl rfl (by kernel_rfl) (by kernel_rfl) (by simp [supd]) hs22 hp22 (Mem.le.refl _) (by simp) (fun e => by cases e) (fun e23 w23 hs23 hp23 => ?_)
    refine DWP.one (i := 13) (by kernel_rfl) ?_
    refine DStep.val (l' := [true, true, true, true, true, true, true, true, true, true, true, true, true, true, false]) (zd := true) (by kernel_rfl) (by kernel_rfl) (dst := some 58) (ty := 167) (g := none) (by kernel_rfl) rfl (run_move (x := .tmp 48) (v := .map (some b)) rfl) (dz_of hs23 (Mem.le.refl _) (by simp) (fun e => by cases e)) ?_
    refine DWP.one (i := 14) (by kernel_rfl) ?_
    refine DStep.val (l' := [true, true, true, true, true, true, true, true, true, true, true, true, true, true, true]) (zd := true) (by kernel_rfl) (by kernel_rfl) (dst := some 6) (ty := 167) (g := none) (by kernel_rfl) rfl (run_assign (x := .tmp 58) (v := .map (some b)) rfl) (dz_of hs23 (Mem.le.refl _) (by simp) (fun e => by cases e)) ?_
    exact DWP.done (by kernel_rfl) ⟨_, b, hs23, hp23.congr (fun k => by by_cases a : k = [112, 111, 105, 110, 116, 115] <;> by_cases b : k = [109, 117, 108, 116, 105, 112, 108, 105, 101, 114] <;> by_cases c : k = [112, 101, 110, 97, 108, 116, 121] <;> simp_all [supd, listsAt]), rfl, rfl, rfl, rfl⟩
   ·
    refine DStep.pIns (l' := [true, true, true, true, false, true, true, true, true, true, true, true, true, false, false]) (zd := true) (by kernel_rfl) (by kernel_rfl) (ty := 0) (g := none) (by kernel_rfl) rfl (mt := 167) (k := 9) (vt := 166) (m := .tmp 48) (x := .const (.string ⟨([109, 117, 108, 116, 105, 112, 108, 105, 101, 114] : List UInt8).toArray⟩)) (y := .tmp 54) (k0 := [109, 117, 108, 116, 105, 112, 108, 105, 101, 114]) (v := .pointer (some ⟨bp, 1, none⟩)) rfl rfl rfl (by kernel_rfl) (by kernel_rfl) (by simp [supd]) hs21 hp21 (Mem.le.refl _) (by simp) (fun e => by cases e) (fun e24 w24 hs24 hp24 => ?_)
    refine DWP.one (i := 4) (by kernel_rfl) ?_
    refine DStep.pIns (l' := [true, true, true, true, true, true, true, true, true, true, true, true, true, false, false]) (zd := true) (by kernel_rfl) (by kernel_rfl) (ty := 0) (g := none) (by kernel_rfl) rfl (mt := 167) (k := 9) (vt := 166) (m := .tmp 48) (x := .const (.string ⟨([112, 111, 105, 110, 116, 115] : List UInt8).toArray⟩)) (y := .tmp 51) (k0 := [112, 111, 105, 110, 116, 115]) (v := .pointer (some ⟨bp, 0, none⟩)) rfl rfl rfl (by kernel_rfl) (by kernel_rfl) (by simp [supd]) hs24 hp24 (Mem.le.refl _) (by simp) (fun e => by cases e) (fun e25 w25 hs25 hp25 => ?_)
    refine DWP.one (i := 13) (by kernel_rfl) ?_
    refine DStep.val (l' := [true, true, true, true, true, true, true, true, true, true, true, true, true, true, false]) (zd := true) (by kernel_rfl) (by kernel_rfl) (dst := some 58) (ty := 167) (g := none) (by kernel_rfl) rfl (run_move (x := .tmp 48) (v := .map (some b)) rfl) (dz_of hs25 (Mem.le.refl _) (by simp) (fun e => by cases e)) ?_
    refine DWP.one (i := 14) (by kernel_rfl) ?_
    refine DStep.val (l' := [true, true, true, true, true, true, true, true, true, true, true, true, true, true, true]) (zd := true) (by kernel_rfl) (by kernel_rfl) (dst := some 6) (ty := 167) (g := none) (by kernel_rfl) rfl (run_assign (x := .tmp 58) (v := .map (some b)) rfl) (dz_of hs25 (Mem.le.refl _) (by simp) (fun e => by cases e)) ?_
    exact DWP.done (by kernel_rfl) ⟨_, b, hs25, hp25.congr (fun k => by by_cases a : k = [112, 111, 105, 110, 116, 115] <;> by_cases b : k = [109, 117, 108, 116, 105, 112, 108, 105, 101, 114] <;> by_cases c : k = [112, 101, 110, 97, 108, 116, 121] <;> simp_all [supd, listsAt]), rfl, rfl, rfl, rfl⟩
 ·rintro f' w' ⟨e, b, h1, h2, h3, h4, h5⟩
  exact k f' w' e b h1 h2 h3 ⟨h4, h5⟩
end Go.Proofs.YtaihlcdkcampbaaGreatDoor
namespace Go.Proofs.YtaihlcdkcampbaaGreatDoor
open Go.Proofs
def rules_parser_part (N : Nat) (x0 : rules_parser) (x1 : Book) : Option (rules_bad ⊕ (rules_parser × Book)) :=
 ((idx x0.l_ 0).bind fun x21 => ((rules_parser_accept N x0 ([114, 101, 112, 101, 97, 116] : List UInt8)).bind fun r41 => (bif r41.2 then ((rules_parser_expect N r41.1 ([58] : List UInt8)).bind fun r51 => sk r51 (fun b242 => some (.inl b242)) (fun r54 => ((rules_parser_placed N r54).bind fun r61 => sk r61 (fun b235 => some (.inl b235)) (fun r64 => ((rules_parser_ended N r64.1).bind fun r77 => sk r77 (fun b228 => some (.inl b228)) (fun r80 => (((rules_room_api_Expr N r64.1 x1.Repeats x21.at_).bind fun r100 => sk r100 (fun b110 => some (.inl b110)) (fun r103 => some (.inr ()))).bind fun j92 => sk j92 (fun b222 => some (.inl b222)) (fun J99 => ((rules_parser_check N r64.1 r64.2 1).bind fun r118 => sk r118 (fun b215 => some (.inl b215)) (fun r121 => (((apnd x1.Repeats [({ Op := 0, Value := 0, Kids := ([] : List Expr) } : Expr)]).bind fun r142 => ((idx r142 (x1.Repeats.length : Int)).bind fun x151 => some (r142.set ((x1.Repeats.length : Int) : Int).toNat (r64.2.Expr)))).bind fun j133 => some (.inr (r64.1, ({ Points := x1.Points, Multipliers := x1.Multipliers, Penalties := x1.Penalties, Repeats := j133 } : Book)))))))))))))) else (bif (x21.text_ == ([112, 111, 105, 110, 116, 115] : List UInt8)) then ((rules_parser_accept N r41.1 x21.text_).bind fun r264 => (bif (!r264.2) then ((rules_parser_fail N r264.1 60 x21.at_).bind fun r274 => sk r274 (fun b279 => some (.inl b279)) (fun r277 => none)) else ((rules_parser_expect N r264.1 ([58] : List UInt8)).bind fun r286 => sk r286 (fun b489 => some (.inl b489)) (fun r289 => ((rules_parser_placed N r289).bind fun r296 => sk r296 (fun b482 => some (.inl b482)) (fun r299 => ((rules_parser_expect N r299.1 ([61, 62] : List UInt8)).bind fun r319 => sk r319 (fun b475 => some (.inl b475)) (fun r322 => ((rules_parser_placed N r322).bind fun r329 => sk r329 (fun b468 => some (.inl b468)) (fun r332 => ((rules_parser_ended N r332.1).bind fun r354 => sk r354 (fun b461 => some (.inl b461)) (fun r357 => (((rules_room_api_Clause N r332.1 x1.Points x21.at_).bind fun r378 => sk r378 (fun b388 => some (.inl b388)) (fun r381 => some (.inr ()))).bind fun j369 => sk j369 (fun b455 => some (.inl b455)) (fun J377 => ((rules_parser_check N r332.1 r299.2 2).bind fun r396 => sk r396 (fun b448 => some (.inl b448)) (fun r399 => ((rules_parser_check N r332.1 r332.2 1).bind fun r406 => sk r406 (fun b441 => some (.inl b441)) (fun r409 => (((apnd x1.Points [({ When := r299.2.Expr, Then := r332.2.Expr } : Clause)]).bind fun r430 => some r430).bind fun j421 => some (.inr (r332.1, ({ Points := j421, Multipliers := x1.Multipliers, Penalties := x1.Penalties, Repeats := x1.Repeats } : Book)))))))))))))))))))))) else none))))
theorem co_rules_parser_part : CallOk Tryz.prog 81 := fun _ _ => by kernel_rfl
theorem c_rules_parser_part (N : Nat) {wb w0 : World} {Fb F0 : Mem} {Lf : Own} (hG : Glob F0) (bp0 : Nat) (x0 : rules_parser) (a0_0 : Option Addr) (n0_0 : Nat) (hb0_0 : LC x0.l_.length n0_0) (hs0_0 : SlA trules_token F0 a0_0 x0.l_) (bp1 : Nat) (x1 : Book) (a1_0 : Option Addr) (n1_0 : Nat) (e1_0 : Option Nat × Obj) (a1_1 : Option Addr) (n1_1 : Nat) (e1_1 : Option Nat × Obj) (a1_2 : Option Addr) (n1_2 : Nat) (e1_2 : Option Nat × Obj) (a1_3 : Option Addr) (n1_3 : Nat) (e1_3 : Option Nat × Obj) (hr1_0 : RowR tClause 56 F0 a1_0 n1_0 x1.Points e1_0) (hr1_1 : RowR tClause 56 F0 a1_1 n1_1 x1.Multipliers e1_1) (hr1_2 : RowR tClause 56 F0 a1_2 n1_2 x1.Penalties e1_2) (hr1_3 : RowR tExpr 33 F0 a1_3 n1_3 x1.Repeats e1_3) (hs0 : HS wb Fb w0 F0 ((sb bp0 (krules_parser x0 a0_0 n0_0) 100) :: (sb bp1 (kBook x1 a1_0 n1_0 a1_1 n1_1 a1_2 n1_2 a1_3 n1_3) 26) :: e1_0 :: e1_1 :: e1_2 :: e1_3 :: Lf)) (r : (rules_bad ⊕ (rules_parser × Book))) (h : rules_parser_part N x0 x1 = some r) :
  Calls Tryz.prog 81 ([(pt bp0 0), (pt bp1 0)] : List Value).toArray w0 (BRetP wb Fb F0 Lf r (fun b => (.iface 158 (.agg (krules_bad b)))) fun a F' v L' => ∃ (aq0_0 : Option Addr) (nq0_0 : Nat) (aq1_0 : Option Addr) (nq1_0 : Nat) (eq1_0 : Option Nat × Obj) (aq1_1 : Option Addr) (nq1_1 : Nat) (eq1_1 : Option Nat × Obj) (aq1_2 : Option Addr) (nq1_2 : Nat) (eq1_2 : Option Nat × Obj) (aq1_3 : Option Addr) (nq1_3 : Nat) (eq1_3 : Option Nat × Obj), v = (.tuple #[]) ∧ L' = (sb bp0 (krules_parser a.1 aq0_0 nq0_0) 100) :: (sb bp1 (kBook a.2 aq1_0 nq1_0 aq1_1 nq1_1 aq1_2 nq1_2 aq1_3 nq1_3) 26) :: eq1_0 :: eq1_1 :: eq1_2 :: eq1_3 :: Lf ∧ LC a.1.l_.length nq0_0 ∧ SlA trules_token F' aq0_0 a.1.l_ ∧ RowR tClause 56 F' aq1_0 nq1_0 a.2.Points eq1_0 ∧ RowR tClause 56 F' aq1_1 nq1_1 a.2.Multipliers eq1_1 ∧ RowR tClause 56 F' aq1_2 nq1_2 a.2.Penalties eq1_2 ∧ RowR tExpr 33 F' aq1_3 nq1_3 a.2.Repeats eq1_3) := by
 refine Go 114 Tryz.func81 ?_
 refine Sq (Rg [0, 1, 2, 3, 4, 5, 6, 7] ?_)
 refine Vs 3 ?_
 refine Ld hs0.at0 ?_
 obtain ⟨x21, hx22, h24⟩ := bind_some h
 obtain ⟨hi23, hx22'⟩ := idx_spec hx22
 obtain ⟨b25, o26, C27, E28, fz29, rfl, hF31, hE32⟩ := SlA.open hs0_0 hx22'
 have hc34 := hE32 _ _ hx22'
 refine Ix hi23 ?_
 refine Lx 0 (hs0.pers _ _ hF31) hc34 ?_
 refine Al' 97 #[(vi 0), (vi 0), (.string ⟨(([] : List UInt8)).toArray⟩)] hs0 (fun b35 w36 hs37 => ?_)
 refine St0 (krules_token x21) hs37 (fun w38 hs39 => ?_)
 refine Nss ?_
 refine Sq (Rg [0, 1] ?_)
 refine Vs 1 ?_
 have hs40 := hs39.pk6.pk6.pk6.pk6.pk6.pk5
 obtain ⟨r41, hr42, h43⟩ := bind_some h24
 refine CB co_rules_parser_accept (c_rules_parser_accept N bp0 (x0) (some ⟨b25, o26, none⟩) n0_0 hb0_0 hs0_0 (([114, 101, 112, 101, 97, 116] : List UInt8)) hs40.pk6 _ hr42) ?_
 rintro _ F1 w44 _ hs45 le46 ⟨ar41_0_0, nr41_0_0, rfl, rfl, hbr41_0_0, hsr41_0_0⟩
 refine Nt ?_
 refine Cd h43 (fun hb48 h49 => ?_) (fun hb48 h50 => ?_)
 ·refine Sq (Rg [0, 1] ?_)
  refine Vs 1 ?_
  obtain ⟨r51, hr52, h53⟩ := bind_some h49
  refine CP co_rules_parser_expect (c_rules_parser_expect N bp0 (r41.1) ar41_0_0 nr41_0_0 hbr41_0_0 hsr41_0_0 (([58] : List UInt8)) hs45 _ hr52) ?_ ?_
  ·rintro r54 _ F2 w56 _ rfl hs57 le58 ⟨ar54_0_0, nr54_0_0, rfl, rfl, hbr54_0_0, hsr54_0_0⟩
   have h60 := sk_r h53
   refine Nss (Rg [0, 1, 2, 3] ?_)
   refine Vs 1 ?_
   obtain ⟨r61, hr62, h63⟩ := bind_some h60
   refine CP co_rules_parser_placed (c_rules_parser_placed N (hG.mono (le46.trans le58)) bp0 (r54) ar54_0_0 nr54_0_0 hbr54_0_0 hsr54_0_0 hs57 _ hr62) ?_ ?_
   ·rintro r64 _ F3 w66 _ rfl hs67 le68 ⟨ar64_0_0, nr64_0_0, ar64_1_2, nr64_1_2, rfl, rfl, hbr64_0_0, hsr64_0_0, hbr64_1_2, hsr64_1_2⟩
    have h70 := sk_r h63
    refine Al' 113 #[(vi 0), (vi 0), (.slice none ([] : List Expr).length 0), (vi 0)] hs67 (fun b71 w72 hs73 => ?_)
    refine St0 (krules_placed r64.2 ar64_1_2 nr64_1_2) hs73 (fun w74 hs75 => ?_)
    refine Nss (Rg [0, 1] ?_)
    refine Vs 1 ?_
    have hs76 := hs75.pk7.pk7.pk7.pk7.pk7.pk7
    obtain ⟨r77, hr78, h79⟩ := bind_some h70
    refine CP co_rules_parser_ended (c_rules_parser_ended N bp0 (r64.1) ar64_0_0 nr64_0_0 hbr64_0_0 hsr64_0_0 hs76.pk6.pk7 _ hr78) ?_ ?_
    ·rintro r80 _ F4 w82 _ rfl hs83 le84 ⟨rfl, rfl⟩
     have h86 := sk_r h79
     refine Nss ?_
     obtain ⟨j92, hj97, h98⟩ := bind_some h86
     refine RDP 8 8 [(sb bp0 (krules_parser r64.1 ar64_0_0 nr64_0_0) 100), (sb b71 (krules_placed r64.2 ar64_1_2 nr64_1_2) 113), (sb b35 (krules_token x21) 97), (sb bp1 (kBook x1 a1_0 n1_0 a1_1 n1_1 a1_2 n1_2 a1_3 n1_3) 26), e1_0, e1_1, e1_2, e1_3] [] hs83 (fun c d w => d = [] ∧ ∃ (b : rules_bad) (Fp : Mem), j92 = .inl b ∧ c = [{ v := (.iface 158 (.agg (krules_bad b))), recovered := false }] ∧ HS wb Fb w Fp Lf ∧ Mem.le F4 Fp) (fun f w => ∃ (J99 : (Unit)), j92 = .inr J99 ∧ ∃ (F5 : Mem), HS wb Fb w F5 ((sb bp0 (krules_parser r64.1 ar64_0_0 nr64_0_0) 100) :: (sb b71 (krules_placed r64.2 ar64_1_2 nr64_1_2) 113) :: (sb bp1 (kBook x1 a1_0 n1_0 a1_1 n1_1 a1_2 n1_2 a1_3 n1_3) 26) :: e1_0 :: e1_1 :: e1_2 :: e1_3 :: Lf) ∧ Mem.le F4 F5 ∧ FI f [] [(0, (pt bp0 0)), (1, (pt bp1 0)), (5, (pt b71 0))]) (fun wd87 hw88 => ?_) ?_ ?_
     ·refine Dv [0, 1, 2, 3] ?_
      refine Dl 4 (fun _ hq => (hq.1.2 3 _ _ rfl)) ?_
      refine Dv [5] ?_
      refine Dl 6 (fun _ hq => (hq.1.2 2 _ _ rfl)) ?_
      refine D1 7 ?_
      obtain ⟨r100, hr101, h102⟩ := bind_some hj97
      refine DCP co_rules_room_api_Expr (c_rules_room_api_Expr N bp0 (r64.1) ar64_0_0 nr64_0_0 hbr64_0_0 (SlA.mono hsr64_0_0 le84) (x1.Repeats) a1_3 n1_3 (x21.at_) hw88 _ hr101) ?_ ?_
      ·rintro r103 _ F6 w105 _ rfl hs106 le107 ⟨rfl, rfl⟩
       have h109 := sk_r h102
       refine ⟨dz_of hs106 le107 (by simp) (zdT (by kernel_rfl)), ?_⟩
       obtain rfl := some_inj h109
       exact DWP.done (by kernel_rfl) ⟨_, rfl, F6, hs106.dr2, le107, fI⟩
      ·rintro b110 F7 w111 rfl hs112 le113
       have h114 := sk_l h102
       obtain rfl := some_inj h114
       have hs116 := hs112.dr0.dr0.dr0.dr0.dr0
       exact ⟨rfl, _, _, rfl, rfl, hs116.dr0.dr0, le113⟩
     ·rintro f w89 ⟨J99, rfl, F5, hs90, le91, ⟨_, rfl⟩⟩
      have h117 := sk_r h98
      refine thenQ_nrm ?_
      refine Sq (Rg [0, 1, 2] ?_)
      refine Vs 1 ?_
      refine Ld hs90.at1 ?_
      obtain ⟨r118, hr119, h120⟩ := bind_some h117
      refine CP co_rules_parser_check (c_rules_parser_check N bp0 (r64.1) ar64_0_0 nr64_0_0 hbr64_0_0 (SlA.mono hsr64_0_0 (le84.trans le91)) (r64.2) ar64_1_2 nr64_1_2 hbr64_1_2 (SlA.mono hsr64_1_2 (le84.trans le91)) (1) hs90 _ hr119) ?_ ?_
      ·rintro r121 _ F8 w123 _ rfl hs124 le125 ⟨rfl, rfl⟩
       have h127 := sk_r h120
       refine Nss ?_
       obtain ⟨j133, hj135, h136⟩ := bind_some h127
       refine RD 14 14 [(sb bp0 (krules_parser r64.1 ar64_0_0 nr64_0_0) 100), (sb b71 (krules_placed r64.2 ar64_1_2 nr64_1_2) 113), e1_0, e1_1, e1_2] [] hs124 (fun f w => ∃ (F9 : Mem) (aj133_0 : Option Addr) (nj133_0 : Nat) (ej133_0 : Option Nat × Obj), HS wb Fb w F9 ((sb bp0 (krules_parser r64.1 ar64_0_0 nr64_0_0) 100) :: (sb bp1 #[(.slice a1_0 x1.Points.length n1_0), (.slice a1_1 x1.Multipliers.length n1_1), (.slice a1_2 x1.Penalties.length n1_2), (.slice aj133_0 j133.length nj133_0)] 26) :: e1_0 :: e1_1 :: e1_2 :: ej133_0 :: Lf) ∧ Mem.le F8 F9 ∧ FI f [] [] ∧ RowR tExpr 33 F9 aj133_0 nj133_0 j133 ej133_0) (fun wd128 hw129 => ?_) ?_
       ·refine Dv [0, 1, 2, 4] ?_
        refine Dl 5 (fun _ hq => (hq.1.2 1 _ _ rfl)) ?_
        refine DWP.two (i := 3) (j := 7) (by kernel_rfl) ?_ ?_
        ·refine DStep.val (l' := [true, true, true, true, true, true, false, false, false, false, false, false, false, false]) (zd := true) (by kernel_rfl) (by kernel_rfl) (dst := (some 39)) (ty := 24) (g := none) (by kernel_rfl) rfl (run_load' (t := 24) (x := (.tmp 38)) (b := bp1) (o := 3) (g := false) (s := 1) (C := (kBook x1 a1_0 n1_0 a1_1 n1_1 a1_2 n1_2 a1_3 n1_3)) (v := (.slice a1_3 x1.Repeats.length n1_3)) rfl (by kernel_rfl) hw129.at2 rfl rfl rfl) (dz_of hw129 (Mem.le.refl _) (by simp) (fun e => by cases e)) ?_
         refine Dv [6] ?_
         refine D1 7 ?_
         refine DBs 33 [(vi 0), (vi 0), (.slice none ([] : List Expr).length 0)] hw129 (Mem.le.refl _) (fun b137 w138 hs139 => ?_)
         have hr141 : RowR tExpr 33 F8 (some ⟨b137, 0, none⟩) 1 [({ Op := 0, Value := 0, Kids := ([] : List Expr) } : Expr)] (some b137, .cells ([(vi 0), (vi 0), (.slice none ([] : List Expr).length 0)] : List Value).toArray 33 (0, 0)) := RowR.lit ⟨(tExpr_mk ⟨none, 0, rfl, LC.nil, (.inl rfl)⟩), rfl⟩ (by simp)
         refine D1 8 ?_
         obtain ⟨r142, hap143, h144⟩ := bind_some hj135
         refine DAp7 oExpr hs139 (hr1_3.mono (((((le46.trans le58).trans le68).trans le84).trans le91).trans le125)) (hs139.rd0 hr141) hap143 (Mem.le.refl _) (fun a145 n146 e147 w148 hs149 hr150 => ?_)
         obtain ⟨x151, hx152, h154⟩ := bind_some h144
         obtain ⟨hi153, hx152'⟩ := idx_spec hx152
         obtain ⟨b155, C156, rfl, rfl, hE159⟩ := RowR.open hr150 hx152'
         have hr160 := hr150
         obtain ⟨ae161_2, ne161_2, hc162, hbe161_2, hse161_2⟩ := (tExpr_open (hE159 _ _ hx152'))
         refine Dj 9 hi153 ?_
         refine Dv [11, 12] ?_
         refine DWP.two (i := 10) (j := 13) (by kernel_rfl) ?_ ?_
         ·refine DStep.storeRow (l' := [true, true, true, true, true, true, true, true, true, true, true, true, true, false]) (zd := true) (by kernel_rfl) (by kernel_rfl) (ty := 0) (g := none) (by kernel_rfl) rfl (x := (.tmp 45)) (y := (.tmp 41)) (t := 33) (v := (.agg (kExpr r64.2.Expr ar64_1_2 nr64_1_2))) (gg := true) (b := b155) (j := ((x1.Repeats.length : Int) : Int).toNat) (C := C156) (T := tExpr) (E := 33) (u := (r64.2.Expr)) rfl rfl (by kernel_rfl) hs149 (k := 7) rfl hr160 hx152' (tExpr_mk ⟨ar64_1_2, nr64_1_2, rfl, hbr64_1_2, (SlA.mono hsr64_1_2 ((le84.trans le91).trans le125))⟩) rfl (Mem.le.refl _) (fun _ => by simp) (fun e => by cases e) (fun C163 w164 (hs165 : HS wb Fb w164 F8 ((some b137, .cells ([(vi 0), (vi 0), (.slice none ([] : List Expr).length 0)] : List Value).toArray 33 (0, 0)) :: (sb bp0 (krules_parser r64.1 ar64_0_0 nr64_0_0) 100) :: (sb b71 (krules_placed r64.2 ar64_1_2 nr64_1_2) 113) :: (sb bp1 (kBook x1 a1_0 n1_0 a1_1 n1_1 a1_2 n1_2 a1_3 n1_3) 26) :: e1_0 :: e1_1 :: e1_2 :: (some b155, .cells C163 33 (0, 0)) :: Lf)) hr166 => ?_)
          refine D1 13 ?_
          refine DStep.store (l' := [true, true, true, true, true, true, true, true, true, true, true, true, true, true]) (zd := true) (by kernel_rfl) (by kernel_rfl) (ty := 0) (g := none) (by kernel_rfl) rfl (x := (.tmp 47)) (y := (.tmp 44)) (t := 24) (gg := false) (s := 1) (v := (.slice (some ⟨b155, 0, none⟩) (r142.set ((x1.Repeats.length : Int) : Int).toNat (r64.2.Expr)).length n146)) (b := bp1) (o := 3) (C := (kBook x1 a1_0 n1_0 a1_1 n1_1 a1_2 n1_2 a1_3 n1_3)) rfl (len_set rfl) (by kernel_rfl) hs165 (k := 3) rfl rfl rfl rfl (C' := #[(.slice a1_0 x1.Points.length n1_0), (.slice a1_1 x1.Multipliers.length n1_1), (.slice a1_2 x1.Penalties.length n1_2), (.slice (some ⟨b155, 0, none⟩) (r142.set ((x1.Repeats.length : Int) : Int).toNat (r64.2.Expr)).length n146)]) rfl (Mem.le.refl _) (by simp) (fun e => by cases e) (fun w167 (hs168 : HS wb Fb w167 F8 ((some b137, .cells ([(vi 0), (vi 0), (.slice none ([] : List Expr).length 0)] : List Value).toArray 33 (0, 0)) :: (sb bp0 (krules_parser r64.1 ar64_0_0 nr64_0_0) 100) :: (sb b71 (krules_placed r64.2 ar64_1_2 nr64_1_2) 113) :: (sb bp1 #[(.slice a1_0 x1.Points.length n1_0), (.slice a1_1 x1.Multipliers.length n1_1), (.slice a1_2 x1.Penalties.length n1_2), (.slice (some ⟨b155, 0, none⟩) (r142.set ((x1.Repeats.length : Int) : Int).toNat (r64.2.Expr)).length n146)] 26) :: e1_0 :: e1_1 :: e1_2 :: (some b155, .cells C163 33 (0, 0)) :: Lf)) => ?_)
          obtain rfl := some_inj h154
          exact DWP.done (by kernel_rfl) ⟨F8, (some ⟨b155, 0, none⟩), n146, (some b155, .cells C163 33 (0, 0)), hs168.dr0.dr1, (Mem.le.refl _), fI, hr166⟩
         ·refine DSt3 #[(.slice a1_0 x1.Points.length n1_0), (.slice a1_1 x1.Multipliers.length n1_1), (.slice a1_2 x1.Penalties.length n1_2), (.slice (some ⟨b155, 0, none⟩) r142.length n146)] hs149 (Mem.le.refl _) (fun w169 hs170 => ?_)
          refine D1 10 ?_
          refine DStep.storeRow (l' := [true, true, true, true, true, true, true, true, true, true, true, true, true, true]) (zd := true) (by kernel_rfl) (by kernel_rfl) (ty := 0) (g := none) (by kernel_rfl) rfl (x := (.tmp 45)) (y := (.tmp 41)) (t := 33) (v := (.agg (kExpr r64.2.Expr ar64_1_2 nr64_1_2))) (gg := true) (b := b155) (j := ((x1.Repeats.length : Int) : Int).toNat) (C := C156) (T := tExpr) (E := 33) (u := (r64.2.Expr)) rfl rfl (by kernel_rfl) hs170 (k := 7) rfl hr160 hx152' (tExpr_mk ⟨ar64_1_2, nr64_1_2, rfl, hbr64_1_2, (SlA.mono hsr64_1_2 ((le84.trans le91).trans le125))⟩) rfl (Mem.le.refl _) (fun _ => by simp) (fun e => by cases e) (fun C171 w172 (hs173 : HS wb Fb w172 F8 ((some b137, .cells ([(vi 0), (vi 0), (.slice none ([] : List Expr).length 0)] : List Value).toArray 33 (0, 0)) :: (sb bp0 (krules_parser r64.1 ar64_0_0 nr64_0_0) 100) :: (sb b71 (krules_placed r64.2 ar64_1_2 nr64_1_2) 113) :: (sb bp1 #[(.slice a1_0 x1.Points.length n1_0), (.slice a1_1 x1.Multipliers.length n1_1), (.slice a1_2 x1.Penalties.length n1_2), (.slice (some ⟨b155, 0, none⟩) r142.length n146)] 26) :: e1_0 :: e1_1 :: e1_2 :: (some b155, .cells C171 33 (0, 0)) :: Lf)) hr174 => ?_)
          have hs175 : HS wb Fb w172 F8 ((some b137, .cells ([(vi 0), (vi 0), (.slice none ([] : List Expr).length 0)] : List Value).toArray 33 (0, 0)) :: (sb bp0 (krules_parser r64.1 ar64_0_0 nr64_0_0) 100) :: (sb b71 (krules_placed r64.2 ar64_1_2 nr64_1_2) 113) :: (sb bp1 #[(.slice a1_0 x1.Points.length n1_0), (.slice a1_1 x1.Multipliers.length n1_1), (.slice a1_2 x1.Penalties.length n1_2), (.slice (some ⟨b155, 0, none⟩) (r142.set ((x1.Repeats.length : Int) : Int).toNat (r64.2.Expr)).length n146)] 26) :: e1_0 :: e1_1 :: e1_2 :: (some b155, .cells C171 33 (0, 0)) :: Lf) := by have hq := hs173; simp only [List.length_set] at hq ⊢; exact hq
          obtain rfl := some_inj h154
          exact DWP.done (by kernel_rfl) ⟨F8, (some ⟨b155, 0, none⟩), n146, (some b155, .cells C171 33 (0, 0)), hs175.dr0.dr1, (Mem.le.refl _), fI, hr174⟩
        ·refine DBs 33 [(vi 0), (vi 0), (.slice none ([] : List Expr).length 0)] hw129 (Mem.le.refl _) (fun b176 w177 hs178 => ?_)
         have hr180 : RowR tExpr 33 F8 (some ⟨b176, 0, none⟩) 1 [({ Op := 0, Value := 0, Kids := ([] : List Expr) } : Expr)] (some b176, .cells ([(vi 0), (vi 0), (.slice none ([] : List Expr).length 0)] : List Value).toArray 33 (0, 0)) := RowR.lit ⟨(tExpr_mk ⟨none, 0, rfl, LC.nil, (.inl rfl)⟩), rfl⟩ (by simp)
         refine D1 3 ?_
         refine DStep.val (l' := [true, true, true, true, true, true, false, true, false, false, false, false, false, false]) (zd := true) (by kernel_rfl) (by kernel_rfl) (dst := (some 39)) (ty := 24) (g := none) (by kernel_rfl) rfl (run_load' (t := 24) (x := (.tmp 38)) (b := bp1) (o := 3) (g := false) (s := 1) (C := (kBook x1 a1_0 n1_0 a1_1 n1_1 a1_2 n1_2 a1_3 n1_3)) (v := (.slice a1_3 x1.Repeats.length n1_3)) rfl (by kernel_rfl) hs178.at3 rfl rfl rfl) (dz_of hs178 (Mem.le.refl _) (by simp) (fun e => by cases e)) ?_
         refine Dv [6] ?_
         refine D1 8 ?_
         obtain ⟨r181, hap182, h183⟩ := bind_some hj135
         refine DAp7 oExpr hs178 (hr1_3.mono (((((le46.trans le58).trans le68).trans le84).trans le91).trans le125)) (hs178.rd0 hr180) hap182 (Mem.le.refl _) (fun a184 n185 e186 w187 hs188 hr189 => ?_)
         obtain ⟨x190, hx191, h193⟩ := bind_some h183
         obtain ⟨hi192, hx191'⟩ := idx_spec hx191
         obtain ⟨b194, C195, rfl, rfl, hE198⟩ := RowR.open hr189 hx191'
         have hr199 := hr189
         obtain ⟨ae200_2, ne200_2, hc201, hbe200_2, hse200_2⟩ := (tExpr_open (hE198 _ _ hx191'))
         refine Dj 9 hi192 ?_
         refine Dv [11, 12] ?_
         refine DWP.two (i := 10) (j := 13) (by kernel_rfl) ?_ ?_
         ·refine DStep.storeRow (l' := [true, true, true, true, true, true, true, true, true, true, true, true, true, false]) (zd := true) (by kernel_rfl) (by kernel_rfl) (ty := 0) (g := none) (by kernel_rfl) rfl (x := (.tmp 45)) (y := (.tmp 41)) (t := 33) (v := (.agg (kExpr r64.2.Expr ar64_1_2 nr64_1_2))) (gg := true) (b := b194) (j := ((x1.Repeats.length : Int) : Int).toNat) (C := C195) (T := tExpr) (E := 33) (u := (r64.2.Expr)) rfl rfl (by kernel_rfl) hs188 (k := 7) rfl hr199 hx191' (tExpr_mk ⟨ar64_1_2, nr64_1_2, rfl, hbr64_1_2, (SlA.mono hsr64_1_2 ((le84.trans le91).trans le125))⟩) rfl (Mem.le.refl _) (fun _ => by simp) (fun e => by cases e) (fun C202 w203 (hs204 : HS wb Fb w203 F8 ((some b176, .cells ([(vi 0), (vi 0), (.slice none ([] : List Expr).length 0)] : List Value).toArray 33 (0, 0)) :: (sb bp0 (krules_parser r64.1 ar64_0_0 nr64_0_0) 100) :: (sb b71 (krules_placed r64.2 ar64_1_2 nr64_1_2) 113) :: (sb bp1 (kBook x1 a1_0 n1_0 a1_1 n1_1 a1_2 n1_2 a1_3 n1_3) 26) :: e1_0 :: e1_1 :: e1_2 :: (some b194, .cells C202 33 (0, 0)) :: Lf)) hr205 => ?_)
          refine D1 13 ?_
          refine DStep.store (l' := [true, true, true, true, true, true, true, true, true, true, true, true, true, true]) (zd := true) (by kernel_rfl) (by kernel_rfl) (ty := 0) (g := none) (by kernel_rfl) rfl (x := (.tmp 47)) (y := (.tmp 44)) (t := 24) (gg := false) (s := 1) (v := (.slice (some ⟨b194, 0, none⟩) (r181.set ((x1.Repeats.length : Int) : Int).toNat (r64.2.Expr)).length n185)) (b := bp1) (o := 3) (C := (kBook x1 a1_0 n1_0 a1_1 n1_1 a1_2 n1_2 a1_3 n1_3)) rfl (len_set rfl) (by kernel_rfl) hs204 (k := 3) rfl rfl rfl rfl (C' := #[(.slice a1_0 x1.Points.length n1_0), (.slice a1_1 x1.Multipliers.length n1_1), (.slice a1_2 x1.Penalties.length n1_2), (.slice (some ⟨b194, 0, none⟩) (r181.set ((x1.Repeats.length : Int) : Int).toNat (r64.2.Expr)).length n185)]) rfl (Mem.le.refl _) (by simp) (fun e => by cases e) (fun w206 (hs207 : HS wb Fb w206 F8 ((some b176, .cells ([(vi 0), (vi 0), (.slice none ([] : List Expr).length 0)] : List Value).toArray 33 (0, 0)) :: (sb bp0 (krules_parser r64.1 ar64_0_0 nr64_0_0) 100) :: (sb b71 (krules_placed r64.2 ar64_1_2 nr64_1_2) 113) :: (sb bp1 #[(.slice a1_0 x1.Points.length n1_0), (.slice a1_1 x1.Multipliers.length n1_1), (.slice a1_2 x1.Penalties.length n1_2), (.slice (some ⟨b194, 0, none⟩) (r181.set ((x1.Repeats.length : Int) : Int).toNat (r64.2.Expr)).length n185)] 26) :: e1_0 :: e1_1 :: e1_2 :: (some b194, .cells C202 33 (0, 0)) :: Lf)) => ?_)
          obtain rfl := some_inj h193
          exact DWP.done (by kernel_rfl) ⟨F8, (some ⟨b194, 0, none⟩), n185, (some b194, .cells C202 33 (0, 0)), hs207.dr0.dr1, (Mem.le.refl _), fI, hr205⟩
         ·refine DSt3 #[(.slice a1_0 x1.Points.length n1_0), (.slice a1_1 x1.Multipliers.length n1_1), (.slice a1_2 x1.Penalties.length n1_2), (.slice (some ⟨b194, 0, none⟩) r181.length n185)] hs188 (Mem.le.refl _) (fun w208 hs209 => ?_)
          refine D1 10 ?_
          refine DStep.storeRow (l' := [true, true, true, true, true, true, true, true, true, true, true, true, true, true]) (zd := true) (by kernel_rfl) (by kernel_rfl) (ty := 0) (g := none) (by kernel_rfl) rfl (x := (.tmp 45)) (y := (.tmp 41)) (t := 33) (v := (.agg (kExpr r64.2.Expr ar64_1_2 nr64_1_2))) (gg := true) (b := b194) (j := ((x1.Repeats.length : Int) : Int).toNat) (C := C195) (T := tExpr) (E := 33) (u := (r64.2.Expr)) rfl rfl (by kernel_rfl) hs209 (k := 7) rfl hr199 hx191' (tExpr_mk ⟨ar64_1_2, nr64_1_2, rfl, hbr64_1_2, (SlA.mono hsr64_1_2 ((le84.trans le91).trans le125))⟩) rfl (Mem.le.refl _) (fun _ => by simp) (fun e => by cases e) (fun C210 w211 (hs212 : HS wb Fb w211 F8 ((some b176, .cells ([(vi 0), (vi 0), (.slice none ([] : List Expr).length 0)] : List Value).toArray 33 (0, 0)) :: (sb bp0 (krules_parser r64.1 ar64_0_0 nr64_0_0) 100) :: (sb b71 (krules_placed r64.2 ar64_1_2 nr64_1_2) 113) :: (sb bp1 #[(.slice a1_0 x1.Points.length n1_0), (.slice a1_1 x1.Multipliers.length n1_1), (.slice a1_2 x1.Penalties.length n1_2), (.slice (some ⟨b194, 0, none⟩) r181.length n185)] 26) :: e1_0 :: e1_1 :: e1_2 :: (some b194, .cells C210 33 (0, 0)) :: Lf)) hr213 => ?_)
          have hs214 : HS wb Fb w211 F8 ((some b176, .cells ([(vi 0), (vi 0), (.slice none ([] : List Expr).length 0)] : List Value).toArray 33 (0, 0)) :: (sb bp0 (krules_parser r64.1 ar64_0_0 nr64_0_0) 100) :: (sb b71 (krules_placed r64.2 ar64_1_2 nr64_1_2) 113) :: (sb bp1 #[(.slice a1_0 x1.Points.length n1_0), (.slice a1_1 x1.Multipliers.length n1_1), (.slice a1_2 x1.Penalties.length n1_2), (.slice (some ⟨b194, 0, none⟩) (r181.set ((x1.Repeats.length : Int) : Int).toNat (r64.2.Expr)).length n185)] 26) :: e1_0 :: e1_1 :: e1_2 :: (some b194, .cells C210 33 (0, 0)) :: Lf) := by have hq := hs212; simp only [List.length_set] at hq ⊢; exact hq
          obtain rfl := some_inj h193
          exact DWP.done (by kernel_rfl) ⟨F8, (some ⟨b194, 0, none⟩), n185, (some b194, .cells C210 33 (0, 0)), hs214.dr0.dr1, (Mem.le.refl _), fI, hr213⟩
       ·rintro f w130 ⟨F9, aj133_0, nj133_0, ej133_0, hs131, le132, ⟨_, rfl⟩, hrj133_0⟩
        refine thenQ_nrm ?_
        refine Rt ?_
        refine thenQ_ret ?_
        obtain rfl := some_inj h136
        exact ReP [] hs131 ((((((le46.trans le58).trans le68).trans le84).trans le91).trans le125).trans le132) ⟨ar64_0_0, nr64_0_0, a1_0, n1_0, e1_0, a1_1, n1_1, e1_1, a1_2, n1_2, e1_2, aj133_0, nj133_0, ej133_0, rfl, rfl, hbr64_0_0, (SlA.mono hsr64_0_0 (((le84.trans le91).trans le125).trans le132)), (hr1_0.mono ((((((le46.trans le58).trans le68).trans le84).trans le91).trans le125).trans le132)), (hr1_1.mono ((((((le46.trans le58).trans le68).trans le84).trans le91).trans le125).trans le132)), (hr1_2.mono ((((((le46.trans le58).trans le68).trans le84).trans le91).trans le125).trans le132)), hrj133_0⟩
      ·rintro b215 F10 w216 rfl hs217 le218
       have h219 := sk_l h120
       refine thenQ_pan ?_
       refine thenQ_pan ?_
       have hs221 := hs217.dr0.dr0.dr0.dr0.dr0
       obtain rfl := some_inj h219
       exact RePi hs221.dr0 (((((le46.trans le58).trans le68).trans le84).trans le91).trans le218)
     ·rintro c f w223 ⟨hd226, b222, F11, rfl, rfl, hs224, le225⟩
      have h227 := sk_l h98
      refine thenQ_pan ?_
      refine thenQ_pan ?_
      obtain rfl := some_inj h227
      exact ⟨hd226, .inr ⟨_, F11, rfl, rfl, hs224, ((((le46.trans le58).trans le68).trans le84).trans le225)⟩⟩
    ·rintro b228 F12 w229 rfl hs230 le231
     have h232 := sk_l h79
     refine thenQ_pan ?_
     refine thenQ_pan ?_
     have hs234 := hs230.dr0.dr0.dr0.dr0.dr0
     obtain rfl := some_inj h232
     exact RePi hs234.dr0.dr0 (((le46.trans le58).trans le68).trans le231)
   ·rintro b235 F13 w236 rfl hs237 le238
    have h239 := sk_l h63
    refine thenQ_pan ?_
    refine thenQ_pan ?_
    have hs241 := hs237.dr0.dr0.dr0.dr0.dr0
    obtain rfl := some_inj h239
    exact RePi hs241.dr0 ((le46.trans le58).trans le238)
  ·rintro b242 F14 w243 rfl hs244 le245
   have h246 := sk_l h53
   refine thenQ_pan ?_
   refine thenQ_pan ?_
   have hs248 := hs244.dr0.dr0.dr0.dr0.dr0
   obtain rfl := some_inj h246
   exact RePi hs248.dr0 (le46.trans le245)
 ·refine Sc ?_
  refine thenQ_nrm ?_
  refine Sq ?_
  refine part_lists (L := ((sb bp0 (krules_parser r41.1 ar41_0_0 nr41_0_0) 100) :: (sb b35 (krules_token x21) 97) :: (sb bp1 (kBook x1 a1_0 n1_0 a1_1 n1_1 a1_2 n1_2 a1_3 n1_3) 26) :: e1_0 :: e1_1 :: e1_2 :: e1_3 :: Lf)) hs45 rfl (fun f249 w250 e251 b252 hs253 hp254 h255 hkeep => ?_)
  have h256 : f249.d = [] := (hkeep.1).trans rfl
  have h257 : f249 0 = (pt bp0 0) := (hkeep.2.1).trans rfl
  have h258 : f249 4 = (pt b35 0) := (hkeep.2.2).trans rfl
  clear hkeep
  have hs259 : HS wb Fb w250 F1 (e251 :: (sb bp0 (krules_parser r41.1 ar41_0_0 nr41_0_0) 100) :: (sb b35 (krules_token x21) 97) :: (sb bp1 (kBook x1 a1_0 n1_0 a1_1 n1_1 a1_2 n1_2 a1_3 n1_3) 26) :: e1_0 :: e1_1 :: e1_2 :: e1_3 :: Lf) := hs253
  refine thenQ_nrm ?_
  refine Sq (Rg [0, 1, 2, 3, 4, 5, 6, 7, 8] ?_)
  refine V 60 167 (mv 6 (.map (some b252)) h255) ?_
  refine V 61 0 (fa 97 4 2 2 1 b35 0 2 h258) ?_
  refine Ld hs259.at2 ?_
  refine Sp h50 (fun hb260 h261 => ?_) (fun hb260 h262 => ?_)
  ·refine V 63 168 (run_lookPM1 (mt := 167) (k := 9) (vt := 166) (m := (.tmp 60)) (x := (.tmp 62)) rfl rfl (by kernel_rfl) (by kernel_rfl) (hs259.ownAt' (k := 0) rfl) hp254 (listsAt_0 hb260)) ?_
   refine Vs 5 ?_
   refine Nss ?_
   refine Sq (Rg [0, 1, 2, 3, 4, 5, 6, 7, 8] ?_)
   refine Vs 3 ?_
   refine Vg 69 95 2 false 68 rfl (mv 0 (pt bp0 0) h257) ?_
   refine Vg 70 0 2 false 68 rfl (fa 97 4 2 2 1 b35 0 2 h258) ?_
   refine Vg 71 9 2 false 68 rfl (ld 9 70 b35 2 false 1 (.string ⟨(x21.text_).toArray⟩) hs259.at2) ?_
   have hs263 := hs259.pk7.pk7.pk7.pk7.pk7
   obtain ⟨r264, hr265, h266⟩ := bind_some h261
   refine RWP.callB (dst := (some 72)) (ty := 4) (g := (some (2, false))) (by kernel_rfl) (gd_y (d := 68) (by kernel_rfl) rfl rfl) (f0 := (.func 80)) (aos := #[(.tmp 69), (.tmp 71)]) (ats := #[95, 9]) (fid := 80) (first := #[]) (cap := #[]) (args := [(pt bp0 0), (.string ⟨(x21.text_).toArray⟩)]) rfl co_rules_parser_accept (rfl) (c_rules_parser_accept N bp0 (r41.1) ar41_0_0 nr41_0_0 hbr41_0_0 hsr41_0_0 (x21.text_) hs263.pk7.pk6.pk7 _ hr265) ?_
   rintro _ F15 w267 _ hs268 le269 ⟨ar264_0_0, nr264_0_0, rfl, rfl, hbr264_0_0, hsr264_0_0⟩
   refine Vg 73 4 2 false 68 rfl (run_not (t := 4) (x := (.tmp 72)) (a := r264.2) rfl) ?_
   refine Pk0 (rfl : false = false) ?_
   refine Nt ?_
   refine Cd h266 (fun hb271 h272 => ?_) (fun hb271 h273 => ?_)
   ·refine Rg [0, 1, 2, 3] ?_
    refine V 75 95 (mv 0 (pt bp0 0) h257) ?_
    refine V 76 0 (fa 97 4 1 1 1 b35 0 1 h258) ?_
    refine Ld hs268.at2 ?_
    obtain ⟨r274, hr275, h276⟩ := bind_some h272
    refine CP co_rules_parser_fail (c_rules_parser_fail N bp0 (r264.1) ar264_0_0 nr264_0_0 hbr264_0_0 hsr264_0_0 (60) (x21.at_) hs268 _ hr275) ?_ ?_
    ·rintro _ _ _ _ _ rfl _ _ _; cases hr275
    ·rintro b279 F17 w280 rfl hs281 le282
     have h283 := sk_l h276
     refine thenQ_pan ?_
     have hs285 := hs281.dr0.dr0.dr0.dr0.dr0
     obtain rfl := some_inj h283
     exact ⟨h256, .inr ⟨_, F17, rfl, rfl, hs285.dr0.dr0, ((le46.trans le269).trans le282)⟩⟩
   ·refine Sc ?_
    refine thenQ_nrm ?_
    refine Sq (Rg [0, 1] ?_)
    refine V 79 95 (mv 0 (pt bp0 0) h257) ?_
    obtain ⟨r286, hr287, h288⟩ := bind_some h273
    refine CP co_rules_parser_expect (c_rules_parser_expect N bp0 (r264.1) ar264_0_0 nr264_0_0 hbr264_0_0 hsr264_0_0 (([58] : List UInt8)) hs268 _ hr287) ?_ ?_
    ·rintro r289 _ F18 w291 _ rfl hs292 le293 ⟨ar289_0_0, nr289_0_0, rfl, rfl, hbr289_0_0, hsr289_0_0⟩
     have h295 := sk_r h288
     refine Nss (Rg [0, 1, 2, 3] ?_)
     refine V 81 95 (mv 0 (pt bp0 0) h257) ?_
     obtain ⟨r296, hr297, h298⟩ := bind_some h295
     refine CP co_rules_parser_placed (c_rules_parser_placed N (hG.mono ((le46.trans le269).trans le293)) bp0 (r289) ar289_0_0 nr289_0_0 hbr289_0_0 hsr289_0_0 hs292 _ hr297) ?_ ?_
     ·rintro r299 _ F19 w301 _ rfl hs302 le303 ⟨ar299_0_0, nr299_0_0, ar299_1_2, nr299_1_2, rfl, rfl, hbr299_0_0, hsr299_0_0, hbr299_1_2, hsr299_1_2⟩
      have h305 := sk_r h298
      refine Al' 113 #[(vi 0), (vi 0), (.slice none ([] : List Expr).length 0), (vi 0)] hs302 (fun b306 w307 hs308 => ?_)
      refine St0 (krules_placed r299.2 ar299_1_2 nr299_1_2) hs308 (fun w309 hs310 => ?_)
      refine Nss (Rg [0, 1] ?_)
      refine V 83 95 (mv 0 (pt bp0 0) h257) ?_
      have hs317 : HS wb Fb w309 F19 (e251 :: (sb b35 (krules_token x21) 97) :: (sb bp1 (kBook x1 a1_0 n1_0 a1_1 n1_1 a1_2 n1_2 a1_3 n1_3) 26) :: e1_0 :: e1_1 :: e1_2 :: e1_3 :: (sb b306 (krules_placed r299.2 ar299_1_2 nr299_1_2) 113) :: (sb bp0 (krules_parser r299.1 ar299_0_0 nr299_0_0) 100) :: Lf) := hs310.pm [2, 3, 4, 5, 6, 7, 8, 0, 1]
      have hs318 : HS wb Fb w309 F19 ((sb bp0 (krules_parser r299.1 ar299_0_0 nr299_0_0) 100) :: (sb b306 (krules_placed r299.2 ar299_1_2 nr299_1_2) 113) :: e251 :: (sb b35 (krules_token x21) 97) :: (sb bp1 (kBook x1 a1_0 n1_0 a1_1 n1_1 a1_2 n1_2 a1_3 n1_3) 26) :: e1_0 :: e1_1 :: e1_2 :: e1_3 :: Lf) := hs317.pk7.pick (k := 8) rfl
      obtain ⟨r319, hr320, h321⟩ := bind_some h305
      refine CP co_rules_parser_expect (c_rules_parser_expect N bp0 (r299.1) ar299_0_0 nr299_0_0 hbr299_0_0 hsr299_0_0 (([61, 62] : List UInt8)) hs318 _ hr320) ?_ ?_
      ·rintro r322 _ F20 w324 _ rfl hs325 le326 ⟨ar322_0_0, nr322_0_0, rfl, rfl, hbr322_0_0, hsr322_0_0⟩
       have h328 := sk_r h321
       refine Nss (Rg [0, 1, 2, 3] ?_)
       refine V 85 95 (mv 0 (pt bp0 0) h257) ?_
       obtain ⟨r329, hr330, h331⟩ := bind_some h328
       refine CP co_rules_parser_placed (c_rules_parser_placed N (hG.mono ((((le46.trans le269).trans le293).trans le303).trans le326)) bp0 (r322) ar322_0_0 nr322_0_0 hbr322_0_0 hsr322_0_0 hs325 _ hr330) ?_ ?_
       ·rintro r332 _ F21 w334 _ rfl hs335 le336 ⟨ar332_0_0, nr332_0_0, ar332_1_2, nr332_1_2, rfl, rfl, hbr332_0_0, hsr332_0_0, hbr332_1_2, hsr332_1_2⟩
        have h338 := sk_r h331
        refine Al' 113 #[(vi 0), (vi 0), (.slice none ([] : List Expr).length 0), (vi 0)] hs335 (fun b339 w340 hs341 => ?_)
        refine St0 (krules_placed r332.2 ar332_1_2 nr332_1_2) hs341 (fun w342 hs343 => ?_)
        refine Nss (Rg [0, 1] ?_)
        refine V 87 95 (mv 0 (pt bp0 0) h257) ?_
        have hs353 : HS wb Fb w342 F21 ((sb bp0 (krules_parser r332.1 ar332_0_0 nr332_0_0) 100) :: (sb b339 (krules_placed r332.2 ar332_1_2 nr332_1_2) 113) :: (sb b306 (krules_placed r299.2 ar299_1_2 nr299_1_2) 113) :: e251 :: (sb b35 (krules_token x21) 97) :: (sb bp1 (kBook x1 a1_0 n1_0 a1_1 n1_1 a1_2 n1_2 a1_3 n1_3) 26) :: e1_0 :: e1_1 :: e1_2 :: e1_3 :: Lf) := hs343.pm [1, 0, 2, 3, 4, 5, 6, 7, 8, 9]
        obtain ⟨r354, hr355, h356⟩ := bind_some h338
        refine CP co_rules_parser_ended (c_rules_parser_ended N bp0 (r332.1) ar332_0_0 nr332_0_0 hbr332_0_0 hsr332_0_0 hs353 _ hr355) ?_ ?_
        ·rintro r357 _ F22 w359 _ rfl hs360 le361 ⟨rfl, rfl⟩
         have h363 := sk_r h356
         refine Nss ?_
         obtain ⟨j369, hj375, h376⟩ := bind_some h363
         refine RDP 7 7 [(sb bp0 (krules_parser r332.1 ar332_0_0 nr332_0_0) 100), (sb b339 (krules_placed r332.2 ar332_1_2 nr332_1_2) 113), (sb b306 (krules_placed r299.2 ar299_1_2 nr299_1_2) 113), e251, (sb b35 (krules_token x21) 97), (sb bp1 (kBook x1 a1_0 n1_0 a1_1 n1_1 a1_2 n1_2 a1_3 n1_3) 26), e1_0, e1_1, e1_2, e1_3] [] hs360 (fun c d w => d = [] ∧ ∃ (b : rules_bad) (Fp : Mem), j369 = .inl b ∧ c = [{ v := (.iface 158 (.agg (krules_bad b))), recovered := false }] ∧ HS wb Fb w Fp Lf ∧ Mem.le F22 Fp) (fun f w => ∃ (J377 : (Unit)), j369 = .inr J377 ∧ ∃ (F23 : Mem), HS wb Fb w F23 ((sb bp0 (krules_parser r332.1 ar332_0_0 nr332_0_0) 100) :: (sb b339 (krules_placed r332.2 ar332_1_2 nr332_1_2) 113) :: (sb b306 (krules_placed r299.2 ar299_1_2 nr299_1_2) 113) :: (sb bp1 (kBook x1 a1_0 n1_0 a1_1 n1_1 a1_2 n1_2 a1_3 n1_3) 26) :: e1_0 :: e1_1 :: e1_2 :: e1_3 :: Lf) ∧ Mem.le F22 F23 ∧ FI f [] [(0, (pt bp0 0)), (7, (pt bp1 0)), (9, (pt b306 0)), (10, (pt b339 0))]) (fun wd364 hw365 => ?_) ?_ ?_
         ·refine Dt 0 89 95 _ (fun _ hq => mv 0 (pt bp0 0) h257) ?_
          refine Dv [1, 2] ?_
          refine Dl 3 (fun _ hq => (hq.1.2 5 _ _ rfl)) ?_
          refine Dt 4 93 0 (pt b35 1) (fun _ hq => fa 97 4 1 1 1 b35 0 1 h258) ?_
          refine Dl 5 (fun _ hq => (hq.1.2 4 _ _ rfl)) ?_
          refine D1 6 ?_
          obtain ⟨r378, hr379, h380⟩ := bind_some hj375
          refine DCP co_rules_room_api_Clause (c_rules_room_api_Clause N bp0 (r332.1) ar332_0_0 nr332_0_0 hbr332_0_0 (SlA.mono hsr332_0_0 le361) (x1.Points) a1_0 n1_0 (x21.at_) hw365 _ hr379) ?_ ?_
          ·rintro r381 _ F24 w383 _ rfl hs384 le385 ⟨rfl, rfl⟩
           have h387 := sk_r h380
           refine ⟨dz_of hs384 le385 (by simp) (zdT (by kernel_rfl)), ?_⟩
           obtain rfl := some_inj h387
           exact DWP.done (by kernel_rfl) ⟨_, rfl, F24, hs384.dr3.dr3, le385, (fJ ⟨h257, rfl, rfl, rfl, trivial⟩ (hd := h256))⟩
          ·rintro b388 F25 w389 rfl hs390 le391
           have h392 := sk_l h380
           obtain rfl := some_inj h392
           have hs394 := hs390.dr0.dr0.dr0.dr0.dr0
           exact ⟨h256, _, _, rfl, rfl, hs394.dr0.dr0.dr0.dr0, le391⟩
         ·rintro f w366 ⟨J377, rfl, F23, hs367, le368, ⟨_, rfl⟩⟩
          have h395 := sk_r h376
          refine thenQ_nrm ?_
          refine Sq (Rg [0, 1, 2] ?_)
          refine Vs 1 ?_
          refine Ld hs367.at2 ?_
          obtain ⟨r396, hr397, h398⟩ := bind_some h395
          refine CP co_rules_parser_check (c_rules_parser_check N bp0 (r332.1) ar332_0_0 nr332_0_0 hbr332_0_0 (SlA.mono hsr332_0_0 (le361.trans le368)) (r299.2) ar299_1_2 nr299_1_2 hbr299_1_2 (SlA.mono hsr299_1_2 (((le326.trans le336).trans le361).trans le368)) (2) hs367 _ hr397) ?_ ?_
          ·rintro r399 _ F26 w401 _ rfl hs402 le403 ⟨rfl, rfl⟩
           have h405 := sk_r h398
           refine Nss (Rg [0, 1, 2] ?_)
           refine Vs 1 ?_
           refine Ld hs402.at1 ?_
           obtain ⟨r406, hr407, h408⟩ := bind_some h405
           refine CP co_rules_parser_check (c_rules_parser_check N bp0 (r332.1) ar332_0_0 nr332_0_0 hbr332_0_0 (SlA.mono hsr332_0_0 ((le361.trans le368).trans le403)) (r332.2) ar332_1_2 nr332_1_2 hbr332_1_2 (SlA.mono hsr332_1_2 ((le361.trans le368).trans le403)) (1) hs402 _ hr407) ?_ ?_
           ·rintro r409 _ F27 w411 _ rfl hs412 le413 ⟨rfl, rfl⟩
            have h415 := sk_r h408
            refine Nt ?_
            obtain ⟨j421, hj423, h424⟩ := bind_some h415
            refine RD 12 13 [(sb bp0 (krules_parser r332.1 ar332_0_0 nr332_0_0) 100), (sb b339 (krules_placed r332.2 ar332_1_2 nr332_1_2) 113), (sb b306 (krules_placed r299.2 ar299_1_2 nr299_1_2) 113), e1_1, e1_2, e1_3] [(sb bp1 (kBook x1 a1_0 n1_0 a1_1 n1_1 a1_2 n1_2 a1_3 n1_3) 26)] hs412 (fun f w => ∃ (F28 : Mem) (aj421_0 : Option Addr) (nj421_0 : Nat) (ej421_0 : Option Nat × Obj), HS wb Fb w F28 ((sb bp0 (krules_parser r332.1 ar332_0_0 nr332_0_0) 100) :: (sb bp1 #[(.slice aj421_0 j421.length nj421_0), (.slice a1_1 x1.Multipliers.length n1_1), (.slice a1_2 x1.Penalties.length n1_2), (.slice a1_3 x1.Repeats.length n1_3)] 26) :: ej421_0 :: e1_1 :: e1_2 :: e1_3 :: Lf) ∧ Mem.le F27 F28 ∧ FI f [] [] ∧ RowR tClause 56 F28 aj421_0 nj421_0 j421 ej421_0) (fun wd416 hw417 => ?_) ?_
            ·refine Dv [0, 1, 2] ?_
             refine Dl 3 (fun _ hq => ((hq.2 rfl).2 0 _ _ rfl)) ?_
             refine Dv [4] ?_
             refine Dl 5 (fun _ hq => (hq.1.2 2 _ _ rfl)) ?_
             refine Dv [6] ?_
             refine Dl 7 (fun _ hq => (hq.1.2 1 _ _ rfl)) ?_
             refine Dv [8] ?_
             refine D1 9 ?_
             refine DBs 56 [(vi r299.2.Expr.Op), (vi r299.2.Expr.Value), (.slice ar299_1_2 r299.2.Expr.Kids.length nr299_1_2), (vi r332.2.Expr.Op), (vi r332.2.Expr.Value), (.slice ar332_1_2 r332.2.Expr.Kids.length nr332_1_2)] hw417 (Mem.le.refl _) (fun b425 w426 hs427 => ?_)
             have hr429 : RowR tClause 56 F27 (some ⟨b425, 0, none⟩) 1 [({ When := r299.2.Expr, Then := r332.2.Expr } : Clause)] (some b425, .cells ([(vi r299.2.Expr.Op), (vi r299.2.Expr.Value), (.slice ar299_1_2 r299.2.Expr.Kids.length nr299_1_2), (vi r332.2.Expr.Op), (vi r332.2.Expr.Value), (.slice ar332_1_2 r332.2.Expr.Kids.length nr332_1_2)] : List Value).toArray 56 (0, 0)) := RowR.lit ⟨⟨ar299_1_2, nr299_1_2, ar332_1_2, nr332_1_2, rfl, hbr299_1_2, (SlA.mono hsr299_1_2 (((((le326.trans le336).trans le361).trans le368).trans le403).trans le413)), hbr332_1_2, (SlA.mono hsr332_1_2 (((le361.trans le368).trans le403).trans le413))⟩, rfl⟩ (by simp)
             refine D1 10 ?_
             obtain ⟨r430, hap431, h432⟩ := bind_some hj423
             refine DAp5 oClause hs427 (hr1_0.mono (((((((((le46.trans le269).trans le293).trans le303).trans le326).trans le336).trans le361).trans le368).trans le403).trans le413)) (hs427.rd0 hr429) hap431 (Mem.le.refl _) (fun a433 n434 e435 w436 hs437 hr438 => ?_)
             refine Dv [11] ?_
             refine D1 12 ?_
             refine DSt4 #[(.slice a433 r430.length n434), (.slice a1_1 x1.Multipliers.length n1_1), (.slice a1_2 x1.Penalties.length n1_2), (.slice a1_3 x1.Repeats.length n1_3)] hs437 (Mem.le.refl _) (fun w439 hs440 => ?_)
             obtain rfl := some_inj h432
             exact DWP.done (by kernel_rfl) ⟨F27, a433, n434, e435, hs440.dr0.dr1.dr1, (Mem.le.refl _), fI, hr438⟩
            ·rintro f w418 ⟨F28, aj421_0, nj421_0, ej421_0, hs419, le420, ⟨_, rfl⟩, hrj421_0⟩
             obtain rfl := some_inj h424
             exact ReP [] hs419 ((((((((((le46.trans le269).trans le293).trans le303).trans le326).trans le336).trans le361).trans le368).trans le403).trans le413).trans le420) ⟨ar332_0_0, nr332_0_0, aj421_0, nj421_0, ej421_0, a1_1, n1_1, e1_1, a1_2, n1_2, e1_2, a1_3, n1_3, e1_3, rfl, rfl, hbr332_0_0, (SlA.mono hsr332_0_0 ((((le361.trans le368).trans le403).trans le413).trans le420)), hrj421_0, (hr1_1.mono ((((((((((le46.trans le269).trans le293).trans le303).trans le326).trans le336).trans le361).trans le368).trans le403).trans le413).trans le420)), (hr1_2.mono ((((((((((le46.trans le269).trans le293).trans le303).trans le326).trans le336).trans le361).trans le368).trans le403).trans le413).trans le420)), (hr1_3.mono ((((((((((le46.trans le269).trans le293).trans le303).trans le326).trans le336).trans le361).trans le368).trans le403).trans le413).trans le420))⟩
           ·rintro b441 F29 w442 rfl hs443 le444
            have h445 := sk_l h408
            refine thenQ_pan ?_
            have hs447 := hs443.dr0.dr0.dr0.dr0.dr0
            obtain rfl := some_inj h445
            exact RePi hs447.dr0.dr0 (((((((((le46.trans le269).trans le293).trans le303).trans le326).trans le336).trans le361).trans le368).trans le403).trans le444)
          ·rintro b448 F30 w449 rfl hs450 le451
           have h452 := sk_l h398
           refine thenQ_pan ?_
           have hs454 := hs450.dr0.dr0.dr0.dr0.dr0
           obtain rfl := some_inj h452
           exact RePi hs454.dr0.dr0 ((((((((le46.trans le269).trans le293).trans le303).trans le326).trans le336).trans le361).trans le368).trans le451)
         ·rintro c f w456 ⟨hd459, b455, F31, rfl, rfl, hs457, le458⟩
          have h460 := sk_l h376
          refine thenQ_pan ?_
          obtain rfl := some_inj h460
          exact ⟨hd459, .inr ⟨_, F31, rfl, rfl, hs457, (((((((le46.trans le269).trans le293).trans le303).trans le326).trans le336).trans le361).trans le458)⟩⟩
        ·rintro b461 F32 w462 rfl hs463 le464
         have h465 := sk_l h356
         refine thenQ_pan ?_
         have hs467 := hs463.dr0.dr0.dr0.dr0.dr0
         obtain rfl := some_inj h465
         exact ⟨h256, .inr ⟨_, F32, rfl, rfl, hs467.dr0.dr0.dr0.dr0, ((((((le46.trans le269).trans le293).trans le303).trans le326).trans le336).trans le464)⟩⟩
       ·rintro b468 F33 w469 rfl hs470 le471
        have h472 := sk_l h331
        refine thenQ_pan ?_
        have hs474 := hs470.dr0.dr0.dr0.dr0.dr0
        obtain rfl := some_inj h472
        exact ⟨h256, .inr ⟨_, F33, rfl, rfl, hs474.dr0.dr0.dr0, (((((le46.trans le269).trans le293).trans le303).trans le326).trans le471)⟩⟩
      ·rintro b475 F34 w476 rfl hs477 le478
       have h479 := sk_l h321
       refine thenQ_pan ?_
       have hs481 := hs477.dr0.dr0.dr0.dr0.dr0
       obtain rfl := some_inj h479
       exact ⟨h256, .inr ⟨_, F34, rfl, rfl, hs481.dr0.dr0.dr0, ((((le46.trans le269).trans le293).trans le303).trans le478)⟩⟩
     ·rintro b482 F35 w483 rfl hs484 le485
      have h486 := sk_l h298
      refine thenQ_pan ?_
      have hs488 := hs484.dr0.dr0.dr0.dr0.dr0
      obtain rfl := some_inj h486
      exact ⟨h256, .inr ⟨_, F35, rfl, rfl, hs488.dr0.dr0, (((le46.trans le269).trans le293).trans le485)⟩⟩
    ·rintro b489 F36 w490 rfl hs491 le492
     have h493 := sk_l h288
     refine thenQ_pan ?_
     have hs495 := hs491.dr0.dr0.dr0.dr0.dr0
     obtain rfl := some_inj h493
     exact ⟨h256, .inr ⟨_, F36, rfl, rfl, hs495.dr0.dr0, ((le46.trans le269).trans le492)⟩⟩
  ·cases h262
end Go.Proofs.YtaihlcdkcampbaaGreatDoor
namespace Go.Proofs.YtaihlcdkcampbaaGreatDoor
open Go.Proofs
def rules_Parse_1_L0 (N : Nat) (x0 : rules_parser) (z0 : Book) : (List rules_token × Int × List Clause × List Clause × List Clause × List Expr) → Option (Flow (rules_bad ⊕ (rules_parser × Book)) (List rules_token × Int × List Clause × List Clause × List Clause × List Expr)) := fun s24 =>
 ((idx s24.1 0).bind fun x42 => (bif (x42.kind_ != 0) then ((rules_parser_accept N ({ l_ := s24.1, open_ := s24.2.1 } : rules_parser) ([10] : List UInt8)).bind fun r59 => (bif (!r59.2) then ((rules_parser_part N r59.1 ({ Points := s24.2.2.1, Multipliers := s24.2.2.2.1, Penalties := s24.2.2.2.2.1, Repeats := s24.2.2.2.2.2 } : Book)).bind fun r69 => sk r69 (fun b80 => some (.ret (.inl b80))) (fun r72 => some (.next (r72.1.l_, r72.1.open_, r72.2.Points, r72.2.Multipliers, r72.2.Penalties, r72.2.Repeats)))) else some (.next (r59.1.l_, r59.1.open_, s24.2.2.1, s24.2.2.2.1, s24.2.2.2.2.1, s24.2.2.2.2.2)))) else some (.done (s24.1, s24.2.1, s24.2.2.1, s24.2.2.2.1, s24.2.2.2.2.1, s24.2.2.2.2.2))))
def rules_Parse_1 (N : Nat) (x0 : rules_parser) (z0 : Book) : Option (rules_bad ⊕ (rules_parser × Book)) :=
 ((iter (rules_Parse_1_L0 N x0 z0) N (x0.l_, x0.open_, z0.Points, z0.Multipliers, z0.Penalties, z0.Repeats)).bind fun o => o.k (fun r => some r) (fun s31 => some (.inr (({ l_ := s31.1, open_ := s31.2.1 } : rules_parser), ({ Points := s31.2.2.1, Multipliers := s31.2.2.2.1, Penalties := s31.2.2.2.2.1, Repeats := s31.2.2.2.2.2 } : Book)))))
theorem co_rules_Parse_1 : CallOk Tryz.prog 79 := fun _ _ => by kernel_rfl
theorem c_rules_Parse_1 (N : Nat) {wb w0 : World} {Fb F0 : Mem} {Lf : Own} (hG : Glob F0) (bp0 : Nat) (x0 : rules_parser) (a0_0 : Option Addr) (n0_0 : Nat) (hb0_0 : LC x0.l_.length n0_0) (hs0_0 : SlA trules_token F0 a0_0 x0.l_) (bz0 : Nat) (z0 : Book) (az0_0 : Option Addr) (nz0_0 : Nat) (ez0_0 : Option Nat × Obj) (az0_1 : Option Addr) (nz0_1 : Nat) (ez0_1 : Option Nat × Obj) (az0_2 : Option Addr) (nz0_2 : Nat) (ez0_2 : Option Nat × Obj) (az0_3 : Option Addr) (nz0_3 : Nat) (ez0_3 : Option Nat × Obj) (hrz0_0 : RowR tClause 56 F0 az0_0 nz0_0 z0.Points ez0_0) (hrz0_1 : RowR tClause 56 F0 az0_1 nz0_1 z0.Multipliers ez0_1) (hrz0_2 : RowR tClause 56 F0 az0_2 nz0_2 z0.Penalties ez0_2) (hrz0_3 : RowR tExpr 33 F0 az0_3 nz0_3 z0.Repeats ez0_3) (hs0 : HS wb Fb w0 F0 ((sb bp0 (krules_parser x0 a0_0 n0_0) 100) :: (sb bz0 (kBook z0 az0_0 nz0_0 az0_1 nz0_1 az0_2 nz0_2 az0_3 nz0_3) 26) :: ez0_0 :: ez0_1 :: ez0_2 :: ez0_3 :: Lf)) (r : (rules_bad ⊕ (rules_parser × Book))) (h : rules_Parse_1 N x0 z0 = some r) :
  Calls Tryz.prog 79 ([(pt bp0 0), (pt bz0 0)] : List Value).toArray w0 (BRetP wb Fb F0 Lf r (fun b => (.iface 158 (.agg (krules_bad b)))) fun a F' v L' => ∃ (aq0_0 : Option Addr) (nq0_0 : Nat) (aq1_0 : Option Addr) (nq1_0 : Nat) (eq1_0 : Option Nat × Obj) (aq1_1 : Option Addr) (nq1_1 : Nat) (eq1_1 : Option Nat × Obj) (aq1_2 : Option Addr) (nq1_2 : Nat) (eq1_2 : Option Nat × Obj) (aq1_3 : Option Addr) (nq1_3 : Nat) (eq1_3 : Option Nat × Obj), v = (.tuple #[]) ∧ L' = (sb bp0 (krules_parser a.1 aq0_0 nq0_0) 100) :: (sb bz0 (kBook a.2 aq1_0 nq1_0 aq1_1 nq1_1 aq1_2 nq1_2 aq1_3 nq1_3) 26) :: eq1_0 :: eq1_1 :: eq1_2 :: eq1_3 :: Lf ∧ LC a.1.l_.length nq0_0 ∧ SlA trules_token F' aq0_0 a.1.l_ ∧ RowR tClause 56 F' aq1_0 nq1_0 a.2.Points eq1_0 ∧ RowR tClause 56 F' aq1_1 nq1_1 a.2.Multipliers eq1_1 ∧ RowR tClause 56 F' aq1_2 nq1_2 a.2.Penalties eq1_2 ∧ RowR tExpr 33 F' aq1_3 nq1_3 a.2.Repeats eq1_3) := by
 refine Go 16 Tryz.func79 ?_
 obtain ⟨o21, ho22, h23⟩ := bind_some h
 refine CWP.cut (fun f w => ∃ (s31 : (List rules_token × Int × List Clause × List Clause × List Clause × List Expr)) (F2 : Mem) (as31_0 : Option Addr) (ns31_0 : Nat) (as31_2 : Option Addr) (ns31_2 : Nat) (es31_2 : Option Nat × Obj) (as31_3 : Option Addr) (ns31_3 : Nat) (es31_3 : Option Nat × Obj) (as31_4 : Option Addr) (ns31_4 : Nat) (es31_4 : Option Nat × Obj) (as31_5 : Option Addr) (ns31_5 : Nat) (es31_5 : Option Nat × Obj), o21 = .done s31 ∧ HS wb Fb w F2 ((sb bp0 #[(.slice as31_0 s31.1.length ns31_0), (vi s31.2.1)] 100) :: (sb bz0 #[(.slice as31_2 s31.2.2.1.length ns31_2), (.slice as31_3 s31.2.2.2.1.length ns31_3), (.slice as31_4 s31.2.2.2.2.1.length ns31_4), (.slice as31_5 s31.2.2.2.2.2.length ns31_5)] 26) :: es31_2 :: es31_3 :: es31_4 :: es31_5 :: Lf) ∧ Mem.le F0 F2 ∧ FI f [] [] ∧ LC s31.1.length ns31_0 ∧ SlA trules_token F2 as31_0 s31.1 ∧ RowR tClause 56 F2 as31_2 ns31_2 s31.2.2.1 es31_2 ∧ RowR tClause 56 F2 as31_3 ns31_3 s31.2.2.2.1 es31_3 ∧ RowR tClause 56 F2 as31_4 ns31_4 s31.2.2.2.2.1 es31_4 ∧ RowR tExpr 33 F2 as31_5 ns31_5 s31.2.2.2.2.2 es31_5) ?_ ?_
 ·refine Bk ?_
  refine CWP.loop (by kernel_rfl) (fun m f w => ∃ (s24 : (List rules_token × Int × List Clause × List Clause × List Clause × List Expr)) (F1 : Mem) (as24_0 : Option Addr) (ns24_0 : Nat) (as24_2 : Option Addr) (ns24_2 : Nat) (es24_2 : Option Nat × Obj) (as24_3 : Option Addr) (ns24_3 : Nat) (es24_3 : Option Nat × Obj) (as24_4 : Option Addr) (ns24_4 : Nat) (es24_4 : Option Nat × Obj) (as24_5 : Option Addr) (ns24_5 : Nat) (es24_5 : Option Nat × Obj), iter (rules_Parse_1_L0 N x0 z0) m s24 = some o21 ∧ HS wb Fb w F1 ((sb bp0 #[(.slice as24_0 s24.1.length ns24_0), (vi s24.2.1)] 100) :: (sb bz0 #[(.slice as24_2 s24.2.2.1.length ns24_2), (.slice as24_3 s24.2.2.2.1.length ns24_3), (.slice as24_4 s24.2.2.2.2.1.length ns24_4), (.slice as24_5 s24.2.2.2.2.2.length ns24_5)] 26) :: es24_2 :: es24_3 :: es24_4 :: es24_5 :: Lf) ∧ Mem.le F0 F1 ∧ FI f [] [(0, (pt bp0 0)), (1, (pt bz0 0))] ∧ LC s24.1.length ns24_0 ∧ SlA trules_token F1 as24_0 s24.1 ∧ RowR tClause 56 F1 as24_2 ns24_2 s24.2.2.1 es24_2 ∧ RowR tClause 56 F1 as24_3 ns24_3 s24.2.2.2.1 es24_3 ∧ RowR tClause 56 F1 as24_4 ns24_4 s24.2.2.2.2.1 es24_4 ∧ RowR tExpr 33 F1 as24_5 ns24_5 s24.2.2.2.2.2 es24_5) N ⟨(x0.l_, x0.open_, z0.Points, z0.Multipliers, z0.Penalties, z0.Repeats), F0, a0_0, n0_0, az0_0, nz0_0, ez0_0, az0_1, nz0_1, ez0_1, az0_2, nz0_2, ez0_2, az0_3, nz0_3, ez0_3, ho22, hs0, (Mem.le.refl _), fI, hb0_0, hs0_0, hrz0_0, hrz0_1, hrz0_2, hrz0_3⟩ ?_
  rintro m36 f w25 ⟨s24, F1, as24_0, ns24_0, as24_2, ns24_2, es24_2, as24_3, ns24_3, es24_3, as24_4, ns24_4, es24_4, as24_5, ns24_5, es24_5, hit37, hs26, le27, ⟨_, rfl⟩, hbs24_0, hss24_0, hrs24_2, hrs24_3, hrs24_4, hrs24_5⟩
  obtain ⟨m38, fl39, rfl, hb40, hnx41⟩ := iter_step hit37
  refine Sq ?_
  refine Sq (Rg [0, 1, 2, 3, 4, 5, 6, 7] ?_)
  refine Vs 3 ?_
  refine Ld hs26.at0 ?_
  obtain ⟨x42, hx43, h45⟩ := bind_some hb40
  obtain ⟨hi44, hx43'⟩ := idx_spec hx43
  obtain ⟨b46, o47, C48, E49, fz50, rfl, hF52, hE53⟩ := SlA.open hss24_0 hx43'
  have hc55 := hE53 _ _ hx43'
  refine Ix hi44 ?_
  refine Vs 1 ?_
  refine Lx 0 (hs26.pers _ _ hF52) hc55 ?_
  refine Vs 1 ?_
  refine Nt ?_
  refine Cd h45 (fun hb56 h57 => ?_) (fun hb56 h58 => ?_)
  ·refine Sc ?_
   refine thenQ_nrm ?_
   refine Bk ?_
   refine Sq (Rg [0, 1, 2] ?_)
   refine Vs 1 ?_
   obtain ⟨r59, hr60, h61⟩ := bind_some h57
   refine CB co_rules_parser_accept (c_rules_parser_accept N bp0 (({ l_ := s24.1, open_ := s24.2.1 } : rules_parser)) (some ⟨b46, o47, none⟩) ns24_0 hbs24_0 hss24_0 (([10] : List UInt8)) hs26 _ hr60) ?_
   rintro _ F3 w62 _ hs63 le64 ⟨ar59_0_0, nr59_0_0, rfl, rfl, hbr59_0_0, hsr59_0_0⟩
   refine Vs 1 ?_
   refine Nt ?_
   refine Cd h61 (fun hb66 h67 => ?_) (fun hb66 h68 => ?_)
   ·refine Rg [0, 1] ?_
    refine Vs 1 ?_
    obtain ⟨r69, hr70, h71⟩ := bind_some h67
    refine CP co_rules_parser_part (c_rules_parser_part N (hG.mono (le27.trans le64)) bp0 (r59.1) ar59_0_0 nr59_0_0 hbr59_0_0 hsr59_0_0 bz0 (({ Points := s24.2.2.1, Multipliers := s24.2.2.2.1, Penalties := s24.2.2.2.2.1, Repeats := s24.2.2.2.2.2 } : Book)) as24_2 ns24_2 es24_2 as24_3 ns24_3 es24_3 as24_4 ns24_4 es24_4 as24_5 ns24_5 es24_5 (hrs24_2.mono le64) (hrs24_3.mono le64) (hrs24_4.mono le64) (hrs24_5.mono le64) hs63 _ hr70) ?_ ?_
    ·rintro r72 _ F4 w74 _ rfl hs75 le76 ⟨ar72_0_0, nr72_0_0, ar72_1_0, nr72_1_0, er72_1_0, ar72_1_1, nr72_1_1, er72_1_1, ar72_1_2, nr72_1_2, er72_1_2, ar72_1_3, nr72_1_3, er72_1_3, rfl, rfl, hbr72_0_0, hsr72_0_0, hrr72_1_0, hrr72_1_1, hrr72_1_2, hrr72_1_3⟩
     have h78 := sk_r h71
     refine RWP.nil ?_
     refine blockQ_nrm ?_
     have hn79 := iter_next h78 hnx41
     exact ⟨m38, Nat.lt_succ_self _, (r72.1.l_, r72.1.open_, r72.2.Points, r72.2.Multipliers, r72.2.Penalties, r72.2.Repeats), F4, ar72_0_0, nr72_0_0, ar72_1_0, nr72_1_0, er72_1_0, ar72_1_1, nr72_1_1, er72_1_1, ar72_1_2, nr72_1_2, er72_1_2, ar72_1_3, nr72_1_3, er72_1_3, hn79, hs75, ((le27.trans le64).trans le76), fI, hbr72_0_0, hsr72_0_0, hrr72_1_0, hrr72_1_1, hrr72_1_2, hrr72_1_3⟩
    ·rintro b80 F5 w81 rfl hs82 le83
     have h84 := sk_l h71
     refine blockQ_pan ?_
     refine thenQ_pan ?_
     refine blockQ_pan ?_
     have hret := iter_ret h84 hnx41
     subst hret
     refine .inr ?_
     obtain rfl := some_inj h23
     exact RePi hs82 ((le27.trans le64).trans le83)
   ·refine Sc ?_
    refine blockQ_nrm ?_
    have hn86 := iter_next h68 hnx41
    exact ⟨m38, Nat.lt_succ_self _, (r59.1.l_, r59.1.open_, s24.2.2.1, s24.2.2.2.1, s24.2.2.2.2.1, s24.2.2.2.2.2), F3, ar59_0_0, nr59_0_0, as24_2, ns24_2, es24_2, as24_3, ns24_3, es24_3, as24_4, ns24_4, es24_4, as24_5, ns24_5, es24_5, hn86, hs63, (le27.trans le64), fI, hbr59_0_0, hsr59_0_0, (hrs24_2.mono le64), (hrs24_3.mono le64), (hrs24_4.mono le64), (hrs24_5.mono le64)⟩
  ·refine Ex ?_
   refine thenQ_ex ?_
   refine thenQ_ex ?_
   refine blockQ_hit rfl ?_
   have ho87 := iter_done h58 hnx41
   exact .inl ⟨rfl, (s24.1, s24.2.1, s24.2.2.1, s24.2.2.2.1, s24.2.2.2.2.1, s24.2.2.2.2.2), F1, (some ⟨b46, o47, none⟩), ns24_0, as24_2, ns24_2, es24_2, as24_3, ns24_3, es24_3, as24_4, ns24_4, es24_4, as24_5, ns24_5, es24_5, ho87, hs26, le27, fI, hbs24_0, hss24_0, hrs24_2, hrs24_3, hrs24_4, hrs24_5⟩
 ·rintro f w32 ⟨s31, F2, as31_0, ns31_0, as31_2, ns31_2, es31_2, as31_3, ns31_3, es31_3, as31_4, ns31_4, es31_4, as31_5, ns31_5, es31_5, rfl, hs33, le34, ⟨_, rfl⟩, hbs31_0, hss31_0, hrs31_2, hrs31_3, hrs31_4, hrs31_5⟩
  have h88 := k_done h23
  obtain rfl := some_inj h88
  exact ReP [] hs33 le34 ⟨as31_0, ns31_0, as31_2, ns31_2, es31_2, as31_3, ns31_3, es31_3, as31_4, ns31_4, es31_4, as31_5, ns31_5, es31_5, rfl, rfl, hbs31_0, hss31_0, hrs31_2, hrs31_3, hrs31_4, hrs31_5⟩
end Go.Proofs.YtaihlcdkcampbaaGreatDoor
namespace Go.Proofs.YtaihlcdkcampbaaGreatDoor
open Go.Proofs
def zExpr : Expr := { Op := 0, Value := 0, Kids := ([] : List Expr) }
def zPlaced : rules_placed := { Expr := zExpr, at_ := 0 }
def zBook : Book := { Points := ([] : List Clause), Multipliers := ([] : List Clause), Penalties := ([] : List Clause), Repeats := ([] : List Expr) }
def readAs {α β : Type} (N : Nat) (s : List UInt8) (run : rules_parser → Option (rules_bad ⊕ α)) (z : β) (f : α → β) : Option (β × Int × Int) :=
 bif decide ((s.length : Int) > 65536) then some (z, 2, 0) else (rules_tokensOf N s).bind fun l => (run { l_ := l, open_ := 0 }).bind fun q => sk q (fun b => bif b.e_ != 0 then some (z, b.e_, b.at_) else none) (fun a => some (f a, 0, 0))
def rules_ParseExpr (N : Nat) (x0 : List UInt8) : Option (Expr × Int × Int) := readAs N x0 (fun p => rules_ParseExpr_1 N p zPlaced) zExpr (fun a => a.2.Expr)
def rules_Parse (N : Nat) (x0 : List UInt8) : Option (Book × Int × Int) := readAs N x0 (fun p => rules_Parse_1 N p zBook) zBook (fun a => a.2)
theorem bif_true {α : Type} {b : Bool} {x y : α} (h : b = true) : (bif b then x else y) = x := by subst h; rfl
theorem bif_false {α : Type} {b : Bool} {x y : α} (h : b = false) : (bif b then x else y) = y := by subst h; rfl
theorem co_rules_ParseExpr : CallOk Tryz.prog 25 := fun _ _ => by kernel_rfl
set_option maxRecDepth 100000 in
theorem c_rules_ParseExpr (N : Nat) (w0 : World) (F0 : Mem) (hF : ∀ b o, F0 b = some o → w0.heap[b]? = some o) (hG : Glob F0) (x0 : List UInt8) (r : Expr × Int × Int) (h : rules_ParseExpr N x0 = some r) :
  Calls Tryz.prog 25 ([.string ⟨x0.toArray⟩] : List Value).toArray w0 (FRet w0 F0 fun F' v => ∃ (aq0_2 : Option Addr) (nq0_2 : Nat), v = (.tuple #[(.agg #[(.int .i64 r.1.Op), (.int .i64 r.1.Value), (.slice aq0_2 r.1.Kids.length nq0_2)]), (.int .i64 r.2.1), (.int .i64 r.2.2)]) ∧ LC r.1.Kids.length nq0_2 ∧ SlA tExpr F' aq0_2 r.1.Kids) := by
 have hs0 := HS.start hF
 refine calls_of (n := 21) (c := bodyOf Tryz.f25) Tryz.func25 (by kernel_rfl) (by kernel_rfl) (by kernel_rfl) ?_
 refine Sq ?_
 refine Rg [0, 1, 2] ?_
 refine RWP.alloc (dst := some 2) (ty := 0) (g := none) (by kernel_rfl) rfl (t := 33) (z := .agg #[.int .i64 0, .int .i64 0, .slice none 0 0]) (by kernel_rfl) (C := #[.int .i64 0, .int .i64 0, .slice none 0 0]) rfl hs0 (fun b2 w1 hs1 => ?_)
 refine V 3 27 (run_assign (x := .const (.int .i64 0)) (v := .int .i64 0) rfl) ?_
 refine V 4 3 (run_assign (x := .const (.int .i64 0)) (v := .int .i64 0) rfl) ?_
 refine RWP.nil ?_
 refine thenQ_nrm ?_
 refine Sq ?_
 refine Rg [0] ?_
 refine RWP.alloc (dst := some 5) (ty := 0) (g := none) (by kernel_rfl) rfl (t := 113) (z := .agg #[.int .i64 0, .int .i64 0, .slice none 0 0, .int .i64 0]) (by kernel_rfl) (C := #[.int .i64 0, .int .i64 0, .slice none 0 0, .int .i64 0]) rfl hs1 (fun b5 w2 hs2 => ?_)
 refine RWP.nil ?_
 refine thenQ_nrm ?_
 refine Sq ?_
 refine Rg [0, 1, 2, 3, 4, 5, 6, 7] ?_
 refine V 9 9 (run_move (x := .tmp 0) (v := .string ⟨x0.toArray⟩) rfl) ?_
 refine V 10 103 (run_makeFunc (fn := .func 85) (first := #[]) (cap := #[.tmp 5]) (fl := []) (cl := [.pointer (some ⟨b5, 0, none⟩)]) rfl rfl) ?_
 obtain ⟨X, hX⟩ : ∃ X : Own, X = [(some b2, .cells #[.int .i64 0, .int .i64 0, .slice none 0 0] 33 (0, 0))] := ⟨_, rfl⟩
 refine RWP.enter (dst := some 11) (ty := 88) (g := none) (by kernel_rfl) rfl (run_call (f := .func 78) (aos := #[.tmp 9, .tmp 10]) (ats := #[9, 103]) (g := 78) (first := #[]) (cap := #[]) (args := [.string ⟨x0.toArray⟩, .func (.func 85) #[] #[.pointer (some ⟨b5, 0, none⟩)]]) rfl co_rules_read rfl)
  (c_rules_read N hs2 x0 (g := 85) (cap := [.pointer (some ⟨b5, 0, none⟩)]) co_rules_ParseExpr_1 (fun o F' L' => match o with
   | none => ∃ (e : Expr) (at_ : Int) (a : Option Addr) (n : Nat), L' = (some b5, .cells #[.int .i64 e.Op, .int .i64 e.Value, .slice a e.Kids.length n, .int .i64 at_] 113 (0, 0)) :: X ∧ LC e.Kids.length n ∧ SlA tExpr F' a e.Kids ∧ some (e, (0 : Int), (0 : Int)) = some r
   | some x => (bif x.e_ != 0 then some (zExpr, x.e_, x.at_) else none) = some r ∧ (L' = X ∨ ∃ o, L' = (some b5, o) :: X)) ?_ ?_) ?_
 ·intro hc F'
  unfold rules_ParseExpr readAs at h
  rw [bif_true hc] at h
  exact ⟨h, .inr ⟨_, by rw [hX]⟩⟩
 ·intro hc
  unfold rules_ParseExpr readAs at h
  rw [bif_false hc] at h
  obtain ⟨l, hl, h⟩ := bind_some h
  obtain ⟨q, hq, h⟩ := bind_some h
  refine ⟨l, hl, fun w3 F3 be_ ba_ bp a n le3 hb hsl hs3 => ?_⟩
  have hs4 : HS w0 F0 w3 F3 ((some bp, .cells #[.slice a l.length n, .int .i64 0] 100 (0, 0)) :: (some b5, .cells #[.int .i64 0, .int .i64 0, .slice none 0 0, .int .i64 0] 113 (0, 0)) :: (some ba_, ba 0) :: (some be_, be 0) :: X) := by
   rw [hX]; exact (hs3.pick (k := 3) rfl).pick (k := 1) rfl
  refine (c_rules_ParseExpr_1 N (hG.mono (hs3.le)) bp { l_ := l, open_ := 0 } a n hb hsl b5 zPlaced none 0 LC.nil (.inl rfl) hs4 q hq).mono ?_
  rintro e w4 (⟨a1, F4, v, L', rfl, rfl, hs5, le5, aq, nq, az, nz, rfl, rfl, h1, h2, h3, h4⟩ | ⟨x, F4, rfl, rfl, hs5, le5⟩)
  ·exact .inl ⟨_, F4, _, rfl, ((hs5.drop 0).pick (k := 2) rfl).pick (k := 2) rfl, le5, _, _, az, nz, rfl, h3, h4, h⟩
  ·exact .inr ⟨x, F4, _, rfl, hs5, le5, h, .inl rfl⟩
 ·rintro e w5 ⟨o, F5, L5, rfl, hs5, le5, hK⟩
  cases o with
  | none =>
   obtain ⟨e, at_, a, n, rfl, hb, hsl, hr⟩ := hK
   simp only
   refine V 8 88 (run_move (x := .tmp 11) (v := .tuple #[.int .i64 0, .int .i64 0]) rfl) ?_
   refine V 12 27 (run_extract (x := .tmp 8) (vs := #[.int .i64 0, .int .i64 0]) (i := 0) (v := .int .i64 0) rfl rfl) ?_
   refine V 13 3 (run_extract (x := .tmp 8) (vs := #[.int .i64 0, .int .i64 0]) (i := 1) (v := .int .i64 0) rfl rfl) ?_
   refine V 6 27 (run_assign (x := .tmp 12) (v := .int .i64 0) rfl) ?_
   refine V 7 3 (run_assign (x := .tmp 13) (v := .int .i64 0) rfl) ?_
   refine RWP.nil ?_
   refine thenQ_nrm ?_
   refine Sq ?_
   refine Sq ?_
   refine Rg [0, 1] ?_
   refine V 14 27 (run_move (x := .tmp 6) (v := .int .i64 0) rfl) ?_
   refine V 15 4 (run_neq (t := 27) (t' := 27) (x := .tmp 14) (y := .const (.int .i64 0)) (k := .i64) (a := 0) (b := 0) rfl rfl) ?_
   refine RWP.nil ?_
   refine thenQ_nrm ?_
   refine CWP.cond0 (t := false) (by kernel_rfl) rfl rfl ?_
   refine CWP.skip (by kernel_rfl) ?_
   refine thenQ_nrm ?_
   refine Sq ?_
   refine Rg [0, 1, 2, 3, 4] ?_
   refine V 19 0 (run_fieldAddr (s := 113) (x := .tmp 5) (i := 0) (o := 0) (k := 3) (b := b5) (o0 := 0) rfl (by kernel_rfl) rfl (o1 := 0) rfl) ?_
   refine V 20 33 (run_load' (t := 33) (x := .tmp 19) (b := b5) (o := 0) (g := true) (s := 3) (C := #[.int .i64 e.Op, .int .i64 e.Value, .slice a e.Kids.length n, .int .i64 at_]) (v := .agg #[.int .i64 e.Op, .int .i64 e.Value, .slice a e.Kids.length n]) rfl (by kernel_rfl) (hs5.ownAt (k := 0) rfl) rfl rfl rfl) ?_
   subst hX
   refine RWP.store (ty := 0) (g := none) (by kernel_rfl) rfl (x := .tmp 2) (y := .tmp 20) (t := 33) (gg := true) (s := 3) (v := .agg #[.int .i64 e.Op, .int .i64 e.Value, .slice a e.Kids.length n]) (b := b2) (o := 0) (C := #[.int .i64 0, .int .i64 0, .slice none 0 0]) rfl rfl (by kernel_rfl) hs5 (k := 1) rfl rfl rfl rfl (C' := #[.int .i64 e.Op, .int .i64 e.Value, .slice a e.Kids.length n]) rfl (fun w6 hs6 => ?_)
   refine V 3 27 (run_assign (x := .const (.int .i64 0)) (v := .int .i64 0) rfl) ?_
   refine V 4 3 (run_assign (x := .const (.int .i64 0)) (v := .int .i64 0) rfl) ?_
   refine RWP.nil ?_
   refine thenQ_nrm ?_
   refine CWP.ret (by kernel_rfl) ?_
   obtain rfl := some_inj hr
   exact ⟨rfl, _, res_of (l := [.cell 2 33, .tmp 3, .tmp 4]) (by kernel_rfl) (vs := [.agg #[.int .i64 e.Op, .int .i64 e.Value, .slice a e.Kids.length n], .int .i64 0, .int .i64 0]) ⟨b2, 0, rfl, run_loadVar' (t := 33) (g := true) (s := 3) (by kernel_rfl) (hs6.ownAt (k := 1) rfl) rfl (by decide), rfl, rfl, trivial⟩, _, F5, rfl, hs6.clear, a, n, rfl, hb, hsl⟩
  | some x =>
   obtain ⟨hr, hL⟩ := hK
   have hs6 : HS w0 F0 w5 F5 X := by
    rcases hL with rfl | ⟨o, rfl⟩
    ·exact hs5
    ·exact hs5.drop 0
   clear hs5 hL
   cases hne : x.e_ != 0 with
   | false => rw [hne] at hr; cases hr
   | true =>
    rw [hne] at hr
    obtain rfl := some_inj hr
    simp only
    refine V 8 88 (run_move (x := .tmp 11) (v := .tuple #[.int .i64 x.e_, .int .i64 x.at_]) rfl) ?_
    refine V 12 27 (run_extract (x := .tmp 8) (vs := #[.int .i64 x.e_, .int .i64 x.at_]) (i := 0) (v := .int .i64 x.e_) rfl rfl) ?_
    refine V 13 3 (run_extract (x := .tmp 8) (vs := #[.int .i64 x.e_, .int .i64 x.at_]) (i := 1) (v := .int .i64 x.at_) rfl rfl) ?_
    refine V 6 27 (run_assign (x := .tmp 12) (v := .int .i64 x.e_) rfl) ?_
    refine V 7 3 (run_assign (x := .tmp 13) (v := .int .i64 x.at_) rfl) ?_
    refine RWP.nil ?_
    refine thenQ_nrm ?_
    refine Sq ?_
    refine Sq ?_
    refine Rg [0, 1] ?_
    refine V 14 27 (run_move (x := .tmp 6) (v := .int .i64 x.e_) rfl) ?_
    refine V 15 4 (run_neq (t := 27) (t' := 27) (x := .tmp 14) (y := .const (.int .i64 0)) (k := .i64) (a := x.e_) (b := 0) rfl rfl) ?_
    refine RWP.nil ?_
    refine thenQ_nrm ?_
    refine CWP.cond1 (t := x.e_ != 0) (by kernel_rfl) rfl hne ?_
    refine Sq ?_
    refine Rg [0, 1, 2, 3, 4, 5] ?_
    refine V 16 33 (run_build2 (t := 33) (parts := #[]) (vs := []) rfl (cs := [.int .i64 0, .int .i64 0, .slice none 0 0]) (by kernel_rfl)) ?_
    refine V 17 27 (run_move (x := .tmp 6) (v := .int .i64 x.e_) rfl) ?_
    refine V 18 3 (run_move (x := .tmp 7) (v := .int .i64 x.at_) rfl) ?_
    subst hX
    refine RWP.store (ty := 0) (g := none) (by kernel_rfl) rfl (x := .tmp 2) (y := .tmp 16) (t := 33) (gg := true) (s := 3) (v := .agg #[.int .i64 0, .int .i64 0, .slice none 0 0]) (b := b2) (o := 0) (C := #[.int .i64 0, .int .i64 0, .slice none 0 0]) rfl rfl (by kernel_rfl) hs6 (k := 0) rfl rfl rfl rfl (C' := #[.int .i64 0, .int .i64 0, .slice none 0 0]) rfl (fun w7 hs7 => ?_)
    refine V 3 27 (run_assign (x := .tmp 17) (v := .int .i64 x.e_) rfl) ?_
    refine V 4 3 (run_assign (x := .tmp 18) (v := .int .i64 x.at_) rfl) ?_
    refine RWP.nil ?_
    refine thenQ_nrm ?_
    refine CWP.ret (by kernel_rfl) ?_
    refine thenQ_ret ?_
    exact ⟨rfl, _, res_of (l := [.cell 2 33, .tmp 3, .tmp 4]) (by kernel_rfl) (vs := [.agg #[.int .i64 0, .int .i64 0, .slice none 0 0], .int .i64 x.e_, .int .i64 x.at_]) ⟨b2, 0, rfl, run_loadVar' (t := 33) (g := true) (s := 3) (by kernel_rfl) (hs7.ownAt (k := 0) rfl) rfl (by decide), rfl, rfl, trivial⟩, _, F5, rfl, hs7.clear, none, 0, rfl, LC.nil, .inl rfl⟩
theorem co_rules_Parse : CallOk Tryz.prog 22 := fun _ _ => by kernel_rfl
set_option maxRecDepth 100000 in
theorem c_rules_Parse (N : Nat) (w0 : World) (F0 : Mem) (hF : ∀ b o, F0 b = some o → w0.heap[b]? = some o) (hG : Glob F0) (x0 : List UInt8) (r : Book × Int × Int) (h : rules_Parse N x0 = some r) :
  Calls Tryz.prog 22 ([.string ⟨x0.toArray⟩] : List Value).toArray w0 (FRet w0 F0 fun F' v => ∃ (aq0_0 : Option Addr) (nq0_0 : Nat) (aq0_1 : Option Addr) (nq0_1 : Nat) (aq0_2 : Option Addr) (nq0_2 : Nat) (aq0_3 : Option Addr) (nq0_3 : Nat), v = (.tuple #[(.agg #[(.slice aq0_0 r.1.Points.length nq0_0), (.slice aq0_1 r.1.Multipliers.length nq0_1), (.slice aq0_2 r.1.Penalties.length nq0_2), (.slice aq0_3 r.1.Repeats.length nq0_3)]), (.int .i64 r.2.1), (.int .i64 r.2.2)]) ∧ LC r.1.Points.length nq0_0 ∧ SlA tClause F' aq0_0 r.1.Points ∧ LC r.1.Multipliers.length nq0_1 ∧ SlA tClause F' aq0_1 r.1.Multipliers ∧ LC r.1.Penalties.length nq0_2 ∧ SlA tClause F' aq0_2 r.1.Penalties ∧ LC r.1.Repeats.length nq0_3 ∧ SlA tExpr F' aq0_3 r.1.Repeats) := by
 have hs0 := HS.start hF
 refine calls_of (n := 20) (c := bodyOf Tryz.f22) Tryz.func22 (by kernel_rfl) (by kernel_rfl) (by kernel_rfl) ?_
 refine Sq ?_
 refine Rg [0, 1, 2] ?_
 refine RWP.alloc (dst := some 2) (ty := 0) (g := none) (by kernel_rfl) rfl (t := 26) (z := .agg #[.slice none 0 0, .slice none 0 0, .slice none 0 0, .slice none 0 0]) (by kernel_rfl) (C := #[.slice none 0 0, .slice none 0 0, .slice none 0 0, .slice none 0 0]) rfl hs0 (fun b2 w1 hs1 => ?_)
 refine V 3 27 (run_assign (x := .const (.int .i64 0)) (v := .int .i64 0) rfl) ?_
 refine V 4 3 (run_assign (x := .const (.int .i64 0)) (v := .int .i64 0) rfl) ?_
 refine RWP.nil ?_
 refine thenQ_nrm ?_
 refine Sq ?_
 refine Rg [0] ?_
 refine RWP.alloc (dst := some 5) (ty := 0) (g := none) (by kernel_rfl) rfl (t := 26) (z := .agg #[.slice none 0 0, .slice none 0 0, .slice none 0 0, .slice none 0 0]) (by kernel_rfl) (C := #[.slice none 0 0, .slice none 0 0, .slice none 0 0, .slice none 0 0]) rfl hs1 (fun b5 w2 hs2 => ?_)
 refine RWP.nil ?_
 refine thenQ_nrm ?_
 refine Sq ?_
 refine Rg [0, 1, 2, 3, 4, 5, 6, 7] ?_
 refine V 9 9 (run_move (x := .tmp 0) (v := .string ⟨x0.toArray⟩) rfl) ?_
 refine V 10 103 (run_makeFunc (fn := .func 79) (first := #[]) (cap := #[.tmp 5]) (fl := []) (cl := [.pointer (some ⟨b5, 0, none⟩)]) rfl rfl) ?_
 obtain ⟨X, hX⟩ : ∃ X : Own, X = [(some b2, .cells #[.slice none 0 0, .slice none 0 0, .slice none 0 0, .slice none 0 0] 26 (0, 0))] := ⟨_, rfl⟩
 refine RWP.enter (dst := some 11) (ty := 88) (g := none) (by kernel_rfl) rfl (run_call (f := .func 78) (aos := #[.tmp 9, .tmp 10]) (ats := #[9, 103]) (g := 78) (first := #[]) (cap := #[]) (args := [.string ⟨x0.toArray⟩, .func (.func 79) #[] #[.pointer (some ⟨b5, 0, none⟩)]]) rfl co_rules_read rfl)
  (c_rules_read N hs2 x0 (g := 79) (cap := [.pointer (some ⟨b5, 0, none⟩)]) co_rules_Parse_1 (fun o F' L' => match o with
   | none => ∃ (e : Book) (a0 : Option Addr) (n0 : Nat) (a1 : Option Addr) (n1 : Nat) (a2 : Option Addr) (n2 : Nat) (a3 : Option Addr) (n3 : Nat), L' = (some b5, .cells #[.slice a0 e.Points.length n0, .slice a1 e.Multipliers.length n1, .slice a2 e.Penalties.length n2, .slice a3 e.Repeats.length n3] 26 (0, 0)) :: X ∧ LC e.Points.length n0 ∧ SlA tClause F' a0 e.Points ∧ LC e.Multipliers.length n1 ∧ SlA tClause F' a1 e.Multipliers ∧ LC e.Penalties.length n2 ∧ SlA tClause F' a2 e.Penalties ∧ LC e.Repeats.length n3 ∧ SlA tExpr F' a3 e.Repeats ∧ some (e, (0 : Int), (0 : Int)) = some r
   | some x => (bif x.e_ != 0 then some (zBook, x.e_, x.at_) else none) = some r ∧ (L' = X ∨ ∃ o, L' = (some b5, o) :: X)) ?_ ?_) ?_
 ·intro hc F'
  unfold rules_Parse readAs at h
  rw [bif_true hc] at h
  exact ⟨h, .inr ⟨_, by rw [hX]⟩⟩
 ·intro hc
  unfold rules_Parse readAs at h
  rw [bif_false hc] at h
  obtain ⟨l, hl, h⟩ := bind_some h
  obtain ⟨q, hq, h⟩ := bind_some h
  refine ⟨l, hl, fun w3 F3 be_ ba_ bp a n le3 hb hsl hs3 => ?_⟩
  have hs4 : HS w0 F0 w3 F3 ((some bp, .cells #[.slice a l.length n, .int .i64 0] 100 (0, 0)) :: (some b5, .cells #[.slice none 0 0, .slice none 0 0, .slice none 0 0, .slice none 0 0] 26 (0, 0)) :: (none, .cells #[] 0 (0, 0)) :: (none, .cells #[] 0 (0, 0)) :: (none, .cells #[] 0 (0, 0)) :: (none, .cells #[] 0 (0, 0)) :: (some ba_, ba 0) :: (some be_, be 0) :: X) := by
   have h0 : HS w0 F0 w3 F3 ((some bp, .cells #[.slice a l.length n, .int .i64 0] 100 (0, 0)) :: (some b5, .cells #[.slice none 0 0, .slice none 0 0, .slice none 0 0, .slice none 0 0] 26 (0, 0)) :: (some ba_, ba 0) :: (some be_, be 0) :: X) := by
    rw [hX]; exact (hs3.pick (k := 3) rfl).pick (k := 1) rfl
   exact (((((h0.dummy (.cells #[] 0 (0, 0))).dummy (.cells #[] 0 (0, 0))).dummy (.cells #[] 0 (0, 0))).dummy (.cells #[] 0 (0, 0))).pick (k := 5) rfl).pick (k := 5) rfl
  refine (c_rules_Parse_1 N (hG.mono (hs3.le)) bp { l_ := l, open_ := 0 } a n hb hsl b5 zBook none 0 (none, .cells #[] 0 (0, 0)) none 0 (none, .cells #[] 0 (0, 0)) none 0 (none, .cells #[] 0 (0, 0)) none 0 (none, .cells #[] 0 (0, 0)) (RowR.nil _ _ _ _) (RowR.nil _ _ _ _) (RowR.nil _ _ _ _) (RowR.nil _ _ _ _) hs4 q hq).mono ?_
  rintro e w4 (⟨q1, F4, v, L', rfl, rfl, hs5, le5, aq, nq, a0, n0, e0, a1, n1, e1, a2, n2, e2, a3, n3, e3, rfl, rfl, h1, h2, r0, r1, r2, r3⟩ | ⟨x, F4, rfl, rfl, hs5, le5⟩)
  ·have hs6 := hs5.drop 0
   obtain ⟨G0, hg0, lg0, s0⟩ : ∃ Fq, HS w0 F0 w4 Fq ((some b5, .cells #[.slice a0 q1.2.Points.length n0, .slice a1 q1.2.Multipliers.length n1, .slice a2 q1.2.Penalties.length n2, .slice a3 q1.2.Repeats.length n3] 26 (0, 0)) :: e1 :: e2 :: e3 :: (some ba_, ba 0) :: (some be_, be 0) :: X) ∧ Mem.le F4 Fq ∧ SlA tClause Fq a0 q1.2.Points := HS.freezeRow hs6 (k := 1) rfl r0
   obtain ⟨G1, hg1, lg1, s1⟩ : ∃ Fq, HS w0 F0 w4 Fq ((some b5, .cells #[.slice a0 q1.2.Points.length n0, .slice a1 q1.2.Multipliers.length n1, .slice a2 q1.2.Penalties.length n2, .slice a3 q1.2.Repeats.length n3] 26 (0, 0)) :: e2 :: e3 :: (some ba_, ba 0) :: (some be_, be 0) :: X) ∧ Mem.le G0 Fq ∧ SlA tClause Fq a1 q1.2.Multipliers := HS.freezeRow hg0 (k := 1) rfl (r1.mono lg0)
   obtain ⟨G2, hg2, lg2, s2⟩ : ∃ Fq, HS w0 F0 w4 Fq ((some b5, .cells #[.slice a0 q1.2.Points.length n0, .slice a1 q1.2.Multipliers.length n1, .slice a2 q1.2.Penalties.length n2, .slice a3 q1.2.Repeats.length n3] 26 (0, 0)) :: e3 :: (some ba_, ba 0) :: (some be_, be 0) :: X) ∧ Mem.le G1 Fq ∧ SlA tClause Fq a2 q1.2.Penalties := HS.freezeRow hg1 (k := 1) rfl (r2.mono (lg0.trans lg1))
   obtain ⟨G3, hg3, lg3, s3⟩ : ∃ Fq, HS w0 F0 w4 Fq ((some b5, .cells #[.slice a0 q1.2.Points.length n0, .slice a1 q1.2.Multipliers.length n1, .slice a2 q1.2.Penalties.length n2, .slice a3 q1.2.Repeats.length n3] 26 (0, 0)) :: (some ba_, ba 0) :: (some be_, be 0) :: X) ∧ Mem.le G2 Fq ∧ SlA tExpr Fq a3 q1.2.Repeats := HS.freezeRow hg2 (k := 1) rfl (r3.mono ((lg0.trans lg1).trans lg2))
   exact .inl ⟨_, G3, _, rfl, (hg3.pick (k := 2) rfl).pick (k := 2) rfl, (((le5.trans lg0).trans lg1).trans lg2).trans lg3, q1.2, a0, n0, a1, n1, a2, n2, a3, n3, rfl, r0.bound, s0.mono ((lg1.trans lg2).trans lg3), r1.bound, s1.mono (lg2.trans lg3), r2.bound, s2.mono lg3, r3.bound, s3, h⟩
  ·exact .inr ⟨x, F4, _, rfl, hs5, le5, h, .inl rfl⟩
 ·rintro e w5 ⟨o, F5, L5, rfl, hs5, le5, hK⟩
  cases o with
  | none =>
   obtain ⟨e, a0, n0, a1, n1, a2, n2, a3, n3, rfl, hb0, hl0, hb1, hl1, hb2, hl2, hb3, hl3, hr⟩ := hK
   simp only
   refine V 8 88 (run_move (x := .tmp 11) (v := .tuple #[.int .i64 0, .int .i64 0]) rfl) ?_
   refine V 12 27 (run_extract (x := .tmp 8) (vs := #[.int .i64 0, .int .i64 0]) (i := 0) (v := .int .i64 0) rfl rfl) ?_
   refine V 13 3 (run_extract (x := .tmp 8) (vs := #[.int .i64 0, .int .i64 0]) (i := 1) (v := .int .i64 0) rfl rfl) ?_
   refine V 6 27 (run_assign (x := .tmp 12) (v := .int .i64 0) rfl) ?_
   refine V 7 3 (run_assign (x := .tmp 13) (v := .int .i64 0) rfl) ?_
   refine RWP.nil ?_
   refine thenQ_nrm ?_
   refine Sq ?_
   refine Sq ?_
   refine Rg [0, 1] ?_
   refine V 14 27 (run_move (x := .tmp 6) (v := .int .i64 0) rfl) ?_
   refine V 15 4 (run_neq (t := 27) (t' := 27) (x := .tmp 14) (y := .const (.int .i64 0)) (k := .i64) (a := 0) (b := 0) rfl rfl) ?_
   refine RWP.nil ?_
   refine thenQ_nrm ?_
   refine CWP.cond0 (t := false) (by kernel_rfl) rfl rfl ?_
   refine CWP.skip (by kernel_rfl) ?_
   refine thenQ_nrm ?_
   refine Sq ?_
   refine Rg [0, 1, 2, 3] ?_
   refine V 19 26 (run_load' (t := 26) (x := .tmp 5) (b := b5) (o := 0) (g := true) (s := 4) (C := #[.slice a0 e.Points.length n0, .slice a1 e.Multipliers.length n1, .slice a2 e.Penalties.length n2, .slice a3 e.Repeats.length n3]) (v := .agg #[.slice a0 e.Points.length n0, .slice a1 e.Multipliers.length n1, .slice a2 e.Penalties.length n2, .slice a3 e.Repeats.length n3]) rfl (by kernel_rfl) (hs5.ownAt (k := 0) rfl) rfl rfl rfl) ?_
   subst hX
   refine RWP.store (ty := 0) (g := none) (by kernel_rfl) rfl (x := .tmp 2) (y := .tmp 19) (t := 26) (gg := true) (s := 4) (v := .agg #[.slice a0 e.Points.length n0, .slice a1 e.Multipliers.length n1, .slice a2 e.Penalties.length n2, .slice a3 e.Repeats.length n3]) (b := b2) (o := 0) (C := #[.slice none 0 0, .slice none 0 0, .slice none 0 0, .slice none 0 0]) rfl rfl (by kernel_rfl) hs5 (k := 1) rfl rfl rfl rfl (C' := #[.slice a0 e.Points.length n0, .slice a1 e.Multipliers.length n1, .slice a2 e.Penalties.length n2, .slice a3 e.Repeats.length n3]) rfl (fun w6 hs6 => ?_)
   refine V 3 27 (run_assign (x := .const (.int .i64 0)) (v := .int .i64 0) rfl) ?_
   refine V 4 3 (run_assign (x := .const (.int .i64 0)) (v := .int .i64 0) rfl) ?_
   refine RWP.nil ?_
   refine thenQ_nrm ?_
   refine CWP.ret (by kernel_rfl) ?_
   obtain rfl := some_inj hr
   exact ⟨rfl, _, res_of (l := [.cell 2 26, .tmp 3, .tmp 4]) (by kernel_rfl) (vs := [.agg #[.slice a0 e.Points.length n0, .slice a1 e.Multipliers.length n1, .slice a2 e.Penalties.length n2, .slice a3 e.Repeats.length n3], .int .i64 0, .int .i64 0]) ⟨b2, 0, rfl, run_loadVar' (t := 26) (g := true) (s := 4) (by kernel_rfl) (hs6.ownAt (k := 1) rfl) rfl (by decide), rfl, rfl, trivial⟩, _, F5, rfl, hs6.clear, a0, n0, a1, n1, a2, n2, a3, n3, rfl, hb0, hl0, hb1, hl1, hb2, hl2, hb3, hl3⟩
  | some x =>
   obtain ⟨hr, hL⟩ := hK
   have hs6 : HS w0 F0 w5 F5 X := by
    rcases hL with rfl | ⟨o, rfl⟩
    ·exact hs5
    ·exact hs5.drop 0
   clear hs5 hL
   cases hne : x.e_ != 0 with
   | false => rw [hne] at hr; cases hr
   | true =>
    rw [hne] at hr
    obtain rfl := some_inj hr
    simp only
    refine V 8 88 (run_move (x := .tmp 11) (v := .tuple #[.int .i64 x.e_, .int .i64 x.at_]) rfl) ?_
    refine V 12 27 (run_extract (x := .tmp 8) (vs := #[.int .i64 x.e_, .int .i64 x.at_]) (i := 0) (v := .int .i64 x.e_) rfl rfl) ?_
    refine V 13 3 (run_extract (x := .tmp 8) (vs := #[.int .i64 x.e_, .int .i64 x.at_]) (i := 1) (v := .int .i64 x.at_) rfl rfl) ?_
    refine V 6 27 (run_assign (x := .tmp 12) (v := .int .i64 x.e_) rfl) ?_
    refine V 7 3 (run_assign (x := .tmp 13) (v := .int .i64 x.at_) rfl) ?_
    refine RWP.nil ?_
    refine thenQ_nrm ?_
    refine Sq ?_
    refine Sq ?_
    refine Rg [0, 1] ?_
    refine V 14 27 (run_move (x := .tmp 6) (v := .int .i64 x.e_) rfl) ?_
    refine V 15 4 (run_neq (t := 27) (t' := 27) (x := .tmp 14) (y := .const (.int .i64 0)) (k := .i64) (a := x.e_) (b := 0) rfl rfl) ?_
    refine RWP.nil ?_
    refine thenQ_nrm ?_
    refine CWP.cond1 (t := x.e_ != 0) (by kernel_rfl) rfl hne ?_
    refine Sq ?_
    refine Rg [0, 1, 2, 3, 4, 5] ?_
    refine V 16 26 (run_build2 (t := 26) (parts := #[]) (vs := []) rfl (cs := [.slice none 0 0, .slice none 0 0, .slice none 0 0, .slice none 0 0]) (by kernel_rfl)) ?_
    refine V 17 27 (run_move (x := .tmp 6) (v := .int .i64 x.e_) rfl) ?_
    refine V 18 3 (run_move (x := .tmp 7) (v := .int .i64 x.at_) rfl) ?_
    subst hX
    refine RWP.store (ty := 0) (g := none) (by kernel_rfl) rfl (x := .tmp 2) (y := .tmp 16) (t := 26) (gg := true) (s := 4) (v := .agg #[.slice none 0 0, .slice none 0 0, .slice none 0 0, .slice none 0 0]) (b := b2) (o := 0) (C := #[.slice none 0 0, .slice none 0 0, .slice none 0 0, .slice none 0 0]) rfl rfl (by kernel_rfl) hs6 (k := 0) rfl rfl rfl rfl (C' := #[.slice none 0 0, .slice none 0 0, .slice none 0 0, .slice none 0 0]) rfl (fun w7 hs7 => ?_)
    refine V 3 27 (run_assign (x := .tmp 17) (v := .int .i64 x.e_) rfl) ?_
    refine V 4 3 (run_assign (x := .tmp 18) (v := .int .i64 x.at_) rfl) ?_
    refine RWP.nil ?_
    refine thenQ_nrm ?_
    refine CWP.ret (by kernel_rfl) ?_
    refine thenQ_ret ?_
    exact ⟨rfl, _, res_of (l := [.cell 2 26, .tmp 3, .tmp 4]) (by kernel_rfl) (vs := [.agg #[.slice none 0 0, .slice none 0 0, .slice none 0 0, .slice none 0 0], .int .i64 x.e_, .int .i64 x.at_]) ⟨b2, 0, rfl, run_loadVar' (t := 26) (g := true) (s := 4) (by kernel_rfl) (hs7.ownAt (k := 0) rfl) rfl (by decide), rfl, rfl, trivial⟩, _, F5, rfl, hs7.clear, none, 0, none, 0, none, 0, none, 0, rfl, LC.nil, .inl rfl, LC.nil, .inl rfl, LC.nil, .inl rfl, LC.nil, .inl rfl⟩
end Go.Proofs.YtaihlcdkcampbaaGreatDoor
namespace Go.Proofs.YtaihlcdkcampbaaGreatDoor
open Go.Proofs
def law06_awake0 (N : Nat)  : Option Bool :=
 ((rules_ParseExpr N ([49, 32, 43, 32, 50, 32, 42, 32, 51, 32, 61, 32, 55, 32, 97, 110, 100, 32, 110, 111, 116, 32, 98, 97, 110, 100, 32, 60, 32, 50] : List UInt8)).bind fun r21 => ((rules_PrintExpr N r21.1).bind fun r34 => ((rules_Parse N ([112, 111, 105, 110, 116, 115, 58, 32, 98, 97, 110, 100, 32, 61, 32, 49, 32, 61, 62, 32, 50] : List UInt8)).bind fun r42 => ((rules_Parse N ([112, 111, 105, 110, 116, 115, 58, 32, 98, 97, 110, 100, 32, 61, 62, 32, 50] : List UInt8)).bind fun r55 => ((mk0 0 14).bind fun r68 => ((idx r68 0).bind fun x78 => ((rules_Points N r42.1 (r68.set (0 : Int).toNat (1))).bind fun r97 => ((rules_ParseExpr N ([105, 102, 40, 98, 97, 110, 100, 32, 61, 32, 98, 97, 110, 100, 44, 32, 48, 32, 43, 32, 122, 111, 110, 101, 44, 32, 55, 41] : List UInt8)).bind fun r105 => ((rules_Simplify N r105.1).bind fun r118 => (bif ((r21.2.1 != 0) || ((r34.2 != 0) || ((r42.2.1 != 0) || ((r55.2.1 != 61) || ((r97.2 != 0) || ((r105.2.1 != 0) || ((r118.2 != 0) || (r55.2.2 != 8)))))))) then some false else some ((r21.1.Op == 4) && ((r34.1 == ([49, 32, 43, 32, 50, 32, 42, 32, 51, 32, 61, 32, 55, 32, 97, 110, 100, 32, 110, 111, 116, 32, 98, 97, 110, 100, 32, 60, 32, 50] : List UInt8)) && ((r97.1 == 2) && ((r118.1.Op == 2) && (r118.1.Value == 7)))))))))))))))
theorem co_law06_awake0 : CallOk Tryz.prog 21 := fun _ _ => by kernel_rfl
theorem c_law06_awake0 (N : Nat) (w0 : World) (F0 : Mem) (hF : ∀ b o, F0 b = some o → w0.heap[b]? = some o) (hG : Glob F0)  (r : Bool) (h : law06_awake0 N  = some r) :
  Calls Tryz.prog 21 ([] : List Value).toArray w0 (FRet w0 F0 fun F' v => v = (.bool r)) := by
 have hs0 := HS.start hF
 refine Go 110 Tryz.func21 ?_
 refine Sq (Rg [0] ?_)
 refine Vs 1 ?_
 refine Nss (Rg [0, 1, 2, 3, 4, 5, 6, 7, 8] ?_)
 obtain ⟨r21, hr22, h23⟩ := bind_some h
 refine Cl' co_rules_ParseExpr hs0 (c_rules_ParseExpr N w0 F0 hs0.pers hG (([49, 32, 43, 32, 50, 32, 42, 32, 51, 32, 61, 32, 55, 32, 97, 110, 100, 32, 110, 111, 116, 32, 98, 97, 110, 100, 32, 60, 32, 50] : List UInt8)) _ hr22) ?_
 rintro _ F1 w25 hs26 le27 ⟨ar21_0_2, nr21_0_2, rfl, hbr21_0_2, hsr21_0_2⟩
 refine Vs 4 ?_
 refine Al' 33 #[(vi 0), (vi 0), (.slice none ([] : List Expr).length 0)] hs26 (fun b29 w30 hs31 => ?_)
 refine St0 (kExpr r21.1 ar21_0_2 nr21_0_2) hs31 (fun w32 hs33 => ?_)
 refine Vs 2 ?_
 refine Nss (Rg [0, 1, 2, 3, 4, 5, 6] ?_)
 refine Ld hs33.at0 ?_
 obtain ⟨r34, hr35, h36⟩ := bind_some h23
 refine Cl' co_rules_PrintExpr hs33 (c_rules_PrintExpr N w32 F1 hs33.pers (hG.mono le27) (r21.1) ar21_0_2 nr21_0_2 hbr21_0_2 hsr21_0_2 _ hr35) ?_
 rintro _ F2 w38 hs39 le40 rfl
 refine Vs 5 ?_
 refine Nss (Rg [0, 1, 2, 3, 4, 5, 6, 7, 8] ?_)
 obtain ⟨r42, hr43, h44⟩ := bind_some h36
 refine Cl' co_rules_Parse hs39 (c_rules_Parse N w38 F2 hs39.pers (hG.mono (le27.trans le40)) (([112, 111, 105, 110, 116, 115, 58, 32, 98, 97, 110, 100, 32, 61, 32, 49, 32, 61, 62, 32, 50] : List UInt8)) _ hr43) ?_
 rintro _ F3 w46 hs47 le48 ⟨ar42_0_0, nr42_0_0, ar42_0_1, nr42_0_1, ar42_0_2, nr42_0_2, ar42_0_3, nr42_0_3, rfl, hbr42_0_0, hsr42_0_0, hbr42_0_1, hsr42_0_1, hbr42_0_2, hsr42_0_2, hbr42_0_3, hsr42_0_3⟩
 refine Vs 4 ?_
 refine Al' 26 #[(.slice none ([] : List Clause).length 0), (.slice none ([] : List Clause).length 0), (.slice none ([] : List Clause).length 0), (.slice none ([] : List Expr).length 0)] hs47 (fun b50 w51 hs52 => ?_)
 refine St0 (kBook r42.1 ar42_0_0 nr42_0_0 ar42_0_1 nr42_0_1 ar42_0_2 nr42_0_2 ar42_0_3 nr42_0_3) hs52 (fun w53 hs54 => ?_)
 refine Vs 2 ?_
 refine Nss (Rg [0, 1, 2, 3, 4, 5, 6, 7, 8] ?_)
 obtain ⟨r55, hr56, h57⟩ := bind_some h44
 refine Cl' co_rules_Parse hs54 (c_rules_Parse N w53 F3 hs54.pers (hG.mono ((le27.trans le40).trans le48)) (([112, 111, 105, 110, 116, 115, 58, 32, 98, 97, 110, 100, 32, 61, 62, 32, 50] : List UInt8)) _ hr56) ?_
 rintro _ F4 w59 hs60 le61 ⟨ar55_0_0, nr55_0_0, ar55_0_1, nr55_0_1, ar55_0_2, nr55_0_2, ar55_0_3, nr55_0_3, rfl, hbr55_0_0, hsr55_0_0, hbr55_0_1, hsr55_0_1, hbr55_0_2, hsr55_0_2, hbr55_0_3, hsr55_0_3⟩
 refine Vs 4 ?_
 refine Al' 26 #[(.slice none ([] : List Clause).length 0), (.slice none ([] : List Clause).length 0), (.slice none ([] : List Clause).length 0), (.slice none ([] : List Expr).length 0)] hs60 (fun b63 w64 hs65 => ?_)
 refine St0 (kBook r55.1 ar55_0_0 nr55_0_0 ar55_0_1 nr55_0_1 ar55_0_2 nr55_0_2 ar55_0_3 nr55_0_3) hs65 (fun w66 hs67 => ?_)
 refine Vs 2 ?_
 refine Nss (Rg [0, 1] ?_)
 obtain ⟨r68, hm69, h70⟩ := bind_some h57
 refine RWP.makeSlice (dst := (some 40)) (ty := 47) (g := none) (by kernel_rfl) rfl (x := (.const (vi 14))) (y := (.const (vi 14))) (t := 47) (by_ := 8) (z := (vi 0)) (T := tInt) (E := 3) rfl rfl (by kernel_rfl) (by decide) (by kernel_rfl) (z0 := 0) (fun _ => rfl) (by decide) hs67 hm69 (fun b71 n72 C73 w74 (hs75 : HS w0 F0 w74 F4 [(some b71, .cells C73 3 (0, 0)), (sb b63 (kBook r55.1 ar55_0_0 nr55_0_0 ar55_0_1 nr55_0_1 ar55_0_2 nr55_0_2 ar55_0_3 nr55_0_3) 26), (sb b50 (kBook r42.1 ar42_0_0 nr42_0_0 ar42_0_1 nr42_0_1 ar42_0_2 nr42_0_2 ar42_0_3 nr42_0_3) 26), (sb b29 (kExpr r21.1 ar21_0_2 nr21_0_2) 33)]) hr76 => ?_)
 refine Vs 1 ?_
 refine Nss (Rg [0, 1, 2] ?_)
 refine Vs 1 ?_
 obtain ⟨x78, hx79, h81⟩ := bind_some h70
 obtain ⟨hi80, hx79'⟩ := idx_spec hx79
 obtain ⟨b82, C83, ha84, he85, hE86⟩ := RowR.open hr76 hx79'
 cases ha84
 cases he85
 have hc88 := hE86 _ _ hx79'
 refine Ix0 hi80 ?_
 refine RWP.storeRow (ty := 0) (g := none) (by kernel_rfl) rfl (x := (.tmp 42)) (y := (.const (vi 1))) (t := 3) (v := (vi 1)) (gg := false) (b := b71) (j := (0 : Int).toNat) (C := C73) (T := tInt) (E := 3) (u := (1)) rfl rfl (by kernel_rfl) hs75 (k := 0) rfl hr76 hx79' rfl rfl (fun C89 w90 (hs91 : HS w0 F0 w90 F4 [(some b71, .cells C89 3 (0, 0)), (sb b63 (kBook r55.1 ar55_0_0 nr55_0_0 ar55_0_1 nr55_0_1 ar55_0_2 nr55_0_2 ar55_0_3 nr55_0_3) 26), (sb b50 (kBook r42.1 ar42_0_0 nr42_0_0 ar42_0_1 nr42_0_1 ar42_0_2 nr42_0_2 ar42_0_3 nr42_0_3) 26), (sb b29 (kExpr r21.1 ar21_0_2 nr21_0_2) 33)]) hr92 => ?_)
 refine Nss (Rg [0, 1, 2, 3, 4, 5, 6, 7] ?_)
 refine Ld hs91.at2 ?_
 refine V 45 47 (mv 12 (.slice (some ⟨b71, 0, none⟩) (r68.set (0 : Int).toNat (1)).length n72) (len_set rfl)) ?_
 have hb96 := RowR.bound hr92
 obtain ⟨F5, hs93, le94, hs95⟩ := hs91.fr0 hr92
 obtain ⟨r97, hr98, h99⟩ := bind_some h81
 refine Cl' co_rules_Points hs93 (c_rules_Points N w90 F5 hs93.pers (r42.1) ar42_0_0 nr42_0_0 hbr42_0_0 (SlA.mono hsr42_0_0 (le61.trans le94)) ar42_0_1 nr42_0_1 hbr42_0_1 (SlA.mono hsr42_0_1 (le61.trans le94)) ar42_0_2 nr42_0_2 hbr42_0_2 (SlA.mono hsr42_0_2 (le61.trans le94)) ar42_0_3 nr42_0_3 hbr42_0_3 (SlA.mono hsr42_0_3 (le61.trans le94)) ((r68.set (0 : Int).toNat (1))) (some ⟨b71, 0, none⟩) n72 hb96 hs95 _ hr98) ?_
 rintro _ F6 w101 hs102 le103 rfl
 refine Vs 5 ?_
 refine Nss (Rg [0, 1, 2, 3, 4, 5, 6, 7, 8] ?_)
 obtain ⟨r105, hr106, h107⟩ := bind_some h99
 refine Cl' co_rules_ParseExpr hs102 (c_rules_ParseExpr N w101 F6 hs102.pers (hG.mono (((((le27.trans le40).trans le48).trans le61).trans le94).trans le103)) (([105, 102, 40, 98, 97, 110, 100, 32, 61, 32, 98, 97, 110, 100, 44, 32, 48, 32, 43, 32, 122, 111, 110, 101, 44, 32, 55, 41] : List UInt8)) _ hr106) ?_
 rintro _ F7 w109 hs110 le111 ⟨ar105_0_2, nr105_0_2, rfl, hbr105_0_2, hsr105_0_2⟩
 refine Vs 4 ?_
 refine Al' 33 #[(vi 0), (vi 0), (.slice none ([] : List Expr).length 0)] hs110 (fun b113 w114 hs115 => ?_)
 refine St0 (kExpr r105.1 ar105_0_2 nr105_0_2) hs115 (fun w116 hs117 => ?_)
 refine Vs 2 ?_
 refine Nss (Rg [0, 1, 2, 3, 4, 5, 6, 7] ?_)
 refine Ld hs117.at0 ?_
 obtain ⟨r118, hr119, h120⟩ := bind_some h107
 refine Cl' co_rules_Simplify hs117 (c_rules_Simplify N w116 F7 hs117.pers (r105.1) ar105_0_2 nr105_0_2 hbr105_0_2 hsr105_0_2 _ hr119) ?_
 rintro _ F8 w122 hs123 le124 ⟨ar118_0_2, nr118_0_2, rfl, hbr118_0_2, hsr118_0_2⟩
 refine Vs 3 ?_
 refine Al' 33 #[(vi 0), (vi 0), (.slice none ([] : List Expr).length 0)] hs123 (fun b126 w127 hs128 => ?_)
 refine St0 (kExpr r118.1 ar118_0_2 nr118_0_2) hs128 (fun w129 hs130 => ?_)
 refine Vs 1 ?_
 refine Nss ?_
 refine Sq (Rg [0, 1, 2, 3, 4, 5, 6, 7, 8, 9, 10, 11, 12, 13, 14, 15, 16, 17, 18, 19, 20, 21, 22, 23, 24, 25, 26, 27, 28, 29] ?_)
 refine RWP.cut (fun f w => ∃ (F9 : Mem), HS w0 F0 w F9 [(sb b126 (kExpr r118.1 ar118_0_2 nr118_0_2) 33), (sb b29 (kExpr r21.1 ar21_0_2 nr21_0_2) 33)] ∧ Mem.le F8 F9 ∧ FI f [] [(1, (pt b29 0)), (4, (.string ⟨(r34.1).toArray⟩)), (13, (vi r97.1)), (18, (pt b126 0)), (88, (.bool ((r21.2.1 != 0) || ((r34.2 != 0) || ((r42.2.1 != 0) || ((r55.2.1 != 61) || ((r97.2 != 0) || ((r105.2.1 != 0) || ((r118.2 != 0) || (r55.2.2 != 8))))))))))]) ?_ ?_
 ·refine Vs 3 ?_
  refine RWP.split (r21.2.1 != 0) (fun hb140 => ?_) (fun hb140 => ?_)
  ·refine Ss hb140 2 ?_
   refine Pk1 hb140 ?_
   refine Vs 1 ?_
   refine Ss (rfl : true = true) 2 ?_
   refine Pk1 (rfl : true = true) ?_
   refine Vs 1 ?_
   refine Ss (rfl : true = true) 2 ?_
   refine Pk1 (rfl : true = true) ?_
   refine Vs 1 ?_
   refine Ss (rfl : true = true) 2 ?_
   refine Pk1 (rfl : true = true) ?_
   refine Vs 1 ?_
   refine Ss (rfl : true = true) 2 ?_
   refine Pk1 (rfl : true = true) ?_
   refine Vs 1 ?_
   refine Ss (rfl : true = true) 2 ?_
   refine Pk1 (rfl : true = true) ?_
   refine Vs 1 ?_
   refine Ss (rfl : true = true) 2 ?_
   refine Pk1 (rfl : true = true) ?_
   exact RWP.nil ⟨rfl, F8, hs130.dr1.dr1.dr1, (Mem.le.refl _), (fJ ⟨rfl, rfl, rfl, rfl, (congrArg Value.bool (or_t hb140 (rfl))), trivial⟩)⟩
  ·refine Vgs hb140 2 ?_
   refine Pk0 hb140 ?_
   refine Vs 1 ?_
   refine RWP.split (r34.2 != 0) (fun hb141 => ?_) (fun hb141 => ?_)
   ·refine Ss hb141 2 ?_
    refine Pk1 hb141 ?_
    refine Vs 1 ?_
    refine Ss (rfl : true = true) 2 ?_
    refine Pk1 (rfl : true = true) ?_
    refine Vs 1 ?_
    refine Ss (rfl : true = true) 2 ?_
    refine Pk1 (rfl : true = true) ?_
    refine Vs 1 ?_
    refine Ss (rfl : true = true) 2 ?_
    refine Pk1 (rfl : true = true) ?_
    refine Vs 1 ?_
    refine Ss (rfl : true = true) 2 ?_
    refine Pk1 (rfl : true = true) ?_
    refine Vs 1 ?_
    refine Ss (rfl : true = true) 2 ?_
    refine Pk1 (rfl : true = true) ?_
    exact RWP.nil ⟨rfl, F8, hs130.dr1.dr1.dr1, (Mem.le.refl _), (fJ ⟨rfl, rfl, rfl, rfl, (congrArg Value.bool (or_f hb140 (or_t hb141 (rfl)))), trivial⟩)⟩
   ·refine Vgs hb141 2 ?_
    refine Pk0 hb141 ?_
    refine Vs 1 ?_
    refine RWP.split (r42.2.1 != 0) (fun hb142 => ?_) (fun hb142 => ?_)
    ·refine Ss hb142 2 ?_
     refine Pk1 hb142 ?_
     refine Vs 1 ?_
     refine Ss (rfl : true = true) 2 ?_
     refine Pk1 (rfl : true = true) ?_
     refine Vs 1 ?_
     refine Ss (rfl : true = true) 2 ?_
     refine Pk1 (rfl : true = true) ?_
     refine Vs 1 ?_
     refine Ss (rfl : true = true) 2 ?_
     refine Pk1 (rfl : true = true) ?_
     refine Vs 1 ?_
     refine Ss (rfl : true = true) 2 ?_
     refine Pk1 (rfl : true = true) ?_
     exact RWP.nil ⟨rfl, F8, hs130.dr1.dr1.dr1, (Mem.le.refl _), (fJ ⟨rfl, rfl, rfl, rfl, (congrArg Value.bool (or_f hb140 (or_f hb141 (or_t hb142 (rfl))))), trivial⟩)⟩
    ·refine Vgs hb142 2 ?_
     refine Pk0 hb142 ?_
     refine Vs 1 ?_
     refine RWP.split (r55.2.1 != 61) (fun hb143 => ?_) (fun hb143 => ?_)
     ·refine Ss hb143 2 ?_
      refine Pk1 hb143 ?_
      refine Vs 1 ?_
      refine Ss (rfl : true = true) 2 ?_
      refine Pk1 (rfl : true = true) ?_
      refine Vs 1 ?_
      refine Ss (rfl : true = true) 2 ?_
      refine Pk1 (rfl : true = true) ?_
      refine Vs 1 ?_
      refine Ss (rfl : true = true) 2 ?_
      refine Pk1 (rfl : true = true) ?_
      exact RWP.nil ⟨rfl, F8, hs130.dr1.dr1.dr1, (Mem.le.refl _), (fJ ⟨rfl, rfl, rfl, rfl, (congrArg Value.bool (or_f hb140 (or_f hb141 (or_f hb142 (or_t hb143 (rfl)))))), trivial⟩)⟩
     ·refine Vgs hb143 2 ?_
      refine Pk0 hb143 ?_
      refine Vs 1 ?_
      refine RWP.split (r97.2 != 0) (fun hb144 => ?_) (fun hb144 => ?_)
      ·refine Ss hb144 2 ?_
       refine Pk1 hb144 ?_
       refine Vs 1 ?_
       refine Ss (rfl : true = true) 2 ?_
       refine Pk1 (rfl : true = true) ?_
       refine Vs 1 ?_
       refine Ss (rfl : true = true) 2 ?_
       refine Pk1 (rfl : true = true) ?_
       exact RWP.nil ⟨rfl, F8, hs130.dr1.dr1.dr1, (Mem.le.refl _), (fJ ⟨rfl, rfl, rfl, rfl, (congrArg Value.bool (or_f hb140 (or_f hb141 (or_f hb142 (or_f hb143 (or_t hb144 (rfl))))))), trivial⟩)⟩
      ·refine Vgs hb144 2 ?_
       refine Pk0 hb144 ?_
       refine Vs 1 ?_
       refine RWP.split (r105.2.1 != 0) (fun hb145 => ?_) (fun hb145 => ?_)
       ·refine Ss hb145 2 ?_
        refine Pk1 hb145 ?_
        refine Vs 1 ?_
        refine Ss (rfl : true = true) 2 ?_
        refine Pk1 (rfl : true = true) ?_
        exact RWP.nil ⟨rfl, F8, hs130.dr1.dr1.dr1, (Mem.le.refl _), (fJ ⟨rfl, rfl, rfl, rfl, (congrArg Value.bool (or_f hb140 (or_f hb141 (or_f hb142 (or_f hb143 (or_f hb144 (or_t hb145 (rfl)))))))), trivial⟩)⟩
       ·refine Vgs hb145 2 ?_
        refine Pk0 hb145 ?_
        refine Vs 1 ?_
        refine RWP.split (r118.2 != 0) (fun hb146 => ?_) (fun hb146 => ?_)
        ·refine Ss hb146 2 ?_
         refine Pk1 hb146 ?_
         exact RWP.nil ⟨rfl, F8, hs130.dr1.dr1.dr1, (Mem.le.refl _), (fJ ⟨rfl, rfl, rfl, rfl, (congrArg Value.bool (or_f hb140 (or_f hb141 (or_f hb142 (or_f hb143 (or_f hb144 (or_f hb145 (or_t hb146 (rfl))))))))), trivial⟩)⟩
        ·refine Vgs hb146 2 ?_
         refine Pk0 hb146 ?_
         exact RWP.nil ⟨rfl, F8, hs130.dr1.dr1.dr1, (Mem.le.refl _), (fJ ⟨rfl, rfl, rfl, rfl, (congrArg Value.bool (or_f hb140 (or_f hb141 (or_f hb142 (or_f hb143 (or_f hb144 (or_f hb145 (or_f hb146 (rfl))))))))), trivial⟩)⟩
 ·rintro f w131 ⟨F9, hs132, le133, ⟨_, rfl⟩⟩
  refine thenQ_nrm ?_
  refine Cd h120 (fun hb147 h148 => ?_) (fun hb147 h149 => ?_)
  ·refine Sq (Rg [0] ?_)
   refine Vs 1 ?_
   refine Nt ?_
   refine Rt ?_
   refine thenQ_ret ?_
   obtain rfl := some_inj h148
   exact Re [(.bool false)] hs132 rfl
  ·refine Sc ?_
   refine thenQ_nrm ?_
   refine Sq (Rg [0, 1, 2, 3, 4, 5, 6, 7, 8, 9, 10, 11, 12, 13, 14, 15, 16, 17, 18, 19, 20, 21] ?_)
   refine RWP.cut (fun f w => ∃ (F10 : Mem), HS w0 F0 w F10 [] ∧ Mem.le F9 F10 ∧ FI f [] [(0, (.bool ((r21.1.Op == 4) && ((r34.1 == ([49, 32, 43, 32, 50, 32, 42, 32, 51, 32, 61, 32, 55, 32, 97, 110, 100, 32, 110, 111, 116, 32, 98, 97, 110, 100, 32, 60, 32, 50] : List UInt8)) && ((r97.1 == 2) && ((r118.1.Op == 2) && (r118.1.Value == 7)))))))]) ?_ ?_
   ·refine Vs 1 ?_
    refine Ld hs132.at1 ?_
    refine Vs 2 ?_
    refine RWP.split (r21.1.Op == 4) (fun hb155 => ?_) (fun hb155 => ?_)
    ·refine Vgs hb155 2 ?_
     refine Pk1 hb155 ?_
     refine Vs 1 ?_
     refine RWP.split (r34.1 == ([49, 32, 43, 32, 50, 32, 42, 32, 51, 32, 61, 32, 55, 32, 97, 110, 100, 32, 110, 111, 116, 32, 98, 97, 110, 100, 32, 60, 32, 50] : List UInt8)) (fun hb156 => ?_) (fun hb156 => ?_)
     ·refine Vgs hb156 2 ?_
      refine Pk1 hb156 ?_
      refine Vs 1 ?_
      refine RWP.split (r97.1 == 2) (fun hb157 => ?_) (fun hb157 => ?_)
      ·refine Vgs hb157 1 ?_
       refine Lg hb157 hs132.at0 ?_
       refine Vgs hb157 1 ?_
       refine Pk1 hb157 ?_
       refine Vs 1 ?_
       refine RWP.split (r118.1.Op == 2) (fun hb158 => ?_) (fun hb158 => ?_)
       ·refine Vgs hb158 1 ?_
        refine Lg hb158 hs132.at0 ?_
        refine Vgs hb158 1 ?_
        refine Pk1 hb158 ?_
        refine Vs 1 ?_
        exact RWP.nil ⟨rfl, F9, hs132.dr0.dr0, (Mem.le.refl _), (fJ ⟨(congrArg Value.bool (and_t hb155 (and_t hb156 (and_t hb157 (and_t hb158 (rfl)))))), trivial⟩)⟩
       ·refine Ss hb158 3 ?_
        refine Pk0 hb158 ?_
        refine Vs 1 ?_
        exact RWP.nil ⟨rfl, F9, hs132.dr0.dr0, (Mem.le.refl _), (fJ ⟨(congrArg Value.bool (and_t hb155 (and_t hb156 (and_t hb157 (and_f hb158 (rfl)))))), trivial⟩)⟩
      ·refine Ss hb157 3 ?_
       refine Pk0 hb157 ?_
       refine Vs 1 ?_
       refine Ss (rfl : false = false) 3 ?_
       refine Pk0 (rfl : false = false) ?_
       refine Vs 1 ?_
       exact RWP.nil ⟨rfl, F9, hs132.dr0.dr0, (Mem.le.refl _), (fJ ⟨(congrArg Value.bool (and_t hb155 (and_t hb156 (and_f hb157 (rfl))))), trivial⟩)⟩
     ·refine Ss hb156 2 ?_
      refine Pk0 hb156 ?_
      refine Vs 1 ?_
      refine Ss (rfl : false = false) 3 ?_
      refine Pk0 (rfl : false = false) ?_
      refine Vs 1 ?_
      refine Ss (rfl : false = false) 3 ?_
      refine Pk0 (rfl : false = false) ?_
      refine Vs 1 ?_
      exact RWP.nil ⟨rfl, F9, hs132.dr0.dr0, (Mem.le.refl _), (fJ ⟨(congrArg Value.bool (and_t hb155 (and_f hb156 (rfl)))), trivial⟩)⟩
    ·refine Ss hb155 2 ?_
     refine Pk0 hb155 ?_
     refine Vs 1 ?_
     refine Ss (rfl : false = false) 2 ?_
     refine Pk0 (rfl : false = false) ?_
     refine Vs 1 ?_
     refine Ss (rfl : false = false) 3 ?_
     refine Pk0 (rfl : false = false) ?_
     refine Vs 1 ?_
     refine Ss (rfl : false = false) 3 ?_
     refine Pk0 (rfl : false = false) ?_
     refine Vs 1 ?_
     exact RWP.nil ⟨rfl, F9, hs132.dr0.dr0, (Mem.le.refl _), (fJ ⟨(congrArg Value.bool (and_f hb155 (rfl))), trivial⟩)⟩
   ·rintro f w150 ⟨F10, hs151, le152, ⟨_, rfl⟩⟩
    refine thenQ_nrm ?_
    refine Rt ?_
    obtain rfl := some_inj h149
    exact Re [(.bool ((r21.1.Op == 4) && ((r34.1 == ([49, 32, 43, 32, 50, 32, 42, 32, 51, 32, 61, 32, 55, 32, 97, 110, 100, 32, 110, 111, 116, 32, 98, 97, 110, 100, 32, 60, 32, 50] : List UInt8)) && ((r97.1 == 2) && ((r118.1.Op == 2) && (r118.1.Value == 7))))))] hs151 rfl
end Go.Proofs.YtaihlcdkcampbaaGreatDoor
namespace Go.Proofs.YtaihlcdkcampbaaGreatDoor
open Go.Proofs
set_option maxRecDepth 100000 in
theorem awake_yes : law06_awake0 9223372036854775808 = some true := by kernel_rfl
def law06_awake (_N : Nat) : Option Bool := some true
theorem co_law06_awake : CallOk Tryz.prog 21 := co_law06_awake0
theorem c_law06_awake (N : Nat) (w0 : World) (F0 : Mem) (hF : ∀ b o, F0 b = some o → w0.heap[b]? = some o) (hG : Glob F0) (r : Bool) (h : law06_awake N = some r) :
  Calls Tryz.prog 21 ([] : List Value).toArray w0 (FRet w0 F0 fun F' v => v = (.bool r)) := by
 cases h
 exact c_law06_awake0 9223372036854775808 w0 F0 hF hG true awake_yes
end Go.Proofs.YtaihlcdkcampbaaGreatDoor
namespace Go.Proofs.YtaihlcdkcampbaaGreatDoor
open Go.Proofs
def law06_RulesReads (N : Nat) (x0 : (List UInt8)) : Option Bool :=
 ((law06_awake N ).bind fun r21 => (bif (bif (decide ((x0.length : Int) > 3000)) then ((decide ((x0.length : Int) ≤ 65536)) || (decide ((x0.length : Int) > 131072))) else (decide ((x0.length : Int) > 131072))) then some r21 else ((rules_ParseExpr N x0).bind fun r41 => ((ref06_ParseExpr N x0).bind fun r54 => ((bif r21 then ((ref06_Equal N r41.1 r54.1).bind fun r78 => (bif r78 then (bif (r41.2.1 == r54.2.1) then some (r41.2.2 == r54.2.2) else some false) else some false)) else some false).bind fun j70 => some j70)))))
theorem c_law06_RulesReads (N : Nat) (w0 : World) (F0 : Mem) (hF : ∀ b o, F0 b = some o → w0.heap[b]? = some o) (hG : Glob F0) (x0 : (List UInt8)) (r : Bool) (h : law06_RulesReads N x0 = some r) :
  Calls Tryz.prog 4 ([(.string ⟨(x0).toArray⟩)] : List Value).toArray w0 (FRet w0 F0 fun F' v => v = (.bool r)) := by
 have hs0 := HS.start hF
 refine Go 53 Tryz.func4 ?_
 refine Sq (Rg [0] ?_)
 refine Vs 1 ?_
 refine Nss (Rg [0, 1] ?_)
 obtain ⟨r21, hr22, h23⟩ := bind_some h
 refine Cl' co_law06_awake hs0 (c_law06_awake N w0 F0 hs0.pers hG  _ hr22) ?_
 rintro _ F1 w25 hs26 le27 rfl
 refine Vs 1 ?_
 refine Nss ?_
 refine Sq (Rg [0, 1, 2, 3, 4, 5, 6, 7, 8, 9, 10, 11, 12] ?_)
 refine RWP.cut (fun f w => ∃ (F2 : Mem), HS w0 F0 w F2 [] ∧ Mem.le F1 F2 ∧ FI f [] [(0, (.string ⟨(x0).toArray⟩)), (3, (.bool r21)), (23, (.bool (bif (decide ((x0.length : Int) > 3000)) then ((decide ((x0.length : Int) ≤ 65536)) || (decide ((x0.length : Int) > 131072))) else (decide ((x0.length : Int) > 131072)))))]) ?_ ?_
 ·refine Vs 4 ?_
  refine RWP.split (decide ((x0.length : Int) > 3000)) (fun hb36 => ?_) (fun hb36 => ?_)
  ·refine Vgs hb36 3 ?_
   refine Pk1 hb36 ?_
   refine Vs 1 ?_
   refine RWP.split (decide ((x0.length : Int) ≤ 65536)) (fun hb37 => ?_) (fun hb37 => ?_)
   ·refine Ss hb37 3 ?_
    refine Pk1 hb37 ?_
    exact RWP.nil ⟨rfl, F1, hs26, (Mem.le.refl _), (fJ ⟨rfl, rfl, (congrArg Value.bool (bif_t hb36 (or_t hb37 (rfl)))), trivial⟩)⟩
   ·refine Vgs hb37 3 ?_
    refine Pk0 hb37 ?_
    exact RWP.nil ⟨rfl, F1, hs26, (Mem.le.refl _), (fJ ⟨rfl, rfl, (congrArg Value.bool (bif_t hb36 (or_f hb37 (rfl)))), trivial⟩)⟩
  ·refine Ss hb36 3 ?_
   refine Pk0 hb36 ?_
   refine Vs 1 ?_
   refine Vg 20 9 8 false 19 rfl (mv 0 (.string ⟨(x0).toArray⟩)) ?_
   refine Vg 21 3 8 false 19 rfl (run_slen (x := (.tmp 20)) (ats := #[9]) (t := 9) (a := x0) rfl rfl (by kernel_rfl)) ?_
   refine Vg 22 4 8 false 19 rfl (run_gtr (t := 3) (t' := 3) (x := (.tmp 21)) (y := (.const (vi 131072))) (k := .i64) (a := (x0.length : Int)) (b := 131072) rfl rfl) ?_
   refine Pk0 (rfl : false = false) ?_
   exact RWP.nil ⟨rfl, F1, hs26, (Mem.le.refl _), (fJ ⟨rfl, rfl, (congrArg Value.bool (bif_f hb36 (rfl))), trivial⟩)⟩
 ·rintro f w29 ⟨F2, hs30, le31, ⟨_, rfl⟩⟩
  refine thenQ_nrm ?_
  refine Cd h23 (fun hb38 h39 => ?_) (fun hb38 h40 => ?_)
  ·refine Sq (Rg [0, 1] ?_)
   refine Vs 2 ?_
   refine Nt ?_
   refine Rt ?_
   refine thenQ_ret ?_
   obtain rfl := some_inj h39
   exact Re [(.bool r21)] hs30 rfl
  ·refine Sc ?_
   refine thenQ_nrm ?_
   refine Sq (Rg [0, 1, 2, 3, 4, 5, 6, 7, 8, 9] ?_)
   refine Vs 1 ?_
   obtain ⟨r41, hr42, h43⟩ := bind_some h40
   refine Cl' co_rules_ParseExpr hs30 (c_rules_ParseExpr N w29 F2 hs30.pers (hG.mono (le27.trans le31)) (x0) _ hr42) ?_
   rintro _ F3 w45 hs46 le47 ⟨ar41_0_2, nr41_0_2, rfl, hbr41_0_2, hsr41_0_2⟩
   refine Vs 4 ?_
   refine Al' 33 #[(vi 0), (vi 0), (.slice none ([] : List Expr).length 0)] hs46 (fun b49 w50 hs51 => ?_)
   refine St0 (kExpr r41.1 ar41_0_2 nr41_0_2) hs51 (fun w52 hs53 => ?_)
   refine Vs 2 ?_
   refine Nss (Rg [0, 1, 2, 3, 4, 5, 6, 7, 8, 9] ?_)
   refine Vs 1 ?_
   obtain ⟨r54, hr55, h56⟩ := bind_some h43
   refine Cl' co_ref06_ParseExpr hs53 (c_ref06_ParseExpr N w52 F3 hs53.pers (x0) _ hr55) ?_
   rintro _ F4 w58 hs59 le60 ⟨ar54_0_2, nr54_0_2, rfl, hbr54_0_2, hsr54_0_2⟩
   refine Vs 4 ?_
   refine Al' 33 #[(vi 0), (vi 0), (.slice none ([] : List Expr).length 0)] hs59 (fun b62 w63 hs64 => ?_)
   refine St0 (kExpr r54.1 ar54_0_2 nr54_0_2) hs64 (fun w65 hs66 => ?_)
   refine Vs 2 ?_
   refine Nss (Rg [0, 1, 2, 3, 4, 5, 6, 7, 8, 9, 10, 11, 12, 13, 14, 15, 16] ?_)
   obtain ⟨j70, hj73, h74⟩ := bind_some h56
   refine RWP.cut (fun f w => ∃ (F5 : Mem), HS w0 F0 w F5 [] ∧ Mem.le F4 F5 ∧ FI f [] [(2, (.bool j70))]) ?_ ?_
   ·refine Vs 2 ?_
    refine Sp hj73 (fun hb75 h76 => ?_) (fun hb75 h77 => ?_)
    ·refine Lg hb75 hs66.at1 ?_
     refine Lg hb75 hs66.at0 ?_
     obtain ⟨r78, hr79, h80⟩ := bind_some h76
     refine Cg hb75 co_ref06_Equal hs66 (c_ref06_Equal N w65 F4 hs66.pers (r41.1) ar41_0_2 nr41_0_2 hbr41_0_2 (SlA.mono hsr41_0_2 le60) (r54.1) ar54_0_2 nr54_0_2 hbr54_0_2 hsr54_0_2 _ hr79) ?_
     rintro _ F6 w82 hs83 le84 rfl
     refine Pk1 hb75 ?_
     refine Vs 1 ?_
     refine Sp h80 (fun hb86 h87 => ?_) (fun hb86 h88 => ?_)
     ·refine Vgs hb86 3 ?_
      refine Pk1 hb86 ?_
      refine Vs 1 ?_
      refine Sp h87 (fun hb89 h90 => ?_) (fun hb89 h91 => ?_)
      ·refine Vgs hb89 3 ?_
       refine Pk1 hb89 ?_
       refine Vs 1 ?_
       obtain rfl := some_inj h90
       exact RWP.nil ⟨rfl, F6, hs83.dr0.dr0, le84, fI⟩
      ·refine Ss hb89 3 ?_
       refine Pk0 hb89 ?_
       refine Vs 1 ?_
       obtain rfl := some_inj h91
       exact RWP.nil ⟨rfl, F6, hs83.dr0.dr0, le84, fI⟩
     ·refine Ss hb86 3 ?_
      refine Pk0 hb86 ?_
      refine Vs 1 ?_
      refine Ss (rfl : false = false) 3 ?_
      refine Pk0 (rfl : false = false) ?_
      refine Vs 1 ?_
      obtain rfl := some_inj h88
      exact RWP.nil ⟨rfl, F6, hs83.dr0.dr0, le84, fI⟩
    ·refine Ss hb75 3 ?_
     refine Pk0 hb75 ?_
     refine Vs 1 ?_
     refine Ss (rfl : false = false) 3 ?_
     refine Pk0 (rfl : false = false) ?_
     refine Vs 1 ?_
     refine Ss (rfl : false = false) 3 ?_
     refine Pk0 (rfl : false = false) ?_
     refine Vs 1 ?_
     obtain rfl := some_inj h77
     exact RWP.nil ⟨rfl, F4, hs66.dr0.dr0, (Mem.le.refl _), fI⟩
   ·rintro f w67 ⟨F5, hs68, le69, ⟨_, rfl⟩⟩
    refine thenQ_nrm ?_
    refine Rt ?_
    obtain rfl := some_inj h74
    exact Re [(.bool j70)] hs68 rfl
end Go.Proofs.YtaihlcdkcampbaaGreatDoor
namespace Go.Proofs.YtaihlcdkcampbaaGreatDoor
section
variable {N n : Nat} {Lr : List rules_token} {Lf : List pileupref06_token} (T : Toks n Lr Lf)
include T
theorem expr_both (hN : 10 * n + 1000 ≤ N) {i : Nat} {o : Int} (hi : i < n) (h0 : 0 ≤ o) (h32 : o ≤ 32) : ∃ p r, rules_parser_expr N (PS Lr i o) = some p ∧ ref06_reader_expr N (RS Lf i o) = some r ∧ Out n Lr Lf i o p r :=
 (all_sim T (N := N) (by omega) N).1 i o hi h0 h32 (by omega)
theorem end_iff {i : Nat} {a : rules_token} {b : pileupref06_token} (hi : i < n) (ha : Lr[i]? = some a) (hb : Lf[i]? = some b) : (a.kind_ != 0) = (b.Kind != 5) := by
 obtain ⟨a', b', h1, h2, _, _, h5, _⟩ := T.hd hi
 rw [h1] at ha; rw [h2] at hb
 cases ha; cases hb
 rcases h5 with ⟨h, _⟩ | ⟨h, _⟩
 ·rcases h.k with ⟨k1, k2, _⟩ | ⟨k1, k2, _⟩ | ⟨k1, k2, _⟩ | ⟨k1, k2, _⟩ | ⟨k1, k2⟩ <;> rw [k1, k2] <;> rfl
 ·rw [h.a0, h.b5]; rfl
omit T in
theorem fit10 {d : Nat} {x : Expr} (hx : Ht 10 d x) (hN : 2 * d + 1000 ≤ N) : Fit N x := ⟨d, hx.wide (by omega), by omega⟩
theorem check_both {i : Nat} {o : Int} {x : Expr} {q : rules_parser} (hf : Fit N x) (at_ t : Int) :
  (dp x > 32 ∧ rules_parser_check N q ⟨x, at_⟩ t = some (.inl ⟨2, at_⟩) ∧ ref06_reader_typed N (RS Lf i o) x at_ t = some (RB Lf i o 2 at_)) ∨
  (dp x ≤ 32 ∧ (kd x = 0 ∨ (t ≠ 0 ∧ kd x ≠ t)) ∧ rules_parser_check N q ⟨x, at_⟩ t = some (.inl ⟨61, at_⟩) ∧ ref06_reader_typed N (RS Lf i o) x at_ t = some (RB Lf i o 61 at_)) ∨
  (dp x ≤ 32 ∧ kd x ≠ 0 ∧ (t ≠ 0 → kd x = t) ∧ rules_parser_check N q ⟨x, at_⟩ t = some (.inr ()) ∧ ref06_reader_typed N (RS Lf i o) x at_ t = some (RS Lf i o)) := by
 unfold rules_parser_check ref06_reader_typed
 simp only
 rw [s_kindOf hf, s_Depth hf, s_rDepth hf, s_kind hf, show ((RS Lf i o).Bad != 0) = false from rfl]
 simp only [cond_false, Option.bind_some]
 by_cases hd : dp x > 32
 ·left
  rw [decide_eq_true hd]
  exact ⟨hd, rfl, rfl⟩
 ·right
  rw [decide_eq_false hd]
  simp only [cond_false]
  by_cases hk : kd x = 0 ∨ (t ≠ 0 ∧ kd x ≠ t)
  ·left
   have e : ((kd x == 0) || ((t != 0) && (kd x != t))) = true := by
    rcases hk with h | ⟨h1, h2⟩
    ·simp [h]
    ·simp [h1, h2]
   rw [e]
   exact ⟨by omega, hk, rfl, rfl⟩
  ·right
   have hk1 : kd x ≠ 0 := fun h => hk (.inl h)
   have hk2 : t ≠ 0 → kd x = t := fun h => Classical.byContradiction fun h' => hk (.inr ⟨h, h'⟩)
   have e : ((kd x == 0) || ((t != 0) && (kd x != t))) = false := by
    by_cases ht : t = 0
    ·simp [hk1, ht]
    ·simp [hk1, hk2 ht]; intro h; exact absurd h ht
   rw [e]
   exact ⟨by omega, hk1, hk2, rfl, rfl⟩
theorem typed_bad {i : Nat} {o e w : Int} (he : e ≠ 0) (x : Expr) (at_ t : Int) : ref06_reader_typed N (RB Lf i o e w) x at_ t = some (RB Lf i o e w) := by
 unfold ref06_reader_typed
 rw [show ((RB Lf i o e w).Bad != 0) = true by show (e != 0) = true; simpa using he]; rfl
theorem wrong_bad {i : Nat} {o e w : Int} (he : e ≠ 0) (a b : Int) : ref06_reader_wrong N (RB Lf i o e w) a b = some (RB Lf i o e w) := by
 unfold ref06_reader_wrong
 rw [show ((RB Lf i o e w).Bad == 0) = false by show (e == 0) = false; simpa using he]; rfl
end
theorem reads_both {N : Nat} (s : List UInt8) (hN : 4000000 ≤ N) : ∃ x e w, rules_ParseExpr N s = some (x, e, w) ∧ ref06_ParseExpr N s = some (x, e, w) ∧ Fit N x := by
 have fz : Fit N zE := ⟨1, ⟨by show 0 < N; omega, by show 0 < 9223372036854775808; omega, fun x hx => by cases hx⟩, by omega⟩
 unfold rules_ParseExpr readAs ref06_ParseExpr
 by_cases hl : s.length > 65536
 ·rw [decide_eq_true (by omega)]
  exact ⟨zE, 2, 0, rfl, rfl, fz⟩
 rw [decide_eq_false (by omega)]
 simp only [cond_false]
 obtain ⟨n, Lr, Lf, e1, e2, T, hn⟩ := toks_ex (N := N) (s := s) (by omega) (by omega)
 rw [e1, e2]
 simp only [Option.bind_some]
 obtain ⟨p, r, p1, r1, h⟩ := expr_both T (N := N) (by omega) T.pos (o := 0) (by omega) (by omega)
 obtain ⟨a0, b0, ha0, hb0, hc0, hd0, _, hat0⟩ := T.hd T.pos
 rw [List.drop_zero] at hc0
 rw [show (⟨Lf, 0, 0, 0, 0⟩ : pileupref06_reader) = RS Lf 0 0 from rfl, r1]
 unfold rules_ParseExpr_1 rules_parser_placed
 rw [show (⟨Lr, 0⟩ : rules_parser) = PS Lr 0 0 from by unfold PS; rw [List.drop_zero], p1, show (PS Lr 0 0).l_ = Lr from by unfold PS; rw [List.drop_zero], hc0]
 simp only [Option.bind_some]
 cases h with
 | err e w j o' x he hj =>
  refine ⟨zE, e, w, ?_, ?_, fz⟩
  ·simp only [sk, Option.bind_some]
   rw [show (e != 0) = true by simpa using he]; rfl
  ·obtain ⟨a, b, _, _, _, hd, _, _⟩ := T.hd hj
   show (((idx Lf (j : Int)).bind fun x65 => some (x65.Kind != 5)).bind _) = _
   rw [hd]
   simp only [Option.bind_some]
   rw [show (RB Lf j o' e w).L = Lf from rfl, show (RB Lf j o' e w).At = (j : Int) from rfl, hd]
   simp only [Option.bind_some]
   rw [wrong_bad T he]
   have hre : (bif b.Kind != 5 then some (Lf, (j : Int), o', e, w) else some (Lf, (j : Int), o', e, w)) = some (Lf, (j : Int), o', e, w) := by cases b.Kind != 5 <;> rfl
   show ((bif b.Kind != 5 then some (Lf, (j : Int), o', e, w) else some (Lf, (j : Int), o', e, w)).bind _) = _
   rw [hre]
   simp only [Option.bind_some]
   rw [show idx Lf 0 = some b0 from hd0]
   simp only [Option.bind_some]
   rw [show (⟨Lf, (j : Int), o', e, w⟩ : pileupref06_reader) = RB Lf j o' e w from rfl, typed_bad T he]
   simp only [Option.bind_some]
   show (bif (e != 0) then _ else _) = _
   rw [show (e != 0) = true by simpa using he]; rfl
 | ok j x h1 h2 hx =>
  have hf : Fit N x := fit10 hx (by omega)
  obtain ⟨a, b, ha, hb, hc, hd, _, hat⟩ := T.hd h2
  have hk := end_iff T h2 ha hb
  simp only [sk, Option.bind_some]
  rw [show (PS Lr j 0).l_ = Lr.drop j from rfl, hc]
  rw [show (RS Lf j 0).L = Lf from rfl, show (RS Lf j 0).At = (j : Int) from rfl, hd]
  simp only [Option.bind_some, hk, hat]
  cases hb5 : b.Kind != 5 with
  | true =>
   refine ⟨zE, 60, b.At, ?_, ?_, fz⟩
   ·rfl
   ·simp only [cond_true]
    rw [m_wrong T]
    simp only [Option.bind_some]
    rw [show idx (RB Lf j 0 60 b.At).L 0 = some b0 from hd0]
    simp only [Option.bind_some]
    rw [show (⟨(RB Lf j 0 60 b.At).L, (RB Lf j 0 60 b.At).At, (RB Lf j 0 60 b.At).Open, (RB Lf j 0 60 b.At).Bad, (RB Lf j 0 60 b.At).Where⟩ : pileupref06_reader) = RB Lf j 0 60 b.At from rfl, typed_bad T (by decide)]
    rfl
  | false =>
   simp only [cond_false]
   simp only [Option.bind_some]
   rw [show idx Lf 0 = some b0 from hd0]
   simp only [Option.bind_some]
   rw [show (⟨Lf, (j : Int), (RS Lf j 0).Open, (RS Lf j 0).Bad, (RS Lf j 0).Where⟩ : pileupref06_reader) = RS Lf j 0 from rfl]
   rw [hat0]
   rcases check_both T (N := N) (i := j) (o := 0) (q := PS Lr j 0) hf b0.At 0 with ⟨_, c1, c2⟩ | ⟨_, _, c1, c2⟩ | ⟨_, _, _, c1, c2⟩
   ·rw [c1, c2]; exact ⟨zE, 2, b0.At, rfl, rfl, fz⟩
   ·rw [c1, c2]; exact ⟨zE, 61, b0.At, rfl, rfl, fz⟩
   ·rw [c1, c2]; exact ⟨x, 0, 0, rfl, rfl, hf⟩
theorem reads_row (s : List UInt8) (_ : s.length ≤ 140737488351232) : ∃ N, law06_RulesReads N s = some true := by
 refine ⟨4000000, ?_⟩
 obtain ⟨x, e, w, h1, h2, hf⟩ := reads_both (N := 4000000) s (by omega)
 unfold law06_RulesReads law06_awake
 rw [h1, h2]
 simp only [Option.bind_some]
 rw [s_Equal hf, eqv_self]
 generalize (bif (decide ((s.length : Int) > 3000)) then ((decide ((s.length : Int) ≤ 65536)) || (decide ((s.length : Int) > 131072))) else (decide ((s.length : Int) > 131072))) = b1
 cases b1 <;> simp
end Go.Proofs.YtaihlcdkcampbaaGreatDoor
