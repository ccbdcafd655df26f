/- Lemmas of the claim RulesSimple, printed by a program of the claimant and by hand. No statement of the seat is proved here. -/
import Derived.Test.YtaihlcdkcampbaaGreatDoorA2
set_option linter.unusedVariables false
set_option linter.unusedSimpArgs false
set_option linter.unusedSectionVars false
set_option maxHeartbeats 4000000
set_option maxRecDepth 100000
namespace Go.Proofs.YtaihlcdkcampbaaGreatDoor
open Go.Proofs
def ref06_value_L0 (N : Nat) (sR101 : Expr → (List Int) → Option Int) (x0 : Expr) (x1 : (List Int)) : (List Int × Int) → Option (Flow Int (List Int × Int)) := fun s29 =>
 (bif (decide (s29.2 < (x0.Kids.length : Int))) then ((idx x0.Kids s29.2).bind fun x55 => ((sR101 x55 x1).bind fun r69 => ((apnd s29.1 [r69]).bind fun r82 => some (.next (r82, (W64 (s29.2 + 1))))))) else some (.done (s29.1, s29.2)))
def ref06_value_S (N : Nat) (sR101 : Expr → (List Int) → Option Int) (x0 : Expr) (x1 : (List Int)) : Option Int :=
 ((iter (ref06_value_L0 N sR101 x0 x1) N (([] : List Int), 0)).bind fun o => o.k (fun r => some r) (fun s38 => (bif (x0.Op == 1) then some x0.Value else (bif (x0.Op == 2) then ((idx x1 x0.Value).bind fun x100 => some x100) else (bif (x0.Op == 3) then ((idx s38.1 0).bind fun x117 => some (W64 (1 - x117))) else (bif (x0.Op == 4) then (((idx s38.1 0).bind fun x142 => ((idx s38.1 1).bind fun x154 => some (min x142 x154))).bind fun j137 => some j137) else (bif (x0.Op == 5) then (((idx s38.1 0).bind fun x178 => ((idx s38.1 1).bind fun x190 => some (max x178 x190))).bind fun j173 => some j173) else (bif (x0.Op == 6) then (((idx s38.1 0).bind fun x214 => ((idx s38.1 1).bind fun x226 => ((ref06_bit N (x214 == x226)).bind fun r237 => some r237))).bind fun j209 => some j209) else (bif (x0.Op == 7) then (((idx s38.1 0).bind fun x258 => ((idx s38.1 1).bind fun x270 => ((ref06_bit N (decide (x258 < x270))).bind fun r281 => some r281))).bind fun j253 => some j253) else (bif (x0.Op == 8) then (((idx s38.1 0).bind fun x302 => ((idx s38.1 1).bind fun x314 => ((ref06_held N (W64 (x302 + x314))).bind fun r325 => some r325))).bind fun j297 => some j297) else (bif (x0.Op == 9) then (((idx s38.1 0).bind fun x346 => ((idx s38.1 1).bind fun x358 => ((ref06_held N (W64 (x346 - x358))).bind fun r369 => some r369))).bind fun j341 => some j341) else (bif (x0.Op == 10) then (((idx s38.1 0).bind fun x390 => ((idx s38.1 1).bind fun x402 => ((ref06_held N (W64 (x390 * x402))).bind fun r413 => some r413))).bind fun j385 => some j385) else ((idx s38.1 0).bind fun x421 => (bif (x421 == 1) then ((idx s38.1 1).bind fun x436 => some x436) else ((idx s38.1 2).bind fun x447 => some x447)))))))))))))))
theorem cS_ref06_value (N : Nat) (sR101 : Expr → (List Int) → Option Int) (hsR101 : Self101 sR101) (w0 : World) (F0 : Mem) (hF : ∀ b o, F0 b = some o → w0.heap[b]? = some o) (x0 : Expr) (a0_2 : Option Addr) (n0_2 : Nat) (hb0_2 : LC x0.Kids.length n0_2) (hs0_2 : SlA tExpr F0 a0_2 x0.Kids) (x1 : (List Int)) (a1_0 : Option Addr) (n1_0 : Nat) (hb1_0 : LC x1.length n1_0) (hs1_0 : SlA tInt F0 a1_0 x1) (r : Int) (h : ref06_value_S N sR101 x0 x1 = some r) :
  Calls Tryz.prog 101 ([(.agg (kExpr x0 a0_2 n0_2)), (.slice a1_0 x1.length n1_0)] : List Value).toArray w0 (FRet w0 F0 fun F' v => v = (vi r)) := by
 have hs0 := HS.start hF
 refine Go 121 Tryz.func101 ?_
 refine Sq (Rg [0, 1] ?_)
 refine Bx' 33 (kExpr x0 a0_2 n0_2) hs0 (fun b21 w22 hs23 => ?_)
 refine Vs 1 ?_
 refine Nss (Rg [0] ?_)
 refine Vs 1 ?_
 refine Nss ?_
 refine Sq (Rg [0] ?_)
 refine Vs 1 ?_
 refine Nt ?_
 have hs24 := hs23.dummy (oc #[] 0)
 obtain ⟨o26, ho27, h28⟩ := bind_some h
 refine CWP.cut (fun f w => ∃ (s38 : (List Int × Int)) (F2 : Mem) (as38_0 : Option Addr) (ns38_0 : Nat) (es38_0 : Option Nat × Obj), o26 = .done s38 ∧ HS w0 F0 w F2 [es38_0, (sb b21 (kExpr x0 a0_2 n0_2) 33)] ∧ Mem.le F0 F2 ∧ FI f [] [(1, (.slice a1_0 x1.length n1_0)), (2, (pt b21 0)), (5, (.slice as38_0 s38.1.length ns38_0))] ∧ RowR tInt 3 F2 as38_0 ns38_0 s38.1 es38_0) ?_ ?_
 ·refine Bk ?_
  refine CWP.loop (by kernel_rfl) (fun m f w => ∃ (s29 : (List Int × Int)) (F1 : Mem) (as29_0 : Option Addr) (ns29_0 : Nat) (es29_0 : Option Nat × Obj), iter (ref06_value_L0 N sR101 x0 x1) m s29 = some o26 ∧ HS w0 F0 w F1 [es29_0, (sb b21 (kExpr x0 a0_2 n0_2) 33)] ∧ Mem.le F0 F1 ∧ FI f [] [(1, (.slice a1_0 x1.length n1_0)), (2, (pt b21 0)), (5, (.slice as29_0 s29.1.length ns29_0)), (6, (vi s29.2))] ∧ RowR tInt 3 F1 as29_0 ns29_0 s29.1 es29_0) N ⟨(([] : List Int), 0), F0, none, 0, (none, .cells #[] 0 (0, 0)), ho27, hs24, (Mem.le.refl _), fI, (RowR.nil tInt 3 F0 _)⟩ ?_
  rintro m46 f w30 ⟨s29, F1, as29_0, ns29_0, es29_0, hit47, hs31, le32, ⟨_, rfl⟩, hrs29_0⟩
  obtain ⟨m48, fl49, rfl, hb50, hnx51⟩ := iter_step hit47
  refine Sq ?_
  refine Sq (Rg [0, 1, 2, 3, 4] ?_)
  refine Vs 2 ?_
  refine Ld hs31.at1 ?_
  refine Vs 2 ?_
  refine Nt ?_
  refine Cd hb50 (fun hb52 h53 => ?_) (fun hb52 h54 => ?_)
  ·refine Sc ?_
   refine thenQ_nrm ?_
   refine Sq ?_
   refine Bk ?_
   refine Rg [0, 1, 2, 3, 4, 5, 6, 7, 8, 9, 10] ?_
   refine Vs 2 ?_
   refine Ld hs31.at1 ?_
   refine Vs 1 ?_
   obtain ⟨x55, hx56, h58⟩ := bind_some h53
   obtain ⟨hi57, hx56'⟩ := idx_spec hx56
   obtain ⟨b59, o60, C61, E62, fz63, rfl, hF65, hE66⟩ := SlA.open (SlA.mono hs0_2 le32) hx56'
   obtain ⟨ae67_2, ne67_2, hc68, hbe67_2, hse67_2⟩ := (tExpr_open (hE66 _ _ hx56'))
   refine Ix hi57 ?_
   refine Lx 0 (hs31.pers _ _ hF65) hc68 ?_
   refine Vs 1 ?_
   obtain ⟨r69, hr70, h71⟩ := bind_some h58
   refine Cl' co_ref06_value hs31 (hsR101 w30 F1 hs31.pers (x55) ae67_2 ne67_2 hbe67_2 hse67_2 (x1) a1_0 n1_0 hb1_0 (SlA.mono hs1_0 le32) _ hr70) ?_
   rintro _ F3 w73 hs74 le75 rfl
   refine Bs 3 [(vi r69)] hs74 (fun b77 w78 hs79 => ?_)
   have hr81 : RowR tInt 3 F3 (some ⟨b77, 0, none⟩) 1 [r69] (some b77, .cells ([(vi r69)] : List Value).toArray 3 (0, 0)) := RowR.lit ⟨rfl, rfl⟩ (by simp)
   obtain ⟨r82, hap83, h84⟩ := bind_some h71
   refine Ap1 oInt hs79 (hrs29_0.mono le75) (hs79.rd0 hr81) hap83 (fun a85 n86 e87 w88 hs89 hr90 => ?_)
   refine Vs 1 ?_
   refine RWP.nil ?_
   refine blockQ_nrm ?_
   refine thenQ_nrm ?_
   refine Rg [0, 1, 2] ?_
   refine Vs 3 ?_
   refine RWP.nil ?_
   have hn91 := iter_next h84 hnx51
   exact ⟨m48, Nat.lt_succ_self _, (r82, (W64 (s29.2 + 1))), F3, a85, n86, e87, hn91, hs89.dr0, (le32.trans le75), fI, hr90⟩
  ·refine Ex ?_
   refine thenQ_ex ?_
   refine thenQ_ex ?_
   refine blockQ_hit rfl ?_
   have ho92 := iter_done h54 hnx51
   exact .inl ⟨rfl, (s29.1, s29.2), F1, as29_0, ns29_0, es29_0, ho92, hs31, le32, fI, hrs29_0⟩
 ·rintro f w39 ⟨s38, F2, as38_0, ns38_0, es38_0, rfl, hs40, le41, ⟨_, rfl⟩, hrs38_0⟩
  have h93 := k_done h28
  refine thenQ_nrm ?_
  refine Sq ?_
  refine Sq (Rg [0, 1] ?_)
  refine Vs 1 ?_
  refine Ld hs40.at1 ?_
  refine Nt ?_
  refine Bk ?_
  refine Sq (Rg [0, 1] ?_)
  refine Vs 2 ?_
  refine Nt ?_
  refine Cd h93 (fun hb94 h95 => ?_) (fun hb94 h96 => ?_)
  ·refine Sq (Rg [0, 1, 2] ?_)
   refine Vs 1 ?_
   refine Ld hs40.at1 ?_
   refine Vs 1 ?_
   refine Nt ?_
   refine Rt ?_
   refine blockQ_ret ?_
   refine thenQ_ret ?_
   obtain rfl := some_inj h95
   exact Re [(vi x0.Value)] hs40 rfl
  ·refine Sq (Rg [0, 1] ?_)
   refine Vs 2 ?_
   refine Nt ?_
   refine Cd h96 (fun hb97 h98 => ?_) (fun hb97 h99 => ?_)
   ·refine Sq (Rg [0, 1, 2, 3, 4, 5] ?_)
    refine Vs 2 ?_
    refine Ld hs40.at1 ?_
    obtain ⟨x100, hx101, h103⟩ := bind_some h98
    obtain ⟨hi102, hx101'⟩ := idx_spec hx101
    obtain ⟨b104, o105, C106, E107, fz108, rfl, hF110, hE111⟩ := SlA.open (SlA.mono hs1_0 le41) hx101'
    have hc113 := hE111 _ _ hx101'
    refine Ix hi102 ?_
    refine Lx 0 (hs40.pers _ _ hF110) hc113 ?_
    refine Vs 1 ?_
    refine Nt ?_
    refine Rt ?_
    refine blockQ_ret ?_
    refine thenQ_ret ?_
    obtain rfl := some_inj h103
    exact Re [(vi x100)] hs40 rfl
   ·refine Sq (Rg [0, 1] ?_)
    refine Vs 2 ?_
    refine Nt ?_
    refine Cd h99 (fun hb114 h115 => ?_) (fun hb114 h116 => ?_)
    ·refine Sq (Rg [0, 1, 2, 3, 4] ?_)
     refine Vs 1 ?_
     obtain ⟨x117, hx118, h120⟩ := bind_some h115
     obtain ⟨hi119, hx118'⟩ := idx_spec hx118
     obtain ⟨b121, C122, rfl, rfl, hE125⟩ := RowR.open hrs38_0 hx118'
     have hr126 := hrs38_0
     have hc128 := hE125 _ _ hx118'
     refine Ix0 hi119 ?_
     refine Lx 0 hs40.at0 hc128 ?_
     refine Vs 2 ?_
     refine Nt ?_
     refine Rt ?_
     refine blockQ_ret ?_
     refine thenQ_ret ?_
     obtain rfl := some_inj h120
     exact Re [(vi (W64 (1 - x117)))] hs40 rfl
    ·refine Sq (Rg [0, 1] ?_)
     refine Vs 2 ?_
     refine Nt ?_
     refine Cd h116 (fun hb129 h130 => ?_) (fun hb129 h131 => ?_)
     ·refine Sq ?_
      obtain ⟨j137, hj140, h141⟩ := bind_some h130
      refine RD 8 8 [es38_0, (sb b21 (kExpr x0 a0_2 n0_2) 33)] [] hs40 (fun f w => ∃ (F4 : Mem), HS w0 F0 w F4 [] ∧ Mem.le F2 F4 ∧ FI f [] [(4, (vi j137))]) (fun wd132 hw133 => ?_) ?_
      ·refine Dv [0] ?_
       obtain ⟨x142, hx143, h145⟩ := bind_some hj140
       obtain ⟨hi144, hx143'⟩ := idx_spec hx143
       obtain ⟨b146, C147, rfl, rfl, hE150⟩ := RowR.open hrs38_0 hx143'
       have hr151 := hrs38_0
       have hc153 := hE150 _ _ hx143'
       refine Dj 1 hi144 ?_
       refine Dx 2 0 (fun _ hq => (hq.1.2 0 _ _ rfl)) hc153 ?_
       refine Dv [3] ?_
       obtain ⟨x154, hx155, h157⟩ := bind_some h145
       obtain ⟨hi156, hx155'⟩ := idx_spec hx155
       obtain ⟨b158, C159, ha160, he161, hE162⟩ := RowR.open hr151 hx155'
       cases ha160
       cases he161
       have hc164 := hE162 _ _ hx155'
       refine Dj 4 hi156 ?_
       refine Dx 5 0 (fun _ hq => (hq.1.2 0 _ _ rfl)) hc164 ?_
       refine Dv [6, 7] ?_
       obtain rfl := some_inj h157
       exact DWP.done (by kernel_rfl) ⟨F2, hw133.dr0.dr0, (Mem.le.refl _), fI⟩
      ·rintro f w134 ⟨F4, hs135, le136, ⟨_, rfl⟩⟩
       refine thenQ_nrm ?_
       refine Rt ?_
       refine blockQ_ret ?_
       refine thenQ_ret ?_
       obtain rfl := some_inj h141
       exact Re [(vi j137)] hs135 rfl
     ·refine Sq (Rg [0, 1] ?_)
      refine Vs 2 ?_
      refine Nt ?_
      refine Cd h131 (fun hb165 h166 => ?_) (fun hb165 h167 => ?_)
      ·refine Sq ?_
       obtain ⟨j173, hj176, h177⟩ := bind_some h166
       refine RD 8 8 [es38_0, (sb b21 (kExpr x0 a0_2 n0_2) 33)] [] hs40 (fun f w => ∃ (F5 : Mem), HS w0 F0 w F5 [] ∧ Mem.le F2 F5 ∧ FI f [] [(4, (vi j173))]) (fun wd168 hw169 => ?_) ?_
       ·refine Dv [0] ?_
        obtain ⟨x178, hx179, h181⟩ := bind_some hj176
        obtain ⟨hi180, hx179'⟩ := idx_spec hx179
        obtain ⟨b182, C183, rfl, rfl, hE186⟩ := RowR.open hrs38_0 hx179'
        have hr187 := hrs38_0
        have hc189 := hE186 _ _ hx179'
        refine Dj 1 hi180 ?_
        refine Dx 2 0 (fun _ hq => (hq.1.2 0 _ _ rfl)) hc189 ?_
        refine Dv [3] ?_
        obtain ⟨x190, hx191, h193⟩ := bind_some h181
        obtain ⟨hi192, hx191'⟩ := idx_spec hx191
        obtain ⟨b194, C195, ha196, he197, hE198⟩ := RowR.open hr187 hx191'
        cases ha196
        cases he197
        have hc200 := hE198 _ _ hx191'
        refine Dj 4 hi192 ?_
        refine Dx 5 0 (fun _ hq => (hq.1.2 0 _ _ rfl)) hc200 ?_
        refine Dv [6, 7] ?_
        obtain rfl := some_inj h193
        exact DWP.done (by kernel_rfl) ⟨F2, hw169.dr0.dr0, (Mem.le.refl _), fI⟩
       ·rintro f w170 ⟨F5, hs171, le172, ⟨_, rfl⟩⟩
        refine thenQ_nrm ?_
        refine Rt ?_
        refine blockQ_ret ?_
        refine thenQ_ret ?_
        obtain rfl := some_inj h177
        exact Re [(vi j173)] hs171 rfl
      ·refine Sq (Rg [0, 1] ?_)
       refine Vs 2 ?_
       refine Nt ?_
       refine Cd h167 (fun hb201 h202 => ?_) (fun hb201 h203 => ?_)
       ·refine Sq ?_
        obtain ⟨j209, hj212, h213⟩ := bind_some h202
        refine RD 9 9 [es38_0, (sb b21 (kExpr x0 a0_2 n0_2) 33)] [] hs40 (fun f w => ∃ (F6 : Mem), HS w0 F0 w F6 [] ∧ Mem.le F2 F6 ∧ FI f [] [(4, (vi j209))]) (fun wd204 hw205 => ?_) ?_
        ·refine Dv [0] ?_
         obtain ⟨x214, hx215, h217⟩ := bind_some hj212
         obtain ⟨hi216, hx215'⟩ := idx_spec hx215
         obtain ⟨b218, C219, rfl, rfl, hE222⟩ := RowR.open hrs38_0 hx215'
         have hr223 := hrs38_0
         have hc225 := hE222 _ _ hx215'
         refine Dj 1 hi216 ?_
         refine Dx 2 0 (fun _ hq => (hq.1.2 0 _ _ rfl)) hc225 ?_
         refine Dv [3] ?_
         obtain ⟨x226, hx227, h229⟩ := bind_some h217
         obtain ⟨hi228, hx227'⟩ := idx_spec hx227
         obtain ⟨b230, C231, ha232, he233, hE234⟩ := RowR.open hr223 hx227'
         cases ha232
         cases he233
         have hc236 := hE234 _ _ hx227'
         refine Dj 4 hi228 ?_
         refine Dx 5 0 (fun _ hq => (hq.1.2 0 _ _ rfl)) hc236 ?_
         refine Dv [6] ?_
         refine D1 7 ?_
         obtain ⟨r237, hr238, h239⟩ := bind_some h229
         refine DCl co_ref06_bit hw205 (c_ref06_bit N wd204 F2 hw205.pers ((x214 == x226)) _ hr238) ?_
         rintro _ F7 w241 hs242 le243 rfl
         refine Dv [8] ?_
         obtain rfl := some_inj h239
         exact DWP.done (by kernel_rfl) ⟨F7, hs242.dr0.dr0, le243, fI⟩
        ·rintro f w206 ⟨F6, hs207, le208, ⟨_, rfl⟩⟩
         refine thenQ_nrm ?_
         refine Rt ?_
         refine blockQ_ret ?_
         refine thenQ_ret ?_
         obtain rfl := some_inj h213
         exact Re [(vi j209)] hs207 rfl
       ·refine Sq (Rg [0, 1] ?_)
        refine Vs 2 ?_
        refine Nt ?_
        refine Cd h203 (fun hb245 h246 => ?_) (fun hb245 h247 => ?_)
        ·refine Sq ?_
         obtain ⟨j253, hj256, h257⟩ := bind_some h246
         refine RD 9 9 [es38_0, (sb b21 (kExpr x0 a0_2 n0_2) 33)] [] hs40 (fun f w => ∃ (F8 : Mem), HS w0 F0 w F8 [] ∧ Mem.le F2 F8 ∧ FI f [] [(4, (vi j253))]) (fun wd248 hw249 => ?_) ?_
         ·refine Dv [0] ?_
          obtain ⟨x258, hx259, h261⟩ := bind_some hj256
          obtain ⟨hi260, hx259'⟩ := idx_spec hx259
          obtain ⟨b262, C263, rfl, rfl, hE266⟩ := RowR.open hrs38_0 hx259'
          have hr267 := hrs38_0
          have hc269 := hE266 _ _ hx259'
          refine Dj 1 hi260 ?_
          refine Dx 2 0 (fun _ hq => (hq.1.2 0 _ _ rfl)) hc269 ?_
          refine Dv [3] ?_
          obtain ⟨x270, hx271, h273⟩ := bind_some h261
          obtain ⟨hi272, hx271'⟩ := idx_spec hx271
          obtain ⟨b274, C275, ha276, he277, hE278⟩ := RowR.open hr267 hx271'
          cases ha276
          cases he277
          have hc280 := hE278 _ _ hx271'
          refine Dj 4 hi272 ?_
          refine Dx 5 0 (fun _ hq => (hq.1.2 0 _ _ rfl)) hc280 ?_
          refine Dv [6] ?_
          refine D1 7 ?_
          obtain ⟨r281, hr282, h283⟩ := bind_some h273
          refine DCl co_ref06_bit hw249 (c_ref06_bit N wd248 F2 hw249.pers ((decide (x258 < x270))) _ hr282) ?_
          rintro _ F9 w285 hs286 le287 rfl
          refine Dv [8] ?_
          obtain rfl := some_inj h283
          exact DWP.done (by kernel_rfl) ⟨F9, hs286.dr0.dr0, le287, fI⟩
         ·rintro f w250 ⟨F8, hs251, le252, ⟨_, rfl⟩⟩
          refine thenQ_nrm ?_
          refine Rt ?_
          refine blockQ_ret ?_
          refine thenQ_ret ?_
          obtain rfl := some_inj h257
          exact Re [(vi j253)] hs251 rfl
        ·refine Sq (Rg [0, 1] ?_)
         refine Vs 2 ?_
         refine Nt ?_
         refine Cd h247 (fun hb289 h290 => ?_) (fun hb289 h291 => ?_)
         ·refine Sq ?_
          obtain ⟨j297, hj300, h301⟩ := bind_some h290
          refine RD 9 9 [es38_0, (sb b21 (kExpr x0 a0_2 n0_2) 33)] [] hs40 (fun f w => ∃ (F10 : Mem), HS w0 F0 w F10 [] ∧ Mem.le F2 F10 ∧ FI f [] [(4, (vi j297))]) (fun wd292 hw293 => ?_) ?_
          ·refine Dv [0] ?_
           obtain ⟨x302, hx303, h305⟩ := bind_some hj300
           obtain ⟨hi304, hx303'⟩ := idx_spec hx303
           obtain ⟨b306, C307, rfl, rfl, hE310⟩ := RowR.open hrs38_0 hx303'
           have hr311 := hrs38_0
           have hc313 := hE310 _ _ hx303'
           refine Dj 1 hi304 ?_
           refine Dx 2 0 (fun _ hq => (hq.1.2 0 _ _ rfl)) hc313 ?_
           refine Dv [3] ?_
           obtain ⟨x314, hx315, h317⟩ := bind_some h305
           obtain ⟨hi316, hx315'⟩ := idx_spec hx315
           obtain ⟨b318, C319, ha320, he321, hE322⟩ := RowR.open hr311 hx315'
           cases ha320
           cases he321
           have hc324 := hE322 _ _ hx315'
           refine Dj 4 hi316 ?_
           refine Dx 5 0 (fun _ hq => (hq.1.2 0 _ _ rfl)) hc324 ?_
           refine Dv [6] ?_
           refine D1 7 ?_
           obtain ⟨r325, hr326, h327⟩ := bind_some h317
           refine DCl co_ref06_held hw293 (c_ref06_held N wd292 F2 hw293.pers ((W64 (x302 + x314))) _ hr326) ?_
           rintro _ F11 w329 hs330 le331 rfl
           refine Dv [8] ?_
           obtain rfl := some_inj h327
           exact DWP.done (by kernel_rfl) ⟨F11, hs330.dr0.dr0, le331, fI⟩
          ·rintro f w294 ⟨F10, hs295, le296, ⟨_, rfl⟩⟩
           refine thenQ_nrm ?_
           refine Rt ?_
           refine blockQ_ret ?_
           refine thenQ_ret ?_
           obtain rfl := some_inj h301
           exact Re [(vi j297)] hs295 rfl
         ·refine Sq (Rg [0, 1] ?_)
          refine Vs 2 ?_
          refine Nt ?_
          refine Cd h291 (fun hb333 h334 => ?_) (fun hb333 h335 => ?_)
          ·refine Sq ?_
           obtain ⟨j341, hj344, h345⟩ := bind_some h334
           refine RD 9 9 [es38_0, (sb b21 (kExpr x0 a0_2 n0_2) 33)] [] hs40 (fun f w => ∃ (F12 : Mem), HS w0 F0 w F12 [] ∧ Mem.le F2 F12 ∧ FI f [] [(4, (vi j341))]) (fun wd336 hw337 => ?_) ?_
           ·refine Dv [0] ?_
            obtain ⟨x346, hx347, h349⟩ := bind_some hj344
            obtain ⟨hi348, hx347'⟩ := idx_spec hx347
            obtain ⟨b350, C351, rfl, rfl, hE354⟩ := RowR.open hrs38_0 hx347'
            have hr355 := hrs38_0
            have hc357 := hE354 _ _ hx347'
            refine Dj 1 hi348 ?_
            refine Dx 2 0 (fun _ hq => (hq.1.2 0 _ _ rfl)) hc357 ?_
            refine Dv [3] ?_
            obtain ⟨x358, hx359, h361⟩ := bind_some h349
            obtain ⟨hi360, hx359'⟩ := idx_spec hx359
            obtain ⟨b362, C363, ha364, he365, hE366⟩ := RowR.open hr355 hx359'
            cases ha364
            cases he365
            have hc368 := hE366 _ _ hx359'
            refine Dj 4 hi360 ?_
            refine Dx 5 0 (fun _ hq => (hq.1.2 0 _ _ rfl)) hc368 ?_
            refine Dv [6] ?_
            refine D1 7 ?_
            obtain ⟨r369, hr370, h371⟩ := bind_some h361
            refine DCl co_ref06_held hw337 (c_ref06_held N wd336 F2 hw337.pers ((W64 (x346 - x358))) _ hr370) ?_
            rintro _ F13 w373 hs374 le375 rfl
            refine Dv [8] ?_
            obtain rfl := some_inj h371
            exact DWP.done (by kernel_rfl) ⟨F13, hs374.dr0.dr0, le375, fI⟩
           ·rintro f w338 ⟨F12, hs339, le340, ⟨_, rfl⟩⟩
            refine thenQ_nrm ?_
            refine Rt ?_
            refine blockQ_ret ?_
            refine thenQ_ret ?_
            obtain rfl := some_inj h345
            exact Re [(vi j341)] hs339 rfl
          ·refine Sq (Rg [0, 1] ?_)
           refine Vs 2 ?_
           refine Nt ?_
           refine Cd h335 (fun hb377 h378 => ?_) (fun hb377 h379 => ?_)
           ·refine Sq ?_
            obtain ⟨j385, hj388, h389⟩ := bind_some h378
            refine RD 9 9 [es38_0, (sb b21 (kExpr x0 a0_2 n0_2) 33)] [] hs40 (fun f w => ∃ (F14 : Mem), HS w0 F0 w F14 [] ∧ Mem.le F2 F14 ∧ FI f [] [(4, (vi j385))]) (fun wd380 hw381 => ?_) ?_
            ·refine Dv [0] ?_
             obtain ⟨x390, hx391, h393⟩ := bind_some hj388
             obtain ⟨hi392, hx391'⟩ := idx_spec hx391
             obtain ⟨b394, C395, rfl, rfl, hE398⟩ := RowR.open hrs38_0 hx391'
             have hr399 := hrs38_0
             have hc401 := hE398 _ _ hx391'
             refine Dj 1 hi392 ?_
             refine Dx 2 0 (fun _ hq => (hq.1.2 0 _ _ rfl)) hc401 ?_
             refine Dv [3] ?_
             obtain ⟨x402, hx403, h405⟩ := bind_some h393
             obtain ⟨hi404, hx403'⟩ := idx_spec hx403
             obtain ⟨b406, C407, ha408, he409, hE410⟩ := RowR.open hr399 hx403'
             cases ha408
             cases he409
             have hc412 := hE410 _ _ hx403'
             refine Dj 4 hi404 ?_
             refine Dx 5 0 (fun _ hq => (hq.1.2 0 _ _ rfl)) hc412 ?_
             refine Dv [6] ?_
             refine D1 7 ?_
             obtain ⟨r413, hr414, h415⟩ := bind_some h405
             refine DCl co_ref06_held hw381 (c_ref06_held N wd380 F2 hw381.pers ((W64 (x390 * x402))) _ hr414) ?_
             rintro _ F15 w417 hs418 le419 rfl
             refine Dv [8] ?_
             obtain rfl := some_inj h415
             exact DWP.done (by kernel_rfl) ⟨F15, hs418.dr0.dr0, le419, fI⟩
            ·rintro f w382 ⟨F14, hs383, le384, ⟨_, rfl⟩⟩
             refine thenQ_nrm ?_
             refine Rt ?_
             refine blockQ_ret ?_
             refine thenQ_ret ?_
             obtain rfl := some_inj h389
             exact Re [(vi j385)] hs383 rfl
           ·refine Sc ?_
            refine blockQ_nrm ?_
            refine thenQ_nrm ?_
            refine Sq ?_
            refine Sq (Rg [0, 1, 2, 3] ?_)
            refine Vs 1 ?_
            obtain ⟨x421, hx422, h424⟩ := bind_some h379
            obtain ⟨hi423, hx422'⟩ := idx_spec hx422
            obtain ⟨b425, C426, rfl, rfl, hE429⟩ := RowR.open hrs38_0 hx422'
            have hr430 := hrs38_0
            have hc432 := hE429 _ _ hx422'
            refine Ix0 hi423 ?_
            refine Lx 0 hs40.at0 hc432 ?_
            refine Vs 1 ?_
            refine Nt ?_
            refine Cd h424 (fun hb433 h434 => ?_) (fun hb433 h435 => ?_)
            ·refine Sq (Rg [0, 1, 2, 3] ?_)
             refine Vs 1 ?_
             obtain ⟨x436, hx437, h439⟩ := bind_some h434
             obtain ⟨hi438, hx437'⟩ := idx_spec hx437
             obtain ⟨b440, C441, ha442, he443, hE444⟩ := RowR.open hr430 hx437'
             cases ha442
             cases he443
             have hc446 := hE444 _ _ hx437'
             refine Ix0 hi438 ?_
             refine Lx 0 hs40.at0 hc446 ?_
             refine Vs 1 ?_
             refine Nt ?_
             refine Rt ?_
             refine thenQ_ret ?_
             obtain rfl := some_inj h439
             exact Re [(vi x436)] hs40 rfl
            ·refine Sc ?_
             refine thenQ_nrm ?_
             refine Sq (Rg [0, 1, 2, 3] ?_)
             refine Vs 1 ?_
             obtain ⟨x447, hx448, h450⟩ := bind_some h435
             obtain ⟨hi449, hx448'⟩ := idx_spec hx448
             obtain ⟨b451, C452, ha453, he454, hE455⟩ := RowR.open hr430 hx448'
             cases ha453
             cases he454
             have hc457 := hE455 _ _ hx448'
             refine Ix0 hi449 ?_
             refine Lx 0 hs40.at0 hc457 ?_
             refine Vs 1 ?_
             refine Nt ?_
             refine Rt ?_
             obtain rfl := some_inj h450
             exact Re [(vi x447)] hs40 rfl
end Go.Proofs.YtaihlcdkcampbaaGreatDoor
namespace Go.Proofs.YtaihlcdkcampbaaGreatDoor
open Go.Proofs
structure Rec101 where
 q101 : Expr → (List Int) → Option Int
def rec101 (N : Nat) : Nat → Rec101
 | 0 => ⟨fun _ _ => none⟩
 | k + 1 => ⟨ref06_value_S N (rec101 N k).q101⟩
theorem rec101_ok (N : Nat) : ∀ k, Self101 (rec101 N k).q101
 | 0 => (by unfold Self101; intros; rename_i h; cases h)
 | k + 1 => by
  have ih := rec101_ok N k
  exact @cS_ref06_value N (rec101 N k).q101 ih
def ref06_value (N : Nat) (x0 : Expr) (x1 : (List Int)) : Option Int := (rec101 N N).q101 x0 x1
theorem c_ref06_value (N : Nat) (w0 : World) (F0 : Mem) (hF : ∀ b o, F0 b = some o → w0.heap[b]? = some o) (x0 : Expr) (a0_2 : Option Addr) (n0_2 : Nat) (hb0_2 : LC x0.Kids.length n0_2) (hs0_2 : SlA tExpr F0 a0_2 x0.Kids) (x1 : (List Int)) (a1_0 : Option Addr) (n1_0 : Nat) (hb1_0 : LC x1.length n1_0) (hs1_0 : SlA tInt F0 a1_0 x1) (r : Int) (h : ref06_value N x0 x1 = some r) :
  Calls Tryz.prog 101 ([(.agg #[(.int .i64 x0.Op), (.int .i64 x0.Value), (.slice a0_2 x0.Kids.length n0_2)]), (.slice a1_0 x1.length n1_0)] : List Value).toArray w0 (FRet w0 F0 fun F' v => v = (.int .i64 r)) := (rec101_ok N N) w0 F0 hF x0 a0_2 n0_2 hb0_2 hs0_2 x1 a1_0 n1_0 hb1_0 hs1_0 r h
end Go.Proofs.YtaihlcdkcampbaaGreatDoor
namespace Go.Proofs.YtaihlcdkcampbaaGreatDoor
open Go.Proofs
def slices_IndexFunc_int_int_L0 (N : Nat) (x0 : (List Int)) (x1 : (Int → Option Bool)) : Int → Option (Flow Int Int) := fun s24 =>
 (bif (decide (s24 < (x0.length : Int))) then ((idx x0 s24).bind fun x47 => ((x1 x47).bind fun r61 => (bif r61 then some (.ret s24) else some (.next (W64 (s24 + 1)))))) else some (.done s24))
def slices_IndexFunc_int_int (N : Nat) (x0 : (List Int)) (x1 : (Int → Option Bool)) : Option Int :=
 ((iter (slices_IndexFunc_int_int_L0 N x0 x1) N 0).bind fun o => o.k (fun r => some r) (fun s33 => some (-1)))
theorem co_slices_IndexFunc_int_int : CallOk Tryz.prog 197 := fun _ _ => by kernel_rfl
theorem c_slices_IndexFunc_int_int (N : Nat) (w0 : World) (F0 : Mem) (hF : ∀ b o, F0 b = some o → w0.heap[b]? = some o) (x0 : (List Int)) (a0_0 : Option Addr) (n0_0 : Nat) (hb0_0 : LC x0.length n0_0) (hs0_0 : SlA tInt F0 a0_0 x0) (gx1 : FuncId) (fx1 kx1 : List Value) (x1 : Int → Option Bool) (hox1 : CallOk Tryz.prog gx1) (hpx1 : Fn179 F0 gx1 fx1 kx1 x1) (r : Int) (h : slices_IndexFunc_int_int N x0 x1 = some r) :
  Calls Tryz.prog 197 ([(.slice a0_0 x0.length n0_0), (.func (.func gx1) fx1.toArray kx1.toArray)] : List Value).toArray w0 (FRet w0 F0 fun F' v => v = (vi r)) := by
 have hs0 := HS.start hF
 refine Go 19 Tryz.func197 ?_
 refine Sq (Rg [0] ?_)
 refine Vs 1 ?_
 refine Nss ?_
 refine Sq (Rg [0, 1, 2] ?_)
 refine Vs 3 ?_
 refine Nt ?_
 obtain ⟨o21, ho22, h23⟩ := bind_some h
 refine CWP.cut (fun f w => ∃ (s33 : Int) (F2 : Mem), o21 = .done s33 ∧ HS w0 F0 w F2 [] ∧ Mem.le F0 F2 ∧ FI f [] []) ?_ ?_
 ·refine Bk ?_
  refine CWP.loop (by kernel_rfl) (fun m f w => ∃ (s24 : Int) (F1 : Mem), iter (slices_IndexFunc_int_int_L0 N x0 x1) m s24 = some o21 ∧ HS w0 F0 w F1 [] ∧ Mem.le F0 F1 ∧ FI f [] [(0, (.slice a0_0 x0.length n0_0)), (1, (.func (.func gx1) fx1.toArray kx1.toArray)), (7, (vi (x0.length : Int))), (8, (vi s24))]) N ⟨0, F0, ho22, hs0, (Mem.le.refl _), fI⟩ ?_
  rintro m38 f w25 ⟨s24, F1, hit39, hs26, le27, ⟨_, rfl⟩⟩
  obtain ⟨m40, fl41, rfl, hb42, hnx43⟩ := iter_step hit39
  refine Sq (Rg [0] ?_)
  refine Vs 1 ?_
  refine Nss ?_
  refine Cd hb42 (fun hb44 h45 => ?_) (fun hb44 h46 => ?_)
  ·refine Sc ?_
   refine thenQ_nrm ?_
   refine Sq ?_
   refine Bk ?_
   refine Sq (Rg [0, 1] ?_)
   refine Vs 2 ?_
   refine Nss (Rg [0, 1, 2, 3, 4, 5] ?_)
   refine Vs 3 ?_
   obtain ⟨x47, hx48, h50⟩ := bind_some h45
   obtain ⟨hi49, hx48'⟩ := idx_spec hx48
   obtain ⟨b51, o52, C53, E54, fz55, rfl, hF57, hE58⟩ := SlA.open (SlA.mono hs0_0 le27) hx48'
   have hc60 := hE58 _ _ hx48'
   refine Ix hi49 ?_
   refine Lx 0 (hs26.pers _ _ hF57) hc60 ?_
   obtain ⟨r61, hr62, h63⟩ := bind_some h50
   refine Cq hox1 hs26 (hpx1 w25 F1 (x47) _ le27 hs26.pers hr62) ?_
   rintro _ F3 w65 hs66 le67 rfl
   refine Nt ?_
   refine Cd h63 (fun hb69 h70 => ?_) (fun hb69 h71 => ?_)
   ·refine Sq (Rg [0, 1] ?_)
    refine Vs 2 ?_
    refine Nt ?_
    refine Rt ?_
    refine blockQ_ret ?_
    refine thenQ_ret ?_
    refine thenQ_ret ?_
    refine blockQ_ret ?_
    have hret := iter_ret h70 hnx43
    subst hret
    refine .inr ?_
    refine thenQ_ret ?_
    obtain rfl := some_inj h23
    exact Re [(vi s24)] hs66 rfl
   ·refine Sc ?_
    refine blockQ_nrm ?_
    refine thenQ_nrm ?_
    refine Rg [0, 1] ?_
    refine Vs 2 ?_
    refine RWP.nil ?_
    have hn72 := iter_next h71 hnx43
    exact ⟨m40, Nat.lt_succ_self _, (W64 (s24 + 1)), F3, hn72, hs66, (le27.trans le67), fI⟩
  ·refine Ex ?_
   refine thenQ_ex ?_
   refine thenQ_ex ?_
   refine blockQ_hit rfl ?_
   have ho73 := iter_done h46 hnx43
   exact .inl ⟨rfl, s24, F1, ho73, hs26, le27, fI⟩
 ·rintro f w34 ⟨s33, F2, rfl, hs35, le36, ⟨_, rfl⟩⟩
  have h74 := k_done h23
  refine thenQ_nrm ?_
  refine Sq (Rg [0] ?_)
  refine Vs 1 ?_
  refine Nt ?_
  refine Rt ?_
  obtain rfl := some_inj h74
  exact Re [(vi (-1))] hs35 rfl
end Go.Proofs.YtaihlcdkcampbaaGreatDoor
namespace Go.Proofs.YtaihlcdkcampbaaGreatDoor
open Go.Proofs
def slices_ContainsFunc_int_int (N : Nat) (x0 : (List Int)) (x1 : (Int → Option Bool)) : Option Bool :=
 ((slices_IndexFunc_int_int N x0 x1).bind fun r21 => some (decide (r21 ≥ 0)))
theorem co_slices_ContainsFunc_int_int : CallOk Tryz.prog 153 := fun _ _ => by kernel_rfl
theorem c_slices_ContainsFunc_int_int (N : Nat) (w0 : World) (F0 : Mem) (hF : ∀ b o, F0 b = some o → w0.heap[b]? = some o) (x0 : (List Int)) (a0_0 : Option Addr) (n0_0 : Nat) (hb0_0 : LC x0.length n0_0) (hs0_0 : SlA tInt F0 a0_0 x0) (gx1 : FuncId) (fx1 kx1 : List Value) (x1 : Int → Option Bool) (hox1 : CallOk Tryz.prog gx1) (hpx1 : Fn179 F0 gx1 fx1 kx1 x1) (r : Bool) (h : slices_ContainsFunc_int_int N x0 x1 = some r) :
  Calls Tryz.prog 153 ([(.slice a0_0 x0.length n0_0), (.func (.func gx1) fx1.toArray kx1.toArray)] : List Value).toArray w0 (FRet w0 F0 fun F' v => v = (.bool r)) := by
 have hs0 := HS.start hF
 refine Go 9 Tryz.func153 ?_
 refine Sq (Rg [0] ?_)
 refine Vs 1 ?_
 refine Nss (Rg [0, 1, 2, 3, 4] ?_)
 refine Vs 2 ?_
 obtain ⟨r21, hr22, h23⟩ := bind_some h
 refine Cl' co_slices_IndexFunc_int_int hs0 (c_slices_IndexFunc_int_int N w0 F0 hs0.pers (x0) a0_0 n0_0 hb0_0 hs0_0 gx1 fx1 kx1 x1 hox1 (fun w1 F1 y0 r le1 pe1 hr1 => hpx1 w1 F1 y0 r (le1) pe1 hr1) _ hr22) ?_
 rintro _ F1 w25 hs26 le27 rfl
 refine Vs 2 ?_
 refine Nt ?_
 refine Rt ?_
 obtain rfl := some_inj h23
 exact Re [(.bool (decide (r21 ≥ 0)))] hs26 rfl
end Go.Proofs.YtaihlcdkcampbaaGreatDoor
namespace Go.Proofs.YtaihlcdkcampbaaGreatDoor
open Go.Proofs
def rules_validFacts_1 (N : Nat) (x0 : Int) : Option Bool :=
 some ((decide (x0 < 0)) || (decide (x0 > 1000000)))
theorem co_rules_validFacts_1 : CallOk Tryz.prog 154 := fun _ _ => by kernel_rfl
theorem c_rules_validFacts_1 (N : Nat) (w0 : World) (F0 : Mem) (hF : ∀ b o, F0 b = some o → w0.heap[b]? = some o) (x0 : Int) (r : Bool) (h : rules_validFacts_1 N x0 = some r) :
  Calls Tryz.prog 154 ([(vi x0)] : List Value).toArray w0 (FRet w0 F0 fun F' v => v = (.bool r)) := by
 have hs0 := HS.start hF
 refine Go 9 Tryz.func154 ?_
 refine Sq (Rg [0] ?_)
 refine Vs 1 ?_
 refine Nss (Rg [0, 1, 2, 3, 4, 5, 6] ?_)
 refine RWP.cut (fun f w => ∃ (F1 : Mem), HS w0 F0 w F1 [] ∧ Mem.le F0 F1 ∧ FI f [] [(2, (.bool ((decide (x0 < 0)) || (decide (x0 > 1000000)))))]) ?_ ?_
 ·refine Vs 3 ?_
  refine RWP.split (decide (x0 < 0)) (fun hb26 => ?_) (fun hb26 => ?_)
  ·refine Ss hb26 2 ?_
   refine Pk1 hb26 ?_
   refine Vs 1 ?_
   exact RWP.nil ⟨rfl, F0, hs0, (Mem.le.refl _), (fJ ⟨(congrArg Value.bool (or_t hb26 (rfl))), trivial⟩)⟩
  ·refine Vgs hb26 2 ?_
   refine Pk0 hb26 ?_
   refine Vs 1 ?_
   exact RWP.nil ⟨rfl, F0, hs0, (Mem.le.refl _), (fJ ⟨(congrArg Value.bool (or_f hb26 (rfl))), trivial⟩)⟩
 ·rintro f w21 ⟨F1, hs22, le23, ⟨_, rfl⟩⟩
  refine thenQ_nrm ?_
  refine Rt ?_
  obtain rfl := some_inj h
  exact Re [(.bool ((decide (x0 < 0)) || (decide (x0 > 1000000))))] hs22 rfl
end Go.Proofs.YtaihlcdkcampbaaGreatDoor
namespace Go.Proofs.YtaihlcdkcampbaaGreatDoor
open Go.Proofs
def rules_validFacts (N : Nat) (x0 : (List Int)) : Option Bool :=
 ((bif ((x0.length : Int) == 14) then ((slices_ContainsFunc_int_int N x0 (fun y0 => rules_validFacts_1 N y0)).bind fun r32 => some (!r32)) else some false).bind fun j24 => some j24)
theorem co_rules_validFacts : CallOk Tryz.prog 98 := fun _ _ => by kernel_rfl
theorem c_rules_validFacts (N : Nat) (w0 : World) (F0 : Mem) (hF : ∀ b o, F0 b = some o → w0.heap[b]? = some o) (x0 : (List Int)) (a0_0 : Option Addr) (n0_0 : Nat) (hb0_0 : LC x0.length n0_0) (hs0_0 : SlA tInt F0 a0_0 x0) (r : Bool) (h : rules_validFacts N x0 = some r) :
  Calls Tryz.prog 98 ([(.slice a0_0 x0.length n0_0)] : List Value).toArray w0 (FRet w0 F0 fun F' v => v = (.bool r)) := by
 have hs0 := HS.start hF
 refine Go 11 Tryz.func98 ?_
 refine Sq (Rg [0] ?_)
 refine Vs 1 ?_
 refine Nss (Rg [0, 1, 2, 3, 4, 5, 6, 7, 8] ?_)
 obtain ⟨j24, hj27, h28⟩ := bind_some h
 refine RWP.cut (fun f w => ∃ (F1 : Mem), HS w0 F0 w F1 [] ∧ Mem.le F0 F1 ∧ FI f [] [(2, (.bool j24))]) ?_ ?_
 ·refine Vs 4 ?_
  refine Sp hj27 (fun hb29 h30 => ?_) (fun hb29 h31 => ?_)
  ·refine Vgs hb29 1 ?_
   obtain ⟨r32, hr33, h34⟩ := bind_some h30
   refine Cg hb29 co_slices_ContainsFunc_int_int hs0 (c_slices_ContainsFunc_int_int N w0 F0 hs0.pers (x0) a0_0 n0_0 hb0_0 hs0_0 154 [] [] (fun y0 => rules_validFacts_1 N y0) co_rules_validFacts_1 (fun w1 F1 y0 r le1 pe1 hr1 => c_rules_validFacts_1 N w1 F1 pe1  y0  r hr1) _ hr33) ?_
   rintro _ F2 w36 hs37 le38 rfl
   refine Vgs hb29 1 ?_
   refine Pk1 hb29 ?_
   refine Vs 1 ?_
   obtain rfl := some_inj h34
   exact RWP.nil ⟨rfl, F2, hs37, le38, fI⟩
  ·refine Ss hb29 3 ?_
   refine Pk0 hb29 ?_
   refine Vs 1 ?_
   obtain rfl := some_inj h31
   exact RWP.nil ⟨rfl, F0, hs0, (Mem.le.refl _), fI⟩
 ·rintro f w21 ⟨F1, hs22, le23, ⟨_, rfl⟩⟩
  refine thenQ_nrm ?_
  refine Rt ?_
  obtain rfl := some_inj h28
  exact Re [(.bool j24)] hs22 rfl
end Go.Proofs.YtaihlcdkcampbaaGreatDoor
namespace Go.Proofs.YtaihlcdkcampbaaGreatDoor
open Go.Proofs
end Go.Proofs.YtaihlcdkcampbaaGreatDoor
namespace Go.Proofs.YtaihlcdkcampbaaGreatDoor
def zE : Expr := ⟨0, 0, []⟩
def hold (n : Int) : Int := max (-1000000) (min 1000000 n)
theorem hold_r (n : Int) : -1000000 ≤ hold n ∧ hold n ≤ 1000000 := by unfold hold; omega
def bitv (b : Bool) : Int := if b then 1 else 0
def vop (op v fv : Int) (l : List Int) : Int :=
 if op = 1 then v else if op = 2 then fv else if op = 3 then 1 - l[0]! else if op = 4 then min l[0]! l[1]! else if op = 5 then max l[0]! l[1]! else if op = 6 then bitv (l[0]! == l[1]!)
 else if op = 7 then bitv (decide (l[0]! < l[1]!)) else if op = 8 then hold (l[0]! + l[1]!) else if op = 9 then hold (l[0]! - l[1]!) else if op = 10 then hold (l[0]! * l[1]!)
 else if l[0]! = 1 then l[1]! else l[2]!
def val (f : List Int) (e : Expr) : Int := match e with
 | ⟨op, v, ks⟩ => vop op v f[v.toNat]! (ks.map fun x => val f x)
theorem val_eq (f : List Int) (e : Expr) : val f e = vop e.Op e.Value f[e.Value.toNat]! (e.Kids.map (val f)) := by
 cases e; rw [val]
def fac (f : List Int) : Bool := decide (f.length = 14) && f.all fun n => decide (0 ≤ n) && decide (n ≤ 1000000)
def vok (t v : Int) : Prop := (t = 2 → v = 0 ∨ v = 1) ∧ (t = 1 → -1000000 ≤ v ∧ v ≤ 1000000)
inductive Mk (e : Expr) : Int → Prop
 | num (h : e.Op = 1) (h1 : 0 ≤ e.Value) (h2 : e.Value ≤ 1000000) (hk : e.Kids = []) : Mk e 1
 | field (h : e.Op = 2) (h1 : 0 ≤ e.Value) (h2 : e.Value ≤ 13) (hk : e.Kids = []) : Mk e 1
 | deny (h : e.Op = 3) (hv : e.Value = 0) (x : Expr) (hk : e.Kids = [x]) (h1 : kd x = 2) : Mk e 2
 | logic (h : e.Op = 4 ∨ e.Op = 5) (hv : e.Value = 0) (x y : Expr) (hk : e.Kids = [x, y]) (h1 : kd x = 2) (h2 : kd y = 2) : Mk e 2
 | test (h : e.Op = 6 ∨ e.Op = 7) (hv : e.Value = 0) (x y : Expr) (hk : e.Kids = [x, y]) (h1 : kd x = 1) (h2 : kd y = 1) : Mk e 2
 | sum (h : e.Op = 8 ∨ e.Op = 9 ∨ e.Op = 10) (hv : e.Value = 0) (x y : Expr) (hk : e.Kids = [x, y]) (h1 : kd x = 1) (h2 : kd y = 1) : Mk e 1
 | cond (h : e.Op = 11) (hv : e.Value = 0) (c x y : Expr) (hk : e.Kids = [c, x, y]) (h0 : kd c = 2) (h1 : kd x = 1) (h2 : kd y = 1) : Mk e 1
theorem map1 {l : List Expr} {a : Int} (h : l.map kd = [a]) : ∃ x, l = [x] ∧ kd x = a := by
 match l, h with
 | [x], h => exact ⟨x, rfl, by simpa using h⟩
theorem map2 {l : List Expr} {a b : Int} (h : l.map kd = [a, b]) : ∃ x y, l = [x, y] ∧ kd x = a ∧ kd y = b := by
 match l, h with
 | [x, y], h => simp at h; exact ⟨x, y, rfl, h.1, h.2⟩
theorem map3 {l : List Expr} {a b c : Int} (h : l.map kd = [a, b, c]) : ∃ x y z, l = [x, y, z] ∧ kd x = a ∧ kd y = b ∧ kd z = c := by
 match l, h with
 | [x, y, z], h => simp at h; exact ⟨x, y, z, rfl, h.1, h.2.1, h.2.2⟩
theorem kd_mk {e : Expr} (h : kd e ≠ 0) : Mk e (kd e) := by
 rw [kd_eq] at h ⊢
 cases hf : kf e.Op with
 | none => rw [hf] at h; exact absurd rfl h
 | some x =>
  obtain ⟨m, o, l⟩ := x
  rw [hf] at h
  simp only at h ⊢
  by_cases hc : 0 ≤ e.Value ∧ e.Value ≤ m ∧ e.Kids.map kd = l
  ·rw [if_pos hc]
   obtain ⟨c1, c2, c3⟩ := hc
   unfold kf at hf
   by_cases h1 : e.Op = 1
   ·rw [if_pos h1] at hf; cases hf; exact .num h1 c1 c2 (by simpa using c3)
   rw [if_neg h1] at hf
   by_cases h2 : e.Op = 2
   ·rw [if_pos h2] at hf; cases hf; exact .field h2 c1 c2 (by simpa using c3)
   rw [if_neg h2] at hf
   by_cases h3 : e.Op = 3
   ·rw [if_pos h3] at hf; cases hf; obtain ⟨x, hk, hx⟩ := map1 c3; exact .deny h3 (by omega) x hk hx
   rw [if_neg h3] at hf
   by_cases h4 : e.Op = 4 ∨ e.Op = 5
   ·rw [if_pos h4] at hf; cases hf; obtain ⟨x, y, hk, hx, hy⟩ := map2 c3; exact .logic h4 (by omega) x y hk hx hy
   rw [if_neg h4] at hf
   by_cases h6 : e.Op = 6 ∨ e.Op = 7
   ·rw [if_pos h6] at hf; cases hf; obtain ⟨x, y, hk, hx, hy⟩ := map2 c3; exact .test h6 (by omega) x y hk hx hy
   rw [if_neg h6] at hf
   by_cases h8 : e.Op = 8 ∨ e.Op = 9 ∨ e.Op = 10
   ·rw [if_pos h8] at hf; cases hf; obtain ⟨x, y, hk, hx, hy⟩ := map2 c3; exact .sum h8 (by omega) x y hk hx hy
   rw [if_neg h8] at hf
   by_cases h11 : e.Op = 11
   ·rw [if_pos h11] at hf; cases hf; obtain ⟨x, y, z, hk, hx, hy, hz⟩ := map3 c3; exact .cond h11 (by omega) x y z hk hx hy hz
   rw [if_neg h11] at hf; cases hf
  ·rw [if_neg hc] at h; exact absurd rfl h
theorem fac_len {f : List Int} (h : fac f = true) : f.length = 14 := by unfold fac at h; simp at h; exact h.1
theorem fac_get {f : List Int} (h : fac f = true) {i : Nat} (hi : i < 14) : 0 ≤ f[i]! ∧ f[i]! ≤ 1000000 := by
 have hl := fac_len h
 unfold fac at h
 simp only [Bool.and_eq_true, decide_eq_true_eq, List.all_eq_true] at h
 have := h.2 f[i]! (by rw [getElem!_pos f i (by omega)]; exact List.getElem_mem _)
 exact this
theorem bitv_ok (b : Bool) : bitv b = 0 ∨ bitv b = 1 := by cases b <;> simp [bitv]
theorem val_ok {f : List Int} (hf : fac f = true) {M : Nat} : ∀ {n : Nat} {e : Expr}, Ht M n e → kd e ≠ 0 → vok (kd e) (val f e)
 | 0, _, h, _ => h.elim
 | n + 1, e, ⟨_, _, h3⟩, h0 => by
  have ih : ∀ x, x ∈ e.Kids → kd x ≠ 0 → vok (kd x) (val f x) := fun x hx => val_ok hf (h3 x hx)
  rw [val_eq]
  have hm := kd_mk h0
  generalize kd e = t at hm h0
  have T : ∀ x, x ∈ e.Kids → kd x = 2 → val f x = 0 ∨ val f x = 1 := fun x hx h => (ih x hx (by rw [h]; decide)).1 h
  have U : ∀ x, x ∈ e.Kids → kd x = 1 → -1000000 ≤ val f x ∧ val f x ≤ 1000000 := fun x hx h => (ih x hx (by rw [h]; decide)).2 h
  cases hm with
  | num h h1 h2 hk =>
   rw [h]
   refine ⟨fun h => (by cases h), fun _ => ?_⟩
   show -1000000 ≤ e.Value ∧ e.Value ≤ 1000000
   omega
  | field h h1 h2 hk =>
    rw [h]
    refine ⟨fun h => (by cases h), fun _ => ?_⟩
    show -1000000 ≤ f[e.Value.toNat]! ∧ f[e.Value.toNat]! ≤ 1000000
    have := fac_get hf (i := e.Value.toNat) (by omega)
    omega
  | deny h hv x hk h1 =>
   rw [h, hk]
   have := T x (by rw [hk]; simp) h1
   refine ⟨fun _ => ?_, fun h => (by cases h)⟩
   show 1 - val f x = 0 ∨ 1 - val f x = 1
   omega
  | logic h hv x y hk h1 h2 =>
   have a := T x (by rw [hk]; simp) h1
   have b := T y (by rw [hk]; simp) h2
   rw [hk]
   refine ⟨fun _ => ?_, fun h => by cases h⟩
   rcases h with h | h <;> rw [h]
   ·show min (val f x) (val f y) = 0 ∨ min (val f x) (val f y) = 1; omega
   ·show max (val f x) (val f y) = 0 ∨ max (val f x) (val f y) = 1; omega
  | test h hv x y hk h1 h2 =>
   refine ⟨fun _ => ?_, fun h => by cases h⟩
   rcases h with h | h <;> rw [h] <;> exact bitv_ok _
  | sum h hv x y hk h1 h2 =>
   refine ⟨fun h => (by cases h), fun _ => ?_⟩
   rcases h with h | h | h <;> rw [h] <;> exact hold_r _
  | cond h hv c x y hk h0 h1 h2 =>
   have b := U x (by rw [hk]; simp) h1
   have c := U y (by rw [hk]; simp) h2
   rw [h, hk]
   refine ⟨fun h => (by cases h), fun _ => ?_⟩
   show -1000000 ≤ (if val f _ = 1 then val f x else val f y) ∧ (if val f _ = 1 then val f x else val f y) ≤ 1000000
   split <;> assumption
section
variable {N : Nat} {f : List Int}
theorem m_one (b : Bool) : rules_one N b = some (bitv b) := by unfold rules_one bitv; cases b <;> rfl
theorem m_held (n : Int) : rules_held N n = some (hold n) := rfl
theorem W64_small {n : Int} (h : -1000000000000000 ≤ n) (h2 : n ≤ 1000000000000000) : W64 n = n := W64_id (by omega) (by omega)
theorem mul_small {a b : Int} (ha : -1000000 ≤ a) (ha' : a ≤ 1000000) (hb : -1000000 ≤ b) (hb' : b ≤ 1000000) : -1000000000000 ≤ a * b ∧ a * b ≤ 1000000000000 := by
 have hk : (a * b).natAbs ≤ 1000000 * 1000000 := by
  rw [Int.natAbs_mul]
  exact Nat.mul_le_mul (by omega) (by omega)
 omega
theorem k_value (hf : fac f = true) : ∀ {n k : Nat} {e : Expr}, Ht N n e → 2 * n ≤ k → kd e ≠ 0 → (rec99 N k).q99 e f = some (val f e)
 | 0, _, _, h, _, _ => h.elim
 | n + 1, 0, _, _, h, _ => absurd h (by omega)
 | n + 1, 1, _, _, h, _ => absurd h (by omega)
 | n + 1, k + 2, e, ⟨h1, h2, h3⟩, hk, h0 => by
  have hq : ∀ x, x ∈ e.Kids → kd x ≠ 0 → (rec99 N k).q99 x f = some (val f x) := fun x hx => k_value hf (h3 x hx) (by omega)
  have hv : ∀ x, x ∈ e.Kids → kd x ≠ 0 → vok (kd x) (val f x) := fun x hx => val_ok hf (h3 x hx)
  have T : ∀ x, x ∈ e.Kids → kd x = 2 → val f x = 0 ∨ val f x = 1 := fun x hx h => (hv x hx (by rw [h]; decide)).1 h
  have U : ∀ x, x ∈ e.Kids → kd x = 1 → -1000000 ≤ val f x ∧ val f x ≤ 1000000 := fun x hx h => (hv x hx (by rw [h]; decide)).2 h
  have hi : ∀ (i : Nat) x, e.Kids[i]? = some x → kd x ≠ 0 → (rec99 N (k + 1)).q155 (i : Int) e f = some (val f x) := fun i x hx hx0 => by
   show rules_value_1_S N (rec99 N k).q99 i e f = _
   unfold rules_value_1_S
   rw [idx_nat', hx, Option.bind_some, hq x (List.mem_of_getElem? hx) hx0]
   rfl
  have hi0 : ∀ x, e.Kids[0]? = some x → kd x ≠ 0 → (rec99 N (k + 1)).q155 0 e f = some (val f x) := hi 0
  have hi1 : ∀ x, e.Kids[1]? = some x → kd x ≠ 0 → (rec99 N (k + 1)).q155 1 e f = some (val f x) := hi 1
  have hi2 : ∀ x, e.Kids[2]? = some x → kd x ≠ 0 → (rec99 N (k + 1)).q155 2 e f = some (val f x) := hi 2
  show rules_value_S N (rec99 N (k + 1)).q155 e f = _
  unfold rules_value_S
  rw [val_eq]
  have hm := kd_mk h0
  generalize kd e = t at hm
  cases hm with
  | num h _ _ hk => rw [h]; rfl
  | field h h1 h2 hk =>
   have hl := fac_len hf
   rw [h]
   show ((idx f e.Value).bind fun x32 => some x32) = some f[e.Value.toNat]!
   obtain ⟨m, hm⟩ : ∃ m : Nat, e.Value = m := ⟨e.Value.toNat, by omega⟩
   have hm' : m < f.length := by omega
   rw [hm, idx_nat hm', Int.toNat_natCast, getElem!_pos f m hm']
   rfl
  | deny h hv x hk h1 =>
   have a := hi0 x (by rw [hk]; rfl) (by rw [h1]; decide)
   have b := T x (by rw [hk]; simp) h1
   rw [h, hk]
   show ((rec99 N (k + 1)).q155 0 e f).bind _ = some (1 - val f x)
   rw [a, Option.bind_some, W64_small (by omega) (by omega)]
  | logic h hv x y hk h1 h2 =>
   have a := hi0 x (by rw [hk]; rfl) (by rw [h1]; decide)
   have b := hi1 y (by rw [hk]; rfl) (by rw [h2]; decide)
   have a' := T x (by rw [hk]; simp) h1
   have b' := T y (by rw [hk]; simp) h2
   rcases h with h | h <;> rw [h, hk]
   ·show ((rec99 N (k + 1)).q155 0 e f).bind _ = some (min (val f x) (val f y))
    rw [a, Option.bind_some, b, Option.bind_some]
    congr 1
    rcases a' with a' | a' <;> rcases b' with b' | b' <;> rw [a', b'] <;> decide
   ·show ((rec99 N (k + 1)).q155 0 e f).bind _ = some (max (val f x) (val f y))
    rw [a, Option.bind_some, b, Option.bind_some]
  | test h hv x y hk h1 h2 =>
   have a := hi0 x (by rw [hk]; rfl) (by rw [h1]; decide)
   have b := hi1 y (by rw [hk]; rfl) (by rw [h2]; decide)
   rcases h with h | h <;> rw [h, hk]
   ·show ((rec99 N (k + 1)).q155 0 e f).bind _ = some (bitv (val f x == val f y))
    rw [a, Option.bind_some, b, Option.bind_some, m_one]; rfl
   ·show ((rec99 N (k + 1)).q155 0 e f).bind _ = some (bitv (decide (val f x < val f y)))
    rw [a, Option.bind_some, b, Option.bind_some, m_one]; rfl
  | sum h hv x y hk h1 h2 =>
   have a := hi0 x (by rw [hk]; rfl) (by rw [h1]; decide)
   have b := hi1 y (by rw [hk]; rfl) (by rw [h2]; decide)
   have a' := U x (by rw [hk]; simp) h1
   have b' := U y (by rw [hk]; simp) h2
   have c' := mul_small a'.1 a'.2 b'.1 b'.2
   rcases h with h | h | h <;> rw [h, hk]
   ·show ((rec99 N (k + 1)).q155 0 e f).bind _ = some (hold (val f x + val f y))
    rw [a, Option.bind_some, b, Option.bind_some, W64_small (by omega) (by omega), m_held]; rfl
   ·show ((rec99 N (k + 1)).q155 0 e f).bind _ = some (hold (val f x - val f y))
    rw [a, Option.bind_some, b, Option.bind_some, W64_small (by omega) (by omega), m_held]; rfl
   ·show ((rec99 N (k + 1)).q155 0 e f).bind _ = some (hold (val f x * val f y))
    rw [a, Option.bind_some, b, Option.bind_some, W64_small (by omega) (by omega), m_held]; rfl
  | cond h hv c x y hk h0 h1 h2 =>
   have z := hi0 c (by rw [hk]; rfl) (by rw [h0]; decide)
   have a := hi1 x (by rw [hk]; rfl) (by rw [h1]; decide)
   have b := hi2 y (by rw [hk]; rfl) (by rw [h2]; decide)
   have z' := T c (by rw [hk]; simp) h0
   rw [h, hk]
   show ((rec99 N (k + 1)).q155 0 e f).bind _ = some (if val f c = 1 then val f x else val f y)
   rw [z, Option.bind_some]
   rcases z' with z' | z' <;> rw [z']
   ·rw [show W64 (2 - 0) = 2 from rfl, b]; rfl
   ·rw [show W64 (2 - 1) = 1 from rfl, a]; rfl
theorem s_value (hf : fac f = true) {e : Expr} (h : Fit N e) (h0 : kd e ≠ 0) : rules_value N e f = some (val f e) := by obtain ⟨n, h1, h2⟩ := h; exact k_value hf h1 (by omega) h0
end
end Go.Proofs.YtaihlcdkcampbaaGreatDoor
namespace Go.Proofs.YtaihlcdkcampbaaGreatDoor
open Go.Proofs
def rules_constant (N : Nat) (x0 : Int) : Option Expr :=
 some ({ Op := 1, Value := x0, Kids := ([] : List Expr) } : Expr)
theorem co_rules_constant : CallOk Tryz.prog 191 := fun _ _ => by kernel_rfl
theorem c_rules_constant (N : Nat) (w0 : World) (F0 : Mem) (hF : ∀ b o, F0 b = some o → w0.heap[b]? = some o) (x0 : Int) (r : Expr) (h : rules_constant N x0 = some r) :
  Calls Tryz.prog 191 ([(vi x0)] : List Value).toArray w0 (FRet w0 F0 fun F' v => ∃ (aq0_2 : Option Addr) (nq0_2 : Nat), v = (.agg (kExpr r aq0_2 nq0_2)) ∧ LC r.Kids.length nq0_2 ∧ SlA tExpr F' aq0_2 r.Kids) := by
 have hs0 := HS.start hF
 refine Go 5 Tryz.func191 ?_
 refine Sq (Rg [0] ?_)
 refine Al' 33 #[(vi 0), (vi 0), (.slice none ([] : List Expr).length 0)] hs0 (fun b21 w22 hs23 => ?_)
 refine Nss (Rg [0, 1, 2] ?_)
 refine Vs 2 ?_
 refine St0 #[(vi 1), (vi x0), (.slice none ([] : List Expr).length 0)] hs23 (fun w24 hs25 => ?_)
 refine Nt ?_
 refine Rt ?_
 obtain rfl := some_inj h
 exact ⟨rfl, (.agg #[(vi 1), (vi x0), (.slice none ([] : List Expr).length 0)]), res_of (l := [.cell 2 33]) (by kernel_rfl) (vs := [(.agg #[(vi 1), (vi x0), (.slice none ([] : List Expr).length 0)])]) ⟨b21, 0, rfl, run_loadVar' (t := 33) (g := true) (s := 3) (by kernel_rfl) hs25.at0 rfl (by decide), trivial⟩, (.agg #[(vi 1), (vi x0), (.slice none ([] : List Expr).length 0)]), F0, rfl, hs25.clear, ⟨none, 0, rfl, LC.nil, (.inl rfl)⟩⟩
end Go.Proofs.YtaihlcdkcampbaaGreatDoor
namespace Go.Proofs.YtaihlcdkcampbaaGreatDoor
open Go.Proofs
def rules_truthOf (N : Nat) (x0 : Bool) : Option Expr :=
 ((rules_constant N 0).bind fun r31 => ((rules_constant N 0).bind fun r39 => some ({ Op := (bif x0 then 6 else 7), Value := 0, Kids := [r31, r39] } : Expr)))
theorem co_rules_truthOf : CallOk Tryz.prog 188 := fun _ _ => by kernel_rfl
theorem c_rules_truthOf (N : Nat) (w0 : World) (F0 : Mem) (hF : ∀ b o, F0 b = some o → w0.heap[b]? = some o) (x0 : Bool) (r : Expr) (h : rules_truthOf N x0 = some r) :
  Calls Tryz.prog 188 ([(.bool x0)] : List Value).toArray w0 (FRet w0 F0 fun F' v => ∃ (aq0_2 : Option Addr) (nq0_2 : Nat), v = (.agg (kExpr r aq0_2 nq0_2)) ∧ LC r.Kids.length nq0_2 ∧ SlA tExpr F' aq0_2 r.Kids) := by
 have hs0 := HS.start hF
 refine Go 10 Tryz.func188 ?_
 refine Sq (Rg [0] ?_)
 refine Al' 33 #[(vi 0), (vi 0), (.slice none ([] : List Expr).length 0)] hs0 (fun b21 w22 hs23 => ?_)
 refine Nss (Rg [0] ?_)
 refine Vs 1 ?_
 refine Nss ?_
 refine Sq (Rg [0] ?_)
 refine Vs 1 ?_
 refine Nt ?_
 refine CWP.cut (fun f w => ∃ (F1 : Mem), HS w0 F0 w F1 [(sb b21 #[(vi 0), (vi 0), (.slice none ([] : List Expr).length 0)] 33)] ∧ Mem.le F0 F1 ∧ FI f [] [(2, (pt b21 0)), (3, (vi (bif x0 then 6 else 7)))]) ?_ ?_
 ·refine Cp x0 (fun hb30 => ?_) (fun hb30 => ?_)
  ·refine Rg [0] ?_
   refine Vs 1 ?_
   refine RWP.nil ?_
   exact .inl ⟨rfl, F0, hs23, (Mem.le.refl _), (fJ ⟨rfl, (congrArg (Value.int .i64) (bif_t hb30 (rfl))), trivial⟩)⟩
  ·refine Sc ?_
   exact .inl ⟨rfl, F0, hs23, (Mem.le.refl _), (fJ ⟨rfl, (congrArg (Value.int .i64) (bif_f hb30 (rfl))), trivial⟩)⟩
 ·rintro f w24 ⟨F1, hs25, le26, ⟨_, rfl⟩⟩
  refine thenQ_nrm ?_
  refine Sq (Rg [0, 1, 2, 3, 4, 5] ?_)
  refine Vs 1 ?_
  obtain ⟨r31, hr32, h33⟩ := bind_some h
  refine Cl' co_rules_constant hs25 (c_rules_constant N w24 F1 hs25.pers (0) _ hr32) ?_
  rintro _ F2 w35 hs36 le37 ⟨ar31_0_2, nr31_0_2, rfl, hbr31_0_2, hsr31_0_2⟩
  obtain ⟨r39, hr40, h41⟩ := bind_some h33
  refine Cl' co_rules_constant hs36 (c_rules_constant N w35 F2 hs36.pers (0) _ hr40) ?_
  rintro _ F3 w43 hs44 le45 ⟨ar39_0_2, nr39_0_2, rfl, hbr39_0_2, hsr39_0_2⟩
  refine Bs 33 [(vi r31.Op), (vi r31.Value), (.slice ar31_0_2 r31.Kids.length nr31_0_2), (vi r39.Op), (vi r39.Value), (.slice ar39_0_2 r39.Kids.length nr39_0_2)] hs44 (fun b47 w48 hs49 => ?_)
  have hr51 : RowR tExpr 33 F3 (some ⟨b47, 0, none⟩) 2 [r31, r39] (some b47, .cells ([(vi r31.Op), (vi r31.Value), (.slice ar31_0_2 r31.Kids.length nr31_0_2), (vi r39.Op), (vi r39.Value), (.slice ar39_0_2 r39.Kids.length nr39_0_2)] : List Value).toArray 33 (0, 0)) := RowR.lit ⟨(tExpr_mk ⟨ar31_0_2, nr31_0_2, rfl, hbr31_0_2, (SlA.mono hsr31_0_2 le45)⟩), ⟨(tExpr_mk ⟨ar39_0_2, nr39_0_2, rfl, hbr39_0_2, hsr39_0_2⟩), rfl⟩⟩ (by simp)
  refine Vs 1 ?_
  refine St1 #[(vi (bif x0 then 6 else 7)), (vi 0), (.slice (some ⟨b47, 0, none⟩) [r31, r39].length 2)] hs49 (fun w52 hs53 => ?_)
  refine Nt ?_
  refine Rt ?_
  have hb57 := RowR.bound hr51
  obtain ⟨F4, hs54, le55, hs56⟩ := hs53.fr0 hr51
  obtain rfl := some_inj h41
  exact ⟨rfl, (.agg #[(vi (bif x0 then 6 else 7)), (vi 0), (.slice (some ⟨b47, 0, none⟩) [r31, r39].length 2)]), res_of (l := [.cell 2 33]) (by kernel_rfl) (vs := [(.agg #[(vi (bif x0 then 6 else 7)), (vi 0), (.slice (some ⟨b47, 0, none⟩) [r31, r39].length 2)])]) ⟨b21, 0, rfl, run_loadVar' (t := 33) (g := true) (s := 3) (by kernel_rfl) hs54.at0 rfl (by decide), trivial⟩, (.agg #[(vi (bif x0 then 6 else 7)), (vi 0), (.slice (some ⟨b47, 0, none⟩) [r31, r39].length 2)]), F4, rfl, hs54.clear, ⟨(some ⟨b47, 0, none⟩), 2, rfl, hb57, hs56⟩⟩
end Go.Proofs.YtaihlcdkcampbaaGreatDoor
namespace Go.Proofs.YtaihlcdkcampbaaGreatDoor
open Go.Proofs
def rules_isTruth (N : Nat) (x0 : Expr) (x1 : Bool) : Option Bool :=
 (((rules_truthOf N x1).bind fun r34 => ((rules_same N x0 r34).bind fun r42 => some r42)).bind fun j29 => some j29)
theorem co_rules_isTruth : CallOk Tryz.prog 187 := fun _ _ => by kernel_rfl
theorem c_rules_isTruth (N : Nat) (w0 : World) (F0 : Mem) (hF : ∀ b o, F0 b = some o → w0.heap[b]? = some o) (x0 : Expr) (a0_2 : Option Addr) (n0_2 : Nat) (hb0_2 : LC x0.Kids.length n0_2) (hs0_2 : SlA tExpr F0 a0_2 x0.Kids) (x1 : Bool) (r : Bool) (h : rules_isTruth N x0 x1 = some r) :
  Calls Tryz.prog 187 ([(.agg (kExpr x0 a0_2 n0_2)), (.bool x1)] : List Value).toArray w0 (FRet w0 F0 fun F' v => v = (.bool r)) := by
 have hs0 := HS.start hF
 refine Go 9 Tryz.func187 ?_
 refine Sq (Rg [0, 1] ?_)
 refine Bx' 33 (kExpr x0 a0_2 n0_2) hs0 (fun b21 w22 hs23 => ?_)
 refine Vs 1 ?_
 refine Nss ?_
 obtain ⟨j29, hj32, h33⟩ := bind_some h
 refine RD 5 5 [(sb b21 (kExpr x0 a0_2 n0_2) 33)] [] hs23 (fun f w => ∃ (F1 : Mem), HS w0 F0 w F1 [] ∧ Mem.le F0 F1 ∧ FI f [] [(4, (.bool j29))]) (fun wd24 hw25 => ?_) ?_
 ·refine Dl 0 (fun _ hq => (hq.1.2 0 _ _ rfl)) ?_
  refine Dv [1] ?_
  refine D1 2 ?_
  obtain ⟨r34, hr35, h36⟩ := bind_some hj32
  refine DCl co_rules_truthOf hw25 (c_rules_truthOf N wd24 F0 hw25.pers (x1) _ hr35) ?_
  rintro _ F2 w38 hs39 le40 ⟨ar34_0_2, nr34_0_2, rfl, hbr34_0_2, hsr34_0_2⟩
  refine D1 3 ?_
  obtain ⟨r42, hr43, h44⟩ := bind_some h36
  refine DCl co_rules_same hs39 (c_rules_same N w38 F2 hs39.pers (x0) a0_2 n0_2 hb0_2 (SlA.mono hs0_2 le40) (r34) ar34_0_2 nr34_0_2 hbr34_0_2 hsr34_0_2 _ hr43) ?_
  rintro _ F3 w46 hs47 le48 rfl
  refine Dv [4] ?_
  obtain rfl := some_inj h44
  exact DWP.done (by kernel_rfl) ⟨F3, hs47.dr0, (le40.trans le48), fI⟩
 ·rintro f w26 ⟨F1, hs27, le28, ⟨_, rfl⟩⟩
  refine thenQ_nrm ?_
  refine Rt ?_
  obtain rfl := some_inj h33
  exact Re [(.bool j29)] hs27 rfl
end Go.Proofs.YtaihlcdkcampbaaGreatDoor
namespace Go.Proofs.YtaihlcdkcampbaaGreatDoor
open Go.Proofs
def rules_joined (N : Nat) (x0 : Expr) (x1 : Expr) (x2 : Expr) : Option Expr :=
 (((rules_isTruth N x1 (x0.Op == 5)).bind fun r46 => (bif r46 then some true else ((rules_isTruth N x2 (x0.Op == 5)).bind fun r57 => some r57))).bind fun j36 => (bif j36 then ((rules_truthOf N (x0.Op == 5)).bind fun r68 => some r68) else ((rules_isTruth N x1 (!(x0.Op == 5))).bind fun r78 => (bif r78 then some x2 else ((rules_isTruth N x2 (!(x0.Op == 5))).bind fun r91 => ((bif r91 then some r91 else ((rules_same N x1 x2).bind fun r113 => some r113)).bind fun j102 => (bif j102 then some x1 else some x0)))))))
theorem co_rules_joined : CallOk Tryz.prog 190 := fun _ _ => by kernel_rfl
theorem c_rules_joined (N : Nat) (w0 : World) (F0 : Mem) (hF : ∀ b o, F0 b = some o → w0.heap[b]? = some o) (x0 : Expr) (a0_2 : Option Addr) (n0_2 : Nat) (hb0_2 : LC x0.Kids.length n0_2) (hs0_2 : SlA tExpr F0 a0_2 x0.Kids) (x1 : Expr) (a1_2 : Option Addr) (n1_2 : Nat) (hb1_2 : LC x1.Kids.length n1_2) (hs1_2 : SlA tExpr F0 a1_2 x1.Kids) (x2 : Expr) (a2_2 : Option Addr) (n2_2 : Nat) (hb2_2 : LC x2.Kids.length n2_2) (hs2_2 : SlA tExpr F0 a2_2 x2.Kids) (r : Expr) (h : rules_joined N x0 x1 x2 = some r) :
  Calls Tryz.prog 190 ([(.agg (kExpr x0 a0_2 n0_2)), (.agg (kExpr x1 a1_2 n1_2)), (.agg (kExpr x2 a2_2 n2_2))] : List Value).toArray w0 (FRet w0 F0 fun F' v => ∃ (aq0_2 : Option Addr) (nq0_2 : Nat), v = (.agg (kExpr r aq0_2 nq0_2)) ∧ LC r.Kids.length nq0_2 ∧ SlA tExpr F' aq0_2 r.Kids) := by
 have hs0 := HS.start hF
 refine Go 38 Tryz.func190 ?_
 refine Sq (Rg [0, 1, 2, 3] ?_)
 refine Bx' 33 (kExpr x0 a0_2 n0_2) hs0 (fun b21 w22 hs23 => ?_)
 refine Bx' 33 (kExpr x1 a1_2 n1_2) hs23 (fun b24 w25 hs26 => ?_)
 refine Bx' 33 (kExpr x2 a2_2 n2_2) hs26 (fun b27 w28 hs29 => ?_)
 refine Al' 33 #[(vi 0), (vi 0), (.slice none ([] : List Expr).length 0)] hs29 (fun b30 w31 hs32 => ?_)
 refine Nss (Rg [0, 1, 2, 3] ?_)
 refine Vs 1 ?_
 refine Ld hs32.at3 ?_
 refine Vs 2 ?_
 refine Nss ?_
 refine Bk ?_
 refine Sq (Rg [0, 1, 2, 3, 4, 5, 6, 7, 8] ?_)
 obtain ⟨j36, hj44, h45⟩ := bind_some h
 refine RWP.cut (fun f w => ∃ (F1 : Mem), HS w0 F0 w F1 [(sb b30 #[(vi 0), (vi 0), (.slice none ([] : List Expr).length 0)] 33), (sb b27 (kExpr x2 a2_2 n2_2) 33), (sb b24 (kExpr x1 a1_2 n1_2) 33), (sb b21 (kExpr x0 a0_2 n0_2) 33)] ∧ Mem.le F0 F1 ∧ FI f [] [(3, (pt b21 0)), (4, (pt b24 0)), (5, (pt b27 0)), (6, (pt b30 0)), (7, (.bool (x0.Op == 5))), (11, (.bool j36))]) ?_ ?_
 ·refine Ld hs32.at2 ?_
  refine Vs 1 ?_
  obtain ⟨r46, hr47, h48⟩ := bind_some hj44
  refine Cl' co_rules_isTruth hs32 (c_rules_isTruth N w31 F0 hs32.pers (x1) a1_2 n1_2 hb1_2 hs1_2 ((x0.Op == 5)) _ hr47) ?_
  rintro _ F2 w50 hs51 le52 rfl
  refine Vs 1 ?_
  refine Sp h48 (fun hb54 h55 => ?_) (fun hb54 h56 => ?_)
  ·refine Ss hb54 3 ?_
   refine Pk1 hb54 ?_
   refine Vs 1 ?_
   obtain rfl := some_inj h55
   exact RWP.nil ⟨rfl, F2, hs51, le52, fI⟩
  ·refine Lg hb54 hs51.at1 ?_
   refine Vgs hb54 1 ?_
   obtain ⟨r57, hr58, h59⟩ := bind_some h56
   refine Cg hb54 co_rules_isTruth hs51 (c_rules_isTruth N w50 F2 hs51.pers (x2) a2_2 n2_2 hb2_2 (SlA.mono hs2_2 le52) ((x0.Op == 5)) _ hr58) ?_
   rintro _ F3 w61 hs62 le63 rfl
   refine Pk0 hb54 ?_
   refine Vs 1 ?_
   obtain rfl := some_inj h59
   exact RWP.nil ⟨rfl, F3, hs62, (le52.trans le63), fI⟩
 ·rintro f w33 ⟨F1, hs34, le35, ⟨_, rfl⟩⟩
  refine thenQ_nrm ?_
  refine Cd h45 (fun hb65 h66 => ?_) (fun hb65 h67 => ?_)
  ·refine Sq (Rg [0, 1, 2] ?_)
   refine Vs 1 ?_
   obtain ⟨r68, hr69, h70⟩ := bind_some h66
   refine Cl' co_rules_truthOf hs34 (c_rules_truthOf N w33 F1 hs34.pers ((x0.Op == 5)) _ hr69) ?_
   rintro _ F4 w72 hs73 le74 ⟨ar68_0_2, nr68_0_2, rfl, hbr68_0_2, hsr68_0_2⟩
   refine St0 (kExpr r68 ar68_0_2 nr68_0_2) hs73 (fun w76 hs77 => ?_)
   refine Nt ?_
   refine Rt ?_
   refine blockQ_ret ?_
   refine thenQ_ret ?_
   obtain rfl := some_inj h70
   exact ⟨rfl, (.agg (kExpr r68 ar68_0_2 nr68_0_2)), res_of (l := [.cell 6 33]) (by kernel_rfl) (vs := [(.agg (kExpr r68 ar68_0_2 nr68_0_2))]) ⟨b30, 0, rfl, run_loadVar' (t := 33) (g := true) (s := 3) (by kernel_rfl) hs77.at0 rfl (by decide), trivial⟩, (.agg (kExpr r68 ar68_0_2 nr68_0_2)), F4, rfl, hs77.clear, ⟨ar68_0_2, nr68_0_2, rfl, hbr68_0_2, hsr68_0_2⟩⟩
  ·refine Sq (Rg [0, 1, 2, 3, 4] ?_)
   refine Ld hs34.at2 ?_
   refine Vs 2 ?_
   obtain ⟨r78, hr79, h80⟩ := bind_some h67
   refine Cl' co_rules_isTruth hs34 (c_rules_isTruth N w33 F1 hs34.pers (x1) a1_2 n1_2 hb1_2 (SlA.mono hs1_2 le35) ((!(x0.Op == 5))) _ hr79) ?_
   rintro _ F5 w82 hs83 le84 rfl
   refine Vs 1 ?_
   refine Nt ?_
   refine Cd h80 (fun hb86 h87 => ?_) (fun hb86 h88 => ?_)
   ·refine Sq (Rg [0, 1] ?_)
    refine Ld hs83.at1 ?_
    refine St0 (kExpr x2 a2_2 n2_2) hs83 (fun w89 hs90 => ?_)
    refine Nt ?_
    refine Rt ?_
    refine blockQ_ret ?_
    refine thenQ_ret ?_
    obtain rfl := some_inj h87
    exact ⟨rfl, (.agg (kExpr x2 a2_2 n2_2)), res_of (l := [.cell 6 33]) (by kernel_rfl) (vs := [(.agg (kExpr x2 a2_2 n2_2))]) ⟨b30, 0, rfl, run_loadVar' (t := 33) (g := true) (s := 3) (by kernel_rfl) hs90.at0 rfl (by decide), trivial⟩, (.agg (kExpr x2 a2_2 n2_2)), F5, rfl, hs90.clear, ⟨a2_2, n2_2, rfl, hb2_2, (SlA.mono hs2_2 (le35.trans le84))⟩⟩
   ·refine Sq ?_
    refine Sq (Rg [0, 1, 2, 3, 4] ?_)
    refine Ld hs83.at1 ?_
    refine Vs 2 ?_
    obtain ⟨r91, hr92, h93⟩ := bind_some h88
    refine Cl' co_rules_isTruth hs83 (c_rules_isTruth N w82 F5 hs83.pers (x2) a2_2 n2_2 hb2_2 (SlA.mono hs2_2 (le35.trans le84)) ((!(x0.Op == 5))) _ hr92) ?_
    rintro _ F6 w95 hs96 le97 rfl
    refine Vs 1 ?_
    refine Nt ?_
    obtain ⟨j102, hj108, h109⟩ := bind_some h93
    refine CWP.cut (fun f w => ∃ (F7 : Mem), HS w0 F0 w F7 [(sb b30 #[(vi 0), (vi 0), (.slice none ([] : List Expr).length 0)] 33), (sb b24 (kExpr x1 a1_2 n1_2) 33), (sb b21 (kExpr x0 a0_2 n0_2) 33)] ∧ Mem.le F6 F7 ∧ FI f [] [(3, (pt b21 0)), (4, (pt b24 0)), (6, (pt b30 0)), (28, (.bool j102))]) ?_ ?_
    ·refine Cd hj108 (fun hb110 h111 => ?_) (fun hb110 h112 => ?_)
     ·refine Sc ?_
      obtain rfl := some_inj h111
      exact .inl ⟨rfl, F6, hs96.dr1, (Mem.le.refl _), fI⟩
     ·refine Rg [0, 1, 2, 3] ?_
      refine Ld hs96.at2 ?_
      refine Ld hs96.at1 ?_
      obtain ⟨r113, hr114, h115⟩ := bind_some h112
      refine Cl' co_rules_same hs96 (c_rules_same N w95 F6 hs96.pers (x1) a1_2 n1_2 hb1_2 (SlA.mono hs1_2 ((le35.trans le84).trans le97)) (x2) a2_2 n2_2 hb2_2 (SlA.mono hs2_2 ((le35.trans le84).trans le97)) _ hr114) ?_
      rintro _ F8 w117 hs118 le119 rfl
      refine Vs 1 ?_
      refine RWP.nil ?_
      obtain rfl := some_inj h115
      exact .inl ⟨rfl, F8, hs118.dr1, le119, fI⟩
    ·rintro f w99 ⟨F7, hs100, le101, ⟨_, rfl⟩⟩
     refine thenQ_nrm ?_
     refine Cd h109 (fun hb121 h122 => ?_) (fun hb121 h123 => ?_)
     ·refine Sq (Rg [0, 1] ?_)
      refine Ld hs100.at1 ?_
      refine St0 (kExpr x1 a1_2 n1_2) hs100 (fun w124 hs125 => ?_)
      refine Nt ?_
      refine Rt ?_
      refine blockQ_ret ?_
      refine thenQ_ret ?_
      obtain rfl := some_inj h122
      exact ⟨rfl, (.agg (kExpr x1 a1_2 n1_2)), res_of (l := [.cell 6 33]) (by kernel_rfl) (vs := [(.agg (kExpr x1 a1_2 n1_2))]) ⟨b30, 0, rfl, run_loadVar' (t := 33) (g := true) (s := 3) (by kernel_rfl) hs125.at0 rfl (by decide), trivial⟩, (.agg (kExpr x1 a1_2 n1_2)), F7, rfl, hs125.clear, ⟨a1_2, n1_2, rfl, hb1_2, (SlA.mono hs1_2 (((le35.trans le84).trans le97).trans le101))⟩⟩
     ·refine Sc ?_
      refine blockQ_nrm ?_
      refine thenQ_nrm ?_
      refine Sq (Rg [0, 1] ?_)
      refine Ld hs100.at2 ?_
      refine St0 (kExpr x0 a0_2 n0_2) hs100 (fun w126 hs127 => ?_)
      refine Nt ?_
      refine Rt ?_
      obtain rfl := some_inj h123
      exact ⟨rfl, (.agg (kExpr x0 a0_2 n0_2)), res_of (l := [.cell 6 33]) (by kernel_rfl) (vs := [(.agg (kExpr x0 a0_2 n0_2))]) ⟨b30, 0, rfl, run_loadVar' (t := 33) (g := true) (s := 3) (by kernel_rfl) hs127.at0 rfl (by decide), trivial⟩, (.agg (kExpr x0 a0_2 n0_2)), F7, rfl, hs127.clear, ⟨a0_2, n0_2, rfl, hb0_2, (SlA.mono hs0_2 (((le35.trans le84).trans le97).trans le101))⟩⟩
end Go.Proofs.YtaihlcdkcampbaaGreatDoor
namespace Go.Proofs.YtaihlcdkcampbaaGreatDoor
open Go.Proofs
def rules_isConstant (N : Nat) (x0 : Expr) (x1 : Int) : Option Bool :=
 some ((x0.Op == 1) && (x0.Value == x1))
theorem co_rules_isConstant : CallOk Tryz.prog 215 := fun _ _ => by kernel_rfl
theorem c_rules_isConstant (N : Nat) (w0 : World) (F0 : Mem) (hF : ∀ b o, F0 b = some o → w0.heap[b]? = some o) (x0 : Expr) (a0_2 : Option Addr) (n0_2 : Nat) (hb0_2 : LC x0.Kids.length n0_2) (hs0_2 : SlA tExpr F0 a0_2 x0.Kids) (x1 : Int) (r : Bool) (h : rules_isConstant N x0 x1 = some r) :
  Calls Tryz.prog 215 ([(.agg (kExpr x0 a0_2 n0_2)), (vi x1)] : List Value).toArray w0 (FRet w0 F0 fun F' v => v = (.bool r)) := by
 have hs0 := HS.start hF
 refine Go 14 Tryz.func215 ?_
 refine Sq (Rg [0, 1] ?_)
 refine Bx' 33 (kExpr x0 a0_2 n0_2) hs0 (fun b21 w22 hs23 => ?_)
 refine Vs 1 ?_
 refine Nss (Rg [0, 1, 2, 3, 4, 5, 6, 7, 8, 9] ?_)
 refine RWP.cut (fun f w => ∃ (F1 : Mem), HS w0 F0 w F1 [] ∧ Mem.le F0 F1 ∧ FI f [] [(4, (.bool ((x0.Op == 1) && (x0.Value == x1))))]) ?_ ?_
 ·refine Vs 1 ?_
  refine Ld hs23.at0 ?_
  refine Vs 2 ?_
  refine RWP.split (x0.Op == 1) (fun hb29 => ?_) (fun hb29 => ?_)
  ·refine Vgs hb29 1 ?_
   refine Lg hb29 hs23.at0 ?_
   refine Vgs hb29 2 ?_
   refine Pk1 hb29 ?_
   refine Vs 1 ?_
   exact RWP.nil ⟨rfl, F0, hs23.dr0, (Mem.le.refl _), (fJ ⟨(congrArg Value.bool (and_t hb29 (rfl))), trivial⟩)⟩
  ·refine Ss hb29 4 ?_
   refine Pk0 hb29 ?_
   refine Vs 1 ?_
   exact RWP.nil ⟨rfl, F0, hs23.dr0, (Mem.le.refl _), (fJ ⟨(congrArg Value.bool (and_f hb29 (rfl))), trivial⟩)⟩
 ·rintro f w24 ⟨F1, hs25, le26, ⟨_, rfl⟩⟩
  refine thenQ_nrm ?_
  refine Rt ?_
  obtain rfl := some_inj h
  exact Re [(.bool ((x0.Op == 1) && (x0.Value == x1)))] hs25 rfl
end Go.Proofs.YtaihlcdkcampbaaGreatDoor
namespace Go.Proofs.YtaihlcdkcampbaaGreatDoor
open Go.Proofs
def rules_reckoned (N : Nat) (x0 : Expr) (x1 : Expr) (x2 : Expr) : Option Expr :=
 (bif (x0.Op == 8) then ((rules_isConstant N x1 0).bind fun r36 => (bif r36 then some x2 else ((rules_isConstant N x2 0).bind fun r49 => (bif r49 then some x1 else some x0)))) else (bif (x0.Op == 9) then ((rules_isConstant N x2 0).bind fun r67 => (bif r67 then some x1 else ((rules_same N x1 x2).bind fun r80 => (bif r80 then ((rules_constant N 0).bind fun r91 => some r91) else some x0)))) else (bif (x0.Op == 10) then ((rules_isConstant N x1 1).bind fun r106 => (bif r106 then some x2 else ((rules_isConstant N x2 1).bind fun r119 => (bif r119 then some x1 else (((rules_isConstant N x1 0).bind fun r142 => (bif r142 then some true else ((rules_isConstant N x2 0).bind fun r153 => some r153))).bind fun j135 => (bif j135 then ((rules_constant N 0).bind fun r164 => some r164) else some x0)))))) else some x0)))
theorem co_rules_reckoned : CallOk Tryz.prog 192 := fun _ _ => by kernel_rfl
theorem c_rules_reckoned (N : Nat) (w0 : World) (F0 : Mem) (hF : ∀ b o, F0 b = some o → w0.heap[b]? = some o) (x0 : Expr) (a0_2 : Option Addr) (n0_2 : Nat) (hb0_2 : LC x0.Kids.length n0_2) (hs0_2 : SlA tExpr F0 a0_2 x0.Kids) (x1 : Expr) (a1_2 : Option Addr) (n1_2 : Nat) (hb1_2 : LC x1.Kids.length n1_2) (hs1_2 : SlA tExpr F0 a1_2 x1.Kids) (x2 : Expr) (a2_2 : Option Addr) (n2_2 : Nat) (hb2_2 : LC x2.Kids.length n2_2) (hs2_2 : SlA tExpr F0 a2_2 x2.Kids) (r : Expr) (h : rules_reckoned N x0 x1 x2 = some r) :
  Calls Tryz.prog 192 ([(.agg (kExpr x0 a0_2 n0_2)), (.agg (kExpr x1 a1_2 n1_2)), (.agg (kExpr x2 a2_2 n2_2))] : List Value).toArray w0 (FRet w0 F0 fun F' v => ∃ (aq0_2 : Option Addr) (nq0_2 : Nat), v = (.agg (kExpr r aq0_2 nq0_2)) ∧ LC r.Kids.length nq0_2 ∧ SlA tExpr F' aq0_2 r.Kids) := by
 have hs0 := HS.start hF
 refine Go 49 Tryz.func192 ?_
 refine Sq (Rg [0, 1, 2, 3] ?_)
 refine Bx' 33 (kExpr x0 a0_2 n0_2) hs0 (fun b21 w22 hs23 => ?_)
 refine Bx' 33 (kExpr x1 a1_2 n1_2) hs23 (fun b24 w25 hs26 => ?_)
 refine Bx' 33 (kExpr x2 a2_2 n2_2) hs26 (fun b27 w28 hs29 => ?_)
 refine Al' 33 #[(vi 0), (vi 0), (.slice none ([] : List Expr).length 0)] hs29 (fun b30 w31 hs32 => ?_)
 refine Nss ?_
 refine Sq (Rg [0, 1] ?_)
 refine Vs 1 ?_
 refine Ld hs32.at3 ?_
 refine Nt ?_
 refine Bk ?_
 refine Sq (Rg [0, 1] ?_)
 refine Vs 2 ?_
 refine Nt ?_
 refine Cd h (fun hb33 h34 => ?_) (fun hb33 h35 => ?_)
 ·refine Bk ?_
  refine Sq (Rg [0, 1, 2] ?_)
  refine Ld hs32.at2 ?_
  obtain ⟨r36, hr37, h38⟩ := bind_some h34
  refine Cl' co_rules_isConstant hs32 (c_rules_isConstant N w31 F0 hs32.pers (x1) a1_2 n1_2 hb1_2 hs1_2 (0) _ hr37) ?_
  rintro _ F1 w40 hs41 le42 rfl
  refine Vs 1 ?_
  refine Nt ?_
  refine Cd h38 (fun hb44 h45 => ?_) (fun hb44 h46 => ?_)
  ·refine Sq (Rg [0, 1] ?_)
   refine Ld hs41.at1 ?_
   refine St0 (kExpr x2 a2_2 n2_2) hs41 (fun w47 hs48 => ?_)
   refine Nt ?_
   refine Rt ?_
   refine blockQ_ret ?_
   refine blockQ_ret ?_
   refine thenQ_ret ?_
   obtain rfl := some_inj h45
   exact ⟨rfl, (.agg (kExpr x2 a2_2 n2_2)), res_of (l := [.cell 6 33]) (by kernel_rfl) (vs := [(.agg (kExpr x2 a2_2 n2_2))]) ⟨b30, 0, rfl, run_loadVar' (t := 33) (g := true) (s := 3) (by kernel_rfl) hs48.at0 rfl (by decide), trivial⟩, (.agg (kExpr x2 a2_2 n2_2)), F1, rfl, hs48.clear, ⟨a2_2, n2_2, rfl, hb2_2, (SlA.mono hs2_2 le42)⟩⟩
  ·refine Sq (Rg [0, 1, 2] ?_)
   refine Ld hs41.at1 ?_
   obtain ⟨r49, hr50, h51⟩ := bind_some h46
   refine Cl' co_rules_isConstant hs41 (c_rules_isConstant N w40 F1 hs41.pers (x2) a2_2 n2_2 hb2_2 (SlA.mono hs2_2 le42) (0) _ hr50) ?_
   rintro _ F2 w53 hs54 le55 rfl
   refine Vs 1 ?_
   refine Nt ?_
   refine Cd h51 (fun hb57 h58 => ?_) (fun hb57 h59 => ?_)
   ·refine Sq (Rg [0, 1] ?_)
    refine Ld hs54.at2 ?_
    refine St0 (kExpr x1 a1_2 n1_2) hs54 (fun w60 hs61 => ?_)
    refine Nt ?_
    refine Rt ?_
    refine blockQ_ret ?_
    refine blockQ_ret ?_
    refine thenQ_ret ?_
    obtain rfl := some_inj h58
    exact ⟨rfl, (.agg (kExpr x1 a1_2 n1_2)), res_of (l := [.cell 6 33]) (by kernel_rfl) (vs := [(.agg (kExpr x1 a1_2 n1_2))]) ⟨b30, 0, rfl, run_loadVar' (t := 33) (g := true) (s := 3) (by kernel_rfl) hs61.at0 rfl (by decide), trivial⟩, (.agg (kExpr x1 a1_2 n1_2)), F2, rfl, hs61.clear, ⟨a1_2, n1_2, rfl, hb1_2, (SlA.mono hs1_2 (le42.trans le55))⟩⟩
   ·refine Sc ?_
    refine blockQ_nrm ?_
    refine blockQ_nrm ?_
    refine thenQ_nrm ?_
    refine Sq (Rg [0, 1] ?_)
    refine Ld hs54.at3 ?_
    refine St0 (kExpr x0 a0_2 n0_2) hs54 (fun w62 hs63 => ?_)
    refine Nt ?_
    refine Rt ?_
    obtain rfl := some_inj h59
    exact ⟨rfl, (.agg (kExpr x0 a0_2 n0_2)), res_of (l := [.cell 6 33]) (by kernel_rfl) (vs := [(.agg (kExpr x0 a0_2 n0_2))]) ⟨b30, 0, rfl, run_loadVar' (t := 33) (g := true) (s := 3) (by kernel_rfl) hs63.at0 rfl (by decide), trivial⟩, (.agg (kExpr x0 a0_2 n0_2)), F2, rfl, hs63.clear, ⟨a0_2, n0_2, rfl, hb0_2, (SlA.mono hs0_2 (le42.trans le55))⟩⟩
 ·refine Sq (Rg [0, 1] ?_)
  refine Vs 2 ?_
  refine Nt ?_
  refine Cd h35 (fun hb64 h65 => ?_) (fun hb64 h66 => ?_)
  ·refine Bk ?_
   refine Sq (Rg [0, 1, 2] ?_)
   refine Ld hs32.at1 ?_
   obtain ⟨r67, hr68, h69⟩ := bind_some h65
   refine Cl' co_rules_isConstant hs32 (c_rules_isConstant N w31 F0 hs32.pers (x2) a2_2 n2_2 hb2_2 hs2_2 (0) _ hr68) ?_
   rintro _ F3 w71 hs72 le73 rfl
   refine Vs 1 ?_
   refine Nt ?_
   refine Cd h69 (fun hb75 h76 => ?_) (fun hb75 h77 => ?_)
   ·refine Sq (Rg [0, 1] ?_)
    refine Ld hs72.at2 ?_
    refine St0 (kExpr x1 a1_2 n1_2) hs72 (fun w78 hs79 => ?_)
    refine Nt ?_
    refine Rt ?_
    refine blockQ_ret ?_
    refine blockQ_ret ?_
    refine thenQ_ret ?_
    obtain rfl := some_inj h76
    exact ⟨rfl, (.agg (kExpr x1 a1_2 n1_2)), res_of (l := [.cell 6 33]) (by kernel_rfl) (vs := [(.agg (kExpr x1 a1_2 n1_2))]) ⟨b30, 0, rfl, run_loadVar' (t := 33) (g := true) (s := 3) (by kernel_rfl) hs79.at0 rfl (by decide), trivial⟩, (.agg (kExpr x1 a1_2 n1_2)), F3, rfl, hs79.clear, ⟨a1_2, n1_2, rfl, hb1_2, (SlA.mono hs1_2 le73)⟩⟩
   ·refine Sq (Rg [0, 1, 2, 3] ?_)
    refine Ld hs72.at2 ?_
    refine Ld hs72.at1 ?_
    obtain ⟨r80, hr81, h82⟩ := bind_some h77
    refine Cl' co_rules_same hs72 (c_rules_same N w71 F3 hs72.pers (x1) a1_2 n1_2 hb1_2 (SlA.mono hs1_2 le73) (x2) a2_2 n2_2 hb2_2 (SlA.mono hs2_2 le73) _ hr81) ?_
    rintro _ F4 w84 hs85 le86 rfl
    refine Vs 1 ?_
    refine Nt ?_
    refine Cd h82 (fun hb88 h89 => ?_) (fun hb88 h90 => ?_)
    ·refine Sq (Rg [0, 1] ?_)
     obtain ⟨r91, hr92, h93⟩ := bind_some h89
     refine Cl' co_rules_constant hs85 (c_rules_constant N w84 F4 hs85.pers (0) _ hr92) ?_
     rintro _ F5 w95 hs96 le97 ⟨ar91_0_2, nr91_0_2, rfl, hbr91_0_2, hsr91_0_2⟩
     refine St0 (kExpr r91 ar91_0_2 nr91_0_2) hs96 (fun w99 hs100 => ?_)
     refine Nt ?_
     refine Rt ?_
     refine blockQ_ret ?_
     refine blockQ_ret ?_
     refine thenQ_ret ?_
     obtain rfl := some_inj h93
     exact ⟨rfl, (.agg (kExpr r91 ar91_0_2 nr91_0_2)), res_of (l := [.cell 6 33]) (by kernel_rfl) (vs := [(.agg (kExpr r91 ar91_0_2 nr91_0_2))]) ⟨b30, 0, rfl, run_loadVar' (t := 33) (g := true) (s := 3) (by kernel_rfl) hs100.at0 rfl (by decide), trivial⟩, (.agg (kExpr r91 ar91_0_2 nr91_0_2)), F5, rfl, hs100.clear, ⟨ar91_0_2, nr91_0_2, rfl, hbr91_0_2, hsr91_0_2⟩⟩
    ·refine Sc ?_
     refine blockQ_nrm ?_
     refine blockQ_nrm ?_
     refine thenQ_nrm ?_
     refine Sq (Rg [0, 1] ?_)
     refine Ld hs85.at3 ?_
     refine St0 (kExpr x0 a0_2 n0_2) hs85 (fun w101 hs102 => ?_)
     refine Nt ?_
     refine Rt ?_
     obtain rfl := some_inj h90
     exact ⟨rfl, (.agg (kExpr x0 a0_2 n0_2)), res_of (l := [.cell 6 33]) (by kernel_rfl) (vs := [(.agg (kExpr x0 a0_2 n0_2))]) ⟨b30, 0, rfl, run_loadVar' (t := 33) (g := true) (s := 3) (by kernel_rfl) hs102.at0 rfl (by decide), trivial⟩, (.agg (kExpr x0 a0_2 n0_2)), F4, rfl, hs102.clear, ⟨a0_2, n0_2, rfl, hb0_2, (SlA.mono hs0_2 (le73.trans le86))⟩⟩
  ·refine Sq (Rg [0, 1] ?_)
   refine Vs 2 ?_
   refine Nt ?_
   refine Cd h66 (fun hb103 h104 => ?_) (fun hb103 h105 => ?_)
   ·refine Bk ?_
    refine Sq (Rg [0, 1, 2] ?_)
    refine Ld hs32.at2 ?_
    obtain ⟨r106, hr107, h108⟩ := bind_some h104
    refine Cl' co_rules_isConstant hs32 (c_rules_isConstant N w31 F0 hs32.pers (x1) a1_2 n1_2 hb1_2 hs1_2 (1) _ hr107) ?_
    rintro _ F6 w110 hs111 le112 rfl
    refine Vs 1 ?_
    refine Nt ?_
    refine Cd h108 (fun hb114 h115 => ?_) (fun hb114 h116 => ?_)
    ·refine Sq (Rg [0, 1] ?_)
     refine Ld hs111.at1 ?_
     refine St0 (kExpr x2 a2_2 n2_2) hs111 (fun w117 hs118 => ?_)
     refine Nt ?_
     refine Rt ?_
     refine blockQ_ret ?_
     refine blockQ_ret ?_
     refine thenQ_ret ?_
     obtain rfl := some_inj h115
     exact ⟨rfl, (.agg (kExpr x2 a2_2 n2_2)), res_of (l := [.cell 6 33]) (by kernel_rfl) (vs := [(.agg (kExpr x2 a2_2 n2_2))]) ⟨b30, 0, rfl, run_loadVar' (t := 33) (g := true) (s := 3) (by kernel_rfl) hs118.at0 rfl (by decide), trivial⟩, (.agg (kExpr x2 a2_2 n2_2)), F6, rfl, hs118.clear, ⟨a2_2, n2_2, rfl, hb2_2, (SlA.mono hs2_2 le112)⟩⟩
    ·refine Sq (Rg [0, 1, 2] ?_)
     refine Ld hs111.at1 ?_
     obtain ⟨r119, hr120, h121⟩ := bind_some h116
     refine Cl' co_rules_isConstant hs111 (c_rules_isConstant N w110 F6 hs111.pers (x2) a2_2 n2_2 hb2_2 (SlA.mono hs2_2 le112) (1) _ hr120) ?_
     rintro _ F7 w123 hs124 le125 rfl
     refine Vs 1 ?_
     refine Nt ?_
     refine Cd h121 (fun hb127 h128 => ?_) (fun hb127 h129 => ?_)
     ·refine Sq (Rg [0, 1] ?_)
      refine Ld hs124.at2 ?_
      refine St0 (kExpr x1 a1_2 n1_2) hs124 (fun w130 hs131 => ?_)
      refine Nt ?_
      refine Rt ?_
      refine blockQ_ret ?_
      refine blockQ_ret ?_
      refine thenQ_ret ?_
      obtain rfl := some_inj h128
      exact ⟨rfl, (.agg (kExpr x1 a1_2 n1_2)), res_of (l := [.cell 6 33]) (by kernel_rfl) (vs := [(.agg (kExpr x1 a1_2 n1_2))]) ⟨b30, 0, rfl, run_loadVar' (t := 33) (g := true) (s := 3) (by kernel_rfl) hs131.at0 rfl (by decide), trivial⟩, (.agg (kExpr x1 a1_2 n1_2)), F7, rfl, hs131.clear, ⟨a1_2, n1_2, rfl, hb1_2, (SlA.mono hs1_2 (le112.trans le125))⟩⟩
     ·refine Sq (Rg [0, 1, 2, 3, 4, 5, 6] ?_)
      obtain ⟨j135, hj140, h141⟩ := bind_some h129
      refine RWP.cut (fun f w => ∃ (F8 : Mem), HS w0 F0 w F8 [(sb b30 #[(vi 0), (vi 0), (.slice none ([] : List Expr).length 0)] 33), (sb b21 (kExpr x0 a0_2 n0_2) 33)] ∧ Mem.le F7 F8 ∧ FI f [] [(3, (pt b21 0)), (6, (pt b30 0)), (40, (.bool j135))]) ?_ ?_
      ·refine Ld hs124.at2 ?_
       obtain ⟨r142, hr143, h144⟩ := bind_some hj140
       refine Cl' co_rules_isConstant hs124 (c_rules_isConstant N w123 F7 hs124.pers (x1) a1_2 n1_2 hb1_2 (SlA.mono hs1_2 (le112.trans le125)) (0) _ hr143) ?_
       rintro _ F9 w146 hs147 le148 rfl
       refine Vs 1 ?_
       refine Sp h144 (fun hb150 h151 => ?_) (fun hb150 h152 => ?_)
       ·refine Ss hb150 2 ?_
        refine Pk1 hb150 ?_
        refine Vs 1 ?_
        obtain rfl := some_inj h151
        exact RWP.nil ⟨rfl, F9, hs147.dr1.dr1, le148, fI⟩
       ·refine Lg hb150 hs147.at1 ?_
        obtain ⟨r153, hr154, h155⟩ := bind_some h152
        refine Cg hb150 co_rules_isConstant hs147 (c_rules_isConstant N w146 F9 hs147.pers (x2) a2_2 n2_2 hb2_2 (SlA.mono hs2_2 ((le112.trans le125).trans le148)) (0) _ hr154) ?_
        rintro _ F10 w157 hs158 le159 rfl
        refine Pk0 hb150 ?_
        refine Vs 1 ?_
        obtain rfl := some_inj h155
        exact RWP.nil ⟨rfl, F10, hs158.dr1.dr1, (le148.trans le159), fI⟩
      ·rintro f w132 ⟨F8, hs133, le134, ⟨_, rfl⟩⟩
       refine thenQ_nrm ?_
       refine Cd h141 (fun hb161 h162 => ?_) (fun hb161 h163 => ?_)
       ·refine Sq (Rg [0, 1] ?_)
        obtain ⟨r164, hr165, h166⟩ := bind_some h162
        refine Cl' co_rules_constant hs133 (c_rules_constant N w132 F8 hs133.pers (0) _ hr165) ?_
        rintro _ F11 w168 hs169 le170 ⟨ar164_0_2, nr164_0_2, rfl, hbr164_0_2, hsr164_0_2⟩
        refine St0 (kExpr r164 ar164_0_2 nr164_0_2) hs169 (fun w172 hs173 => ?_)
        refine Nt ?_
        refine Rt ?_
        refine blockQ_ret ?_
        refine blockQ_ret ?_
        refine thenQ_ret ?_
        obtain rfl := some_inj h166
        exact ⟨rfl, (.agg (kExpr r164 ar164_0_2 nr164_0_2)), res_of (l := [.cell 6 33]) (by kernel_rfl) (vs := [(.agg (kExpr r164 ar164_0_2 nr164_0_2))]) ⟨b30, 0, rfl, run_loadVar' (t := 33) (g := true) (s := 3) (by kernel_rfl) hs173.at0 rfl (by decide), trivial⟩, (.agg (kExpr r164 ar164_0_2 nr164_0_2)), F11, rfl, hs173.clear, ⟨ar164_0_2, nr164_0_2, rfl, hbr164_0_2, hsr164_0_2⟩⟩
       ·refine Sc ?_
        refine blockQ_nrm ?_
        refine blockQ_nrm ?_
        refine thenQ_nrm ?_
        refine Sq (Rg [0, 1] ?_)
        refine Ld hs133.at1 ?_
        refine St0 (kExpr x0 a0_2 n0_2) hs133 (fun w174 hs175 => ?_)
        refine Nt ?_
        refine Rt ?_
        obtain rfl := some_inj h163
        exact ⟨rfl, (.agg (kExpr x0 a0_2 n0_2)), res_of (l := [.cell 6 33]) (by kernel_rfl) (vs := [(.agg (kExpr x0 a0_2 n0_2))]) ⟨b30, 0, rfl, run_loadVar' (t := 33) (g := true) (s := 3) (by kernel_rfl) hs175.at0 rfl (by decide), trivial⟩, (.agg (kExpr x0 a0_2 n0_2)), F8, rfl, hs175.clear, ⟨a0_2, n0_2, rfl, hb0_2, (SlA.mono hs0_2 ((le112.trans le125).trans le134))⟩⟩
   ·refine Sc ?_
    refine blockQ_nrm ?_
    refine thenQ_nrm ?_
    refine Sq (Rg [0, 1] ?_)
    refine Ld hs32.at3 ?_
    refine St0 (kExpr x0 a0_2 n0_2) hs32 (fun w176 hs177 => ?_)
    refine Nt ?_
    refine Rt ?_
    obtain rfl := some_inj h105
    exact ⟨rfl, (.agg (kExpr x0 a0_2 n0_2)), res_of (l := [.cell 6 33]) (by kernel_rfl) (vs := [(.agg (kExpr x0 a0_2 n0_2))]) ⟨b30, 0, rfl, run_loadVar' (t := 33) (g := true) (s := 3) (by kernel_rfl) hs177.at0 rfl (by decide), trivial⟩, (.agg (kExpr x0 a0_2 n0_2)), F0, rfl, hs177.clear, ⟨a0_2, n0_2, rfl, hb0_2, hs0_2⟩⟩
end Go.Proofs.YtaihlcdkcampbaaGreatDoor
namespace Go.Proofs.YtaihlcdkcampbaaGreatDoor
open Go.Proofs
def rules_simpler (N : Nat) (x0 : Expr) : Option Expr :=
 (bif ((x0.Kids.length : Int) == 0) then some x0 else ((idx x0.Kids 0).bind fun x32 => (bif (x0.Op == 3) then ((rules_isTruth N x32 true).bind fun r54 => ((bif r54 then some r54 else ((rules_isTruth N x32 false).bind fun r76 => some r76)).bind fun j65 => (bif j65 then ((rules_isTruth N x32 false).bind fun r87 => ((rules_truthOf N r87).bind fun r95 => some r95)) else (bif (x32.Op == 3) then ((idx x32.Kids 0).bind fun x108 => some x108) else some x0)))) else ((idx x0.Kids 1).bind fun x126 => (bif (bif (x0.Op == 6) then (x0.Op == 6) else (x0.Op == 7)) then ((bif ((x32.Op == 1) && (x126.Op == 1)) then some true else ((rules_same N x32 x126).bind fun r178 => some r178)).bind fun j165 => (bif j165 then ((bif (x0.Op == 6) then ((rules_same N x32 x126).bind fun r200 => (bif r200 then ((rules_truthOf N true).bind fun r211 => some (r211.Op, r211.Value, r211.Kids)) else (bif (x0.Op == 7) then (bif ((x32.Op == 1) && (x126.Op == 1)) then ((rules_truthOf N (decide (x32.Value < x126.Value))).bind fun r227 => some (r227.Op, r227.Value, r227.Kids)) else ((rules_truthOf N false).bind fun r237 => some (r237.Op, r237.Value, r237.Kids))) else ((rules_truthOf N false).bind fun r247 => some (r247.Op, r247.Value, r247.Kids))))) else (bif (x0.Op == 7) then (bif ((x32.Op == 1) && (x126.Op == 1)) then ((rules_truthOf N (decide (x32.Value < x126.Value))).bind fun r263 => some (r263.Op, r263.Value, r263.Kids)) else ((rules_truthOf N false).bind fun r273 => some (r273.Op, r273.Value, r273.Kids))) else ((rules_truthOf N false).bind fun r283 => some (r283.Op, r283.Value, r283.Kids)))).bind fun j192 => some ({ Op := j192.1, Value := j192.2.1, Kids := j192.2.2 } : Expr)) else some x0)) else (bif (bif (x0.Op == 4) then (x0.Op == 4) else (x0.Op == 5)) then ((rules_joined N x0 x32 x126).bind fun r310 => some r310) else (bif (bif (x0.Op == 8) then (x0.Op == 8) else (bif (x0.Op == 9) then (x0.Op == 9) else (x0.Op == 10))) then (((mk0 0 14).bind fun r362 => ((rules_value N x0 r362).bind fun r376 => some r376)).bind fun j352 => (bif (((x32.Op == 1) && (x126.Op == 1)) && (decide (j352 ≥ 0))) then ((rules_constant N j352).bind fun r398 => some r398) else ((rules_reckoned N x0 x32 x126).bind fun r408 => some r408))) else (bif (x0.Op == 11) then ((rules_isTruth N x32 true).bind fun r421 => (bif r421 then some x126 else ((rules_isTruth N x32 false).bind fun r434 => (bif r434 then ((idx x0.Kids 2).bind fun x445 => some x445) else (((idx x0.Kids 2).bind fun x466 => ((rules_same N x126 x466).bind fun r472 => some r472)).bind fun j458 => (bif j458 then some x126 else some x0)))))) else some x0))))))))
theorem co_rules_simpler : CallOk Tryz.prog 148 := fun _ _ => by kernel_rfl
theorem c_rules_simpler (N : Nat) (w0 : World) (F0 : Mem) (hF : ∀ b o, F0 b = some o → w0.heap[b]? = some o) (x0 : Expr) (a0_2 : Option Addr) (n0_2 : Nat) (hb0_2 : LC x0.Kids.length n0_2) (hs0_2 : SlA tExpr F0 a0_2 x0.Kids) (r : Expr) (h : rules_simpler N x0 = some r) :
  Calls Tryz.prog 148 ([(.agg (kExpr x0 a0_2 n0_2))] : List Value).toArray w0 (FRet w0 F0 fun F' v => ∃ (aq0_2 : Option Addr) (nq0_2 : Nat), v = (.agg (kExpr r aq0_2 nq0_2)) ∧ LC r.Kids.length nq0_2 ∧ SlA tExpr F' aq0_2 r.Kids) := by
 have hs0 := HS.start hF
 refine Go 130 Tryz.func148 ?_
 refine Sq (Rg [0, 1] ?_)
 refine Bx' 33 (kExpr x0 a0_2 n0_2) hs0 (fun b21 w22 hs23 => ?_)
 refine Al' 33 #[(vi 0), (vi 0), (.slice none ([] : List Expr).length 0)] hs23 (fun b24 w25 hs26 => ?_)
 refine Nss ?_
 refine Sq (Rg [0, 1, 2, 3] ?_)
 refine Vs 1 ?_
 refine Ld hs26.at1 ?_
 refine Vs 2 ?_
 refine Nt ?_
 refine Cd h (fun hb27 h28 => ?_) (fun hb27 h29 => ?_)
 ·refine Sq (Rg [0, 1] ?_)
  refine Ld hs26.at1 ?_
  refine St0 (kExpr x0 a0_2 n0_2) hs26 (fun w30 hs31 => ?_)
  refine Nt ?_
  refine Rt ?_
  refine thenQ_ret ?_
  obtain rfl := some_inj h28
  exact ⟨rfl, (.agg (kExpr x0 a0_2 n0_2)), res_of (l := [.cell 2 33]) (by kernel_rfl) (vs := [(.agg (kExpr x0 a0_2 n0_2))]) ⟨b24, 0, rfl, run_loadVar' (t := 33) (g := true) (s := 3) (by kernel_rfl) hs31.at0 rfl (by decide), trivial⟩, (.agg (kExpr x0 a0_2 n0_2)), F0, rfl, hs31.clear, ⟨a0_2, n0_2, rfl, hb0_2, hs0_2⟩⟩
 ·refine Sc ?_
  refine thenQ_nrm ?_
  refine Sq (Rg [0, 1, 2, 3, 4, 5] ?_)
  refine Vs 1 ?_
  refine Ld hs26.at1 ?_
  obtain ⟨x32, hx33, h35⟩ := bind_some h29
  obtain ⟨hi34, hx33'⟩ := idx_spec hx33
  obtain ⟨b36, o37, C38, E39, fz40, rfl, hF42, hE43⟩ := SlA.open hs0_2 hx33'
  obtain ⟨ae44_2, ne44_2, hc45, hbe44_2, hse44_2⟩ := (tExpr_open (hE43 _ _ hx33'))
  refine Ix hi34 ?_
  refine Lx 0 (hs26.pers _ _ hF42) hc45 ?_
  refine Al' 33 #[(vi 0), (vi 0), (.slice none ([] : List Expr).length 0)] hs26 (fun b46 w47 hs48 => ?_)
  refine St0 (kExpr x32 ae44_2 ne44_2) hs48 (fun w49 hs50 => ?_)
  refine Nss ?_
  refine Sq (Rg [0, 1, 2] ?_)
  refine Vs 1 ?_
  refine Ld hs50.at2 ?_
  refine Vs 1 ?_
  refine Nt ?_
  refine Cd h35 (fun hb51 h52 => ?_) (fun hb51 h53 => ?_)
  ·refine Sq ?_
   refine Bk ?_
   refine Sq ?_
   refine Sq (Rg [0, 1, 2] ?_)
   refine Ld hs50.at0 ?_
   obtain ⟨r54, hr55, h56⟩ := bind_some h52
   refine Cl' co_rules_isTruth hs50 (c_rules_isTruth N w49 F0 hs50.pers (x32) ae44_2 ne44_2 hbe44_2 hse44_2 (true) _ hr55) ?_
   rintro _ F1 w58 hs59 le60 rfl
   refine Vs 1 ?_
   refine Nt ?_
   obtain ⟨j65, hj71, h72⟩ := bind_some h56
   refine CWP.cut (fun f w => ∃ (F2 : Mem), HS w0 F0 w F2 [(sb b46 (kExpr x32 ae44_2 ne44_2) 33), (sb b24 #[(vi 0), (vi 0), (.slice none ([] : List Expr).length 0)] 33), (sb b21 (kExpr x0 (some ⟨b36, o37, none⟩) n0_2) 33)] ∧ Mem.le F1 F2 ∧ FI f [] [(1, (pt b21 0)), (2, (pt b24 0)), (3, (pt b46 0)), (19, (.bool j65))]) ?_ ?_
   ·refine Cd hj71 (fun hb73 h74 => ?_) (fun hb73 h75 => ?_)
    ·refine Sc ?_
     obtain rfl := some_inj h74
     exact .inl ⟨rfl, F1, hs59, (Mem.le.refl _), fI⟩
    ·refine Rg [0, 1, 2] ?_
     refine Ld hs59.at0 ?_
     obtain ⟨r76, hr77, h78⟩ := bind_some h75
     refine Cl' co_rules_isTruth hs59 (c_rules_isTruth N w58 F1 hs59.pers (x32) ae44_2 ne44_2 hbe44_2 (SlA.mono hse44_2 le60) (false) _ hr77) ?_
     rintro _ F3 w80 hs81 le82 rfl
     refine Vs 1 ?_
     refine RWP.nil ?_
     obtain rfl := some_inj h78
     exact .inl ⟨rfl, F3, hs81, le82, fI⟩
   ·rintro f w62 ⟨F2, hs63, le64, ⟨_, rfl⟩⟩
    refine thenQ_nrm ?_
    refine Cd h72 (fun hb84 h85 => ?_) (fun hb84 h86 => ?_)
    ·refine Sq (Rg [0, 1, 2, 3] ?_)
     refine Ld hs63.at0 ?_
     obtain ⟨r87, hr88, h89⟩ := bind_some h85
     refine Cl' co_rules_isTruth hs63 (c_rules_isTruth N w62 F2 hs63.pers (x32) ae44_2 ne44_2 hbe44_2 (SlA.mono hse44_2 (le60.trans le64)) (false) _ hr88) ?_
     rintro _ F4 w91 hs92 le93 rfl
     obtain ⟨r95, hr96, h97⟩ := bind_some h89
     refine Cl' co_rules_truthOf hs92 (c_rules_truthOf N w91 F4 hs92.pers (r87) _ hr96) ?_
     rintro _ F5 w99 hs100 le101 ⟨ar95_0_2, nr95_0_2, rfl, hbr95_0_2, hsr95_0_2⟩
     refine St1 (kExpr r95 ar95_0_2 nr95_0_2) hs100 (fun w103 hs104 => ?_)
     refine Nt ?_
     refine Rt ?_
     refine blockQ_ret ?_
     refine thenQ_ret ?_
     refine thenQ_ret ?_
     obtain rfl := some_inj h97
     exact ⟨rfl, (.agg (kExpr r95 ar95_0_2 nr95_0_2)), res_of (l := [.cell 2 33]) (by kernel_rfl) (vs := [(.agg (kExpr r95 ar95_0_2 nr95_0_2))]) ⟨b24, 0, rfl, run_loadVar' (t := 33) (g := true) (s := 3) (by kernel_rfl) hs104.at1 rfl (by decide), trivial⟩, (.agg (kExpr r95 ar95_0_2 nr95_0_2)), F5, rfl, hs104.clear, ⟨ar95_0_2, nr95_0_2, rfl, hbr95_0_2, hsr95_0_2⟩⟩
    ·refine Sq (Rg [0, 1, 2, 3] ?_)
     refine Vs 1 ?_
     refine Ld hs63.at0 ?_
     refine Vs 2 ?_
     refine Nt ?_
     refine Cd h86 (fun hb105 h106 => ?_) (fun hb105 h107 => ?_)
     ·refine Sq (Rg [0, 1, 2, 3, 4] ?_)
      refine Vs 1 ?_
      refine Ld hs63.at0 ?_
      obtain ⟨x108, hx109, h111⟩ := bind_some h106
      obtain ⟨hi110, hx109'⟩ := idx_spec hx109
      obtain ⟨b112, o113, C114, E115, fz116, rfl, hF118, hE119⟩ := SlA.open (SlA.mono hse44_2 (le60.trans le64)) hx109'
      obtain ⟨ae120_2, ne120_2, hc121, hbe120_2, hse120_2⟩ := (tExpr_open (hE119 _ _ hx109'))
      refine Ix hi110 ?_
      refine Lx 0 (hs63.pers _ _ hF118) hc121 ?_
      refine St1 (kExpr x108 ae120_2 ne120_2) hs63 (fun w122 hs123 => ?_)
      refine Nt ?_
      refine Rt ?_
      refine blockQ_ret ?_
      refine thenQ_ret ?_
      refine thenQ_ret ?_
      obtain rfl := some_inj h111
      exact ⟨rfl, (.agg (kExpr x108 ae120_2 ne120_2)), res_of (l := [.cell 2 33]) (by kernel_rfl) (vs := [(.agg (kExpr x108 ae120_2 ne120_2))]) ⟨b24, 0, rfl, run_loadVar' (t := 33) (g := true) (s := 3) (by kernel_rfl) hs123.at1 rfl (by decide), trivial⟩, (.agg (kExpr x108 ae120_2 ne120_2)), F2, rfl, hs123.clear, ⟨ae120_2, ne120_2, rfl, hbe120_2, hse120_2⟩⟩
     ·refine Sc ?_
      refine blockQ_nrm ?_
      refine thenQ_nrm ?_
      refine Sq (Rg [0, 1] ?_)
      refine Ld hs63.at2 ?_
      refine St1 (kExpr x0 (some ⟨b36, o37, none⟩) n0_2) hs63 (fun w124 hs125 => ?_)
      refine Nt ?_
      refine Rt ?_
      refine thenQ_ret ?_
      obtain rfl := some_inj h107
      exact ⟨rfl, (.agg (kExpr x0 (some ⟨b36, o37, none⟩) n0_2)), res_of (l := [.cell 2 33]) (by kernel_rfl) (vs := [(.agg (kExpr x0 (some ⟨b36, o37, none⟩) n0_2))]) ⟨b24, 0, rfl, run_loadVar' (t := 33) (g := true) (s := 3) (by kernel_rfl) hs125.at1 rfl (by decide), trivial⟩, (.agg (kExpr x0 (some ⟨b36, o37, none⟩) n0_2)), F2, rfl, hs125.clear, ⟨(some ⟨b36, o37, none⟩), n0_2, rfl, hb0_2, (SlA.mono hs0_2 (le60.trans le64))⟩⟩
  ·refine Sc ?_
   refine thenQ_nrm ?_
   refine Sq (Rg [0, 1, 2, 3, 4, 5] ?_)
   refine Vs 1 ?_
   refine Ld hs50.at2 ?_
   obtain ⟨x126, hx127, h129⟩ := bind_some h53
   obtain ⟨hi128, hx127'⟩ := idx_spec hx127
   obtain ⟨ae130_2, ne130_2, hc131, hbe130_2, hse130_2⟩ := (tExpr_open (hE43 _ _ hx127'))
   refine Ix hi128 ?_
   refine Lx 0 (hs50.pers _ _ hF42) hc131 ?_
   refine Al' 33 #[(vi 0), (vi 0), (.slice none ([] : List Expr).length 0)] hs50 (fun b132 w133 hs134 => ?_)
   refine St0 (kExpr x126 ae130_2 ne130_2) hs134 (fun w135 hs136 => ?_)
   refine Nss (Rg [0, 1, 2, 3, 4, 5, 6, 7, 8] ?_)
   refine RWP.cut (fun f w => ∃ (F6 : Mem), HS w0 F0 w F6 [(sb b132 (kExpr x126 ae130_2 ne130_2) 33), (sb b46 (kExpr x32 ae44_2 ne44_2) 33), (sb b24 #[(vi 0), (vi 0), (.slice none ([] : List Expr).length 0)] 33), (sb b21 (kExpr x0 (some ⟨b36, o37, none⟩) n0_2) 33)] ∧ Mem.le F0 F6 ∧ FI f [] [(1, (pt b21 0)), (2, (pt b24 0)), (3, (pt b46 0)), (4, (pt b132 0)), (5, (.bool ((x32.Op == 1) && (x126.Op == 1))))]) ?_ ?_
   ·refine Vs 1 ?_
    refine Ld hs136.at1 ?_
    refine Vs 2 ?_
    refine RWP.split (x32.Op == 1) (fun hb146 => ?_) (fun hb146 => ?_)
    ·refine Vgs hb146 1 ?_
     refine Lg hb146 hs136.at0 ?_
     refine Vgs hb146 1 ?_
     refine Pk1 hb146 ?_
     refine Vs 1 ?_
     exact RWP.nil ⟨rfl, F0, hs136, (Mem.le.refl _), (fJ ⟨rfl, rfl, rfl, rfl, (congrArg Value.bool (and_t hb146 (rfl))), trivial⟩)⟩
    ·refine Ss hb146 3 ?_
     refine Pk0 hb146 ?_
     refine Vs 1 ?_
     exact RWP.nil ⟨rfl, F0, hs136, (Mem.le.refl _), (fJ ⟨rfl, rfl, rfl, rfl, (congrArg Value.bool (and_f hb146 (rfl))), trivial⟩)⟩
   ·rintro f w137 ⟨F6, hs138, le139, ⟨_, rfl⟩⟩
    refine thenQ_nrm ?_
    refine Sq ?_
    refine Sq (Rg [0, 1] ?_)
    refine Vs 1 ?_
    refine Ld hs138.at3 ?_
    refine Nt ?_
    refine Bk ?_
    refine Sq ?_
    refine Sq (Rg [0, 1] ?_)
    refine Vs 2 ?_
    refine Nt ?_
    refine CWP.cut (fun f w => ∃ (F7 : Mem), HS w0 F0 w F7 [(sb b132 (kExpr x126 ae130_2 ne130_2) 33), (sb b46 (kExpr x32 ae44_2 ne44_2) 33), (sb b24 #[(vi 0), (vi 0), (.slice none ([] : List Expr).length 0)] 33), (sb b21 (kExpr x0 (some ⟨b36, o37, none⟩) n0_2) 33)] ∧ Mem.le F6 F7 ∧ FI f [] [(1, (pt b21 0)), (2, (pt b24 0)), (3, (pt b46 0)), (4, (pt b132 0)), (5, (.bool ((x32.Op == 1) && (x126.Op == 1)))), (49, (vi x0.Op)), (50, (.bool (bif (x0.Op == 6) then (x0.Op == 6) else (x0.Op == 7))))]) ?_ ?_
    ·refine Cp (x0.Op == 6) (fun hb158 => ?_) (fun hb158 => ?_)
     ·refine Sc ?_
      exact .inl ⟨rfl, F6, hs138, (Mem.le.refl _), (fJ ⟨rfl, rfl, rfl, rfl, rfl, rfl, (congrArg Value.bool (bif_t hb158 (rfl))), trivial⟩)⟩
     ·refine Rg [0, 1] ?_
      refine Vs 2 ?_
      refine RWP.nil ?_
      exact .inl ⟨rfl, F6, hs138, (Mem.le.refl _), (fJ ⟨rfl, rfl, rfl, rfl, rfl, rfl, (congrArg Value.bool (bif_f hb158 (rfl))), trivial⟩)⟩
    ·rintro f w147 ⟨F7, hs148, le149, ⟨_, rfl⟩⟩
     refine thenQ_nrm ?_
     refine Cd h129 (fun hb159 h160 => ?_) (fun hb159 h161 => ?_)
     ·refine Sq (Rg [0, 1, 2, 3, 4, 5] ?_)
      obtain ⟨j165, hj173, h174⟩ := bind_some h160
      refine RWP.cut (fun f w => ∃ (F8 : Mem), HS w0 F0 w F8 [(sb b132 (kExpr x126 ae130_2 ne130_2) 33), (sb b46 (kExpr x32 ae44_2 ne44_2) 33), (sb b24 #[(vi 0), (vi 0), (.slice none ([] : List Expr).length 0)] 33), (sb b21 (kExpr x0 (some ⟨b36, o37, none⟩) n0_2) 33)] ∧ Mem.le F7 F8 ∧ FI f [] [(1, (pt b21 0)), (2, (pt b24 0)), (3, (pt b46 0)), (4, (pt b132 0)), (5, (.bool ((x32.Op == 1) && (x126.Op == 1)))), (58, (.bool j165))]) ?_ ?_
      ·refine Vs 2 ?_
       refine Sp hj173 (fun hb175 h176 => ?_) (fun hb175 h177 => ?_)
       ·refine Ss hb175 3 ?_
        refine Pk1 hb175 ?_
        obtain rfl := some_inj h176
        exact RWP.nil ⟨rfl, F7, hs148, (Mem.le.refl _), fI⟩
       ·refine Lg hb175 hs148.at1 ?_
        refine Lg hb175 hs148.at0 ?_
        obtain ⟨r178, hr179, h180⟩ := bind_some h177
        refine Cg hb175 co_rules_same hs148 (c_rules_same N w147 F7 hs148.pers (x32) ae44_2 ne44_2 hbe44_2 (SlA.mono hse44_2 (le139.trans le149)) (x126) ae130_2 ne130_2 hbe130_2 (SlA.mono hse130_2 (le139.trans le149)) _ hr179) ?_
        rintro _ F9 w182 hs183 le184 rfl
        refine Pk0 hb175 ?_
        obtain rfl := some_inj h180
        exact RWP.nil ⟨rfl, F9, hs183, le184, fI⟩
      ·rintro f w162 ⟨F8, hs163, le164, ⟨_, rfl⟩⟩
       refine thenQ_nrm ?_
       refine Cd h174 (fun hb186 h187 => ?_) (fun hb186 h188 => ?_)
       ·refine Sq (Rg [0, 1, 2, 3, 4, 5, 6, 7, 8, 9, 10, 11, 12, 13, 14, 15, 16, 17, 18, 19, 20, 21, 22, 23, 24] ?_)
        obtain ⟨j192, hj195, h196⟩ := bind_some h187
        refine RWP.cut (fun f w => ∃ (F10 : Mem) (aj192_2 : Option Addr) (nj192_2 : Nat), HS w0 F0 w F10 [(sb b24 #[(vi j192.1), (vi j192.2.1), (.slice aj192_2 j192.2.2.length nj192_2)] 33)] ∧ Mem.le F8 F10 ∧ FI f [] [(2, (pt b24 0))] ∧ LC j192.2.2.length nj192_2 ∧ SlA tExpr F10 aj192_2 j192.2.2) ?_ ?_
        ·refine Vs 1 ?_
         refine Ld hs163.at3 ?_
         refine Vs 2 ?_
         refine Sp hj195 (fun hb197 h198 => ?_) (fun hb197 h199 => ?_)
         ·refine Lg hb197 hs163.at1 ?_
          refine Lg hb197 hs163.at0 ?_
          obtain ⟨r200, hr201, h202⟩ := bind_some h198
          refine Cg hb197 co_rules_same hs163 (c_rules_same N w162 F8 hs163.pers (x32) ae44_2 ne44_2 hbe44_2 (SlA.mono hse44_2 ((le139.trans le149).trans le164)) (x126) ae130_2 ne130_2 hbe130_2 (SlA.mono hse130_2 ((le139.trans le149).trans le164)) _ hr201) ?_
          rintro _ F11 w204 hs205 le206 rfl
          refine Pk1 hb197 ?_
          refine Vs 1 ?_
          refine Sp h202 (fun hb208 h209 => ?_) (fun hb208 h210 => ?_)
          ·refine Ss hb208 4 ?_
           refine Su' 1 ?_
           refine Ss hb208 2 ?_
           refine Su' 5 ?_
           refine Ss hb208 1 ?_
           refine Pk1 hb208 ?_
           obtain ⟨r211, hr212, h213⟩ := bind_some h209
           refine Cl' co_rules_truthOf hs205 (c_rules_truthOf N w204 F11 hs205.pers (true) _ hr212) ?_
           rintro _ F12 w215 hs216 le217 ⟨ar211_0_2, nr211_0_2, rfl, hbr211_0_2, hsr211_0_2⟩
           refine St2 (kExpr r211 ar211_0_2 nr211_0_2) hs216 (fun w219 hs220 => ?_)
           obtain rfl := some_inj h213
           exact RWP.nil ⟨rfl, F12, ar211_0_2, nr211_0_2, hs220.dr0.dr0.dr1, (le206.trans le217), fI, hbr211_0_2, hsr211_0_2⟩
          ·refine Vgs hb208 1 ?_
           refine Lg hb208 hs205.at3 ?_
           refine Vgs hb208 2 ?_
           refine Sp h210 (fun hb221 h222 => ?_) (fun hb221 h223 => ?_)
           ·refine Vgs hb221 1 ?_
            refine Pg1 hb208 hb221 ?_
            refine Vgs hb208 1 ?_
            refine Sp h222 (fun hb224 h225 => ?_) (fun hb224 h226 => ?_)
            ·refine Vgs hb224 1 ?_
             refine Lg hb224 hs205.at1 ?_
             refine Vgs hb224 1 ?_
             refine Lg hb224 hs205.at0 ?_
             refine Vgs hb224 1 ?_
             refine Pg1 hb208 hb224 ?_
             refine Pk0 hb208 ?_
             obtain ⟨r227, hr228, h229⟩ := bind_some h225
             refine Cl' co_rules_truthOf hs205 (c_rules_truthOf N w204 F11 hs205.pers ((decide (x32.Value < x126.Value))) _ hr228) ?_
             rintro _ F13 w231 hs232 le233 ⟨ar227_0_2, nr227_0_2, rfl, hbr227_0_2, hsr227_0_2⟩
             refine St2 (kExpr r227 ar227_0_2 nr227_0_2) hs232 (fun w235 hs236 => ?_)
             obtain rfl := some_inj h229
             exact RWP.nil ⟨rfl, F13, ar227_0_2, nr227_0_2, hs236.dr0.dr0.dr1, (le206.trans le233), fI, hbr227_0_2, hsr227_0_2⟩
            ·refine Ss hb224 5 ?_
             refine Pg0 hb208 hb224 ?_
             refine Pk0 hb208 ?_
             obtain ⟨r237, hr238, h239⟩ := bind_some h226
             refine Cl' co_rules_truthOf hs205 (c_rules_truthOf N w204 F11 hs205.pers (false) _ hr238) ?_
             rintro _ F14 w241 hs242 le243 ⟨ar237_0_2, nr237_0_2, rfl, hbr237_0_2, hsr237_0_2⟩
             refine St2 (kExpr r237 ar237_0_2 nr237_0_2) hs242 (fun w245 hs246 => ?_)
             obtain rfl := some_inj h239
             exact RWP.nil ⟨rfl, F14, ar237_0_2, nr237_0_2, hs246.dr0.dr0.dr1, (le206.trans le243), fI, hbr237_0_2, hsr237_0_2⟩
           ·refine Ss hb221 1 ?_
            refine Pg0 hb208 hb221 ?_
            refine Vgs hb208 1 ?_
            refine Ss (rfl : false = false) 5 ?_
            refine Pg0 hb208 (rfl : false = false) ?_
            refine Pk0 hb208 ?_
            obtain ⟨r247, hr248, h249⟩ := bind_some h223
            refine Cl' co_rules_truthOf hs205 (c_rules_truthOf N w204 F11 hs205.pers (false) _ hr248) ?_
            rintro _ F15 w251 hs252 le253 ⟨ar247_0_2, nr247_0_2, rfl, hbr247_0_2, hsr247_0_2⟩
            refine St2 (kExpr r247 ar247_0_2 nr247_0_2) hs252 (fun w255 hs256 => ?_)
            obtain rfl := some_inj h249
            exact RWP.nil ⟨rfl, F15, ar247_0_2, nr247_0_2, hs256.dr0.dr0.dr1, (le206.trans le253), fI, hbr247_0_2, hsr247_0_2⟩
         ·refine Ss hb197 3 ?_
          refine Pk0 hb197 ?_
          refine Vs 1 ?_
          refine Vg 68 0 8 false 67 rfl (fa 33 1 0 0 1 b21 0 0) ?_
          refine Vg 69 3 8 false 67 rfl (ld 3 68 b21 0 false 1 (vi x0.Op) hs163.at3) ?_
          refine Vg 70 4 8 false 67 rfl (run_eql (t := 3) (t' := 3) (x := (.tmp 69)) (y := (.const (vi 7))) (k := .i64) (a := x0.Op) (b := 7) rfl rfl) ?_
          refine Vg 71 4 8 false 67 rfl (mv 70 (.bool (x0.Op == 7))) ?_
          refine Sp h199 (fun hb257 h258 => ?_) (fun hb257 h259 => ?_)
          ·refine Vgs hb257 1 ?_
           refine Vg 73 4 8 false 67 rfl (p1 71 (.tmp 72) (.const (.bool false)) (.bool ((x32.Op == 1) && (x126.Op == 1))) hb257) ?_
           refine Vg 74 4 8 false 67 rfl (mv 73 (.bool ((x32.Op == 1) && (x126.Op == 1)))) ?_
           refine Sp h258 (fun hb260 h261 => ?_) (fun hb260 h262 => ?_)
           ·refine Vgs hb260 1 ?_
            refine Lg hb260 hs163.at1 ?_
            refine Vgs hb260 1 ?_
            refine Lg hb260 hs163.at0 ?_
            refine Vgs hb260 1 ?_
            refine Vg 80 4 8 false 67 rfl (p1 74 (.tmp 79) (.const (.bool false)) (.bool (decide (x32.Value < x126.Value))) hb260) ?_
            refine Pk0 (rfl : false = false) ?_
            obtain ⟨r263, hr264, h265⟩ := bind_some h261
            refine Cl' co_rules_truthOf hs163 (c_rules_truthOf N w162 F8 hs163.pers ((decide (x32.Value < x126.Value))) _ hr264) ?_
            rintro _ F16 w267 hs268 le269 ⟨ar263_0_2, nr263_0_2, rfl, hbr263_0_2, hsr263_0_2⟩
            refine St2 (kExpr r263 ar263_0_2 nr263_0_2) hs268 (fun w271 hs272 => ?_)
            obtain rfl := some_inj h265
            exact RWP.nil ⟨rfl, F16, ar263_0_2, nr263_0_2, hs272.dr0.dr0.dr1, le269, fI, hbr263_0_2, hsr263_0_2⟩
           ·refine Ss hb260 5 ?_
            refine Vg 80 4 8 false 67 rfl (p0 74 (.tmp 79) (.const (.bool false)) (.bool false) hb260) ?_
            refine Pk0 (rfl : false = false) ?_
            obtain ⟨r273, hr274, h275⟩ := bind_some h262
            refine Cl' co_rules_truthOf hs163 (c_rules_truthOf N w162 F8 hs163.pers (false) _ hr274) ?_
            rintro _ F17 w277 hs278 le279 ⟨ar273_0_2, nr273_0_2, rfl, hbr273_0_2, hsr273_0_2⟩
            refine St2 (kExpr r273 ar273_0_2 nr273_0_2) hs278 (fun w281 hs282 => ?_)
            obtain rfl := some_inj h275
            exact RWP.nil ⟨rfl, F17, ar273_0_2, nr273_0_2, hs282.dr0.dr0.dr1, le279, fI, hbr273_0_2, hsr273_0_2⟩
          ·refine Ss hb257 1 ?_
           refine Vg 73 4 8 false 67 rfl (p0 71 (.tmp 72) (.const (.bool false)) (.bool false) hb257) ?_
           refine Vg 74 4 8 false 67 rfl (mv 73 (.bool false)) ?_
           refine Ss (rfl : false = false) 5 ?_
           refine Vg 80 4 8 false 67 rfl (p0 74 (.tmp 79) (.const (.bool false)) (.bool false) rfl) ?_
           refine Pk0 (rfl : false = false) ?_
           obtain ⟨r283, hr284, h285⟩ := bind_some h259
           refine Cl' co_rules_truthOf hs163 (c_rules_truthOf N w162 F8 hs163.pers (false) _ hr284) ?_
           rintro _ F18 w287 hs288 le289 ⟨ar283_0_2, nr283_0_2, rfl, hbr283_0_2, hsr283_0_2⟩
           refine St2 (kExpr r283 ar283_0_2 nr283_0_2) hs288 (fun w291 hs292 => ?_)
           obtain rfl := some_inj h285
           exact RWP.nil ⟨rfl, F18, ar283_0_2, nr283_0_2, hs292.dr0.dr0.dr1, le289, fI, hbr283_0_2, hsr283_0_2⟩
        ·rintro f w189 ⟨F10, aj192_2, nj192_2, hs190, le191, ⟨_, rfl⟩, hbj192_2, hsj192_2⟩
         refine thenQ_nrm ?_
         refine Rt ?_
         refine blockQ_ret ?_
         refine thenQ_ret ?_
         obtain rfl := some_inj h196
         exact ⟨rfl, (.agg #[(vi j192.1), (vi j192.2.1), (.slice aj192_2 j192.2.2.length nj192_2)]), res_of (l := [.cell 2 33]) (by kernel_rfl) (vs := [(.agg #[(vi j192.1), (vi j192.2.1), (.slice aj192_2 j192.2.2.length nj192_2)])]) ⟨b24, 0, rfl, run_loadVar' (t := 33) (g := true) (s := 3) (by kernel_rfl) hs190.at0 rfl (by decide), trivial⟩, (.agg #[(vi j192.1), (vi j192.2.1), (.slice aj192_2 j192.2.2.length nj192_2)]), F10, rfl, hs190.clear, ⟨aj192_2, nj192_2, rfl, hbj192_2, hsj192_2⟩⟩
       ·refine Sc ?_
        refine blockQ_nrm ?_
        refine thenQ_nrm ?_
        refine Sq (Rg [0, 1] ?_)
        refine Ld hs163.at3 ?_
        refine St2 (kExpr x0 (some ⟨b36, o37, none⟩) n0_2) hs163 (fun w293 hs294 => ?_)
        refine Nt ?_
        refine Rt ?_
        obtain rfl := some_inj h188
        exact ⟨rfl, (.agg (kExpr x0 (some ⟨b36, o37, none⟩) n0_2)), res_of (l := [.cell 2 33]) (by kernel_rfl) (vs := [(.agg (kExpr x0 (some ⟨b36, o37, none⟩) n0_2))]) ⟨b24, 0, rfl, run_loadVar' (t := 33) (g := true) (s := 3) (by kernel_rfl) hs294.at2 rfl (by decide), trivial⟩, (.agg (kExpr x0 (some ⟨b36, o37, none⟩) n0_2)), F8, rfl, hs294.clear, ⟨(some ⟨b36, o37, none⟩), n0_2, rfl, hb0_2, (SlA.mono hs0_2 ((le139.trans le149).trans le164))⟩⟩
     ·refine Sq ?_
      refine Sq (Rg [0, 1] ?_)
      refine Vs 2 ?_
      refine Nt ?_
      refine CWP.cut (fun f w => ∃ (F19 : Mem), HS w0 F0 w F19 [(sb b132 (kExpr x126 ae130_2 ne130_2) 33), (sb b46 (kExpr x32 ae44_2 ne44_2) 33), (sb b24 #[(vi 0), (vi 0), (.slice none ([] : List Expr).length 0)] 33), (sb b21 (kExpr x0 (some ⟨b36, o37, none⟩) n0_2) 33)] ∧ Mem.le F7 F19 ∧ FI f [] [(1, (pt b21 0)), (2, (pt b24 0)), (3, (pt b46 0)), (4, (pt b132 0)), (5, (.bool ((x32.Op == 1) && (x126.Op == 1)))), (49, (vi x0.Op)), (83, (.bool (bif (x0.Op == 4) then (x0.Op == 4) else (x0.Op == 5))))]) ?_ ?_
      ·refine Cp (x0.Op == 4) (fun hb306 => ?_) (fun hb306 => ?_)
       ·refine Sc ?_
        exact .inl ⟨rfl, F7, hs148, (Mem.le.refl _), (fJ ⟨rfl, rfl, rfl, rfl, rfl, rfl, (congrArg Value.bool (bif_t hb306 (rfl))), trivial⟩)⟩
       ·refine Rg [0, 1] ?_
        refine Vs 2 ?_
        refine RWP.nil ?_
        exact .inl ⟨rfl, F7, hs148, (Mem.le.refl _), (fJ ⟨rfl, rfl, rfl, rfl, rfl, rfl, (congrArg Value.bool (bif_f hb306 (rfl))), trivial⟩)⟩
      ·rintro f w295 ⟨F19, hs296, le297, ⟨_, rfl⟩⟩
       refine thenQ_nrm ?_
       refine Cd h161 (fun hb307 h308 => ?_) (fun hb307 h309 => ?_)
       ·refine Sq (Rg [0, 1, 2, 3, 4] ?_)
        refine Ld hs296.at3 ?_
        refine Ld hs296.at1 ?_
        refine Ld hs296.at0 ?_
        obtain ⟨r310, hr311, h312⟩ := bind_some h308
        refine Cl' co_rules_joined hs296 (c_rules_joined N w295 F19 hs296.pers (x0) (some ⟨b36, o37, none⟩) n0_2 hb0_2 (SlA.mono hs0_2 ((le139.trans le149).trans le297)) (x32) ae44_2 ne44_2 hbe44_2 (SlA.mono hse44_2 ((le139.trans le149).trans le297)) (x126) ae130_2 ne130_2 hbe130_2 (SlA.mono hse130_2 ((le139.trans le149).trans le297)) _ hr311) ?_
        rintro _ F20 w314 hs315 le316 ⟨ar310_0_2, nr310_0_2, rfl, hbr310_0_2, hsr310_0_2⟩
        refine St2 (kExpr r310 ar310_0_2 nr310_0_2) hs315 (fun w318 hs319 => ?_)
        refine Nt ?_
        refine Rt ?_
        refine blockQ_ret ?_
        refine thenQ_ret ?_
        obtain rfl := some_inj h312
        exact ⟨rfl, (.agg (kExpr r310 ar310_0_2 nr310_0_2)), res_of (l := [.cell 2 33]) (by kernel_rfl) (vs := [(.agg (kExpr r310 ar310_0_2 nr310_0_2))]) ⟨b24, 0, rfl, run_loadVar' (t := 33) (g := true) (s := 3) (by kernel_rfl) hs319.at2 rfl (by decide), trivial⟩, (.agg (kExpr r310 ar310_0_2 nr310_0_2)), F20, rfl, hs319.clear, ⟨ar310_0_2, nr310_0_2, rfl, hbr310_0_2, hsr310_0_2⟩⟩
       ·refine Sq ?_
        refine Sq (Rg [0, 1] ?_)
        refine Vs 2 ?_
        refine Nt ?_
        refine CWP.cut (fun f w => ∃ (F21 : Mem), HS w0 F0 w F21 [(sb b132 (kExpr x126 ae130_2 ne130_2) 33), (sb b46 (kExpr x32 ae44_2 ne44_2) 33), (sb b24 #[(vi 0), (vi 0), (.slice none ([] : List Expr).length 0)] 33), (sb b21 (kExpr x0 (some ⟨b36, o37, none⟩) n0_2) 33)] ∧ Mem.le F19 F21 ∧ FI f [] [(1, (pt b21 0)), (2, (pt b24 0)), (3, (pt b46 0)), (4, (pt b132 0)), (5, (.bool ((x32.Op == 1) && (x126.Op == 1)))), (49, (vi x0.Op)), (90, (.bool (bif (x0.Op == 8) then (x0.Op == 8) else (bif (x0.Op == 9) then (x0.Op == 9) else (x0.Op == 10)))))]) ?_ ?_
        ·refine Cp (x0.Op == 8) (fun hb331 => ?_) (fun hb331 => ?_)
         ·refine Sc ?_
          exact .inl ⟨rfl, F19, hs296, (Mem.le.refl _), (fJ ⟨rfl, rfl, rfl, rfl, rfl, rfl, (congrArg Value.bool (bif_t hb331 (rfl))), trivial⟩)⟩
         ·refine Sq (Rg [0, 1] ?_)
          refine Vs 2 ?_
          refine Nt ?_
          refine CWP.cut (fun f w => ∃ (F22 : Mem), HS w0 F0 w F22 [(sb b132 (kExpr x126 ae130_2 ne130_2) 33), (sb b46 (kExpr x32 ae44_2 ne44_2) 33), (sb b24 #[(vi 0), (vi 0), (.slice none ([] : List Expr).length 0)] 33), (sb b21 (kExpr x0 (some ⟨b36, o37, none⟩) n0_2) 33)] ∧ Mem.le F19 F22 ∧ FI f [] [(1, (pt b21 0)), (2, (pt b24 0)), (3, (pt b46 0)), (4, (pt b132 0)), (5, (.bool ((x32.Op == 1) && (x126.Op == 1)))), (49, (vi x0.Op)), (90, (.bool (bif (x0.Op == 9) then (x0.Op == 9) else (x0.Op == 10))))]) ?_ ?_
          ·refine Cp (x0.Op == 9) (fun hb343 => ?_) (fun hb343 => ?_)
           ·refine Sc ?_
            exact .inl ⟨rfl, F19, hs296, (Mem.le.refl _), (fJ ⟨rfl, rfl, rfl, rfl, rfl, rfl, (congrArg Value.bool (bif_t hb343 (rfl))), trivial⟩)⟩
           ·refine Rg [0, 1] ?_
            refine Vs 2 ?_
            refine RWP.nil ?_
            exact .inl ⟨rfl, F19, hs296, (Mem.le.refl _), (fJ ⟨rfl, rfl, rfl, rfl, rfl, rfl, (congrArg Value.bool (bif_f hb343 (rfl))), trivial⟩)⟩
          ·rintro f w332 ⟨F22, hs333, le334, ⟨_, rfl⟩⟩
           exact .inl ⟨rfl, F22, hs333, le334, (fJ ⟨rfl, rfl, rfl, rfl, rfl, rfl, (congrArg Value.bool (bif_f hb331 (rfl))), trivial⟩)⟩
        ·rintro f w320 ⟨F21, hs321, le322, ⟨_, rfl⟩⟩
         refine thenQ_nrm ?_
         refine Cd h309 (fun hb344 h345 => ?_) (fun hb344 h346 => ?_)
         ·refine Sq ?_
          refine Sq ?_
          obtain ⟨j352, hj360, h361⟩ := bind_some h345
          refine RD 4 4 [(sb b132 (kExpr x126 ae130_2 ne130_2) 33), (sb b46 (kExpr x32 ae44_2 ne44_2) 33), (sb b24 #[(vi 0), (vi 0), (.slice none ([] : List Expr).length 0)] 33), (sb b21 (kExpr x0 (some ⟨b36, o37, none⟩) n0_2) 33)] [] hs321 (fun f w => ∃ (F23 : Mem), HS w0 F0 w F23 [(sb b132 (kExpr x126 ae130_2 ne130_2) 33), (sb b46 (kExpr x32 ae44_2 ne44_2) 33), (sb b24 #[(vi 0), (vi 0), (.slice none ([] : List Expr).length 0)] 33), (sb b21 (kExpr x0 (some ⟨b36, o37, none⟩) n0_2) 33)] ∧ Mem.le F21 F23 ∧ FI f [] [(1, (pt b21 0)), (2, (pt b24 0)), (3, (pt b46 0)), (4, (pt b132 0)), (5, (.bool ((x32.Op == 1) && (x126.Op == 1)))), (6, (vi j352))]) (fun wd347 hw348 => ?_) ?_
          ·refine Dl 0 (fun _ hq => (hq.1.2 3 _ _ rfl)) ?_
           refine D1 1 ?_
           obtain ⟨r362, hm363, h364⟩ := bind_some hj360
           refine DStep.makeSlice (l' := [true, true, false, false]) (zd := true) (by kernel_rfl) (by kernel_rfl) (dst := (some 95)) (ty := 47) (g := none) (by kernel_rfl) rfl (x := (.const (vi 14))) (y := (.const (vi 14))) (t := 47) (by_ := 8) (z := (vi 0)) (T := tInt) (E := 3) rfl rfl (by kernel_rfl) (by decide) (by kernel_rfl) (z0 := 0) (fun _ => rfl) (by decide) hw348 hm363 (Mem.le.refl _) (by simp) (fun e => by cases e) (fun b365 n366 C367 w368 (hs369 : HS w0 F0 w368 F21 [(some b365, .cells C367 3 (0, 0)), (sb b132 (kExpr x126 ae130_2 ne130_2) 33), (sb b46 (kExpr x32 ae44_2 ne44_2) 33), (sb b24 #[(vi 0), (vi 0), (.slice none ([] : List Expr).length 0)] 33), (sb b21 (kExpr x0 (some ⟨b36, o37, none⟩) n0_2) 33)]) hr370 => ?_)
           refine D1 2 ?_
           have hb375 := RowR.bound hr370
           obtain ⟨F24, hs372, le373, hs374⟩ := hs369.fr0 hr370
           obtain ⟨r376, hr377, h378⟩ := bind_some h364
           refine DCl co_rules_value hs372 (c_rules_value N w368 F24 hs372.pers (x0) (some ⟨b36, o37, none⟩) n0_2 hb0_2 (SlA.mono hs0_2 ((((le139.trans le149).trans le297).trans le322).trans le373)) (r362) (some ⟨b365, 0, none⟩) n366 hb375 hs374 _ hr377) ?_
           rintro _ F25 w380 hs381 le382 rfl
           refine Dv [3] ?_
           obtain rfl := some_inj h378
           exact DWP.done (by kernel_rfl) ⟨F25, hs381, (le373.trans le382), fI⟩
          ·rintro f w349 ⟨F23, hs350, le351, ⟨_, rfl⟩⟩
           refine thenQ_nrm ?_
           refine Sq (Rg [0, 1, 2, 3, 4] ?_)
           refine RWP.cut (fun f w => ∃ (F26 : Mem), HS w0 F0 w F26 [(sb b132 (kExpr x126 ae130_2 ne130_2) 33), (sb b46 (kExpr x32 ae44_2 ne44_2) 33), (sb b24 #[(vi 0), (vi 0), (.slice none ([] : List Expr).length 0)] 33), (sb b21 (kExpr x0 (some ⟨b36, o37, none⟩) n0_2) 33)] ∧ Mem.le F23 F26 ∧ FI f [] [(1, (pt b21 0)), (2, (pt b24 0)), (3, (pt b46 0)), (4, (pt b132 0)), (6, (vi j352)), (101, (.bool (((x32.Op == 1) && (x126.Op == 1)) && (decide (j352 ≥ 0)))))]) ?_ ?_
           ·refine Vs 2 ?_
            refine RWP.split ((x32.Op == 1) && (x126.Op == 1)) (fun hb394 => ?_) (fun hb394 => ?_)
            ·refine Vgs hb394 2 ?_
             refine Pk1 hb394 ?_
             exact RWP.nil ⟨rfl, F23, hs350, (Mem.le.refl _), (fJ ⟨rfl, rfl, rfl, rfl, rfl, (congrArg Value.bool (and_t hb394 (rfl))), trivial⟩)⟩
            ·refine Ss hb394 2 ?_
             refine Pk0 hb394 ?_
             exact RWP.nil ⟨rfl, F23, hs350, (Mem.le.refl _), (fJ ⟨rfl, rfl, rfl, rfl, rfl, (congrArg Value.bool (and_f hb394 (rfl))), trivial⟩)⟩
           ·rintro f w384 ⟨F26, hs385, le386, ⟨_, rfl⟩⟩
            refine thenQ_nrm ?_
            refine Cd h361 (fun hb395 h396 => ?_) (fun hb395 h397 => ?_)
            ·refine Sq (Rg [0, 1, 2] ?_)
             refine Vs 1 ?_
             obtain ⟨r398, hr399, h400⟩ := bind_some h396
             refine Cl' co_rules_constant hs385 (c_rules_constant N w384 F26 hs385.pers (j352) _ hr399) ?_
             rintro _ F27 w402 hs403 le404 ⟨ar398_0_2, nr398_0_2, rfl, hbr398_0_2, hsr398_0_2⟩
             refine St2 (kExpr r398 ar398_0_2 nr398_0_2) hs403 (fun w406 hs407 => ?_)
             refine Nt ?_
             refine Rt ?_
             refine thenQ_ret ?_
             refine blockQ_ret ?_
             refine thenQ_ret ?_
             obtain rfl := some_inj h400
             exact ⟨rfl, (.agg (kExpr r398 ar398_0_2 nr398_0_2)), res_of (l := [.cell 2 33]) (by kernel_rfl) (vs := [(.agg (kExpr r398 ar398_0_2 nr398_0_2))]) ⟨b24, 0, rfl, run_loadVar' (t := 33) (g := true) (s := 3) (by kernel_rfl) hs407.at2 rfl (by decide), trivial⟩, (.agg (kExpr r398 ar398_0_2 nr398_0_2)), F27, rfl, hs407.clear, ⟨ar398_0_2, nr398_0_2, rfl, hbr398_0_2, hsr398_0_2⟩⟩
            ·refine Sc ?_
             refine thenQ_nrm ?_
             refine Sq (Rg [0, 1, 2, 3, 4] ?_)
             refine Ld hs385.at3 ?_
             refine Ld hs385.at1 ?_
             refine Ld hs385.at0 ?_
             obtain ⟨r408, hr409, h410⟩ := bind_some h397
             refine Cl' co_rules_reckoned hs385 (c_rules_reckoned N w384 F26 hs385.pers (x0) (some ⟨b36, o37, none⟩) n0_2 hb0_2 (SlA.mono hs0_2 (((((le139.trans le149).trans le297).trans le322).trans le351).trans le386)) (x32) ae44_2 ne44_2 hbe44_2 (SlA.mono hse44_2 (((((le139.trans le149).trans le297).trans le322).trans le351).trans le386)) (x126) ae130_2 ne130_2 hbe130_2 (SlA.mono hse130_2 (((((le139.trans le149).trans le297).trans le322).trans le351).trans le386)) _ hr409) ?_
             rintro _ F28 w412 hs413 le414 ⟨ar408_0_2, nr408_0_2, rfl, hbr408_0_2, hsr408_0_2⟩
             refine St2 (kExpr r408 ar408_0_2 nr408_0_2) hs413 (fun w416 hs417 => ?_)
             refine Nt ?_
             refine Rt ?_
             refine blockQ_ret ?_
             refine thenQ_ret ?_
             obtain rfl := some_inj h410
             exact ⟨rfl, (.agg (kExpr r408 ar408_0_2 nr408_0_2)), res_of (l := [.cell 2 33]) (by kernel_rfl) (vs := [(.agg (kExpr r408 ar408_0_2 nr408_0_2))]) ⟨b24, 0, rfl, run_loadVar' (t := 33) (g := true) (s := 3) (by kernel_rfl) hs417.at2 rfl (by decide), trivial⟩, (.agg (kExpr r408 ar408_0_2 nr408_0_2)), F28, rfl, hs417.clear, ⟨ar408_0_2, nr408_0_2, rfl, hbr408_0_2, hsr408_0_2⟩⟩
         ·refine Sq (Rg [0, 1] ?_)
          refine Vs 2 ?_
          refine Nt ?_
          refine Cd h346 (fun hb418 h419 => ?_) (fun hb418 h420 => ?_)
          ·refine Bk ?_
           refine Sq (Rg [0, 1, 2] ?_)
           refine Ld hs321.at1 ?_
           obtain ⟨r421, hr422, h423⟩ := bind_some h419
           refine Cl' co_rules_isTruth hs321 (c_rules_isTruth N w320 F21 hs321.pers (x32) ae44_2 ne44_2 hbe44_2 (SlA.mono hse44_2 (((le139.trans le149).trans le297).trans le322)) (true) _ hr422) ?_
           rintro _ F29 w425 hs426 le427 rfl
           refine Vs 1 ?_
           refine Nt ?_
           refine Cd h423 (fun hb429 h430 => ?_) (fun hb429 h431 => ?_)
           ·refine Sq (Rg [0, 1] ?_)
            refine Ld hs426.at0 ?_
            refine St2 (kExpr x126 ae130_2 ne130_2) hs426 (fun w432 hs433 => ?_)
            refine Nt ?_
            refine Rt ?_
            refine blockQ_ret ?_
            refine blockQ_ret ?_
            refine thenQ_ret ?_
            obtain rfl := some_inj h430
            exact ⟨rfl, (.agg (kExpr x126 ae130_2 ne130_2)), res_of (l := [.cell 2 33]) (by kernel_rfl) (vs := [(.agg (kExpr x126 ae130_2 ne130_2))]) ⟨b24, 0, rfl, run_loadVar' (t := 33) (g := true) (s := 3) (by kernel_rfl) hs433.at2 rfl (by decide), trivial⟩, (.agg (kExpr x126 ae130_2 ne130_2)), F29, rfl, hs433.clear, ⟨ae130_2, ne130_2, rfl, hbe130_2, (SlA.mono hse130_2 ((((le139.trans le149).trans le297).trans le322).trans le427))⟩⟩
           ·refine Sq (Rg [0, 1, 2] ?_)
            refine Ld hs426.at1 ?_
            obtain ⟨r434, hr435, h436⟩ := bind_some h431
            refine Cl' co_rules_isTruth hs426 (c_rules_isTruth N w425 F29 hs426.pers (x32) ae44_2 ne44_2 hbe44_2 (SlA.mono hse44_2 ((((le139.trans le149).trans le297).trans le322).trans le427)) (false) _ hr435) ?_
            rintro _ F30 w438 hs439 le440 rfl
            refine Vs 1 ?_
            refine Nt ?_
            refine Cd h436 (fun hb442 h443 => ?_) (fun hb442 h444 => ?_)
            ·refine Sq (Rg [0, 1, 2, 3, 4] ?_)
             refine Vs 1 ?_
             refine Ld hs439.at3 ?_
             obtain ⟨x445, hx446, h448⟩ := bind_some h443
             obtain ⟨hi447, hx446'⟩ := idx_spec hx446
             obtain ⟨ae449_2, ne449_2, hc450, hbe449_2, hse449_2⟩ := (tExpr_open (hE43 _ _ hx446'))
             refine Ix hi447 ?_
             refine Lx 0 (hs439.pers _ _ ((((((le139.trans le149).trans le297).trans le322).trans le427).trans le440) _ _ hF42)) hc450 ?_
             refine St2 (kExpr x445 ae449_2 ne449_2) hs439 (fun w451 hs452 => ?_)
             refine Nt ?_
             refine Rt ?_
             refine blockQ_ret ?_
             refine blockQ_ret ?_
             refine thenQ_ret ?_
             obtain rfl := some_inj h448
             exact ⟨rfl, (.agg (kExpr x445 ae449_2 ne449_2)), res_of (l := [.cell 2 33]) (by kernel_rfl) (vs := [(.agg (kExpr x445 ae449_2 ne449_2))]) ⟨b24, 0, rfl, run_loadVar' (t := 33) (g := true) (s := 3) (by kernel_rfl) hs452.at2 rfl (by decide), trivial⟩, (.agg (kExpr x445 ae449_2 ne449_2)), F30, rfl, hs452.clear, ⟨ae449_2, ne449_2, rfl, hbe449_2, (SlA.mono hse449_2 (((((le139.trans le149).trans le297).trans le322).trans le427).trans le440))⟩⟩
            ·refine Sq ?_
             obtain ⟨j458, hj464, h465⟩ := bind_some h444
             refine RD 7 7 [(sb b132 (kExpr x126 ae130_2 ne130_2) 33), (sb b46 (kExpr x32 ae44_2 ne44_2) 33), (sb b24 #[(vi 0), (vi 0), (.slice none ([] : List Expr).length 0)] 33), (sb b21 (kExpr x0 (some ⟨b36, o37, none⟩) n0_2) 33)] [] hs439 (fun f w => ∃ (F31 : Mem), HS w0 F0 w F31 [(sb b132 (kExpr x126 ae130_2 ne130_2) 33), (sb b24 #[(vi 0), (vi 0), (.slice none ([] : List Expr).length 0)] 33), (sb b21 (kExpr x0 (some ⟨b36, o37, none⟩) n0_2) 33)] ∧ Mem.le F30 F31 ∧ FI f [] [(1, (pt b21 0)), (2, (pt b24 0)), (4, (pt b132 0)), (121, (.bool j458))]) (fun wd453 hw454 => ?_) ?_
             ·refine Dl 0 (fun _ hq => (hq.1.2 0 _ _ rfl)) ?_
              refine Dv [1] ?_
              refine Dl 2 (fun _ hq => (hq.1.2 3 _ _ rfl)) ?_
              obtain ⟨x466, hx467, h469⟩ := bind_some hj464
              obtain ⟨hi468, hx467'⟩ := idx_spec hx467
              obtain ⟨ae470_2, ne470_2, hc471, hbe470_2, hse470_2⟩ := (tExpr_open (hE43 _ _ hx467'))
              refine Di 3 hi468 ?_
              refine Dx 4 0 (fun _ hq => hq.1.1 _ _ ((((((le139.trans le149).trans le297).trans le322).trans le427).trans le440) _ _ hF42)) hc471 ?_
              refine D1 5 ?_
              obtain ⟨r472, hr473, h474⟩ := bind_some h469
              refine DCl co_rules_same hw454 (c_rules_same N wd453 F30 hw454.pers (x126) ae130_2 ne130_2 hbe130_2 (SlA.mono hse130_2 (((((le139.trans le149).trans le297).trans le322).trans le427).trans le440)) (x466) ae470_2 ne470_2 hbe470_2 (SlA.mono hse470_2 (((((le139.trans le149).trans le297).trans le322).trans le427).trans le440)) _ hr473) ?_
              rintro _ F32 w476 hs477 le478 rfl
              refine Dv [6] ?_
              obtain rfl := some_inj h474
              exact DWP.done (by kernel_rfl) ⟨F32, hs477.dr1, le478, fI⟩
             ·rintro f w455 ⟨F31, hs456, le457, ⟨_, rfl⟩⟩
              refine thenQ_nrm ?_
              refine Cd h465 (fun hb480 h481 => ?_) (fun hb480 h482 => ?_)
              ·refine Sq (Rg [0, 1] ?_)
               refine Ld hs456.at0 ?_
               refine St1 (kExpr x126 ae130_2 ne130_2) hs456 (fun w483 hs484 => ?_)
               refine Nt ?_
               refine Rt ?_
               refine blockQ_ret ?_
               refine blockQ_ret ?_
               refine thenQ_ret ?_
               obtain rfl := some_inj h481
               exact ⟨rfl, (.agg (kExpr x126 ae130_2 ne130_2)), res_of (l := [.cell 2 33]) (by kernel_rfl) (vs := [(.agg (kExpr x126 ae130_2 ne130_2))]) ⟨b24, 0, rfl, run_loadVar' (t := 33) (g := true) (s := 3) (by kernel_rfl) hs484.at1 rfl (by decide), trivial⟩, (.agg (kExpr x126 ae130_2 ne130_2)), F31, rfl, hs484.clear, ⟨ae130_2, ne130_2, rfl, hbe130_2, (SlA.mono hse130_2 ((((((le139.trans le149).trans le297).trans le322).trans le427).trans le440).trans le457))⟩⟩
              ·refine Sc ?_
               refine blockQ_nrm ?_
               refine blockQ_nrm ?_
               refine thenQ_nrm ?_
               refine Sq (Rg [0, 1] ?_)
               refine Ld hs456.at2 ?_
               refine St1 (kExpr x0 (some ⟨b36, o37, none⟩) n0_2) hs456 (fun w485 hs486 => ?_)
               refine Nt ?_
               refine Rt ?_
               obtain rfl := some_inj h482
               exact ⟨rfl, (.agg (kExpr x0 (some ⟨b36, o37, none⟩) n0_2)), res_of (l := [.cell 2 33]) (by kernel_rfl) (vs := [(.agg (kExpr x0 (some ⟨b36, o37, none⟩) n0_2))]) ⟨b24, 0, rfl, run_loadVar' (t := 33) (g := true) (s := 3) (by kernel_rfl) hs486.at1 rfl (by decide), trivial⟩, (.agg (kExpr x0 (some ⟨b36, o37, none⟩) n0_2)), F31, rfl, hs486.clear, ⟨(some ⟨b36, o37, none⟩), n0_2, rfl, hb0_2, (SlA.mono hs0_2 ((((((le139.trans le149).trans le297).trans le322).trans le427).trans le440).trans le457))⟩⟩
          ·refine Sc ?_
           refine blockQ_nrm ?_
           refine thenQ_nrm ?_
           refine Sq (Rg [0, 1] ?_)
           refine Ld hs321.at3 ?_
           refine St2 (kExpr x0 (some ⟨b36, o37, none⟩) n0_2) hs321 (fun w487 hs488 => ?_)
           refine Nt ?_
           refine Rt ?_
           obtain rfl := some_inj h420
           exact ⟨rfl, (.agg (kExpr x0 (some ⟨b36, o37, none⟩) n0_2)), res_of (l := [.cell 2 33]) (by kernel_rfl) (vs := [(.agg (kExpr x0 (some ⟨b36, o37, none⟩) n0_2))]) ⟨b24, 0, rfl, run_loadVar' (t := 33) (g := true) (s := 3) (by kernel_rfl) hs488.at2 rfl (by decide), trivial⟩, (.agg (kExpr x0 (some ⟨b36, o37, none⟩) n0_2)), F21, rfl, hs488.clear, ⟨(some ⟨b36, o37, none⟩), n0_2, rfl, hb0_2, (SlA.mono hs0_2 (((le139.trans le149).trans le297).trans le322))⟩⟩
end Go.Proofs.YtaihlcdkcampbaaGreatDoor
namespace Go.Proofs.YtaihlcdkcampbaaGreatDoor
open Go.Proofs
def ref06_number (N : Nat) (x0 : Int) : Option Expr :=
 some ({ Op := 1, Value := x0, Kids := ([] : List Expr) } : Expr)
theorem co_ref06_number : CallOk Tryz.prog 216 := fun _ _ => by kernel_rfl
theorem c_ref06_number (N : Nat) (w0 : World) (F0 : Mem) (hF : ∀ b o, F0 b = some o → w0.heap[b]? = some o) (x0 : Int) (r : Expr) (h : ref06_number N x0 = some r) :
  Calls Tryz.prog 216 ([(vi x0)] : List Value).toArray w0 (FRet w0 F0 fun F' v => ∃ (aq0_2 : Option Addr) (nq0_2 : Nat), v = (.agg (kExpr r aq0_2 nq0_2)) ∧ LC r.Kids.length nq0_2 ∧ SlA tExpr F' aq0_2 r.Kids) := by
 have hs0 := HS.start hF
 refine Go 5 Tryz.func216 ?_
 refine Sq (Rg [0] ?_)
 refine Al' 33 #[(vi 0), (vi 0), (.slice none ([] : List Expr).length 0)] hs0 (fun b21 w22 hs23 => ?_)
 refine Nss (Rg [0, 1, 2] ?_)
 refine Vs 2 ?_
 refine St0 #[(vi 1), (vi x0), (.slice none ([] : List Expr).length 0)] hs23 (fun w24 hs25 => ?_)
 refine Nt ?_
 refine Rt ?_
 obtain rfl := some_inj h
 exact ⟨rfl, (.agg #[(vi 1), (vi x0), (.slice none ([] : List Expr).length 0)]), res_of (l := [.cell 2 33]) (by kernel_rfl) (vs := [(.agg #[(vi 1), (vi x0), (.slice none ([] : List Expr).length 0)])]) ⟨b21, 0, rfl, run_loadVar' (t := 33) (g := true) (s := 3) (by kernel_rfl) hs25.at0 rfl (by decide), trivial⟩, (.agg #[(vi 1), (vi x0), (.slice none ([] : List Expr).length 0)]), F0, rfl, hs25.clear, ⟨none, 0, rfl, LC.nil, (.inl rfl)⟩⟩
end Go.Proofs.YtaihlcdkcampbaaGreatDoor
namespace Go.Proofs.YtaihlcdkcampbaaGreatDoor
open Go.Proofs
def ref06_truth (N : Nat) (x0 : Bool) : Option Expr :=
 ((ref06_number N 0).bind fun r31 => ((ref06_number N 0).bind fun r39 => some ({ Op := (bif x0 then 6 else 7), Value := 0, Kids := [r31, r39] } : Expr)))
theorem co_ref06_truth : CallOk Tryz.prog 193 := fun _ _ => by kernel_rfl
theorem c_ref06_truth (N : Nat) (w0 : World) (F0 : Mem) (hF : ∀ b o, F0 b = some o → w0.heap[b]? = some o) (x0 : Bool) (r : Expr) (h : ref06_truth N x0 = some r) :
  Calls Tryz.prog 193 ([(.bool x0)] : List Value).toArray w0 (FRet w0 F0 fun F' v => ∃ (aq0_2 : Option Addr) (nq0_2 : Nat), v = (.agg (kExpr r aq0_2 nq0_2)) ∧ LC r.Kids.length nq0_2 ∧ SlA tExpr F' aq0_2 r.Kids) := by
 have hs0 := HS.start hF
 refine Go 10 Tryz.func193 ?_
 refine Sq (Rg [0] ?_)
 refine Al' 33 #[(vi 0), (vi 0), (.slice none ([] : List Expr).length 0)] hs0 (fun b21 w22 hs23 => ?_)
 refine Nss (Rg [0] ?_)
 refine Vs 1 ?_
 refine Nss ?_
 refine Sq (Rg [0] ?_)
 refine Vs 1 ?_
 refine Nt ?_
 refine CWP.cut (fun f w => ∃ (F1 : Mem), HS w0 F0 w F1 [(sb b21 #[(vi 0), (vi 0), (.slice none ([] : List Expr).length 0)] 33)] ∧ Mem.le F0 F1 ∧ FI f [] [(2, (pt b21 0)), (3, (vi (bif x0 then 6 else 7)))]) ?_ ?_
 ·refine Cp x0 (fun hb30 => ?_) (fun hb30 => ?_)
  ·refine Rg [0] ?_
   refine Vs 1 ?_
   refine RWP.nil ?_
   exact .inl ⟨rfl, F0, hs23, (Mem.le.refl _), (fJ ⟨rfl, (congrArg (Value.int .i64) (bif_t hb30 (rfl))), trivial⟩)⟩
  ·refine Sc ?_
   exact .inl ⟨rfl, F0, hs23, (Mem.le.refl _), (fJ ⟨rfl, (congrArg (Value.int .i64) (bif_f hb30 (rfl))), trivial⟩)⟩
 ·rintro f w24 ⟨F1, hs25, le26, ⟨_, rfl⟩⟩
  refine thenQ_nrm ?_
  refine Sq (Rg [0, 1, 2, 3, 4, 5] ?_)
  refine Vs 1 ?_
  obtain ⟨r31, hr32, h33⟩ := bind_some h
  refine Cl' co_ref06_number hs25 (c_ref06_number N w24 F1 hs25.pers (0) _ hr32) ?_
  rintro _ F2 w35 hs36 le37 ⟨ar31_0_2, nr31_0_2, rfl, hbr31_0_2, hsr31_0_2⟩
  obtain ⟨r39, hr40, h41⟩ := bind_some h33
  refine Cl' co_ref06_number hs36 (c_ref06_number N w35 F2 hs36.pers (0) _ hr40) ?_
  rintro _ F3 w43 hs44 le45 ⟨ar39_0_2, nr39_0_2, rfl, hbr39_0_2, hsr39_0_2⟩
  refine Bs 33 [(vi r31.Op), (vi r31.Value), (.slice ar31_0_2 r31.Kids.length nr31_0_2), (vi r39.Op), (vi r39.Value), (.slice ar39_0_2 r39.Kids.length nr39_0_2)] hs44 (fun b47 w48 hs49 => ?_)
  have hr51 : RowR tExpr 33 F3 (some ⟨b47, 0, none⟩) 2 [r31, r39] (some b47, .cells ([(vi r31.Op), (vi r31.Value), (.slice ar31_0_2 r31.Kids.length nr31_0_2), (vi r39.Op), (vi r39.Value), (.slice ar39_0_2 r39.Kids.length nr39_0_2)] : List Value).toArray 33 (0, 0)) := RowR.lit ⟨(tExpr_mk ⟨ar31_0_2, nr31_0_2, rfl, hbr31_0_2, (SlA.mono hsr31_0_2 le45)⟩), ⟨(tExpr_mk ⟨ar39_0_2, nr39_0_2, rfl, hbr39_0_2, hsr39_0_2⟩), rfl⟩⟩ (by simp)
  refine Vs 1 ?_
  refine St1 #[(vi (bif x0 then 6 else 7)), (vi 0), (.slice (some ⟨b47, 0, none⟩) [r31, r39].length 2)] hs49 (fun w52 hs53 => ?_)
  refine Nt ?_
  refine Rt ?_
  have hb57 := RowR.bound hr51
  obtain ⟨F4, hs54, le55, hs56⟩ := hs53.fr0 hr51
  obtain rfl := some_inj h41
  exact ⟨rfl, (.agg #[(vi (bif x0 then 6 else 7)), (vi 0), (.slice (some ⟨b47, 0, none⟩) [r31, r39].length 2)]), res_of (l := [.cell 2 33]) (by kernel_rfl) (vs := [(.agg #[(vi (bif x0 then 6 else 7)), (vi 0), (.slice (some ⟨b47, 0, none⟩) [r31, r39].length 2)])]) ⟨b21, 0, rfl, run_loadVar' (t := 33) (g := true) (s := 3) (by kernel_rfl) hs54.at0 rfl (by decide), trivial⟩, (.agg #[(vi (bif x0 then 6 else 7)), (vi 0), (.slice (some ⟨b47, 0, none⟩) [r31, r39].length 2)]), F4, rfl, hs54.clear, ⟨(some ⟨b47, 0, none⟩), 2, rfl, hb57, hs56⟩⟩
end Go.Proofs.YtaihlcdkcampbaaGreatDoor
namespace Go.Proofs.YtaihlcdkcampbaaGreatDoor
open Go.Proofs
def ref06_joined (N : Nat) (x0 : Expr) (x1 : Expr) (x2 : Expr) : Option Expr :=
 ((ref06_truth N (x0.Op == 4)).bind fun r33 => ((ref06_truth N (x0.Op == 5)).bind fun r46 => (((ref06_Equal N x1 r46).bind fun r73 => (bif r73 then some true else ((ref06_Equal N x2 r46).bind fun r84 => some r84))).bind fun j62 => (bif j62 then some r46 else ((ref06_Equal N x1 r33).bind fun r97 => (bif r97 then some x2 else (((ref06_Equal N x2 r33).bind fun r121 => (bif r121 then some true else ((ref06_Equal N x1 x2).bind fun r132 => some r132))).bind fun j113 => (bif j113 then some x1 else some x0))))))))
theorem co_ref06_joined : CallOk Tryz.prog 194 := fun _ _ => by kernel_rfl
theorem c_ref06_joined (N : Nat) (w0 : World) (F0 : Mem) (hF : ∀ b o, F0 b = some o → w0.heap[b]? = some o) (x0 : Expr) (a0_2 : Option Addr) (n0_2 : Nat) (hb0_2 : LC x0.Kids.length n0_2) (hs0_2 : SlA tExpr F0 a0_2 x0.Kids) (x1 : Expr) (a1_2 : Option Addr) (n1_2 : Nat) (hb1_2 : LC x1.Kids.length n1_2) (hs1_2 : SlA tExpr F0 a1_2 x1.Kids) (x2 : Expr) (a2_2 : Option Addr) (n2_2 : Nat) (hb2_2 : LC x2.Kids.length n2_2) (hs2_2 : SlA tExpr F0 a2_2 x2.Kids) (r : Expr) (h : ref06_joined N x0 x1 x2 = some r) :
  Calls Tryz.prog 194 ([(.agg (kExpr x0 a0_2 n0_2)), (.agg (kExpr x1 a1_2 n1_2)), (.agg (kExpr x2 a2_2 n2_2))] : List Value).toArray w0 (FRet w0 F0 fun F' v => ∃ (aq0_2 : Option Addr) (nq0_2 : Nat), v = (.agg (kExpr r aq0_2 nq0_2)) ∧ LC r.Kids.length nq0_2 ∧ SlA tExpr F' aq0_2 r.Kids) := by
 have hs0 := HS.start hF
 refine Go 40 Tryz.func194 ?_
 refine Sq (Rg [0, 1, 2, 3] ?_)
 refine Bx' 33 (kExpr x0 a0_2 n0_2) hs0 (fun b21 w22 hs23 => ?_)
 refine Bx' 33 (kExpr x1 a1_2 n1_2) hs23 (fun b24 w25 hs26 => ?_)
 refine Bx' 33 (kExpr x2 a2_2 n2_2) hs26 (fun b27 w28 hs29 => ?_)
 refine Al' 33 #[(vi 0), (vi 0), (.slice none ([] : List Expr).length 0)] hs29 (fun b30 w31 hs32 => ?_)
 refine Nss (Rg [0, 1, 2, 3, 4, 5] ?_)
 refine Vs 1 ?_
 refine Ld hs32.at3 ?_
 refine Vs 1 ?_
 obtain ⟨r33, hr34, h35⟩ := bind_some h
 refine Cl' co_ref06_truth hs32 (c_ref06_truth N w31 F0 hs32.pers ((x0.Op == 4)) _ hr34) ?_
 rintro _ F1 w37 hs38 le39 ⟨ar33_0_2, nr33_0_2, rfl, hbr33_0_2, hsr33_0_2⟩
 refine Al' 33 #[(vi 0), (vi 0), (.slice none ([] : List Expr).length 0)] hs38 (fun b41 w42 hs43 => ?_)
 refine St0 (kExpr r33 ar33_0_2 nr33_0_2) hs43 (fun w44 hs45 => ?_)
 refine Nss (Rg [0, 1, 2, 3, 4, 5] ?_)
 refine Vs 1 ?_
 refine Ld hs45.at4 ?_
 refine Vs 1 ?_
 obtain ⟨r46, hr47, h48⟩ := bind_some h35
 refine Cl' co_ref06_truth hs45 (c_ref06_truth N w44 F1 hs45.pers ((x0.Op == 5)) _ hr47) ?_
 rintro _ F2 w50 hs51 le52 ⟨ar46_0_2, nr46_0_2, rfl, hbr46_0_2, hsr46_0_2⟩
 refine Al' 33 #[(vi 0), (vi 0), (.slice none ([] : List Expr).length 0)] hs51 (fun b54 w55 hs56 => ?_)
 refine St0 (kExpr r46 ar46_0_2 nr46_0_2) hs56 (fun w57 hs58 => ?_)
 refine Nss ?_
 refine Sq (Rg [0, 1, 2, 3, 4, 5, 6, 7] ?_)
 obtain ⟨j62, hj71, h72⟩ := bind_some h48
 refine RWP.cut (fun f w => ∃ (F3 : Mem), HS w0 F0 w F3 [(sb b54 (kExpr r46 ar46_0_2 nr46_0_2) 33), (sb b41 (kExpr r33 ar33_0_2 nr33_0_2) 33), (sb b30 #[(vi 0), (vi 0), (.slice none ([] : List Expr).length 0)] 33), (sb b27 (kExpr x2 a2_2 n2_2) 33), (sb b24 (kExpr x1 a1_2 n1_2) 33), (sb b21 (kExpr x0 a0_2 n0_2) 33)] ∧ Mem.le F2 F3 ∧ FI f [] [(3, (pt b21 0)), (4, (pt b24 0)), (5, (pt b27 0)), (6, (pt b30 0)), (7, (pt b41 0)), (8, (pt b54 0)), (24, (.bool j62))]) ?_ ?_
 ·refine Ld hs58.at4 ?_
  refine Ld hs58.at0 ?_
  obtain ⟨r73, hr74, h75⟩ := bind_some hj71
  refine Cl' co_ref06_Equal hs58 (c_ref06_Equal N w57 F2 hs58.pers (x1) a1_2 n1_2 hb1_2 (SlA.mono hs1_2 (le39.trans le52)) (r46) ar46_0_2 nr46_0_2 hbr46_0_2 hsr46_0_2 _ hr74) ?_
  rintro _ F4 w77 hs78 le79 rfl
  refine Vs 1 ?_
  refine Sp h75 (fun hb81 h82 => ?_) (fun hb81 h83 => ?_)
  ·refine Ss hb81 3 ?_
   refine Pk1 hb81 ?_
   obtain rfl := some_inj h82
   exact RWP.nil ⟨rfl, F4, hs78, le79, fI⟩
  ·refine Lg hb81 hs78.at3 ?_
   refine Lg hb81 hs78.at0 ?_
   obtain ⟨r84, hr85, h86⟩ := bind_some h83
   refine Cg hb81 co_ref06_Equal hs78 (c_ref06_Equal N w77 F4 hs78.pers (x2) a2_2 n2_2 hb2_2 (SlA.mono hs2_2 ((le39.trans le52).trans le79)) (r46) ar46_0_2 nr46_0_2 hbr46_0_2 (SlA.mono hsr46_0_2 le79) _ hr85) ?_
   rintro _ F5 w88 hs89 le90 rfl
   refine Pk0 hb81 ?_
   obtain rfl := some_inj h86
   exact RWP.nil ⟨rfl, F5, hs89, (le79.trans le90), fI⟩
 ·rintro f w59 ⟨F3, hs60, le61, ⟨_, rfl⟩⟩
  refine thenQ_nrm ?_
  refine Cd h72 (fun hb92 h93 => ?_) (fun hb92 h94 => ?_)
  ·refine Sq (Rg [0, 1] ?_)
   refine Ld hs60.at0 ?_
   refine St2 (kExpr r46 ar46_0_2 nr46_0_2) hs60 (fun w95 hs96 => ?_)
   refine Nt ?_
   refine Rt ?_
   refine thenQ_ret ?_
   obtain rfl := some_inj h93
   exact ⟨rfl, (.agg (kExpr r46 ar46_0_2 nr46_0_2)), res_of (l := [.cell 6 33]) (by kernel_rfl) (vs := [(.agg (kExpr r46 ar46_0_2 nr46_0_2))]) ⟨b30, 0, rfl, run_loadVar' (t := 33) (g := true) (s := 3) (by kernel_rfl) hs96.at2 rfl (by decide), trivial⟩, (.agg (kExpr r46 ar46_0_2 nr46_0_2)), F3, rfl, hs96.clear, ⟨ar46_0_2, nr46_0_2, rfl, hbr46_0_2, (SlA.mono hsr46_0_2 le61)⟩⟩
  ·refine Sc ?_
   refine thenQ_nrm ?_
   refine Sq ?_
   refine Sq (Rg [0, 1, 2] ?_)
   refine Ld hs60.at4 ?_
   refine Ld hs60.at1 ?_
   obtain ⟨r97, hr98, h99⟩ := bind_some h94
   refine Cl' co_ref06_Equal hs60 (c_ref06_Equal N w59 F3 hs60.pers (x1) a1_2 n1_2 hb1_2 (SlA.mono hs1_2 ((le39.trans le52).trans le61)) (r33) ar33_0_2 nr33_0_2 hbr33_0_2 (SlA.mono hsr33_0_2 (le52.trans le61)) _ hr98) ?_
   rintro _ F6 w101 hs102 le103 rfl
   refine Nt ?_
   refine Cd h99 (fun hb105 h106 => ?_) (fun hb105 h107 => ?_)
   ·refine Sq (Rg [0, 1] ?_)
    refine Ld hs102.at3 ?_
    refine St2 (kExpr x2 a2_2 n2_2) hs102 (fun w108 hs109 => ?_)
    refine Nt ?_
    refine Rt ?_
    refine thenQ_ret ?_
    obtain rfl := some_inj h106
    exact ⟨rfl, (.agg (kExpr x2 a2_2 n2_2)), res_of (l := [.cell 6 33]) (by kernel_rfl) (vs := [(.agg (kExpr x2 a2_2 n2_2))]) ⟨b30, 0, rfl, run_loadVar' (t := 33) (g := true) (s := 3) (by kernel_rfl) hs109.at2 rfl (by decide), trivial⟩, (.agg (kExpr x2 a2_2 n2_2)), F6, rfl, hs109.clear, ⟨a2_2, n2_2, rfl, hb2_2, (SlA.mono hs2_2 (((le39.trans le52).trans le61).trans le103))⟩⟩
   ·refine Sc ?_
    refine thenQ_nrm ?_
    refine Sq ?_
    refine Sq (Rg [0, 1, 2, 3, 4, 5, 6, 7] ?_)
    obtain ⟨j113, hj119, h120⟩ := bind_some h107
    refine RWP.cut (fun f w => ∃ (F7 : Mem), HS w0 F0 w F7 [(sb b30 #[(vi 0), (vi 0), (.slice none ([] : List Expr).length 0)] 33), (sb b24 (kExpr x1 a1_2 n1_2) 33), (sb b21 (kExpr x0 a0_2 n0_2) 33)] ∧ Mem.le F6 F7 ∧ FI f [] [(3, (pt b21 0)), (4, (pt b24 0)), (6, (pt b30 0)), (37, (.bool j113))]) ?_ ?_
    ·refine Ld hs102.at3 ?_
     refine Ld hs102.at1 ?_
     obtain ⟨r121, hr122, h123⟩ := bind_some hj119
     refine Cl' co_ref06_Equal hs102 (c_ref06_Equal N w101 F6 hs102.pers (x2) a2_2 n2_2 hb2_2 (SlA.mono hs2_2 (((le39.trans le52).trans le61).trans le103)) (r33) ar33_0_2 nr33_0_2 hbr33_0_2 (SlA.mono hsr33_0_2 ((le52.trans le61).trans le103)) _ hr122) ?_
     rintro _ F8 w125 hs126 le127 rfl
     refine Vs 1 ?_
     refine Sp h123 (fun hb129 h130 => ?_) (fun hb129 h131 => ?_)
     ·refine Ss hb129 3 ?_
      refine Pk1 hb129 ?_
      obtain rfl := some_inj h130
      exact RWP.nil ⟨rfl, F8, hs126.dr0.dr0.dr1, le127, fI⟩
     ·refine Lg hb129 hs126.at4 ?_
      refine Lg hb129 hs126.at3 ?_
      obtain ⟨r132, hr133, h134⟩ := bind_some h131
      refine Cg hb129 co_ref06_Equal hs126 (c_ref06_Equal N w125 F8 hs126.pers (x1) a1_2 n1_2 hb1_2 (SlA.mono hs1_2 ((((le39.trans le52).trans le61).trans le103).trans le127)) (x2) a2_2 n2_2 hb2_2 (SlA.mono hs2_2 ((((le39.trans le52).trans le61).trans le103).trans le127)) _ hr133) ?_
      rintro _ F9 w136 hs137 le138 rfl
      refine Pk0 hb129 ?_
      obtain rfl := some_inj h134
      exact RWP.nil ⟨rfl, F9, hs137.dr0.dr0.dr1, (le127.trans le138), fI⟩
    ·rintro f w110 ⟨F7, hs111, le112, ⟨_, rfl⟩⟩
     refine thenQ_nrm ?_
     refine Cd h120 (fun hb140 h141 => ?_) (fun hb140 h142 => ?_)
     ·refine Sq (Rg [0, 1] ?_)
      refine Ld hs111.at1 ?_
      refine St0 (kExpr x1 a1_2 n1_2) hs111 (fun w143 hs144 => ?_)
      refine Nt ?_
      refine Rt ?_
      refine thenQ_ret ?_
      obtain rfl := some_inj h141
      exact ⟨rfl, (.agg (kExpr x1 a1_2 n1_2)), res_of (l := [.cell 6 33]) (by kernel_rfl) (vs := [(.agg (kExpr x1 a1_2 n1_2))]) ⟨b30, 0, rfl, run_loadVar' (t := 33) (g := true) (s := 3) (by kernel_rfl) hs144.at0 rfl (by decide), trivial⟩, (.agg (kExpr x1 a1_2 n1_2)), F7, rfl, hs144.clear, ⟨a1_2, n1_2, rfl, hb1_2, (SlA.mono hs1_2 ((((le39.trans le52).trans le61).trans le103).trans le112))⟩⟩
     ·refine Sc ?_
      refine thenQ_nrm ?_
      refine Sq (Rg [0, 1] ?_)
      refine Ld hs111.at2 ?_
      refine St0 (kExpr x0 a0_2 n0_2) hs111 (fun w145 hs146 => ?_)
      refine Nt ?_
      refine Rt ?_
      obtain rfl := some_inj h142
      exact ⟨rfl, (.agg (kExpr x0 a0_2 n0_2)), res_of (l := [.cell 6 33]) (by kernel_rfl) (vs := [(.agg (kExpr x0 a0_2 n0_2))]) ⟨b30, 0, rfl, run_loadVar' (t := 33) (g := true) (s := 3) (by kernel_rfl) hs146.at0 rfl (by decide), trivial⟩, (.agg (kExpr x0 a0_2 n0_2)), F7, rfl, hs146.clear, ⟨a0_2, n0_2, rfl, hb0_2, (SlA.mono hs0_2 ((((le39.trans le52).trans le61).trans le103).trans le112))⟩⟩
end Go.Proofs.YtaihlcdkcampbaaGreatDoor
namespace Go.Proofs.YtaihlcdkcampbaaGreatDoor
open Go.Proofs
def ref06_is (N : Nat) (x0 : Expr) (x1 : Int) : Option Bool :=
 some ((x0.Op == 1) && (x0.Value == x1))
theorem co_ref06_is : CallOk Tryz.prog 217 := fun _ _ => by kernel_rfl
theorem c_ref06_is (N : Nat) (w0 : World) (F0 : Mem) (hF : ∀ b o, F0 b = some o → w0.heap[b]? = some o) (x0 : Expr) (a0_2 : Option Addr) (n0_2 : Nat) (hb0_2 : LC x0.Kids.length n0_2) (hs0_2 : SlA tExpr F0 a0_2 x0.Kids) (x1 : Int) (r : Bool) (h : ref06_is N x0 x1 = some r) :
  Calls Tryz.prog 217 ([(.agg (kExpr x0 a0_2 n0_2)), (vi x1)] : List Value).toArray w0 (FRet w0 F0 fun F' v => v = (.bool r)) := by
 have hs0 := HS.start hF
 refine Go 14 Tryz.func217 ?_
 refine Sq (Rg [0, 1] ?_)
 refine Bx' 33 (kExpr x0 a0_2 n0_2) hs0 (fun b21 w22 hs23 => ?_)
 refine Vs 1 ?_
 refine Nss (Rg [0, 1, 2, 3, 4, 5, 6, 7, 8, 9] ?_)
 refine RWP.cut (fun f w => ∃ (F1 : Mem), HS w0 F0 w F1 [] ∧ Mem.le F0 F1 ∧ FI f [] [(4, (.bool ((x0.Op == 1) && (x0.Value == x1))))]) ?_ ?_
 ·refine Vs 1 ?_
  refine Ld hs23.at0 ?_
  refine Vs 2 ?_
  refine RWP.split (x0.Op == 1) (fun hb29 => ?_) (fun hb29 => ?_)
  ·refine Vgs hb29 1 ?_
   refine Lg hb29 hs23.at0 ?_
   refine Vgs hb29 2 ?_
   refine Pk1 hb29 ?_
   refine Vs 1 ?_
   exact RWP.nil ⟨rfl, F0, hs23.dr0, (Mem.le.refl _), (fJ ⟨(congrArg Value.bool (and_t hb29 (rfl))), trivial⟩)⟩
  ·refine Ss hb29 4 ?_
   refine Pk0 hb29 ?_
   refine Vs 1 ?_
   exact RWP.nil ⟨rfl, F0, hs23.dr0, (Mem.le.refl _), (fJ ⟨(congrArg Value.bool (and_f hb29 (rfl))), trivial⟩)⟩
 ·rintro f w24 ⟨F1, hs25, le26, ⟨_, rfl⟩⟩
  refine thenQ_nrm ?_
  refine Rt ?_
  obtain rfl := some_inj h
  exact Re [(.bool ((x0.Op == 1) && (x0.Value == x1)))] hs25 rfl
end Go.Proofs.YtaihlcdkcampbaaGreatDoor
namespace Go.Proofs.YtaihlcdkcampbaaGreatDoor
open Go.Proofs
def ref06_reckoned (N : Nat) (x0 : Expr) (x1 : Expr) (x2 : Expr) : Option Expr :=
 (bif ((x1.Op == 1) && (x2.Op == 1)) then ((ref06_value N x0 ([] : List Int)).bind fun r46 => (bif (decide (r46 ≥ 0)) then ((ref06_number N r46).bind fun r57 => some r57) else some x0)) else (bif (x0.Op == 8) then ((ref06_is N x1 0).bind fun r72 => (bif r72 then some x2 else ((ref06_is N x2 0).bind fun r85 => (bif r85 then some x1 else some x0)))) else (bif (x0.Op == 9) then ((ref06_is N x2 0).bind fun r103 => (bif r103 then some x1 else ((ref06_Equal N x1 x2).bind fun r116 => (bif r116 then ((ref06_number N 0).bind fun r127 => some r127) else some x0)))) else (bif (x0.Op == 10) then ((ref06_is N x1 1).bind fun r142 => (bif r142 then some x2 else ((ref06_is N x2 1).bind fun r155 => (bif r155 then some x1 else (((ref06_is N x1 0).bind fun r178 => (bif r178 then some true else ((ref06_is N x2 0).bind fun r189 => some r189))).bind fun j171 => (bif j171 then ((ref06_number N 0).bind fun r200 => some r200) else some x0)))))) else some x0))))
theorem co_ref06_reckoned : CallOk Tryz.prog 195 := fun _ _ => by kernel_rfl
theorem c_ref06_reckoned (N : Nat) (w0 : World) (F0 : Mem) (hF : ∀ b o, F0 b = some o → w0.heap[b]? = some o) (x0 : Expr) (a0_2 : Option Addr) (n0_2 : Nat) (hb0_2 : LC x0.Kids.length n0_2) (hs0_2 : SlA tExpr F0 a0_2 x0.Kids) (x1 : Expr) (a1_2 : Option Addr) (n1_2 : Nat) (hb1_2 : LC x1.Kids.length n1_2) (hs1_2 : SlA tExpr F0 a1_2 x1.Kids) (x2 : Expr) (a2_2 : Option Addr) (n2_2 : Nat) (hb2_2 : LC x2.Kids.length n2_2) (hs2_2 : SlA tExpr F0 a2_2 x2.Kids) (r : Expr) (h : ref06_reckoned N x0 x1 x2 = some r) :
  Calls Tryz.prog 195 ([(.agg (kExpr x0 a0_2 n0_2)), (.agg (kExpr x1 a1_2 n1_2)), (.agg (kExpr x2 a2_2 n2_2))] : List Value).toArray w0 (FRet w0 F0 fun F' v => ∃ (aq0_2 : Option Addr) (nq0_2 : Nat), v = (.agg (kExpr r aq0_2 nq0_2)) ∧ LC r.Kids.length nq0_2 ∧ SlA tExpr F' aq0_2 r.Kids) := by
 have hs0 := HS.start hF
 refine Go 58 Tryz.func195 ?_
 refine Sq (Rg [0, 1, 2, 3] ?_)
 refine Bx' 33 (kExpr x0 a0_2 n0_2) hs0 (fun b21 w22 hs23 => ?_)
 refine Bx' 33 (kExpr x1 a1_2 n1_2) hs23 (fun b24 w25 hs26 => ?_)
 refine Bx' 33 (kExpr x2 a2_2 n2_2) hs26 (fun b27 w28 hs29 => ?_)
 refine Al' 33 #[(vi 0), (vi 0), (.slice none ([] : List Expr).length 0)] hs29 (fun b30 w31 hs32 => ?_)
 refine Nss ?_
 refine Sq (Rg [0, 1, 2, 3, 4, 5, 6, 7] ?_)
 refine RWP.cut (fun f w => ∃ (F1 : Mem), HS w0 F0 w F1 [(sb b30 #[(vi 0), (vi 0), (.slice none ([] : List Expr).length 0)] 33), (sb b27 (kExpr x2 a2_2 n2_2) 33), (sb b24 (kExpr x1 a1_2 n1_2) 33), (sb b21 (kExpr x0 a0_2 n0_2) 33)] ∧ Mem.le F0 F1 ∧ FI f [] [(3, (pt b21 0)), (4, (pt b24 0)), (5, (pt b27 0)), (6, (pt b30 0)), (15, (.bool ((x1.Op == 1) && (x2.Op == 1))))]) ?_ ?_
 ·refine Vs 1 ?_
  refine Ld hs32.at2 ?_
  refine Vs 2 ?_
  refine RWP.split (x1.Op == 1) (fun hb42 => ?_) (fun hb42 => ?_)
  ·refine Vgs hb42 1 ?_
   refine Lg hb42 hs32.at1 ?_
   refine Vgs hb42 1 ?_
   refine Pk1 hb42 ?_
   exact RWP.nil ⟨rfl, F0, hs32, (Mem.le.refl _), (fJ ⟨rfl, rfl, rfl, rfl, (congrArg Value.bool (and_t hb42 (rfl))), trivial⟩)⟩
  ·refine Ss hb42 3 ?_
   refine Pk0 hb42 ?_
   exact RWP.nil ⟨rfl, F0, hs32, (Mem.le.refl _), (fJ ⟨rfl, rfl, rfl, rfl, (congrArg Value.bool (and_f hb42 (rfl))), trivial⟩)⟩
 ·rintro f w33 ⟨F1, hs34, le35, ⟨_, rfl⟩⟩
  refine thenQ_nrm ?_
  refine Cd h (fun hb43 h44 => ?_) (fun hb43 h45 => ?_)
  ·refine Sq (Rg [0, 1, 2] ?_)
   refine Ld hs34.at3 ?_
   obtain ⟨r46, hr47, h48⟩ := bind_some h44
   refine Cl' co_ref06_value hs34 (c_ref06_value N w33 F1 hs34.pers (x0) a0_2 n0_2 hb0_2 (SlA.mono hs0_2 le35) (([] : List Int)) none 0 LC.nil (.inl rfl) _ hr47) ?_
   rintro _ F2 w50 hs51 le52 rfl
   refine Vs 1 ?_
   refine Nss ?_
   refine Sq (Rg [0, 1] ?_)
   refine Vs 2 ?_
   refine Nt ?_
   refine Cd h48 (fun hb54 h55 => ?_) (fun hb54 h56 => ?_)
   ·refine Sq (Rg [0, 1, 2] ?_)
    refine Vs 1 ?_
    obtain ⟨r57, hr58, h59⟩ := bind_some h55
    refine Cl' co_ref06_number hs51 (c_ref06_number N w50 F2 hs51.pers (r46) _ hr58) ?_
    rintro _ F3 w61 hs62 le63 ⟨ar57_0_2, nr57_0_2, rfl, hbr57_0_2, hsr57_0_2⟩
    refine St0 (kExpr r57 ar57_0_2 nr57_0_2) hs62 (fun w65 hs66 => ?_)
    refine Nt ?_
    refine Rt ?_
    refine thenQ_ret ?_
    refine thenQ_ret ?_
    obtain rfl := some_inj h59
    exact ⟨rfl, (.agg (kExpr r57 ar57_0_2 nr57_0_2)), res_of (l := [.cell 6 33]) (by kernel_rfl) (vs := [(.agg (kExpr r57 ar57_0_2 nr57_0_2))]) ⟨b30, 0, rfl, run_loadVar' (t := 33) (g := true) (s := 3) (by kernel_rfl) hs66.at0 rfl (by decide), trivial⟩, (.agg (kExpr r57 ar57_0_2 nr57_0_2)), F3, rfl, hs66.clear, ⟨ar57_0_2, nr57_0_2, rfl, hbr57_0_2, hsr57_0_2⟩⟩
   ·refine Sc ?_
    refine thenQ_nrm ?_
    refine Sq (Rg [0, 1] ?_)
    refine Ld hs51.at3 ?_
    refine St0 (kExpr x0 a0_2 n0_2) hs51 (fun w67 hs68 => ?_)
    refine Nt ?_
    refine Rt ?_
    refine thenQ_ret ?_
    obtain rfl := some_inj h56
    exact ⟨rfl, (.agg (kExpr x0 a0_2 n0_2)), res_of (l := [.cell 6 33]) (by kernel_rfl) (vs := [(.agg (kExpr x0 a0_2 n0_2))]) ⟨b30, 0, rfl, run_loadVar' (t := 33) (g := true) (s := 3) (by kernel_rfl) hs68.at0 rfl (by decide), trivial⟩, (.agg (kExpr x0 a0_2 n0_2)), F2, rfl, hs68.clear, ⟨a0_2, n0_2, rfl, hb0_2, (SlA.mono hs0_2 (le35.trans le52))⟩⟩
  ·refine Sc ?_
   refine thenQ_nrm ?_
   refine Sq ?_
   refine Sq (Rg [0, 1] ?_)
   refine Vs 1 ?_
   refine Ld hs34.at3 ?_
   refine Nt ?_
   refine Bk ?_
   refine Sq (Rg [0, 1] ?_)
   refine Vs 2 ?_
   refine Nt ?_
   refine Cd h45 (fun hb69 h70 => ?_) (fun hb69 h71 => ?_)
   ·refine Sq ?_
    refine Sq (Rg [0, 1] ?_)
    refine Ld hs34.at2 ?_
    obtain ⟨r72, hr73, h74⟩ := bind_some h70
    refine Cl' co_ref06_is hs34 (c_ref06_is N w33 F1 hs34.pers (x1) a1_2 n1_2 hb1_2 (SlA.mono hs1_2 le35) (0) _ hr73) ?_
    rintro _ F4 w76 hs77 le78 rfl
    refine Nt ?_
    refine Cd h74 (fun hb80 h81 => ?_) (fun hb80 h82 => ?_)
    ·refine Sq (Rg [0, 1] ?_)
     refine Ld hs77.at1 ?_
     refine St0 (kExpr x2 a2_2 n2_2) hs77 (fun w83 hs84 => ?_)
     refine Nt ?_
     refine Rt ?_
     refine thenQ_ret ?_
     refine blockQ_ret ?_
     refine thenQ_ret ?_
     obtain rfl := some_inj h81
     exact ⟨rfl, (.agg (kExpr x2 a2_2 n2_2)), res_of (l := [.cell 6 33]) (by kernel_rfl) (vs := [(.agg (kExpr x2 a2_2 n2_2))]) ⟨b30, 0, rfl, run_loadVar' (t := 33) (g := true) (s := 3) (by kernel_rfl) hs84.at0 rfl (by decide), trivial⟩, (.agg (kExpr x2 a2_2 n2_2)), F4, rfl, hs84.clear, ⟨a2_2, n2_2, rfl, hb2_2, (SlA.mono hs2_2 (le35.trans le78))⟩⟩
    ·refine Sc ?_
     refine thenQ_nrm ?_
     refine Sq (Rg [0, 1] ?_)
     refine Ld hs77.at1 ?_
     obtain ⟨r85, hr86, h87⟩ := bind_some h82
     refine Cl' co_ref06_is hs77 (c_ref06_is N w76 F4 hs77.pers (x2) a2_2 n2_2 hb2_2 (SlA.mono hs2_2 (le35.trans le78)) (0) _ hr86) ?_
     rintro _ F5 w89 hs90 le91 rfl
     refine Nt ?_
     refine Cd h87 (fun hb93 h94 => ?_) (fun hb93 h95 => ?_)
     ·refine Sq (Rg [0, 1] ?_)
      refine Ld hs90.at2 ?_
      refine St0 (kExpr x1 a1_2 n1_2) hs90 (fun w96 hs97 => ?_)
      refine Nt ?_
      refine Rt ?_
      refine blockQ_ret ?_
      refine thenQ_ret ?_
      obtain rfl := some_inj h94
      exact ⟨rfl, (.agg (kExpr x1 a1_2 n1_2)), res_of (l := [.cell 6 33]) (by kernel_rfl) (vs := [(.agg (kExpr x1 a1_2 n1_2))]) ⟨b30, 0, rfl, run_loadVar' (t := 33) (g := true) (s := 3) (by kernel_rfl) hs97.at0 rfl (by decide), trivial⟩, (.agg (kExpr x1 a1_2 n1_2)), F5, rfl, hs97.clear, ⟨a1_2, n1_2, rfl, hb1_2, (SlA.mono hs1_2 ((le35.trans le78).trans le91))⟩⟩
     ·refine Sc ?_
      refine blockQ_nrm ?_
      refine thenQ_nrm ?_
      refine Sq (Rg [0, 1] ?_)
      refine Ld hs90.at3 ?_
      refine St0 (kExpr x0 a0_2 n0_2) hs90 (fun w98 hs99 => ?_)
      refine Nt ?_
      refine Rt ?_
      obtain rfl := some_inj h95
      exact ⟨rfl, (.agg (kExpr x0 a0_2 n0_2)), res_of (l := [.cell 6 33]) (by kernel_rfl) (vs := [(.agg (kExpr x0 a0_2 n0_2))]) ⟨b30, 0, rfl, run_loadVar' (t := 33) (g := true) (s := 3) (by kernel_rfl) hs99.at0 rfl (by decide), trivial⟩, (.agg (kExpr x0 a0_2 n0_2)), F5, rfl, hs99.clear, ⟨a0_2, n0_2, rfl, hb0_2, (SlA.mono hs0_2 ((le35.trans le78).trans le91))⟩⟩
   ·refine Sq (Rg [0, 1] ?_)
    refine Vs 2 ?_
    refine Nt ?_
    refine Cd h71 (fun hb100 h101 => ?_) (fun hb100 h102 => ?_)
    ·refine Sq ?_
     refine Sq (Rg [0, 1] ?_)
     refine Ld hs34.at1 ?_
     obtain ⟨r103, hr104, h105⟩ := bind_some h101
     refine Cl' co_ref06_is hs34 (c_ref06_is N w33 F1 hs34.pers (x2) a2_2 n2_2 hb2_2 (SlA.mono hs2_2 le35) (0) _ hr104) ?_
     rintro _ F6 w107 hs108 le109 rfl
     refine Nt ?_
     refine Cd h105 (fun hb111 h112 => ?_) (fun hb111 h113 => ?_)
     ·refine Sq (Rg [0, 1] ?_)
      refine Ld hs108.at2 ?_
      refine St0 (kExpr x1 a1_2 n1_2) hs108 (fun w114 hs115 => ?_)
      refine Nt ?_
      refine Rt ?_
      refine thenQ_ret ?_
      refine blockQ_ret ?_
      refine thenQ_ret ?_
      obtain rfl := some_inj h112
      exact ⟨rfl, (.agg (kExpr x1 a1_2 n1_2)), res_of (l := [.cell 6 33]) (by kernel_rfl) (vs := [(.agg (kExpr x1 a1_2 n1_2))]) ⟨b30, 0, rfl, run_loadVar' (t := 33) (g := true) (s := 3) (by kernel_rfl) hs115.at0 rfl (by decide), trivial⟩, (.agg (kExpr x1 a1_2 n1_2)), F6, rfl, hs115.clear, ⟨a1_2, n1_2, rfl, hb1_2, (SlA.mono hs1_2 (le35.trans le109))⟩⟩
     ·refine Sc ?_
      refine thenQ_nrm ?_
      refine Sq (Rg [0, 1, 2] ?_)
      refine Ld hs108.at2 ?_
      refine Ld hs108.at1 ?_
      obtain ⟨r116, hr117, h118⟩ := bind_some h113
      refine Cl' co_ref06_Equal hs108 (c_ref06_Equal N w107 F6 hs108.pers (x1) a1_2 n1_2 hb1_2 (SlA.mono hs1_2 (le35.trans le109)) (x2) a2_2 n2_2 hb2_2 (SlA.mono hs2_2 (le35.trans le109)) _ hr117) ?_
      rintro _ F7 w120 hs121 le122 rfl
      refine Nt ?_
      refine Cd h118 (fun hb124 h125 => ?_) (fun hb124 h126 => ?_)
      ·refine Sq (Rg [0, 1] ?_)
       obtain ⟨r127, hr128, h129⟩ := bind_some h125
       refine Cl' co_ref06_number hs121 (c_ref06_number N w120 F7 hs121.pers (0) _ hr128) ?_
       rintro _ F8 w131 hs132 le133 ⟨ar127_0_2, nr127_0_2, rfl, hbr127_0_2, hsr127_0_2⟩
       refine St0 (kExpr r127 ar127_0_2 nr127_0_2) hs132 (fun w135 hs136 => ?_)
       refine Nt ?_
       refine Rt ?_
       refine blockQ_ret ?_
       refine thenQ_ret ?_
       obtain rfl := some_inj h129
       exact ⟨rfl, (.agg (kExpr r127 ar127_0_2 nr127_0_2)), res_of (l := [.cell 6 33]) (by kernel_rfl) (vs := [(.agg (kExpr r127 ar127_0_2 nr127_0_2))]) ⟨b30, 0, rfl, run_loadVar' (t := 33) (g := true) (s := 3) (by kernel_rfl) hs136.at0 rfl (by decide), trivial⟩, (.agg (kExpr r127 ar127_0_2 nr127_0_2)), F8, rfl, hs136.clear, ⟨ar127_0_2, nr127_0_2, rfl, hbr127_0_2, hsr127_0_2⟩⟩
      ·refine Sc ?_
       refine blockQ_nrm ?_
       refine thenQ_nrm ?_
       refine Sq (Rg [0, 1] ?_)
       refine Ld hs121.at3 ?_
       refine St0 (kExpr x0 a0_2 n0_2) hs121 (fun w137 hs138 => ?_)
       refine Nt ?_
       refine Rt ?_
       obtain rfl := some_inj h126
       exact ⟨rfl, (.agg (kExpr x0 a0_2 n0_2)), res_of (l := [.cell 6 33]) (by kernel_rfl) (vs := [(.agg (kExpr x0 a0_2 n0_2))]) ⟨b30, 0, rfl, run_loadVar' (t := 33) (g := true) (s := 3) (by kernel_rfl) hs138.at0 rfl (by decide), trivial⟩, (.agg (kExpr x0 a0_2 n0_2)), F7, rfl, hs138.clear, ⟨a0_2, n0_2, rfl, hb0_2, (SlA.mono hs0_2 ((le35.trans le109).trans le122))⟩⟩
    ·refine Sq (Rg [0, 1] ?_)
     refine Vs 2 ?_
     refine Nt ?_
     refine Cd h102 (fun hb139 h140 => ?_) (fun hb139 h141 => ?_)
     ·refine Sq ?_
      refine Sq (Rg [0, 1] ?_)
      refine Ld hs34.at2 ?_
      obtain ⟨r142, hr143, h144⟩ := bind_some h140
      refine Cl' co_ref06_is hs34 (c_ref06_is N w33 F1 hs34.pers (x1) a1_2 n1_2 hb1_2 (SlA.mono hs1_2 le35) (1) _ hr143) ?_
      rintro _ F9 w146 hs147 le148 rfl
      refine Nt ?_
      refine Cd h144 (fun hb150 h151 => ?_) (fun hb150 h152 => ?_)
      ·refine Sq (Rg [0, 1] ?_)
       refine Ld hs147.at1 ?_
       refine St0 (kExpr x2 a2_2 n2_2) hs147 (fun w153 hs154 => ?_)
       refine Nt ?_
       refine Rt ?_
       refine thenQ_ret ?_
       refine blockQ_ret ?_
       refine thenQ_ret ?_
       obtain rfl := some_inj h151
       exact ⟨rfl, (.agg (kExpr x2 a2_2 n2_2)), res_of (l := [.cell 6 33]) (by kernel_rfl) (vs := [(.agg (kExpr x2 a2_2 n2_2))]) ⟨b30, 0, rfl, run_loadVar' (t := 33) (g := true) (s := 3) (by kernel_rfl) hs154.at0 rfl (by decide), trivial⟩, (.agg (kExpr x2 a2_2 n2_2)), F9, rfl, hs154.clear, ⟨a2_2, n2_2, rfl, hb2_2, (SlA.mono hs2_2 (le35.trans le148))⟩⟩
      ·refine Sc ?_
       refine thenQ_nrm ?_
       refine Sq ?_
       refine Sq (Rg [0, 1] ?_)
       refine Ld hs147.at1 ?_
       obtain ⟨r155, hr156, h157⟩ := bind_some h152
       refine Cl' co_ref06_is hs147 (c_ref06_is N w146 F9 hs147.pers (x2) a2_2 n2_2 hb2_2 (SlA.mono hs2_2 (le35.trans le148)) (1) _ hr156) ?_
       rintro _ F10 w159 hs160 le161 rfl
       refine Nt ?_
       refine Cd h157 (fun hb163 h164 => ?_) (fun hb163 h165 => ?_)
       ·refine Sq (Rg [0, 1] ?_)
        refine Ld hs160.at2 ?_
        refine St0 (kExpr x1 a1_2 n1_2) hs160 (fun w166 hs167 => ?_)
        refine Nt ?_
        refine Rt ?_
        refine thenQ_ret ?_
        refine blockQ_ret ?_
        refine thenQ_ret ?_
        obtain rfl := some_inj h164
        exact ⟨rfl, (.agg (kExpr x1 a1_2 n1_2)), res_of (l := [.cell 6 33]) (by kernel_rfl) (vs := [(.agg (kExpr x1 a1_2 n1_2))]) ⟨b30, 0, rfl, run_loadVar' (t := 33) (g := true) (s := 3) (by kernel_rfl) hs167.at0 rfl (by decide), trivial⟩, (.agg (kExpr x1 a1_2 n1_2)), F10, rfl, hs167.clear, ⟨a1_2, n1_2, rfl, hb1_2, (SlA.mono hs1_2 ((le35.trans le148).trans le161))⟩⟩
       ·refine Sc ?_
        refine thenQ_nrm ?_
        refine Sq (Rg [0, 1, 2, 3, 4, 5] ?_)
        obtain ⟨j171, hj176, h177⟩ := bind_some h165
        refine RWP.cut (fun f w => ∃ (F11 : Mem), HS w0 F0 w F11 [(sb b30 #[(vi 0), (vi 0), (.slice none ([] : List Expr).length 0)] 33), (sb b21 (kExpr x0 a0_2 n0_2) 33)] ∧ Mem.le F10 F11 ∧ FI f [] [(3, (pt b21 0)), (6, (pt b30 0)), (55, (.bool j171))]) ?_ ?_
        ·refine Ld hs160.at2 ?_
         obtain ⟨r178, hr179, h180⟩ := bind_some hj176
         refine Cl' co_ref06_is hs160 (c_ref06_is N w159 F10 hs160.pers (x1) a1_2 n1_2 hb1_2 (SlA.mono hs1_2 ((le35.trans le148).trans le161)) (0) _ hr179) ?_
         rintro _ F12 w182 hs183 le184 rfl
         refine Vs 1 ?_
         refine Sp h180 (fun hb186 h187 => ?_) (fun hb186 h188 => ?_)
         ·refine Ss hb186 2 ?_
          refine Pk1 hb186 ?_
          obtain rfl := some_inj h187
          exact RWP.nil ⟨rfl, F12, hs183.dr1.dr1, le184, fI⟩
         ·refine Lg hb186 hs183.at1 ?_
          obtain ⟨r189, hr190, h191⟩ := bind_some h188
          refine Cg hb186 co_ref06_is hs183 (c_ref06_is N w182 F12 hs183.pers (x2) a2_2 n2_2 hb2_2 (SlA.mono hs2_2 (((le35.trans le148).trans le161).trans le184)) (0) _ hr190) ?_
          rintro _ F13 w193 hs194 le195 rfl
          refine Pk0 hb186 ?_
          obtain rfl := some_inj h191
          exact RWP.nil ⟨rfl, F13, hs194.dr1.dr1, (le184.trans le195), fI⟩
        ·rintro f w168 ⟨F11, hs169, le170, ⟨_, rfl⟩⟩
         refine thenQ_nrm ?_
         refine Cd h177 (fun hb197 h198 => ?_) (fun hb197 h199 => ?_)
         ·refine Sq (Rg [0, 1] ?_)
          obtain ⟨r200, hr201, h202⟩ := bind_some h198
          refine Cl' co_ref06_number hs169 (c_ref06_number N w168 F11 hs169.pers (0) _ hr201) ?_
          rintro _ F14 w204 hs205 le206 ⟨ar200_0_2, nr200_0_2, rfl, hbr200_0_2, hsr200_0_2⟩
          refine St0 (kExpr r200 ar200_0_2 nr200_0_2) hs205 (fun w208 hs209 => ?_)
          refine Nt ?_
          refine Rt ?_
          refine blockQ_ret ?_
          refine thenQ_ret ?_
          obtain rfl := some_inj h202
          exact ⟨rfl, (.agg (kExpr r200 ar200_0_2 nr200_0_2)), res_of (l := [.cell 6 33]) (by kernel_rfl) (vs := [(.agg (kExpr r200 ar200_0_2 nr200_0_2))]) ⟨b30, 0, rfl, run_loadVar' (t := 33) (g := true) (s := 3) (by kernel_rfl) hs209.at0 rfl (by decide), trivial⟩, (.agg (kExpr r200 ar200_0_2 nr200_0_2)), F14, rfl, hs209.clear, ⟨ar200_0_2, nr200_0_2, rfl, hbr200_0_2, hsr200_0_2⟩⟩
         ·refine Sc ?_
          refine blockQ_nrm ?_
          refine thenQ_nrm ?_
          refine Sq (Rg [0, 1] ?_)
          refine Ld hs169.at1 ?_
          refine St0 (kExpr x0 a0_2 n0_2) hs169 (fun w210 hs211 => ?_)
          refine Nt ?_
          refine Rt ?_
          obtain rfl := some_inj h199
          exact ⟨rfl, (.agg (kExpr x0 a0_2 n0_2)), res_of (l := [.cell 6 33]) (by kernel_rfl) (vs := [(.agg (kExpr x0 a0_2 n0_2))]) ⟨b30, 0, rfl, run_loadVar' (t := 33) (g := true) (s := 3) (by kernel_rfl) hs211.at0 rfl (by decide), trivial⟩, (.agg (kExpr x0 a0_2 n0_2)), F11, rfl, hs211.clear, ⟨a0_2, n0_2, rfl, hb0_2, (SlA.mono hs0_2 (((le35.trans le148).trans le161).trans le170))⟩⟩
     ·refine Sc ?_
      refine blockQ_nrm ?_
      refine thenQ_nrm ?_
      refine Sq (Rg [0, 1] ?_)
      refine Ld hs34.at3 ?_
      refine St0 (kExpr x0 a0_2 n0_2) hs34 (fun w212 hs213 => ?_)
      refine Nt ?_
      refine Rt ?_
      obtain rfl := some_inj h141
      exact ⟨rfl, (.agg (kExpr x0 a0_2 n0_2)), res_of (l := [.cell 6 33]) (by kernel_rfl) (vs := [(.agg (kExpr x0 a0_2 n0_2))]) ⟨b30, 0, rfl, run_loadVar' (t := 33) (g := true) (s := 3) (by kernel_rfl) hs213.at0 rfl (by decide), trivial⟩, (.agg (kExpr x0 a0_2 n0_2)), F1, rfl, hs213.clear, ⟨a0_2, n0_2, rfl, hb0_2, (SlA.mono hs0_2 le35)⟩⟩
end Go.Proofs.YtaihlcdkcampbaaGreatDoor
namespace Go.Proofs.YtaihlcdkcampbaaGreatDoor
open Go.Proofs
def ref06_simplified (N : Nat) (x0 : Expr) : Option Expr :=
 (bif (x0.Op == 3) then ((idx x0.Kids 0).bind fun x30 => (((ref06_truth N true).bind fun r62 => ((ref06_Equal N x30 r62).bind fun r70 => (bif r70 then some true else ((ref06_truth N false).bind fun r81 => ((ref06_Equal N x30 r81).bind fun r89 => some r89))))).bind fun j54 => (bif j54 then (((ref06_truth N false).bind fun r110 => ((ref06_Equal N x30 r110).bind fun r118 => ((ref06_truth N r118).bind fun r126 => some (r126.Op, r126.Value, r126.Kids)))).bind fun j105 => some ({ Op := j105.1, Value := j105.2.1, Kids := j105.2.2 } : Expr)) else (bif (x30.Op == 3) then ((idx x30.Kids 0).bind fun x139 => some x139) else some x0)))) else (bif (bif (x0.Op == 4) then (x0.Op == 4) else (x0.Op == 5)) then (((idx x0.Kids 0).bind fun x179 => ((idx x0.Kids 1).bind fun x193 => ((ref06_joined N x0 x179 x193).bind fun r199 => some (r199.Op, r199.Value, r199.Kids)))).bind fun j174 => some ({ Op := j174.1, Value := j174.2.1, Kids := j174.2.2 } : Expr)) else (bif (bif (x0.Op == 6) then (x0.Op == 6) else (x0.Op == 7)) then ((idx x0.Kids 0).bind fun x221 => ((idx x0.Kids 1).bind fun x240 => ((bif (x221.Op == 1) then (bif (x240.Op == 1) then some true else ((ref06_Equal N x221 x240).bind fun r269 => some r269)) else ((ref06_Equal N x221 x240).bind fun r277 => some r277)).bind fun j254 => (bif j254 then (((ref06_Equal N x221 x240).bind fun r296 => (bif r296 then (bif (x0.Op == 6) then ((ref06_truth N true).bind fun r310 => some (r310.Op, r310.Value, r310.Kids)) else (bif (x221.Op == 1) then (bif (x240.Op == 1) then (bif (x0.Op == 7) then ((ref06_truth N (decide (x221.Value < x240.Value))).bind fun r329 => some (r329.Op, r329.Value, r329.Kids)) else ((ref06_truth N false).bind fun r339 => some (r339.Op, r339.Value, r339.Kids))) else ((ref06_truth N false).bind fun r349 => some (r349.Op, r349.Value, r349.Kids))) else ((ref06_truth N false).bind fun r359 => some (r359.Op, r359.Value, r359.Kids)))) else (bif (x221.Op == 1) then (bif (x240.Op == 1) then (bif (x0.Op == 7) then ((ref06_truth N (decide (x221.Value < x240.Value))).bind fun r378 => some (r378.Op, r378.Value, r378.Kids)) else ((ref06_truth N false).bind fun r388 => some (r388.Op, r388.Value, r388.Kids))) else ((ref06_truth N false).bind fun r398 => some (r398.Op, r398.Value, r398.Kids))) else ((ref06_truth N false).bind fun r408 => some (r408.Op, r408.Value, r408.Kids))))).bind fun j291 => some ({ Op := j291.1, Value := j291.2.1, Kids := j291.2.2 } : Expr)) else some x0)))) else (bif (bif (x0.Op == 8) then (x0.Op == 8) else (bif (x0.Op == 9) then (x0.Op == 9) else (x0.Op == 10))) then (((idx x0.Kids 0).bind fun x451 => ((idx x0.Kids 1).bind fun x465 => ((ref06_reckoned N x0 x451 x465).bind fun r471 => some (r471.Op, r471.Value, r471.Kids)))).bind fun j446 => some ({ Op := j446.1, Value := j446.2.1, Kids := j446.2.2 } : Expr)) else (bif (x0.Op == 11) then (((idx x0.Kids 0).bind fun x496 => ((ref06_truth N true).bind fun r510 => ((ref06_Equal N x496 r510).bind fun r518 => (bif r518 then some true else ((idx x0.Kids 1).bind fun x529 => ((idx x0.Kids 2).bind fun x535 => ((ref06_Equal N x529 x535).bind fun r541 => some r541))))))).bind fun j489 => (bif j489 then ((idx x0.Kids 1).bind fun x552 => some x552) else (((idx x0.Kids 0).bind fun x580 => ((ref06_truth N false).bind fun r594 => ((ref06_Equal N x580 r594).bind fun r602 => some r602))).bind fun j573 => (bif j573 then ((idx x0.Kids 2).bind fun x613 => some x613) else some x0)))) else some x0)))))
theorem co_ref06_simplified : CallOk Tryz.prog 149 := fun _ _ => by kernel_rfl
theorem c_ref06_simplified (N : Nat) (w0 : World) (F0 : Mem) (hF : ∀ b o, F0 b = some o → w0.heap[b]? = some o) (x0 : Expr) (a0_2 : Option Addr) (n0_2 : Nat) (hb0_2 : LC x0.Kids.length n0_2) (hs0_2 : SlA tExpr F0 a0_2 x0.Kids) (r : Expr) (h : ref06_simplified N x0 = some r) :
  Calls Tryz.prog 149 ([(.agg (kExpr x0 a0_2 n0_2))] : List Value).toArray w0 (FRet w0 F0 fun F' v => ∃ (aq0_2 : Option Addr) (nq0_2 : Nat), v = (.agg (kExpr r aq0_2 nq0_2)) ∧ LC r.Kids.length nq0_2 ∧ SlA tExpr F' aq0_2 r.Kids) := by
 have hs0 := HS.start hF
 refine Go 149 Tryz.func149 ?_
 refine Sq (Rg [0, 1] ?_)
 refine Bx' 33 (kExpr x0 a0_2 n0_2) hs0 (fun b21 w22 hs23 => ?_)
 refine Al' 33 #[(vi 0), (vi 0), (.slice none ([] : List Expr).length 0)] hs23 (fun b24 w25 hs26 => ?_)
 refine Nss ?_
 refine Sq (Rg [0, 1] ?_)
 refine Vs 1 ?_
 refine Ld hs26.at1 ?_
 refine Nt ?_
 refine Bk ?_
 refine Sq (Rg [0, 1] ?_)
 refine Vs 2 ?_
 refine Nt ?_
 refine Cd h (fun hb27 h28 => ?_) (fun hb27 h29 => ?_)
 ·refine Sq (Rg [0, 1, 2, 3, 4, 5] ?_)
  refine Vs 1 ?_
  refine Ld hs26.at1 ?_
  obtain ⟨x30, hx31, h33⟩ := bind_some h28
  obtain ⟨hi32, hx31'⟩ := idx_spec hx31
  obtain ⟨b34, o35, C36, E37, fz38, rfl, hF40, hE41⟩ := SlA.open hs0_2 hx31'
  obtain ⟨ae42_2, ne42_2, hc43, hbe42_2, hse42_2⟩ := (tExpr_open (hE41 _ _ hx31'))
  refine Ix hi32 ?_
  refine Lx 0 (hs26.pers _ _ hF40) hc43 ?_
  refine Al' 33 #[(vi 0), (vi 0), (.slice none ([] : List Expr).length 0)] hs26 (fun b44 w45 hs46 => ?_)
  refine St0 (kExpr x30 ae42_2 ne42_2) hs46 (fun w47 hs48 => ?_)
  refine Nss ?_
  refine Sq ?_
  obtain ⟨j54, hj60, h61⟩ := bind_some h33
  refine RD 8 8 [(sb b44 (kExpr x30 ae42_2 ne42_2) 33), (sb b24 #[(vi 0), (vi 0), (.slice none ([] : List Expr).length 0)] 33), (sb b21 (kExpr x0 (some ⟨b34, o35, none⟩) n0_2) 33)] [] hs48 (fun f w => ∃ (F1 : Mem), HS w0 F0 w F1 [(sb b44 (kExpr x30 ae42_2 ne42_2) 33), (sb b24 #[(vi 0), (vi 0), (.slice none ([] : List Expr).length 0)] 33), (sb b21 (kExpr x0 (some ⟨b34, o35, none⟩) n0_2) 33)] ∧ Mem.le F0 F1 ∧ FI f [] [(1, (pt b21 0)), (2, (pt b24 0)), (3, (pt b44 0)), (21, (.bool j54))]) (fun wd49 hw50 => ?_) ?_
  ·refine Dl 0 (fun _ hq => (hq.1.2 0 _ _ rfl)) ?_
   refine D1 1 ?_
   obtain ⟨r62, hr63, h64⟩ := bind_some hj60
   refine DCl co_ref06_truth hw50 (c_ref06_truth N wd49 F0 hw50.pers (true) _ hr63) ?_
   rintro _ F2 w66 hs67 le68 ⟨ar62_0_2, nr62_0_2, rfl, hbr62_0_2, hsr62_0_2⟩
   refine D1 2 ?_
   obtain ⟨r70, hr71, h72⟩ := bind_some h64
   refine DCl co_ref06_Equal hs67 (c_ref06_Equal N w66 F2 hs67.pers (x30) ae42_2 ne42_2 hbe42_2 (SlA.mono hse42_2 le68) (r62) ar62_0_2 nr62_0_2 hbr62_0_2 hsr62_0_2 _ hr71) ?_
   rintro _ F3 w74 hs75 le76 rfl
   refine Dv [3] ?_
   refine Sd h72 (fun hb78 h79 => ?_) (fun hb78 h80 => ?_)
   ·refine Dk [(4, 18), (5, 19), (6, 20)] 3 false 17 hb78 ?_
    refine Dt 7 21 4 _ (fun _ hq => p1 17 (.const (.bool true)) (.tmp 20) (.bool true) hb78) ?_
    obtain rfl := some_inj h79
    exact DWP.done (by kernel_rfl) ⟨F3, hs75, (le68.trans le76), fI⟩
   ·refine Dg 4 18 33 _ 3 false 17 hb78 (fun _ hq => ld 33 3 b44 0 true 3 (.agg (kExpr x30 ae42_2 ne42_2)) (hq.1.2 0 _ _ rfl)) ?_
    refine D1 5 ?_
    obtain ⟨r81, hr82, h83⟩ := bind_some h80
    refine DStep.call (l' := [true, true, true, true, true, true, false, false]) (zd := true) (by kernel_rfl) (by kernel_rfl) (by kernel_rfl) (dst := (some 19)) (ty := 33) (g := (some (3, false))) (by kernel_rfl) (gd_y (d := 17) (by kernel_rfl) rfl hb78) (f0 := (.func 193)) (aos := #[(.const (.bool false))]) (ats := #[4]) (fid := 193) (first := #[]) (cap := #[]) (args := [(.bool false)]) rfl co_ref06_truth (rfl) hs75 (c_ref06_truth N w74 F3 hs75.pers (false) _ hr82) ?_
    rintro _ F4 w85 hs86 le87 ⟨ar81_0_2, nr81_0_2, rfl, hbr81_0_2, hsr81_0_2⟩
    refine D1 6 ?_
    obtain ⟨r89, hr90, h91⟩ := bind_some h83
    refine DStep.call (l' := [true, true, true, true, true, true, true, false]) (zd := true) (by kernel_rfl) (by kernel_rfl) (by kernel_rfl) (dst := (some 20)) (ty := 4) (g := (some (3, false))) (by kernel_rfl) (gd_y (d := 17) (by kernel_rfl) rfl hb78) (f0 := (.func 27)) (aos := #[(.tmp 18), (.tmp 19)]) (ats := #[33, 33]) (fid := 27) (first := #[]) (cap := #[]) (args := [(.agg (kExpr x30 ae42_2 ne42_2)), (.agg (kExpr r81 ar81_0_2 nr81_0_2))]) rfl co_ref06_Equal (rfl) hs86 (c_ref06_Equal N w85 F4 hs86.pers (x30) ae42_2 ne42_2 hbe42_2 (SlA.mono hse42_2 ((le68.trans le76).trans le87)) (r81) ar81_0_2 nr81_0_2 hbr81_0_2 hsr81_0_2 _ hr90) ?_
    rintro _ F5 w93 hs94 le95 rfl
    refine Dt 7 21 4 _ (fun _ hq => p0 17 (.const (.bool true)) (.tmp 20) (.bool r89) hb78) ?_
    obtain rfl := some_inj h91
    exact DWP.done (by kernel_rfl) ⟨F5, hs94, (((le68.trans le76).trans le87).trans le95), fI⟩
  ·rintro f w51 ⟨F1, hs52, le53, ⟨_, rfl⟩⟩
   refine thenQ_nrm ?_
   refine Cd h61 (fun hb97 h98 => ?_) (fun hb97 h99 => ?_)
   ·refine Sq ?_
    obtain ⟨j105, hj108, h109⟩ := bind_some h98
    refine RD 4 5 [(sb b44 (kExpr x30 ae42_2 ne42_2) 33), (sb b21 (kExpr x0 (some ⟨b34, o35, none⟩) n0_2) 33)] [(sb b24 #[(vi 0), (vi 0), (.slice none ([] : List Expr).length 0)] 33)] hs52 (fun f w => ∃ (F6 : Mem) (aj105_2 : Option Addr) (nj105_2 : Nat), HS w0 F0 w F6 [(sb b24 #[(vi j105.1), (vi j105.2.1), (.slice aj105_2 j105.2.2.length nj105_2)] 33)] ∧ Mem.le F1 F6 ∧ FI f [] [(2, (pt b24 0))] ∧ LC j105.2.2.length nj105_2 ∧ SlA tExpr F6 aj105_2 j105.2.2) (fun wd100 hw101 => ?_) ?_
    ·refine Dl 0 (fun _ hq => (hq.1.2 0 _ _ rfl)) ?_
     refine D1 1 ?_
     obtain ⟨r110, hr111, h112⟩ := bind_some hj108
     refine DCl co_ref06_truth hw101 (c_ref06_truth N wd100 F1 hw101.pers (false) _ hr111) ?_
     rintro _ F7 w114 hs115 le116 ⟨ar110_0_2, nr110_0_2, rfl, hbr110_0_2, hsr110_0_2⟩
     refine D1 2 ?_
     obtain ⟨r118, hr119, h120⟩ := bind_some h112
     refine DCl co_ref06_Equal hs115 (c_ref06_Equal N w114 F7 hs115.pers (x30) ae42_2 ne42_2 hbe42_2 (SlA.mono hse42_2 (le53.trans le116)) (r110) ar110_0_2 nr110_0_2 hbr110_0_2 hsr110_0_2 _ hr119) ?_
     rintro _ F8 w122 hs123 le124 rfl
     refine D1 3 ?_
     obtain ⟨r126, hr127, h128⟩ := bind_some h120
     refine DCl co_ref06_truth hs123 (c_ref06_truth N w122 F8 hs123.pers (r118) _ hr127) ?_
     rintro _ F9 w130 hs131 le132 ⟨ar126_0_2, nr126_0_2, rfl, hbr126_0_2, hsr126_0_2⟩
     refine D1 4 ?_
     refine DSt1 (kExpr r126 ar126_0_2 nr126_0_2) hs131 ((le116.trans le124).trans le132) (fun w134 hs135 => ?_)
     obtain rfl := some_inj h128
     exact DWP.done (by kernel_rfl) ⟨F9, ar126_0_2, nr126_0_2, hs135.dr0.dr1, ((le116.trans le124).trans le132), fI, hbr126_0_2, hsr126_0_2⟩
    ·rintro f w102 ⟨F6, aj105_2, nj105_2, hs103, le104, ⟨_, rfl⟩, hbj105_2, hsj105_2⟩
     refine thenQ_nrm ?_
     refine Rt ?_
     refine thenQ_ret ?_
     refine blockQ_ret ?_
     refine thenQ_ret ?_
     obtain rfl := some_inj h109
     exact ⟨rfl, (.agg #[(vi j105.1), (vi j105.2.1), (.slice aj105_2 j105.2.2.length nj105_2)]), res_of (l := [.cell 2 33]) (by kernel_rfl) (vs := [(.agg #[(vi j105.1), (vi j105.2.1), (.slice aj105_2 j105.2.2.length nj105_2)])]) ⟨b24, 0, rfl, run_loadVar' (t := 33) (g := true) (s := 3) (by kernel_rfl) hs103.at0 rfl (by decide), trivial⟩, (.agg #[(vi j105.1), (vi j105.2.1), (.slice aj105_2 j105.2.2.length nj105_2)]), F6, rfl, hs103.clear, ⟨aj105_2, nj105_2, rfl, hbj105_2, hsj105_2⟩⟩
   ·refine Sc ?_
    refine thenQ_nrm ?_
    refine Sq (Rg [0, 1, 2] ?_)
    refine Vs 1 ?_
    refine Ld hs52.at0 ?_
    refine Vs 1 ?_
    refine Nt ?_
    refine Cd h99 (fun hb136 h137 => ?_) (fun hb136 h138 => ?_)
    ·refine Sq (Rg [0, 1, 2, 3, 4] ?_)
     refine Vs 1 ?_
     refine Ld hs52.at0 ?_
     obtain ⟨x139, hx140, h142⟩ := bind_some h137
     obtain ⟨hi141, hx140'⟩ := idx_spec hx140
     obtain ⟨b143, o144, C145, E146, fz147, rfl, hF149, hE150⟩ := SlA.open (SlA.mono hse42_2 le53) hx140'
     obtain ⟨ae151_2, ne151_2, hc152, hbe151_2, hse151_2⟩ := (tExpr_open (hE150 _ _ hx140'))
     refine Ix hi141 ?_
     refine Lx 0 (hs52.pers _ _ hF149) hc152 ?_
     refine St1 (kExpr x139 ae151_2 ne151_2) hs52 (fun w153 hs154 => ?_)
     refine Nt ?_
     refine Rt ?_
     refine blockQ_ret ?_
     refine thenQ_ret ?_
     obtain rfl := some_inj h142
     exact ⟨rfl, (.agg (kExpr x139 ae151_2 ne151_2)), res_of (l := [.cell 2 33]) (by kernel_rfl) (vs := [(.agg (kExpr x139 ae151_2 ne151_2))]) ⟨b24, 0, rfl, run_loadVar' (t := 33) (g := true) (s := 3) (by kernel_rfl) hs154.at1 rfl (by decide), trivial⟩, (.agg (kExpr x139 ae151_2 ne151_2)), F1, rfl, hs154.clear, ⟨ae151_2, ne151_2, rfl, hbe151_2, hse151_2⟩⟩
    ·refine Sc ?_
     refine blockQ_nrm ?_
     refine thenQ_nrm ?_
     refine Sq (Rg [0, 1] ?_)
     refine Ld hs52.at2 ?_
     refine St1 (kExpr x0 (some ⟨b34, o35, none⟩) n0_2) hs52 (fun w155 hs156 => ?_)
     refine Nt ?_
     refine Rt ?_
     obtain rfl := some_inj h138
     exact ⟨rfl, (.agg (kExpr x0 (some ⟨b34, o35, none⟩) n0_2)), res_of (l := [.cell 2 33]) (by kernel_rfl) (vs := [(.agg (kExpr x0 (some ⟨b34, o35, none⟩) n0_2))]) ⟨b24, 0, rfl, run_loadVar' (t := 33) (g := true) (s := 3) (by kernel_rfl) hs156.at1 rfl (by decide), trivial⟩, (.agg (kExpr x0 (some ⟨b34, o35, none⟩) n0_2)), F1, rfl, hs156.clear, ⟨(some ⟨b34, o35, none⟩), n0_2, rfl, hb0_2, (SlA.mono hs0_2 le53)⟩⟩
 ·refine Sq ?_
  refine Sq (Rg [0, 1] ?_)
  refine Vs 2 ?_
  refine Nt ?_
  refine CWP.cut (fun f w => ∃ (F10 : Mem), HS w0 F0 w F10 [(sb b24 #[(vi 0), (vi 0), (.slice none ([] : List Expr).length 0)] 33), (sb b21 (kExpr x0 a0_2 n0_2) 33)] ∧ Mem.le F0 F10 ∧ FI f [] [(1, (pt b21 0)), (2, (pt b24 0)), (7, (vi x0.Op)), (33, (.bool (bif (x0.Op == 4) then (x0.Op == 4) else (x0.Op == 5))))]) ?_ ?_
  ·refine Cp (x0.Op == 4) (fun hb165 => ?_) (fun hb165 => ?_)
   ·refine Sc ?_
    exact .inl ⟨rfl, F0, hs26, (Mem.le.refl _), (fJ ⟨rfl, rfl, rfl, (congrArg Value.bool (bif_t hb165 (rfl))), trivial⟩)⟩
   ·refine Rg [0, 1] ?_
    refine Vs 2 ?_
    refine RWP.nil ?_
    exact .inl ⟨rfl, F0, hs26, (Mem.le.refl _), (fJ ⟨rfl, rfl, rfl, (congrArg Value.bool (bif_f hb165 (rfl))), trivial⟩)⟩
  ·rintro f w157 ⟨F10, hs158, le159, ⟨_, rfl⟩⟩
   refine thenQ_nrm ?_
   refine Cd h29 (fun hb166 h167 => ?_) (fun hb166 h168 => ?_)
   ·refine Sq ?_
    obtain ⟨j174, hj177, h178⟩ := bind_some h167
    refine RD 10 11 [(sb b21 (kExpr x0 a0_2 n0_2) 33)] [(sb b24 #[(vi 0), (vi 0), (.slice none ([] : List Expr).length 0)] 33)] hs158 (fun f w => ∃ (F11 : Mem) (aj174_2 : Option Addr) (nj174_2 : Nat), HS w0 F0 w F11 [(sb b24 #[(vi j174.1), (vi j174.2.1), (.slice aj174_2 j174.2.2.length nj174_2)] 33)] ∧ Mem.le F10 F11 ∧ FI f [] [(2, (pt b24 0))] ∧ LC j174.2.2.length nj174_2 ∧ SlA tExpr F11 aj174_2 j174.2.2) (fun wd169 hw170 => ?_) ?_
    ·refine Dl 0 (fun _ hq => (hq.1.2 0 _ _ rfl)) ?_
     refine Dv [1] ?_
     refine Dl 2 (fun _ hq => (hq.1.2 0 _ _ rfl)) ?_
     obtain ⟨x179, hx180, h182⟩ := bind_some hj177
     obtain ⟨hi181, hx180'⟩ := idx_spec hx180
     obtain ⟨b183, o184, C185, E186, fz187, rfl, hF189, hE190⟩ := SlA.open (SlA.mono hs0_2 le159) hx180'
     obtain ⟨ae191_2, ne191_2, hc192, hbe191_2, hse191_2⟩ := (tExpr_open (hE190 _ _ hx180'))
     refine Di 3 hi181 ?_
     refine Dx 4 0 (fun _ hq => hq.1.1 _ _ hF189) hc192 ?_
     refine Dv [5] ?_
     refine Dl 6 (fun _ hq => (hq.1.2 0 _ _ rfl)) ?_
     obtain ⟨x193, hx194, h196⟩ := bind_some h182
     obtain ⟨hi195, hx194'⟩ := idx_spec hx194
     obtain ⟨ae197_2, ne197_2, hc198, hbe197_2, hse197_2⟩ := (tExpr_open (hE190 _ _ hx194'))
     refine Di 7 hi195 ?_
     refine Dx 8 0 (fun _ hq => hq.1.1 _ _ hF189) hc198 ?_
     refine D1 9 ?_
     obtain ⟨r199, hr200, h201⟩ := bind_some h196
     refine DCl co_ref06_joined hw170 (c_ref06_joined N wd169 F10 hw170.pers (x0) (some ⟨b183, o184, none⟩) n0_2 hb0_2 (SlA.mono hs0_2 le159) (x179) ae191_2 ne191_2 hbe191_2 hse191_2 (x193) ae197_2 ne197_2 hbe197_2 hse197_2 _ hr200) ?_
     rintro _ F12 w203 hs204 le205 ⟨ar199_0_2, nr199_0_2, rfl, hbr199_0_2, hsr199_0_2⟩
     refine D1 10 ?_
     refine DSt0 (kExpr r199 ar199_0_2 nr199_0_2) hs204 le205 (fun w207 hs208 => ?_)
     obtain rfl := some_inj h201
     exact DWP.done (by kernel_rfl) ⟨F12, ar199_0_2, nr199_0_2, hs208.dr1, le205, fI, hbr199_0_2, hsr199_0_2⟩
    ·rintro f w171 ⟨F11, aj174_2, nj174_2, hs172, le173, ⟨_, rfl⟩, hbj174_2, hsj174_2⟩
     refine thenQ_nrm ?_
     refine Rt ?_
     refine blockQ_ret ?_
     refine thenQ_ret ?_
     obtain rfl := some_inj h178
     exact ⟨rfl, (.agg #[(vi j174.1), (vi j174.2.1), (.slice aj174_2 j174.2.2.length nj174_2)]), res_of (l := [.cell 2 33]) (by kernel_rfl) (vs := [(.agg #[(vi j174.1), (vi j174.2.1), (.slice aj174_2 j174.2.2.length nj174_2)])]) ⟨b24, 0, rfl, run_loadVar' (t := 33) (g := true) (s := 3) (by kernel_rfl) hs172.at0 rfl (by decide), trivial⟩, (.agg #[(vi j174.1), (vi j174.2.1), (.slice aj174_2 j174.2.2.length nj174_2)]), F11, rfl, hs172.clear, ⟨aj174_2, nj174_2, rfl, hbj174_2, hsj174_2⟩⟩
   ·refine Sq ?_
    refine Sq (Rg [0, 1] ?_)
    refine Vs 2 ?_
    refine Nt ?_
    refine CWP.cut (fun f w => ∃ (F13 : Mem), HS w0 F0 w F13 [(sb b24 #[(vi 0), (vi 0), (.slice none ([] : List Expr).length 0)] 33), (sb b21 (kExpr x0 a0_2 n0_2) 33)] ∧ Mem.le F10 F13 ∧ FI f [] [(1, (pt b21 0)), (2, (pt b24 0)), (7, (vi x0.Op)), (46, (.bool (bif (x0.Op == 6) then (x0.Op == 6) else (x0.Op == 7))))]) ?_ ?_
    ·refine Cp (x0.Op == 6) (fun hb217 => ?_) (fun hb217 => ?_)
     ·refine Sc ?_
      exact .inl ⟨rfl, F10, hs158, (Mem.le.refl _), (fJ ⟨rfl, rfl, rfl, (congrArg Value.bool (bif_t hb217 (rfl))), trivial⟩)⟩
     ·refine Rg [0, 1] ?_
      refine Vs 2 ?_
      refine RWP.nil ?_
      exact .inl ⟨rfl, F10, hs158, (Mem.le.refl _), (fJ ⟨rfl, rfl, rfl, (congrArg Value.bool (bif_f hb217 (rfl))), trivial⟩)⟩
    ·rintro f w209 ⟨F13, hs210, le211, ⟨_, rfl⟩⟩
     refine thenQ_nrm ?_
     refine Cd h168 (fun hb218 h219 => ?_) (fun hb218 h220 => ?_)
     ·refine Sq (Rg [0, 1, 2, 3, 4, 5] ?_)
      refine Vs 1 ?_
      refine Ld hs210.at1 ?_
      obtain ⟨x221, hx222, h224⟩ := bind_some h219
      obtain ⟨hi223, hx222'⟩ := idx_spec hx222
      obtain ⟨b225, o226, C227, E228, fz229, rfl, hF231, hE232⟩ := SlA.open (SlA.mono hs0_2 (le159.trans le211)) hx222'
      obtain ⟨ae233_2, ne233_2, hc234, hbe233_2, hse233_2⟩ := (tExpr_open (hE232 _ _ hx222'))
      refine Ix hi223 ?_
      refine Lx 0 (hs210.pers _ _ hF231) hc234 ?_
      refine Al' 33 #[(vi 0), (vi 0), (.slice none ([] : List Expr).length 0)] hs210 (fun b235 w236 hs237 => ?_)
      refine St0 (kExpr x221 ae233_2 ne233_2) hs237 (fun w238 hs239 => ?_)
      refine Nss (Rg [0, 1, 2, 3, 4, 5] ?_)
      refine Vs 1 ?_
      refine Ld hs239.at2 ?_
      obtain ⟨x240, hx241, h243⟩ := bind_some h224
      obtain ⟨hi242, hx241'⟩ := idx_spec hx241
      obtain ⟨ae244_2, ne244_2, hc245, hbe244_2, hse244_2⟩ := (tExpr_open (hE232 _ _ hx241'))
      refine Ix hi242 ?_
      refine Lx 0 (hs239.pers _ _ hF231) hc245 ?_
      refine Al' 33 #[(vi 0), (vi 0), (.slice none ([] : List Expr).length 0)] hs239 (fun b246 w247 hs248 => ?_)
      refine St0 (kExpr x240 ae244_2 ne244_2) hs248 (fun w249 hs250 => ?_)
      refine Nss (Rg [0, 1, 2, 3, 4, 5, 6, 7, 8, 9, 10, 11, 12] ?_)
      obtain ⟨j254, hj261, h262⟩ := bind_some h243
      refine RWP.cut (fun f w => ∃ (F14 : Mem), HS w0 F0 w F14 [(sb b246 (kExpr x240 ae244_2 ne244_2) 33), (sb b235 (kExpr x221 ae233_2 ne233_2) 33), (sb b24 #[(vi 0), (vi 0), (.slice none ([] : List Expr).length 0)] 33), (sb b21 (kExpr x0 (some ⟨b225, o226, none⟩) n0_2) 33)] ∧ Mem.le F13 F14 ∧ FI f [] [(1, (pt b21 0)), (2, (pt b24 0)), (4, (pt b235 0)), (5, (pt b246 0)), (69, (.bool j254))]) ?_ ?_
      ·refine Vs 1 ?_
       refine Ld hs250.at1 ?_
       refine Vs 2 ?_
       refine Sp hj261 (fun hb263 h264 => ?_) (fun hb263 h265 => ?_)
       ·refine Vgs hb263 1 ?_
        refine Lg hb263 hs250.at0 ?_
        refine Vgs hb263 1 ?_
        refine Pk1 hb263 ?_
        refine Vs 1 ?_
        refine Sp h264 (fun hb266 h267 => ?_) (fun hb266 h268 => ?_)
        ·refine Ss hb266 3 ?_
         refine Pk1 hb266 ?_
         obtain rfl := some_inj h267
         exact RWP.nil ⟨rfl, F13, hs250, (Mem.le.refl _), fI⟩
        ·refine Lg hb266 hs250.at1 ?_
         refine Lg hb266 hs250.at0 ?_
         obtain ⟨r269, hr270, h271⟩ := bind_some h268
         refine Cg hb266 co_ref06_Equal hs250 (c_ref06_Equal N w249 F13 hs250.pers (x221) ae233_2 ne233_2 hbe233_2 hse233_2 (x240) ae244_2 ne244_2 hbe244_2 hse244_2 _ hr270) ?_
         rintro _ F15 w273 hs274 le275 rfl
         refine Pk0 hb266 ?_
         obtain rfl := some_inj h271
         exact RWP.nil ⟨rfl, F15, hs274, le275, fI⟩
       ·refine Ss hb263 3 ?_
        refine Pk0 hb263 ?_
        refine Vs 1 ?_
        refine Vg 66 33 8 false 65 rfl (ld 33 4 b235 0 true 3 (.agg (kExpr x221 ae233_2 ne233_2)) hs250.at1) ?_
        refine Vg 67 33 8 false 65 rfl (ld 33 5 b246 0 true 3 (.agg (kExpr x240 ae244_2 ne244_2)) hs250.at0) ?_
        obtain ⟨r277, hr278, h279⟩ := bind_some h265
        refine RWP.call (dst := (some 68)) (ty := 4) (g := (some (8, false))) (by kernel_rfl) (gd_y (d := 65) (by kernel_rfl) rfl rfl) (f0 := (.func 27)) (aos := #[(.tmp 66), (.tmp 67)]) (ats := #[33, 33]) (fid := 27) (first := #[]) (cap := #[]) (args := [(.agg (kExpr x221 ae233_2 ne233_2)), (.agg (kExpr x240 ae244_2 ne244_2))]) rfl co_ref06_Equal (rfl) hs250 (c_ref06_Equal N w249 F13 hs250.pers (x221) ae233_2 ne233_2 hbe233_2 hse233_2 (x240) ae244_2 ne244_2 hbe244_2 hse244_2 _ hr278) ?_
        rintro _ F16 w281 hs282 le283 rfl
        refine Pk0 (rfl : false = false) ?_
        obtain rfl := some_inj h279
        exact RWP.nil ⟨rfl, F16, hs282, le283, fI⟩
      ·rintro f w251 ⟨F14, hs252, le253, ⟨_, rfl⟩⟩
       refine thenQ_nrm ?_
       refine Cd h262 (fun hb285 h286 => ?_) (fun hb285 h287 => ?_)
       ·refine Sq (Rg [0, 1, 2, 3, 4, 5, 6, 7, 8, 9, 10, 11, 12, 13, 14, 15, 16, 17, 18, 19, 20, 21, 22, 23, 24, 25, 26, 27, 28, 29, 30, 31] ?_)
        obtain ⟨j291, hj294, h295⟩ := bind_some h286
        refine RWP.cut (fun f w => ∃ (F17 : Mem) (aj291_2 : Option Addr) (nj291_2 : Nat), HS w0 F0 w F17 [(sb b24 #[(vi j291.1), (vi j291.2.1), (.slice aj291_2 j291.2.2.length nj291_2)] 33)] ∧ Mem.le F14 F17 ∧ FI f [] [(2, (pt b24 0))] ∧ LC j291.2.2.length nj291_2 ∧ SlA tExpr F17 aj291_2 j291.2.2) ?_ ?_
        ·refine Ld hs252.at1 ?_
         refine Ld hs252.at0 ?_
         obtain ⟨r296, hr297, h298⟩ := bind_some hj294
         refine Cl' co_ref06_Equal hs252 (c_ref06_Equal N w251 F14 hs252.pers (x221) ae233_2 ne233_2 hbe233_2 (SlA.mono hse233_2 le253) (x240) ae244_2 ne244_2 hbe244_2 (SlA.mono hse244_2 le253) _ hr297) ?_
         rintro _ F18 w300 hs301 le302 rfl
         refine Vs 1 ?_
         refine Sp h298 (fun hb304 h305 => ?_) (fun hb304 h306 => ?_)
         ·refine Vgs hb304 1 ?_
          refine Lg hb304 hs301.at3 ?_
          refine Vgs hb304 1 ?_
          refine Pk1 hb304 ?_
          refine Vs 1 ?_
          refine Sp h305 (fun hb307 h308 => ?_) (fun hb307 h309 => ?_)
          ·refine Ss hb307 4 ?_
           refine Su' 3 ?_
           refine Ss hb307 2 ?_
           refine Su' 3 ?_
           refine Ss hb307 2 ?_
           refine Su' 5 ?_
           refine Ss hb307 1 ?_
           refine Pk1 hb307 ?_
           obtain ⟨r310, hr311, h312⟩ := bind_some h308
           refine Cl' co_ref06_truth hs301 (c_ref06_truth N w300 F18 hs301.pers (true) _ hr311) ?_
           rintro _ F19 w314 hs315 le316 ⟨ar310_0_2, nr310_0_2, rfl, hbr310_0_2, hsr310_0_2⟩
           refine St2 (kExpr r310 ar310_0_2 nr310_0_2) hs315 (fun w318 hs319 => ?_)
           obtain rfl := some_inj h312
           exact RWP.nil ⟨rfl, F19, ar310_0_2, nr310_0_2, hs319.dr0.dr0.dr1, (le302.trans le316), fI, hbr310_0_2, hsr310_0_2⟩
          ·refine Vgs hb307 1 ?_
           refine Lg hb307 hs301.at1 ?_
           refine Vgs hb307 2 ?_
           refine Sp h309 (fun hb320 h321 => ?_) (fun hb320 h322 => ?_)
           ·refine Vgs hb320 1 ?_
            refine Lg hb320 hs301.at0 ?_
            refine Vgs hb320 1 ?_
            refine Pg1 hb307 hb320 ?_
            refine Vgs hb307 1 ?_
            refine Sp h321 (fun hb323 h324 => ?_) (fun hb323 h325 => ?_)
            ·refine Vgs hb323 1 ?_
             refine Lg hb323 hs301.at3 ?_
             refine Vgs hb323 1 ?_
             refine Pg1 hb307 hb323 ?_
             refine Vgs hb307 1 ?_
             refine Sp h324 (fun hb326 h327 => ?_) (fun hb326 h328 => ?_)
             ·refine Vgs hb326 1 ?_
              refine Lg hb326 hs301.at1 ?_
              refine Vgs hb326 1 ?_
              refine Lg hb326 hs301.at0 ?_
              refine Vgs hb326 1 ?_
              refine Pg1 hb307 hb326 ?_
              refine Pk0 hb307 ?_
              obtain ⟨r329, hr330, h331⟩ := bind_some h327
              refine Cl' co_ref06_truth hs301 (c_ref06_truth N w300 F18 hs301.pers ((decide (x221.Value < x240.Value))) _ hr330) ?_
              rintro _ F20 w333 hs334 le335 ⟨ar329_0_2, nr329_0_2, rfl, hbr329_0_2, hsr329_0_2⟩
              refine St2 (kExpr r329 ar329_0_2 nr329_0_2) hs334 (fun w337 hs338 => ?_)
              obtain rfl := some_inj h331
              exact RWP.nil ⟨rfl, F20, ar329_0_2, nr329_0_2, hs338.dr0.dr0.dr1, (le302.trans le335), fI, hbr329_0_2, hsr329_0_2⟩
             ·refine Ss hb326 5 ?_
              refine Pg0 hb307 hb326 ?_
              refine Pk0 hb307 ?_
              obtain ⟨r339, hr340, h341⟩ := bind_some h328
              refine Cl' co_ref06_truth hs301 (c_ref06_truth N w300 F18 hs301.pers (false) _ hr340) ?_
              rintro _ F21 w343 hs344 le345 ⟨ar339_0_2, nr339_0_2, rfl, hbr339_0_2, hsr339_0_2⟩
              refine St2 (kExpr r339 ar339_0_2 nr339_0_2) hs344 (fun w347 hs348 => ?_)
              obtain rfl := some_inj h341
              exact RWP.nil ⟨rfl, F21, ar339_0_2, nr339_0_2, hs348.dr0.dr0.dr1, (le302.trans le345), fI, hbr339_0_2, hsr339_0_2⟩
            ·refine Ss hb323 3 ?_
             refine Pg0 hb307 hb323 ?_
             refine Vgs hb307 1 ?_
             refine Ss (rfl : false = false) 5 ?_
             refine Pg0 hb307 (rfl : false = false) ?_
             refine Pk0 hb307 ?_
             obtain ⟨r349, hr350, h351⟩ := bind_some h325
             refine Cl' co_ref06_truth hs301 (c_ref06_truth N w300 F18 hs301.pers (false) _ hr350) ?_
             rintro _ F22 w353 hs354 le355 ⟨ar349_0_2, nr349_0_2, rfl, hbr349_0_2, hsr349_0_2⟩
             refine St2 (kExpr r349 ar349_0_2 nr349_0_2) hs354 (fun w357 hs358 => ?_)
             obtain rfl := some_inj h351
             exact RWP.nil ⟨rfl, F22, ar349_0_2, nr349_0_2, hs358.dr0.dr0.dr1, (le302.trans le355), fI, hbr349_0_2, hsr349_0_2⟩
           ·refine Ss hb320 3 ?_
            refine Pg0 hb307 hb320 ?_
            refine Vgs hb307 1 ?_
            refine Ss (rfl : false = false) 3 ?_
            refine Pg0 hb307 (rfl : false = false) ?_
            refine Vgs hb307 1 ?_
            refine Ss (rfl : false = false) 5 ?_
            refine Pg0 hb307 (rfl : false = false) ?_
            refine Pk0 hb307 ?_
            obtain ⟨r359, hr360, h361⟩ := bind_some h322
            refine Cl' co_ref06_truth hs301 (c_ref06_truth N w300 F18 hs301.pers (false) _ hr360) ?_
            rintro _ F23 w363 hs364 le365 ⟨ar359_0_2, nr359_0_2, rfl, hbr359_0_2, hsr359_0_2⟩
            refine St2 (kExpr r359 ar359_0_2 nr359_0_2) hs364 (fun w367 hs368 => ?_)
            obtain rfl := some_inj h361
            exact RWP.nil ⟨rfl, F23, ar359_0_2, nr359_0_2, hs368.dr0.dr0.dr1, (le302.trans le365), fI, hbr359_0_2, hsr359_0_2⟩
         ·refine Ss hb304 3 ?_
          refine Pk0 hb304 ?_
          refine Vs 1 ?_
          refine Vg 79 0 8 false 78 rfl (fa 33 4 0 0 1 b235 0 0) ?_
          refine Vg 80 3 8 false 78 rfl (ld 3 79 b235 0 false 1 (vi x221.Op) hs301.at1) ?_
          refine Vg 81 4 8 false 78 rfl (run_eql (t := 3) (t' := 3) (x := (.tmp 80)) (y := (.const (vi 1))) (k := .i64) (a := x221.Op) (b := 1) rfl rfl) ?_
          refine Vg 82 4 8 false 78 rfl (mv 81 (.bool (x221.Op == 1))) ?_
          refine Sp h306 (fun hb369 h370 => ?_) (fun hb369 h371 => ?_)
          ·refine Vgs hb369 1 ?_
           refine Lg hb369 hs301.at0 ?_
           refine Vgs hb369 1 ?_
           refine Vg 86 4 8 false 78 rfl (p1 82 (.tmp 85) (.const (.bool false)) (.bool (x240.Op == 1)) hb369) ?_
           refine Vg 87 4 8 false 78 rfl (mv 86 (.bool (x240.Op == 1))) ?_
           refine Sp h370 (fun hb372 h373 => ?_) (fun hb372 h374 => ?_)
           ·refine Vgs hb372 1 ?_
            refine Lg hb372 hs301.at3 ?_
            refine Vgs hb372 1 ?_
            refine Vg 91 4 8 false 78 rfl (p1 87 (.tmp 90) (.const (.bool false)) (.bool (x0.Op == 7)) hb372) ?_
            refine Vg 92 4 8 false 78 rfl (mv 91 (.bool (x0.Op == 7))) ?_
            refine Sp h373 (fun hb375 h376 => ?_) (fun hb375 h377 => ?_)
            ·refine Vgs hb375 1 ?_
             refine Lg hb375 hs301.at1 ?_
             refine Vgs hb375 1 ?_
             refine Lg hb375 hs301.at0 ?_
             refine Vgs hb375 1 ?_
             refine Vg 98 4 8 false 78 rfl (p1 92 (.tmp 97) (.const (.bool false)) (.bool (decide (x221.Value < x240.Value))) hb375) ?_
             refine Pk0 (rfl : false = false) ?_
             obtain ⟨r378, hr379, h380⟩ := bind_some h376
             refine Cl' co_ref06_truth hs301 (c_ref06_truth N w300 F18 hs301.pers ((decide (x221.Value < x240.Value))) _ hr379) ?_
             rintro _ F24 w382 hs383 le384 ⟨ar378_0_2, nr378_0_2, rfl, hbr378_0_2, hsr378_0_2⟩
             refine St2 (kExpr r378 ar378_0_2 nr378_0_2) hs383 (fun w386 hs387 => ?_)
             obtain rfl := some_inj h380
             exact RWP.nil ⟨rfl, F24, ar378_0_2, nr378_0_2, hs387.dr0.dr0.dr1, (le302.trans le384), fI, hbr378_0_2, hsr378_0_2⟩
            ·refine Ss hb375 5 ?_
             refine Vg 98 4 8 false 78 rfl (p0 92 (.tmp 97) (.const (.bool false)) (.bool false) hb375) ?_
             refine Pk0 (rfl : false = false) ?_
             obtain ⟨r388, hr389, h390⟩ := bind_some h377
             refine Cl' co_ref06_truth hs301 (c_ref06_truth N w300 F18 hs301.pers (false) _ hr389) ?_
             rintro _ F25 w392 hs393 le394 ⟨ar388_0_2, nr388_0_2, rfl, hbr388_0_2, hsr388_0_2⟩
             refine St2 (kExpr r388 ar388_0_2 nr388_0_2) hs393 (fun w396 hs397 => ?_)
             obtain rfl := some_inj h390
             exact RWP.nil ⟨rfl, F25, ar388_0_2, nr388_0_2, hs397.dr0.dr0.dr1, (le302.trans le394), fI, hbr388_0_2, hsr388_0_2⟩
           ·refine Ss hb372 3 ?_
            refine Vg 91 4 8 false 78 rfl (p0 87 (.tmp 90) (.const (.bool false)) (.bool false) hb372) ?_
            refine Vg 92 4 8 false 78 rfl (mv 91 (.bool false)) ?_
            refine Ss (rfl : false = false) 5 ?_
            refine Vg 98 4 8 false 78 rfl (p0 92 (.tmp 97) (.const (.bool false)) (.bool false) rfl) ?_
            refine Pk0 (rfl : false = false) ?_
            obtain ⟨r398, hr399, h400⟩ := bind_some h374
            refine Cl' co_ref06_truth hs301 (c_ref06_truth N w300 F18 hs301.pers (false) _ hr399) ?_
            rintro _ F26 w402 hs403 le404 ⟨ar398_0_2, nr398_0_2, rfl, hbr398_0_2, hsr398_0_2⟩
            refine St2 (kExpr r398 ar398_0_2 nr398_0_2) hs403 (fun w406 hs407 => ?_)
            obtain rfl := some_inj h400
            exact RWP.nil ⟨rfl, F26, ar398_0_2, nr398_0_2, hs407.dr0.dr0.dr1, (le302.trans le404), fI, hbr398_0_2, hsr398_0_2⟩
          ·refine Ss hb369 3 ?_
           refine Vg 86 4 8 false 78 rfl (p0 82 (.tmp 85) (.const (.bool false)) (.bool false) hb369) ?_
           refine Vg 87 4 8 false 78 rfl (mv 86 (.bool false)) ?_
           refine Ss (rfl : false = false) 3 ?_
           refine Vg 91 4 8 false 78 rfl (p0 87 (.tmp 90) (.const (.bool false)) (.bool false) rfl) ?_
           refine Vg 92 4 8 false 78 rfl (mv 91 (.bool false)) ?_
           refine Ss (rfl : false = false) 5 ?_
           refine Vg 98 4 8 false 78 rfl (p0 92 (.tmp 97) (.const (.bool false)) (.bool false) rfl) ?_
           refine Pk0 (rfl : false = false) ?_
           obtain ⟨r408, hr409, h410⟩ := bind_some h371
           refine Cl' co_ref06_truth hs301 (c_ref06_truth N w300 F18 hs301.pers (false) _ hr409) ?_
           rintro _ F27 w412 hs413 le414 ⟨ar408_0_2, nr408_0_2, rfl, hbr408_0_2, hsr408_0_2⟩
           refine St2 (kExpr r408 ar408_0_2 nr408_0_2) hs413 (fun w416 hs417 => ?_)
           obtain rfl := some_inj h410
           exact RWP.nil ⟨rfl, F27, ar408_0_2, nr408_0_2, hs417.dr0.dr0.dr1, (le302.trans le414), fI, hbr408_0_2, hsr408_0_2⟩
        ·rintro f w288 ⟨F17, aj291_2, nj291_2, hs289, le290, ⟨_, rfl⟩, hbj291_2, hsj291_2⟩
         refine thenQ_nrm ?_
         refine Rt ?_
         refine blockQ_ret ?_
         refine thenQ_ret ?_
         obtain rfl := some_inj h295
         exact ⟨rfl, (.agg #[(vi j291.1), (vi j291.2.1), (.slice aj291_2 j291.2.2.length nj291_2)]), res_of (l := [.cell 2 33]) (by kernel_rfl) (vs := [(.agg #[(vi j291.1), (vi j291.2.1), (.slice aj291_2 j291.2.2.length nj291_2)])]) ⟨b24, 0, rfl, run_loadVar' (t := 33) (g := true) (s := 3) (by kernel_rfl) hs289.at0 rfl (by decide), trivial⟩, (.agg #[(vi j291.1), (vi j291.2.1), (.slice aj291_2 j291.2.2.length nj291_2)]), F17, rfl, hs289.clear, ⟨aj291_2, nj291_2, rfl, hbj291_2, hsj291_2⟩⟩
       ·refine Sc ?_
        refine blockQ_nrm ?_
        refine thenQ_nrm ?_
        refine Sq (Rg [0, 1] ?_)
        refine Ld hs252.at3 ?_
        refine St2 (kExpr x0 (some ⟨b225, o226, none⟩) n0_2) hs252 (fun w418 hs419 => ?_)
        refine Nt ?_
        refine Rt ?_
        obtain rfl := some_inj h287
        exact ⟨rfl, (.agg (kExpr x0 (some ⟨b225, o226, none⟩) n0_2)), res_of (l := [.cell 2 33]) (by kernel_rfl) (vs := [(.agg (kExpr x0 (some ⟨b225, o226, none⟩) n0_2))]) ⟨b24, 0, rfl, run_loadVar' (t := 33) (g := true) (s := 3) (by kernel_rfl) hs419.at2 rfl (by decide), trivial⟩, (.agg (kExpr x0 (some ⟨b225, o226, none⟩) n0_2)), F14, rfl, hs419.clear, ⟨(some ⟨b225, o226, none⟩), n0_2, rfl, hb0_2, (SlA.mono hs0_2 ((le159.trans le211).trans le253))⟩⟩
     ·refine Sq ?_
      refine Sq (Rg [0, 1] ?_)
      refine Vs 2 ?_
      refine Nt ?_
      refine CWP.cut (fun f w => ∃ (F28 : Mem), HS w0 F0 w F28 [(sb b24 #[(vi 0), (vi 0), (.slice none ([] : List Expr).length 0)] 33), (sb b21 (kExpr x0 a0_2 n0_2) 33)] ∧ Mem.le F13 F28 ∧ FI f [] [(1, (pt b21 0)), (2, (pt b24 0)), (7, (vi x0.Op)), (101, (.bool (bif (x0.Op == 8) then (x0.Op == 8) else (bif (x0.Op == 9) then (x0.Op == 9) else (x0.Op == 10)))))]) ?_ ?_
      ·refine Cp (x0.Op == 8) (fun hb428 => ?_) (fun hb428 => ?_)
       ·refine Sc ?_
        exact .inl ⟨rfl, F13, hs210, (Mem.le.refl _), (fJ ⟨rfl, rfl, rfl, (congrArg Value.bool (bif_t hb428 (rfl))), trivial⟩)⟩
       ·refine Sq (Rg [0, 1] ?_)
        refine Vs 2 ?_
        refine Nt ?_
        refine CWP.cut (fun f w => ∃ (F29 : Mem), HS w0 F0 w F29 [(sb b24 #[(vi 0), (vi 0), (.slice none ([] : List Expr).length 0)] 33), (sb b21 (kExpr x0 a0_2 n0_2) 33)] ∧ Mem.le F13 F29 ∧ FI f [] [(1, (pt b21 0)), (2, (pt b24 0)), (7, (vi x0.Op)), (101, (.bool (bif (x0.Op == 9) then (x0.Op == 9) else (x0.Op == 10))))]) ?_ ?_
        ·refine Cp (x0.Op == 9) (fun hb437 => ?_) (fun hb437 => ?_)
         ·refine Sc ?_
          exact .inl ⟨rfl, F13, hs210, (Mem.le.refl _), (fJ ⟨rfl, rfl, rfl, (congrArg Value.bool (bif_t hb437 (rfl))), trivial⟩)⟩
         ·refine Rg [0, 1] ?_
          refine Vs 2 ?_
          refine RWP.nil ?_
          exact .inl ⟨rfl, F13, hs210, (Mem.le.refl _), (fJ ⟨rfl, rfl, rfl, (congrArg Value.bool (bif_f hb437 (rfl))), trivial⟩)⟩
        ·rintro f w429 ⟨F29, hs430, le431, ⟨_, rfl⟩⟩
         exact .inl ⟨rfl, F29, hs430, le431, (fJ ⟨rfl, rfl, rfl, (congrArg Value.bool (bif_f hb428 (rfl))), trivial⟩)⟩
      ·rintro f w420 ⟨F28, hs421, le422, ⟨_, rfl⟩⟩
       refine thenQ_nrm ?_
       refine Cd h220 (fun hb438 h439 => ?_) (fun hb438 h440 => ?_)
       ·refine Sq ?_
        obtain ⟨j446, hj449, h450⟩ := bind_some h439
        refine RD 10 11 [(sb b21 (kExpr x0 a0_2 n0_2) 33)] [(sb b24 #[(vi 0), (vi 0), (.slice none ([] : List Expr).length 0)] 33)] hs421 (fun f w => ∃ (F30 : Mem) (aj446_2 : Option Addr) (nj446_2 : Nat), HS w0 F0 w F30 [(sb b24 #[(vi j446.1), (vi j446.2.1), (.slice aj446_2 j446.2.2.length nj446_2)] 33)] ∧ Mem.le F28 F30 ∧ FI f [] [(2, (pt b24 0))] ∧ LC j446.2.2.length nj446_2 ∧ SlA tExpr F30 aj446_2 j446.2.2) (fun wd441 hw442 => ?_) ?_
        ·refine Dl 0 (fun _ hq => (hq.1.2 0 _ _ rfl)) ?_
         refine Dv [1] ?_
         refine Dl 2 (fun _ hq => (hq.1.2 0 _ _ rfl)) ?_
         obtain ⟨x451, hx452, h454⟩ := bind_some hj449
         obtain ⟨hi453, hx452'⟩ := idx_spec hx452
         obtain ⟨b455, o456, C457, E458, fz459, rfl, hF461, hE462⟩ := SlA.open (SlA.mono hs0_2 ((le159.trans le211).trans le422)) hx452'
         obtain ⟨ae463_2, ne463_2, hc464, hbe463_2, hse463_2⟩ := (tExpr_open (hE462 _ _ hx452'))
         refine Di 3 hi453 ?_
         refine Dx 4 0 (fun _ hq => hq.1.1 _ _ hF461) hc464 ?_
         refine Dv [5] ?_
         refine Dl 6 (fun _ hq => (hq.1.2 0 _ _ rfl)) ?_
         obtain ⟨x465, hx466, h468⟩ := bind_some h454
         obtain ⟨hi467, hx466'⟩ := idx_spec hx466
         obtain ⟨ae469_2, ne469_2, hc470, hbe469_2, hse469_2⟩ := (tExpr_open (hE462 _ _ hx466'))
         refine Di 7 hi467 ?_
         refine Dx 8 0 (fun _ hq => hq.1.1 _ _ hF461) hc470 ?_
         refine D1 9 ?_
         obtain ⟨r471, hr472, h473⟩ := bind_some h468
         refine DCl co_ref06_reckoned hw442 (c_ref06_reckoned N wd441 F28 hw442.pers (x0) (some ⟨b455, o456, none⟩) n0_2 hb0_2 (SlA.mono hs0_2 ((le159.trans le211).trans le422)) (x451) ae463_2 ne463_2 hbe463_2 hse463_2 (x465) ae469_2 ne469_2 hbe469_2 hse469_2 _ hr472) ?_
         rintro _ F31 w475 hs476 le477 ⟨ar471_0_2, nr471_0_2, rfl, hbr471_0_2, hsr471_0_2⟩
         refine D1 10 ?_
         refine DSt0 (kExpr r471 ar471_0_2 nr471_0_2) hs476 le477 (fun w479 hs480 => ?_)
         obtain rfl := some_inj h473
         exact DWP.done (by kernel_rfl) ⟨F31, ar471_0_2, nr471_0_2, hs480.dr1, le477, fI, hbr471_0_2, hsr471_0_2⟩
        ·rintro f w443 ⟨F30, aj446_2, nj446_2, hs444, le445, ⟨_, rfl⟩, hbj446_2, hsj446_2⟩
         refine thenQ_nrm ?_
         refine Rt ?_
         refine blockQ_ret ?_
         refine thenQ_ret ?_
         obtain rfl := some_inj h450
         exact ⟨rfl, (.agg #[(vi j446.1), (vi j446.2.1), (.slice aj446_2 j446.2.2.length nj446_2)]), res_of (l := [.cell 2 33]) (by kernel_rfl) (vs := [(.agg #[(vi j446.1), (vi j446.2.1), (.slice aj446_2 j446.2.2.length nj446_2)])]) ⟨b24, 0, rfl, run_loadVar' (t := 33) (g := true) (s := 3) (by kernel_rfl) hs444.at0 rfl (by decide), trivial⟩, (.agg #[(vi j446.1), (vi j446.2.1), (.slice aj446_2 j446.2.2.length nj446_2)]), F30, rfl, hs444.clear, ⟨aj446_2, nj446_2, rfl, hbj446_2, hsj446_2⟩⟩
       ·refine Sq (Rg [0, 1] ?_)
        refine Vs 2 ?_
        refine Nt ?_
        refine Cd h440 (fun hb481 h482 => ?_) (fun hb481 h483 => ?_)
        ·refine Sq ?_
         refine Sq ?_
         obtain ⟨j489, hj494, h495⟩ := bind_some h482
         refine RD 17 17 [(sb b24 #[(vi 0), (vi 0), (.slice none ([] : List Expr).length 0)] 33), (sb b21 (kExpr x0 a0_2 n0_2) 33)] [] hs421 (fun f w => ∃ (F32 : Mem), HS w0 F0 w F32 [(sb b24 #[(vi 0), (vi 0), (.slice none ([] : List Expr).length 0)] 33), (sb b21 (kExpr x0 a0_2 n0_2) 33)] ∧ Mem.le F28 F32 ∧ FI f [] [(1, (pt b21 0)), (2, (pt b24 0)), (133, (.bool j489))]) (fun wd484 hw485 => ?_) ?_
         ·refine Dv [0] ?_
          refine Dl 1 (fun _ hq => (hq.1.2 1 _ _ rfl)) ?_
          obtain ⟨x496, hx497, h499⟩ := bind_some hj494
          obtain ⟨hi498, hx497'⟩ := idx_spec hx497
          obtain ⟨b500, o501, C502, E503, fz504, rfl, hF506, hE507⟩ := SlA.open (SlA.mono hs0_2 ((le159.trans le211).trans le422)) hx497'
          obtain ⟨ae508_2, ne508_2, hc509, hbe508_2, hse508_2⟩ := (tExpr_open (hE507 _ _ hx497'))
          refine Di 2 hi498 ?_
          refine Dx 3 0 (fun _ hq => hq.1.1 _ _ hF506) hc509 ?_
          refine D1 4 ?_
          obtain ⟨r510, hr511, h512⟩ := bind_some h499
          refine DCl co_ref06_truth hw485 (c_ref06_truth N wd484 F28 hw485.pers (true) _ hr511) ?_
          rintro _ F33 w514 hs515 le516 ⟨ar510_0_2, nr510_0_2, rfl, hbr510_0_2, hsr510_0_2⟩
          refine D1 5 ?_
          obtain ⟨r518, hr519, h520⟩ := bind_some h512
          refine DCl co_ref06_Equal hs515 (c_ref06_Equal N w514 F33 hs515.pers (x496) ae508_2 ne508_2 hbe508_2 (SlA.mono hse508_2 le516) (r510) ar510_0_2 nr510_0_2 hbr510_0_2 hsr510_0_2 _ hr519) ?_
          rintro _ F34 w522 hs523 le524 rfl
          refine Dv [6] ?_
          refine Sd h520 (fun hb526 h527 => ?_) (fun hb526 h528 => ?_)
          ·refine Dk [(7, 124), (8, 125), (9, 126), (10, 127), (11, 128), (12, 129), (13, 130), (14, 131), (15, 132)] 6 false 123 hb526 ?_
           refine Dt 16 133 4 _ (fun _ hq => p1 123 (.const (.bool true)) (.tmp 132) (.bool true) hb526) ?_
           obtain rfl := some_inj h527
           exact DWP.done (by kernel_rfl) ⟨F34, hs523, (le516.trans le524), fI⟩
          ·refine Dg 7 124 0 (pt b21 2) 6 false 123 hb526 (fun _ hq => fa 33 1 2 2 1 b21 0 2) ?_
           refine Dg 8 125 24 _ 6 false 123 hb526 (fun _ hq => ld 24 124 b21 2 false 1 (.slice (some ⟨b500, o501, none⟩) x0.Kids.length n0_2) (hq.1.2 1 _ _ rfl)) ?_
           obtain ⟨x529, hx530, h532⟩ := bind_some h528
           obtain ⟨hi531, hx530'⟩ := idx_spec hx530
           obtain ⟨ae533_2, ne533_2, hc534, hbe533_2, hse533_2⟩ := (tExpr_open (hE507 _ _ hx530'))
           refine Dg 9 126 0 (.pointer (some ⟨b500, (o501 + (1 : Int).toNat * 3), none⟩)) 6 false 123 hb526 (fun _ hq => run_index (t := 24) (x := (.tmp 125)) (y := (.const (vi 1))) (b := b500) (o := o501) (E := 33) (s := 3) (by_ := 40) rfl rfl (by kernel_rfl) hi531) ?_
           refine Dg 10 127 33 _ 6 false 123 hb526 (fun _ hq => lx 33 126 0 3 true 3 (.agg (kExpr x529 ae533_2 ne533_2)) (hq.1.1 _ _ hF506) hc534) ?_
           refine Dg 11 128 0 (pt b21 2) 6 false 123 hb526 (fun _ hq => fa 33 1 2 2 1 b21 0 2) ?_
           refine Dg 12 129 24 _ 6 false 123 hb526 (fun _ hq => ld 24 128 b21 2 false 1 (.slice (some ⟨b500, o501, none⟩) x0.Kids.length n0_2) (hq.1.2 1 _ _ rfl)) ?_
           obtain ⟨x535, hx536, h538⟩ := bind_some h532
           obtain ⟨hi537, hx536'⟩ := idx_spec hx536
           obtain ⟨ae539_2, ne539_2, hc540, hbe539_2, hse539_2⟩ := (tExpr_open (hE507 _ _ hx536'))
           refine Dg 13 130 0 (.pointer (some ⟨b500, (o501 + (2 : Int).toNat * 3), none⟩)) 6 false 123 hb526 (fun _ hq => run_index (t := 24) (x := (.tmp 129)) (y := (.const (vi 2))) (b := b500) (o := o501) (E := 33) (s := 3) (by_ := 40) rfl rfl (by kernel_rfl) hi537) ?_
           refine Dg 14 131 33 _ 6 false 123 hb526 (fun _ hq => lx 33 130 0 3 true 3 (.agg (kExpr x535 ae539_2 ne539_2)) (hq.1.1 _ _ hF506) hc540) ?_
           refine D1 15 ?_
           obtain ⟨r541, hr542, h543⟩ := bind_some h538
           refine DStep.call (l' := [true, true, true, true, true, true, true, true, true, true, true, true, true, true, true, true, false]) (zd := true) (by kernel_rfl) (by kernel_rfl) (by kernel_rfl) (dst := (some 132)) (ty := 4) (g := (some (6, false))) (by kernel_rfl) (gd_y (d := 123) (by kernel_rfl) rfl hb526) (f0 := (.func 27)) (aos := #[(.tmp 127), (.tmp 131)]) (ats := #[33, 33]) (fid := 27) (first := #[]) (cap := #[]) (args := [(.agg (kExpr x529 ae533_2 ne533_2)), (.agg (kExpr x535 ae539_2 ne539_2))]) rfl co_ref06_Equal (rfl) hs523 (c_ref06_Equal N w522 F34 hs523.pers (x529) ae533_2 ne533_2 hbe533_2 (SlA.mono hse533_2 (le516.trans le524)) (x535) ae539_2 ne539_2 hbe539_2 (SlA.mono hse539_2 (le516.trans le524)) _ hr542) ?_
           rintro _ F35 w545 hs546 le547 rfl
           refine Dt 16 133 4 _ (fun _ hq => p0 123 (.const (.bool true)) (.tmp 132) (.bool r541) hb526) ?_
           obtain rfl := some_inj h543
           exact DWP.done (by kernel_rfl) ⟨F35, hs546, ((le516.trans le524).trans le547), fI⟩
         ·rintro f w486 ⟨F32, hs487, le488, ⟨_, rfl⟩⟩
          refine thenQ_nrm ?_
          refine Cd h495 (fun hb549 h550 => ?_) (fun hb549 h551 => ?_)
          ·refine Sq (Rg [0, 1, 2, 3, 4] ?_)
           refine Vs 1 ?_
           refine Ld hs487.at1 ?_
           obtain ⟨x552, hx553, h555⟩ := bind_some h550
           obtain ⟨hi554, hx553'⟩ := idx_spec hx553
           obtain ⟨b556, o557, C558, E559, fz560, rfl, hF562, hE563⟩ := SlA.open (SlA.mono hs0_2 (((le159.trans le211).trans le422).trans le488)) hx553'
           obtain ⟨ae564_2, ne564_2, hc565, hbe564_2, hse564_2⟩ := (tExpr_open (hE563 _ _ hx553'))
           refine Ix hi554 ?_
           refine Lx 0 (hs487.pers _ _ hF562) hc565 ?_
           refine St0 (kExpr x552 ae564_2 ne564_2) hs487 (fun w566 hs567 => ?_)
           refine Nt ?_
           refine Rt ?_
           refine thenQ_ret ?_
           refine blockQ_ret ?_
           refine thenQ_ret ?_
           obtain rfl := some_inj h555
           exact ⟨rfl, (.agg (kExpr x552 ae564_2 ne564_2)), res_of (l := [.cell 2 33]) (by kernel_rfl) (vs := [(.agg (kExpr x552 ae564_2 ne564_2))]) ⟨b24, 0, rfl, run_loadVar' (t := 33) (g := true) (s := 3) (by kernel_rfl) hs567.at0 rfl (by decide), trivial⟩, (.agg (kExpr x552 ae564_2 ne564_2)), F32, rfl, hs567.clear, ⟨ae564_2, ne564_2, rfl, hbe564_2, hse564_2⟩⟩
          ·refine Sc ?_
           refine thenQ_nrm ?_
           refine Sq ?_
           obtain ⟨j573, hj578, h579⟩ := bind_some h551
           refine RD 6 6 [(sb b24 #[(vi 0), (vi 0), (.slice none ([] : List Expr).length 0)] 33), (sb b21 (kExpr x0 a0_2 n0_2) 33)] [] hs487 (fun f w => ∃ (F36 : Mem), HS w0 F0 w F36 [(sb b24 #[(vi 0), (vi 0), (.slice none ([] : List Expr).length 0)] 33), (sb b21 (kExpr x0 a0_2 n0_2) 33)] ∧ Mem.le F32 F36 ∧ FI f [] [(1, (pt b21 0)), (2, (pt b24 0)), (143, (.bool j573))]) (fun wd568 hw569 => ?_) ?_
           ·refine Dv [0] ?_
            refine Dl 1 (fun _ hq => (hq.1.2 1 _ _ rfl)) ?_
            obtain ⟨x580, hx581, h583⟩ := bind_some hj578
            obtain ⟨hi582, hx581'⟩ := idx_spec hx581
            obtain ⟨b584, o585, C586, E587, fz588, rfl, hF590, hE591⟩ := SlA.open (SlA.mono hs0_2 (((le159.trans le211).trans le422).trans le488)) hx581'
            obtain ⟨ae592_2, ne592_2, hc593, hbe592_2, hse592_2⟩ := (tExpr_open (hE591 _ _ hx581'))
            refine Di 2 hi582 ?_
            refine Dx 3 0 (fun _ hq => hq.1.1 _ _ hF590) hc593 ?_
            refine D1 4 ?_
            obtain ⟨r594, hr595, h596⟩ := bind_some h583
            refine DCl co_ref06_truth hw569 (c_ref06_truth N wd568 F32 hw569.pers (false) _ hr595) ?_
            rintro _ F37 w598 hs599 le600 ⟨ar594_0_2, nr594_0_2, rfl, hbr594_0_2, hsr594_0_2⟩
            refine D1 5 ?_
            obtain ⟨r602, hr603, h604⟩ := bind_some h596
            refine DCl co_ref06_Equal hs599 (c_ref06_Equal N w598 F37 hs599.pers (x580) ae592_2 ne592_2 hbe592_2 (SlA.mono hse592_2 le600) (r594) ar594_0_2 nr594_0_2 hbr594_0_2 hsr594_0_2 _ hr603) ?_
            rintro _ F38 w606 hs607 le608 rfl
            obtain rfl := some_inj h604
            exact DWP.done (by kernel_rfl) ⟨F38, hs607, (le600.trans le608), fI⟩
           ·rintro f w570 ⟨F36, hs571, le572, ⟨_, rfl⟩⟩
            refine thenQ_nrm ?_
            refine Cd h579 (fun hb610 h611 => ?_) (fun hb610 h612 => ?_)
            ·refine Sq (Rg [0, 1, 2, 3, 4] ?_)
             refine Vs 1 ?_
             refine Ld hs571.at1 ?_
             obtain ⟨x613, hx614, h616⟩ := bind_some h611
             obtain ⟨hi615, hx614'⟩ := idx_spec hx614
             obtain ⟨b617, o618, C619, E620, fz621, rfl, hF623, hE624⟩ := SlA.open (SlA.mono hs0_2 ((((le159.trans le211).trans le422).trans le488).trans le572)) hx614'
             obtain ⟨ae625_2, ne625_2, hc626, hbe625_2, hse625_2⟩ := (tExpr_open (hE624 _ _ hx614'))
             refine Ix hi615 ?_
             refine Lx 0 (hs571.pers _ _ hF623) hc626 ?_
             refine St0 (kExpr x613 ae625_2 ne625_2) hs571 (fun w627 hs628 => ?_)
             refine Nt ?_
             refine Rt ?_
             refine blockQ_ret ?_
             refine thenQ_ret ?_
             obtain rfl := some_inj h616
             exact ⟨rfl, (.agg (kExpr x613 ae625_2 ne625_2)), res_of (l := [.cell 2 33]) (by kernel_rfl) (vs := [(.agg (kExpr x613 ae625_2 ne625_2))]) ⟨b24, 0, rfl, run_loadVar' (t := 33) (g := true) (s := 3) (by kernel_rfl) hs628.at0 rfl (by decide), trivial⟩, (.agg (kExpr x613 ae625_2 ne625_2)), F36, rfl, hs628.clear, ⟨ae625_2, ne625_2, rfl, hbe625_2, hse625_2⟩⟩
            ·refine Sc ?_
             refine blockQ_nrm ?_
             refine thenQ_nrm ?_
             refine Sq (Rg [0, 1] ?_)
             refine Ld hs571.at1 ?_
             refine St0 (kExpr x0 a0_2 n0_2) hs571 (fun w629 hs630 => ?_)
             refine Nt ?_
             refine Rt ?_
             obtain rfl := some_inj h612
             exact ⟨rfl, (.agg (kExpr x0 a0_2 n0_2)), res_of (l := [.cell 2 33]) (by kernel_rfl) (vs := [(.agg (kExpr x0 a0_2 n0_2))]) ⟨b24, 0, rfl, run_loadVar' (t := 33) (g := true) (s := 3) (by kernel_rfl) hs630.at0 rfl (by decide), trivial⟩, (.agg (kExpr x0 a0_2 n0_2)), F36, rfl, hs630.clear, ⟨a0_2, n0_2, rfl, hb0_2, (SlA.mono hs0_2 ((((le159.trans le211).trans le422).trans le488).trans le572))⟩⟩
        ·refine Sc ?_
         refine blockQ_nrm ?_
         refine thenQ_nrm ?_
         refine Sq (Rg [0, 1] ?_)
         refine Ld hs421.at1 ?_
         refine St0 (kExpr x0 a0_2 n0_2) hs421 (fun w631 hs632 => ?_)
         refine Nt ?_
         refine Rt ?_
         obtain rfl := some_inj h483
         exact ⟨rfl, (.agg (kExpr x0 a0_2 n0_2)), res_of (l := [.cell 2 33]) (by kernel_rfl) (vs := [(.agg (kExpr x0 a0_2 n0_2))]) ⟨b24, 0, rfl, run_loadVar' (t := 33) (g := true) (s := 3) (by kernel_rfl) hs632.at0 rfl (by decide), trivial⟩, (.agg (kExpr x0 a0_2 n0_2)), F28, rfl, hs632.clear, ⟨a0_2, n0_2, rfl, hb0_2, (SlA.mono hs0_2 ((le159.trans le211).trans le422))⟩⟩
end Go.Proofs.YtaihlcdkcampbaaGreatDoor
namespace Go.Proofs.YtaihlcdkcampbaaGreatDoor
def cst (n : Int) : Expr := ⟨1, n, []⟩
def TT (b : Bool) : Expr := ⟨bif b then 6 else 7, 0, [cst 0, cst 0]⟩
theorem kd_cst {n : Int} (h1 : 0 ≤ n) (h2 : n ≤ 1000000) : kd (cst n) = 1 := by
 rw [kd_eq]; show (if 0 ≤ n ∧ n ≤ 1000000 ∧ ([] : List Expr).map kd = [] then (1 : Int) else 0) = 1
 rw [if_pos ⟨h1, h2, rfl⟩]
theorem kd_TT (b : Bool) : kd (TT b) = 2 := by
 rw [kd_eq]
 have h := kd_cst (n := 0) (by decide) (by decide)
 have : (TT b).Kids.map kd = [1, 1] := by show [kd (cst 0), kd (cst 0)] = [1, 1]; rw [h]
 cases b <;> (rw [this]; decide)
theorem ht_cst {M n : Nat} (a : Int) (hM : 2 < M) : Ht M (n + 1) (cst a) := ⟨by show 0 < M; omega, by show 0 < 9223372036854775808; omega, fun x hx => by cases hx⟩
theorem ht_TT {M n : Nat} (b : Bool) (hM : 2 < M) : Ht M (n + 2) (TT b) := ⟨hM, by show 2 < 9223372036854775808; omega, fun x hx => by
 have : x ∈ [cst 0, cst 0] := hx
 simp at this
 rw [this]; exact ht_cst 0 hM⟩
theorem TT_ht {M n : Nat} {b : Bool} (h : Ht M n (TT b)) : 2 ≤ n := by
 match n, h with
 | 0, h => exact h.elim
 | 1, h => exact (h.2.2 (cst 0) (List.mem_cons_self ..)).elim
 | n + 2, _ => omega
section
variable {N : Nat}
theorem m_truthOf (b : Bool) : rules_truthOf N b = some (TT b) := rfl
theorem m_rtruth (b : Bool) : ref06_truth N b = some (TT b) := rfl
theorem m_isTruth {x : Expr} (h : Fit N x) (b : Bool) : rules_isTruth N x b = some (eqv x (TT b)) := by
 unfold rules_isTruth; rw [m_truthOf, Option.bind_some, s_same h]; rfl
def Step (N n : Nat) (e : Expr) : Prop := ∃ r, rules_simpler N e = some r ∧ ref06_simplified N e = some r ∧ kd r = kd e ∧ Ht N n r
theorem step_deny {n : Nat} {x : Expr} (hN : 2 * n + 10 ≤ N) (h : Ht N n ⟨3, 0, [x]⟩) (hk : kd ⟨3, 0, [x]⟩ = 2) (hx : kd x = 2) : Step N n ⟨3, 0, [x]⟩ := by
 obtain ⟨m, rfl⟩ : ∃ m, n = m + 1 := by cases n with | zero => exact h.elim | succ m => exact ⟨m, rfl⟩
 have hxh : Ht N m x := h.2.2 x (List.mem_cons_self ..)
 have fx : Fit N x := ⟨m, hxh, by omega⟩
 have i0 : idx (⟨3, 0, [x]⟩ : Expr).Kids 0 = some x := rfl
 have h1 : rules_simpler N ⟨3, 0, [x]⟩ = bif eqv x (TT true) || eqv x (TT false) then some (TT (eqv x (TT false))) else if x.Op = 3 then (idx x.Kids 0) else some ⟨3, 0, [x]⟩ := by
  unfold rules_simpler
  show (bif (1 : Int) == 0 then _ else _) = _
  rw [show ((1 : Int) == 0) = false from rfl, cond_false, i0, Option.bind_some, show ((⟨3, 0, [x]⟩ : Expr).Op == 3) = true from rfl, cond_true, m_isTruth fx, m_isTruth fx]
  simp only [Option.bind_some]
  cases eqv x (TT true) <;> cases eqv x (TT false) <;> simp only [cond_true, cond_false, Option.bind_some, Bool.or_true, Bool.or_false, m_truthOf]
  by_cases ho : x.Op = 3
  ·rw [if_pos ho, show (x.Op == 3) = true by simpa using ho, cond_true]; cases idx x.Kids 0 <;> rfl
  ·rw [if_neg ho, show (x.Op == 3) = false by simpa using ho, cond_false]
 have h2 : ref06_simplified N ⟨3, 0, [x]⟩ = bif eqv x (TT true) || eqv x (TT false) then some (TT (eqv x (TT false))) else if x.Op = 3 then (idx x.Kids 0) else some ⟨3, 0, [x]⟩ := by
  unfold ref06_simplified
  rw [show ((⟨3, 0, [x]⟩ : Expr).Op == 3) = true from rfl, cond_true, i0, Option.bind_some]
  simp only [m_rtruth, Option.bind_some, s_Equal fx]
  cases eqv x (TT true) <;> cases eqv x (TT false) <;> simp only [cond_true, cond_false, Option.bind_some, Bool.or_true, Bool.or_false]
  ·by_cases ho : x.Op = 3
   ·rw [if_pos ho, show (x.Op == 3) = true by simpa using ho, cond_true]; cases idx x.Kids 0 <;> rfl
   ·rw [if_neg ho, show (x.Op == 3) = false by simpa using ho, cond_false]
  ·rfl
  ·rfl
  ·rfl
 unfold Step
 rw [h1, h2, hk]
 by_cases ht : (eqv x (TT true) || eqv x (TT false)) = true
 ·rw [ht]
  have hm : 2 ≤ m := by
   rw [Bool.or_eq_true, eqv_true, eqv_true] at ht
   rcases ht with rfl | rfl <;> exact TT_ht hxh
  obtain ⟨q, rfl⟩ : ∃ q, m = q + 2 := ⟨m - 2, by omega⟩
  exact ⟨_, rfl, rfl, kd_TT _, (ht_TT _ (by omega)).le (Nat.le_succ _)⟩
 ·rw [Bool.not_eq_true] at ht
  rw [ht, cond_false]
  by_cases ho : x.Op = 3
  ·rw [if_pos ho]
   have hm := kd_mk (e := x) (by rw [hx]; decide)
   rw [hx] at hm
   cases hm with
   | deny h' _ z hkz hz =>
    rw [hkz]
    refine ⟨z, rfl, rfl, hz, ?_⟩
    obtain ⟨q, rfl⟩ : ∃ q, m = q + 1 := by cases m with | zero => exact hxh.elim | succ m => exact ⟨m, rfl⟩
    exact (hxh.2.2 z (by rw [hkz]; simp)).le (by omega)
   | logic h' => omega
   | test h' => omega
  ·rw [if_neg ho]
   exact ⟨_, rfl, rfl, hk, h⟩
theorem eta (r : Expr) : (⟨r.Op, r.Value, r.Kids⟩ : Expr) = r := by cases r; rfl
theorem ht_pos {n : Nat} {e : Expr} (h : Ht N n e) : ∃ m, n = m + 1 := by cases n with | zero => exact h.elim | succ m => exact ⟨m, rfl⟩
theorem step_ret {n : Nat} {e r : Expr} (h1 : rules_simpler N e = some r) (h2 : ref06_simplified N e = some r) (h3 : kd r = kd e) (h4 : Ht N n r) : Step N n e := ⟨r, h1, h2, h3, h4⟩
noncomputable def joinS (op : Int) (x y : Expr) : Expr :=
 let s := decide (op = 5)
 if eqv x (TT s) || eqv y (TT s) then TT s else if eqv x (TT !s) then y else if eqv y (TT !s) || eqv x y then x else ⟨op, 0, [x, y]⟩
theorem step_logic {n : Nat} {op : Int} {x y : Expr} (hop : op = 4 ∨ op = 5) (hN : 2 * n + 10 ≤ N) (h : Ht N n ⟨op, 0, [x, y]⟩) (hk : kd ⟨op, 0, [x, y]⟩ = 2) (hx : kd x = 2) (hy : kd y = 2) : Step N n ⟨op, 0, [x, y]⟩ := by
 obtain ⟨m, rfl⟩ := ht_pos h
 have hxh : Ht N m x := h.2.2 x (List.mem_cons_self ..)
 have hyh : Ht N m y := h.2.2 y (by show y ∈ [x, y]; simp)
 have fx : Fit N x := ⟨m, hxh, by omega⟩
 have fy : Fit N y := ⟨m, hyh, by omega⟩
 have i0 : idx (⟨op, 0, [x, y]⟩ : Expr).Kids 0 = some x := rfl
 have i1 : idx (⟨op, 0, [x, y]⟩ : Expr).Kids 1 = some y := rfl
 have h1 : rules_simpler N ⟨op, 0, [x, y]⟩ = some (joinS op x y) := by
  unfold rules_simpler
  show (bif (2 : Int) == 0 then _ else _) = _
  have j : rules_joined N ⟨op, 0, [x, y]⟩ x y = some (joinS op x y) := by
   unfold rules_joined joinS
   have e5 : ((⟨op, 0, [x, y]⟩ : Expr).Op == 5) = decide (op = 5) := by rcases hop with rfl | rfl <;> rfl
   simp only [e5]
   generalize decide (op = 5) = s
   simp only [m_isTruth fx, m_isTruth fy, m_truthOf, s_same fx, Option.bind_some]
   cases eqv x (TT s) <;> cases eqv y (TT s) <;> cases eqv x (TT !s) <;> cases eqv y (TT !s) <;> cases eqv x y <;> rfl
  rw [show ((2 : Int) == 0) = false from rfl, cond_false, i0, Option.bind_some, i1, Option.bind_some, j]
  rcases hop with rfl | rfl <;> rfl
 have h2 : ref06_simplified N ⟨op, 0, [x, y]⟩ = some (joinS op x y) := by
  unfold ref06_simplified
  have j : ref06_joined N ⟨op, 0, [x, y]⟩ x y = some (joinS op x y) := by
   unfold ref06_joined joinS
   have e5 : ((⟨op, 0, [x, y]⟩ : Expr).Op == 5) = decide (op = 5) := by rcases hop with rfl | rfl <;> rfl
   have e4 : ((⟨op, 0, [x, y]⟩ : Expr).Op == 4) = !decide (op = 5) := by rcases hop with rfl | rfl <;> rfl
   simp only [e5, e4]
   generalize decide (op = 5) = s
   simp only [s_Equal fx, s_Equal fy, m_rtruth, Option.bind_some]
   cases eqv x (TT s) <;> cases eqv y (TT s) <;> cases eqv x (TT !s) <;> cases eqv y (TT !s) <;> cases eqv x y <;> rfl
  simp only [i0, i1, j, Option.bind_some, eta]
  rcases hop with rfl | rfl <;> rfl
 have hT : ∀ z, Ht N m z → ∀ b, z = TT b → Ht N (m + 1) (TT b) := fun z hz b e => by rw [← e]; exact hz.succ
 refine step_ret h1 h2 ?_ ?_
 ·rw [hk]; unfold joinS; simp only
  split
  ·exact kd_TT _
  ·split
   ·exact hy
   ·split
    ·exact hx
    ·exact hk
 ·unfold joinS; simp only
  split
  ·rename_i hc
   rw [Bool.or_eq_true, eqv_true, eqv_true] at hc
   rcases hc with hc | hc
   ·exact hT x hxh _ hc
   ·exact hT y hyh _ hc
  ·split
   ·exact hyh.succ
   ·split
    ·exact hxh.succ
    ·exact h
noncomputable def testS (op : Int) (x y : Expr) : Expr :=
 let nn := decide (x.Op = 1) && decide (y.Op = 1)
 if nn || eqv x y then TT (decide (op = 6) && eqv x y || decide (op = 7) && nn && decide (x.Value < y.Value)) else ⟨op, 0, [x, y]⟩
theorem int_beq (a b : Int) : (a == b) = decide (a = b) := by
 by_cases h : a = b
 ·subst h; simp
 ·simp [h]
theorem step_test {n : Nat} {op : Int} {x y : Expr} (hop : op = 6 ∨ op = 7) (hN : 2 * n + 10 ≤ N) (h : Ht N n ⟨op, 0, [x, y]⟩) (hk : kd ⟨op, 0, [x, y]⟩ = 2) (hx : kd x = 1) (hy : kd y = 1) : Step N n ⟨op, 0, [x, y]⟩ := by
 obtain ⟨m, rfl⟩ := ht_pos h
 have hxh : Ht N m x := h.2.2 x (List.mem_cons_self ..)
 obtain ⟨q, rfl⟩ := ht_pos hxh
 have fx : Fit N x := ⟨_, hxh, by omega⟩
 have i0 : idx (⟨op, 0, [x, y]⟩ : Expr).Kids 0 = some x := rfl
 have i1 : idx (⟨op, 0, [x, y]⟩ : Expr).Kids 1 = some y := rfl
 have h1 : rules_simpler N ⟨op, 0, [x, y]⟩ = some (testS op x y) := by
  unfold rules_simpler testS
  show (bif (2 : Int) == 0 then _ else _) = _
  rw [show ((2 : Int) == 0) = false from rfl, cond_false, i0, Option.bind_some, i1, Option.bind_some]
  simp only [s_same fx, m_truthOf, Option.bind_some, eta]
  simp only [int_beq x.Op 1, int_beq y.Op 1]
  rcases hop with rfl | rfl <;> cases decide (x.Op = 1) <;> cases decide (y.Op = 1) <;> cases eqv x y <;> cases decide (x.Value < y.Value) <;> rfl
 have h2 : ref06_simplified N ⟨op, 0, [x, y]⟩ = some (testS op x y) := by
  unfold ref06_simplified testS
  simp only [i0, i1, s_Equal fx, m_rtruth, Option.bind_some, eta]
  simp only [int_beq x.Op 1, int_beq y.Op 1]
  rcases hop with rfl | rfl <;> cases decide (x.Op = 1) <;> cases decide (y.Op = 1) <;> cases eqv x y <;> cases decide (x.Value < y.Value) <;> rfl
 refine step_ret h1 h2 ?_ ?_
 ·rw [hk]; unfold testS; simp only
  split
  ·exact kd_TT _
  ·exact hk
 ·unfold testS; simp only
  split
  ·exact ht_TT _ (by omega)
  ·exact h
noncomputable def condS (c x y : Expr) : Expr := if eqv c (TT true) then x else if eqv c (TT false) then y else if eqv x y then x else ⟨11, 0, [c, x, y]⟩
theorem step_cond {n : Nat} {c x y : Expr} (hN : 2 * n + 10 ≤ N) (h : Ht N n ⟨11, 0, [c, x, y]⟩) (hk : kd ⟨11, 0, [c, x, y]⟩ = 1) (hx : kd x = 1) (hy : kd y = 1) : Step N n ⟨11, 0, [c, x, y]⟩ := by
 obtain ⟨m, rfl⟩ := ht_pos h
 have hch : Ht N m c := h.2.2 c (List.mem_cons_self ..)
 have hxh : Ht N m x := h.2.2 x (by show x ∈ [c, x, y]; simp)
 have hyh : Ht N m y := h.2.2 y (by show y ∈ [c, x, y]; simp)
 have fc : Fit N c := ⟨_, hch, by omega⟩
 have fx : Fit N x := ⟨_, hxh, by omega⟩
 have i0 : idx (⟨11, 0, [c, x, y]⟩ : Expr).Kids 0 = some c := rfl
 have i1 : idx (⟨11, 0, [c, x, y]⟩ : Expr).Kids 1 = some x := rfl
 have i2 : idx (⟨11, 0, [c, x, y]⟩ : Expr).Kids 2 = some y := rfl
 have h1 : rules_simpler N ⟨11, 0, [c, x, y]⟩ = some (condS c x y) := by
  unfold rules_simpler condS
  show (bif (3 : Int) == 0 then _ else _) = _
  rw [show ((3 : Int) == 0) = false from rfl, cond_false, i0, Option.bind_some, i1, Option.bind_some, i2]
  simp only [m_isTruth fc, s_same fx, Option.bind_some]
  cases eqv c (TT true) <;> cases eqv c (TT false) <;> cases eqv x y <;> rfl
 have h2 : ref06_simplified N ⟨11, 0, [c, x, y]⟩ = some (condS c x y) := by
  unfold ref06_simplified condS
  simp only [i0, i1, i2, s_Equal fc, s_Equal fx, m_rtruth, Option.bind_some]
  cases h1 : eqv c (TT true) <;> cases h2 : eqv c (TT false) <;> cases h3 : eqv x y
  ·rfl
  ·rfl
  ·rfl
  ·rw [eqv_true] at h3; subst h3; rfl
  ·rfl
  ·rfl
  ·rfl
  ·rfl
 refine step_ret h1 h2 ?_ ?_
 ·rw [hk]; unfold condS
  repeat' split
  ·exact hx
  ·exact hy
  ·exact hx
  ·exact hk
 ·unfold condS
  repeat' split
  ·exact hxh.succ
  ·exact hyh.succ
  ·exact hxh.succ
  ·exact h
end
end Go.Proofs.YtaihlcdkcampbaaGreatDoor
namespace Go.Proofs.YtaihlcdkcampbaaGreatDoor
open Go.Proofs
def Self94 (sR94 : Expr → Option Expr) : Prop := ∀ (w0 : World) (F0 : Mem) (hF : ∀ b o, F0 b = some o → w0.heap[b]? = some o) (x0 : Expr) (a0_2 : Option Addr) (n0_2 : Nat) (hb0_2 : LC x0.Kids.length n0_2) (hs0_2 : SlA tExpr F0 a0_2 x0.Kids) (r : Expr), sR94 x0 = some r → Calls Tryz.prog 94 ([(.agg #[(.int .i64 x0.Op), (.int .i64 x0.Value), (.slice a0_2 x0.Kids.length n0_2)])] : List Value).toArray w0 (FRet w0 F0 fun F' v => ∃ (aq0_2 : Option Addr) (nq0_2 : Nat), v = (.agg #[(.int .i64 r.Op), (.int .i64 r.Value), (.slice aq0_2 r.Kids.length nq0_2)]) ∧ LC r.Kids.length nq0_2 ∧ SlA tExpr F' aq0_2 r.Kids)
theorem co_rules_simplified : CallOk Tryz.prog 94 := fun _ _ => by kernel_rfl
end Go.Proofs.YtaihlcdkcampbaaGreatDoor
namespace Go.Proofs.YtaihlcdkcampbaaGreatDoor
open Go.Proofs
def rules_simplified_L0 (N : Nat) (sR94 : Expr → Option Expr) (x0 : Expr) : (Int × List Expr) → Option (Flow Expr (Int × List Expr)) := fun s37 =>
 (bif (decide (s37.1 < (x0.Kids.length : Int))) then ((idx x0.Kids s37.1).bind fun x63 => (((sR94 x63).bind fun r96 => ((apnd s37.2 [r96]).bind fun r109 => some r109)).bind fun j87 => some (.next ((W64 (s37.1 + 1)), j87)))) else some (.done (s37.1, s37.2)))
def rules_simplified_S (N : Nat) (sR94 : Expr → Option Expr) (x0 : Expr) : Option Expr :=
 ((iter (rules_simplified_L0 N sR94 x0) N (0, ([] : List Expr))).bind fun o => o.k (fun r => some r) (fun s47 => ((rules_simpler N ({ Op := x0.Op, Value := x0.Value, Kids := s47.2 } : Expr)).bind fun r127 => some r127)))
theorem cS_rules_simplified (N : Nat) (sR94 : Expr → Option Expr) (hsR94 : Self94 sR94) (w0 : World) (F0 : Mem) (hF : ∀ b o, F0 b = some o → w0.heap[b]? = some o) (x0 : Expr) (a0_2 : Option Addr) (n0_2 : Nat) (hb0_2 : LC x0.Kids.length n0_2) (hs0_2 : SlA tExpr F0 a0_2 x0.Kids) (r : Expr) (h : rules_simplified_S N sR94 x0 = some r) :
  Calls Tryz.prog 94 ([(.agg (kExpr x0 a0_2 n0_2))] : List Value).toArray w0 (FRet w0 F0 fun F' v => ∃ (aq0_2 : Option Addr) (nq0_2 : Nat), v = (.agg (kExpr r aq0_2 nq0_2)) ∧ LC r.Kids.length nq0_2 ∧ SlA tExpr F' aq0_2 r.Kids) := by
 have hs0 := HS.start hF
 refine Go 28 Tryz.func94 ?_
 refine Sq (Rg [0, 1] ?_)
 refine Bx' 33 (kExpr x0 a0_2 n0_2) hs0 (fun b21 w22 hs23 => ?_)
 refine Al' 33 #[(vi 0), (vi 0), (.slice none ([] : List Expr).length 0)] hs23 (fun b24 w25 hs26 => ?_)
 refine Nss (Rg [0, 1, 2, 3, 4, 5, 6] ?_)
 refine Vs 1 ?_
 refine Ld hs26.at1 ?_
 refine Vs 1 ?_
 refine Ld hs26.at1 ?_
 refine Vs 1 ?_
 refine Al' 33 #[(vi 0), (vi 0), (.slice none ([] : List Expr).length 0)] hs26 (fun b27 w28 hs29 => ?_)
 refine St0 #[(vi x0.Op), (vi x0.Value), (.slice none ([] : List Expr).length 0)] hs29 (fun w30 hs31 => ?_)
 refine Nss ?_
 refine Sq (Rg [0, 1, 2, 3] ?_)
 refine Vs 1 ?_
 refine Ld hs31.at2 ?_
 refine Vs 2 ?_
 refine Nt ?_
 have hs32 := hs31.dr2.dummy (oc #[] 0)
 obtain ⟨o34, ho35, h36⟩ := bind_some h
 refine CWP.cut (fun f w => ∃ (s47 : (Int × List Expr)) (F2 : Mem) (as47_1 : Option Addr) (ns47_1 : Nat) (es47_1 : Option Nat × Obj), o34 = .done s47 ∧ HS w0 F0 w F2 [es47_1, (sb b27 #[(vi x0.Op), (vi x0.Value), (.slice as47_1 s47.2.length ns47_1)] 33), (sb b24 #[(vi 0), (vi 0), (.slice none ([] : List Expr).length 0)] 33)] ∧ Mem.le F0 F2 ∧ FI f [] [(2, (pt b24 0)), (3, (pt b27 0))] ∧ RowR tExpr 33 F2 as47_1 ns47_1 s47.2 es47_1) ?_ ?_
 ·refine Bk ?_
  refine CWP.loop (by kernel_rfl) (fun m f w => ∃ (s37 : (Int × List Expr)) (F1 : Mem) (as37_1 : Option Addr) (ns37_1 : Nat) (es37_1 : Option Nat × Obj), iter (rules_simplified_L0 N sR94 x0) m s37 = some o34 ∧ HS w0 F0 w F1 [es37_1, (sb b27 #[(vi x0.Op), (vi x0.Value), (.slice as37_1 s37.2.length ns37_1)] 33), (sb b24 #[(vi 0), (vi 0), (.slice none ([] : List Expr).length 0)] 33)] ∧ Mem.le F0 F1 ∧ FI f [] [(2, (pt b24 0)), (3, (pt b27 0)), (12, (.slice a0_2 x0.Kids.length n0_2)), (13, (vi (x0.Kids.length : Int))), (14, (vi s37.1))] ∧ RowR tExpr 33 F1 as37_1 ns37_1 s37.2 es37_1) N ⟨(0, ([] : List Expr)), F0, none, 0, (none, .cells #[] 0 (0, 0)), ho35, hs32, (Mem.le.refl _), fI, (RowR.nil tExpr 33 F0 _)⟩ ?_
  rintro m54 f w38 ⟨s37, F1, as37_1, ns37_1, es37_1, hit55, hs39, le40, ⟨_, rfl⟩, hrs37_1⟩
  obtain ⟨m56, fl57, rfl, hb58, hnx59⟩ := iter_step hit55
  refine Sq (Rg [0] ?_)
  refine Vs 1 ?_
  refine Nss ?_
  refine Cd hb58 (fun hb60 h61 => ?_) (fun hb60 h62 => ?_)
  ·refine Sc ?_
   refine thenQ_nrm ?_
   refine Sq ?_
   refine Bk ?_
   refine Sq (Rg [0, 1, 2, 3] ?_)
   obtain ⟨x63, hx64, h66⟩ := bind_some h61
   obtain ⟨hi65, hx64'⟩ := idx_spec hx64
   obtain ⟨b67, o68, C69, E70, fz71, rfl, hF73, hE74⟩ := SlA.open (SlA.mono hs0_2 le40) hx64'
   obtain ⟨ae75_2, ne75_2, hc76, hbe75_2, hse75_2⟩ := (tExpr_open (hE74 _ _ hx64'))
   refine Ix hi65 ?_
   refine Lx 0 (hs39.pers _ _ hF73) hc76 ?_
   refine Al' 33 #[(vi 0), (vi 0), (.slice none ([] : List Expr).length 0)] hs39 (fun b77 w78 hs79 => ?_)
   refine St0 (kExpr x63 ae75_2 ne75_2) hs79 (fun w80 hs81 => ?_)
   refine Nt ?_
   obtain ⟨j87, hj94, h95⟩ := bind_some h66
   refine RD 7 8 [(sb b77 (kExpr x63 ae75_2 ne75_2) 33), (sb b24 #[(vi 0), (vi 0), (.slice none ([] : List Expr).length 0)] 33)] [(sb b27 #[(vi x0.Op), (vi x0.Value), (.slice as37_1 s37.2.length ns37_1)] 33)] hs81 (fun f w => ∃ (F3 : Mem) (aj87_0 : Option Addr) (nj87_0 : Nat) (ej87_0 : Option Nat × Obj), HS w0 F0 w F3 [ej87_0, (sb b27 #[(vi x0.Op), (vi x0.Value), (.slice aj87_0 j87.length nj87_0)] 33), (sb b24 #[(vi 0), (vi 0), (.slice none ([] : List Expr).length 0)] 33)] ∧ Mem.le F1 F3 ∧ FI f [] [(2, (pt b24 0)), (3, (pt b27 0)), (12, (.slice (some ⟨b67, o68, none⟩) x0.Kids.length n0_2)), (13, (vi (x0.Kids.length : Int))), (14, (vi s37.1))] ∧ RowR tExpr 33 F3 aj87_0 nj87_0 j87 ej87_0) (fun wd82 hw83 => ?_) ?_
   ·refine Dv [0] ?_
    refine Dl 1 (fun _ hq => ((hq.2 rfl).2 0 _ _ rfl)) ?_
    refine Dl 2 (fun _ hq => (hq.1.2 0 _ _ rfl)) ?_
    refine D1 3 ?_
    obtain ⟨r96, hr97, h98⟩ := bind_some hj94
    refine DCl co_rules_simplified hw83 (hsR94 wd82 F1 hw83.pers (x63) ae75_2 ne75_2 hbe75_2 hse75_2 _ hr97) ?_
    rintro _ F4 w100 hs101 le102 ⟨ar96_0_2, nr96_0_2, rfl, hbr96_0_2, hsr96_0_2⟩
    refine D1 4 ?_
    refine DBs 33 [(vi r96.Op), (vi r96.Value), (.slice ar96_0_2 r96.Kids.length nr96_0_2)] hs101 le102 (fun b104 w105 hs106 => ?_)
    have hr108 : RowR tExpr 33 F4 (some ⟨b104, 0, none⟩) 1 [r96] (some b104, .cells ([(vi r96.Op), (vi r96.Value), (.slice ar96_0_2 r96.Kids.length nr96_0_2)] : List Value).toArray 33 (0, 0)) := RowR.lit ⟨(tExpr_mk ⟨ar96_0_2, nr96_0_2, rfl, hbr96_0_2, hsr96_0_2⟩), rfl⟩ (by simp)
    refine D1 5 ?_
    obtain ⟨r109, hap110, h111⟩ := bind_some h98
    refine DAp2 oExpr hs106 (hrs37_1.mono le102) (hs106.rd0 hr108) hap110 le102 (fun a112 n113 e114 w115 hs116 hr117 => ?_)
    refine Dv [6] ?_
    refine D1 7 ?_
    refine DSt3 #[(vi x0.Op), (vi x0.Value), (.slice a112 r109.length n113)] hs116 le102 (fun w118 hs119 => ?_)
    obtain rfl := some_inj h111
    exact DWP.done (by kernel_rfl) ⟨F4, a112, n113, e114, hs119.dr0.dr0, le102, fI, hr117⟩
   ·rintro f w84 ⟨F3, aj87_0, nj87_0, ej87_0, hs85, le86, ⟨_, rfl⟩, hrj87_0⟩
    refine blockQ_nrm ?_
    refine thenQ_nrm ?_
    refine Rg [0, 1] ?_
    refine Vs 2 ?_
    refine RWP.nil ?_
    have hn120 := iter_next h95 hnx59
    exact ⟨m56, Nat.lt_succ_self _, ((W64 (s37.1 + 1)), j87), F3, aj87_0, nj87_0, ej87_0, hn120, hs85, (le40.trans le86), fI, hrj87_0⟩
  ·refine Ex ?_
   refine thenQ_ex ?_
   refine thenQ_ex ?_
   refine blockQ_hit rfl ?_
   have ho121 := iter_done h62 hnx59
   exact .inl ⟨rfl, (s37.1, s37.2), F1, as37_1, ns37_1, es37_1, ho121, hs39, le40, fI, hrs37_1⟩
 ·rintro f w48 ⟨s47, F2, as47_1, ns47_1, es47_1, rfl, hs49, le50, ⟨_, rfl⟩, hrs47_1⟩
  have h122 := k_done h36
  refine thenQ_nrm ?_
  refine Sq (Rg [0, 1, 2] ?_)
  refine Ld hs49.at1 ?_
  have hb126 := RowR.bound hrs47_1
  obtain ⟨F5, hs123, le124, hs125⟩ := hs49.fr0 hrs47_1
  obtain ⟨r127, hr128, h129⟩ := bind_some h122
  refine Cl' co_rules_simpler hs123 (c_rules_simpler N w48 F5 hs123.pers (({ Op := x0.Op, Value := x0.Value, Kids := s47.2 } : Expr)) as47_1 ns47_1 hb126 hs125 _ hr128) ?_
  rintro _ F6 w131 hs132 le133 ⟨ar127_0_2, nr127_0_2, rfl, hbr127_0_2, hsr127_0_2⟩
  refine St1 (kExpr r127 ar127_0_2 nr127_0_2) hs132 (fun w135 hs136 => ?_)
  refine Nt ?_
  refine Rt ?_
  obtain rfl := some_inj h129
  exact ⟨rfl, (.agg (kExpr r127 ar127_0_2 nr127_0_2)), res_of (l := [.cell 2 33]) (by kernel_rfl) (vs := [(.agg (kExpr r127 ar127_0_2 nr127_0_2))]) ⟨b24, 0, rfl, run_loadVar' (t := 33) (g := true) (s := 3) (by kernel_rfl) hs136.at1 rfl (by decide), trivial⟩, (.agg (kExpr r127 ar127_0_2 nr127_0_2)), F6, rfl, hs136.clear, ⟨ar127_0_2, nr127_0_2, rfl, hbr127_0_2, hsr127_0_2⟩⟩
end Go.Proofs.YtaihlcdkcampbaaGreatDoor
namespace Go.Proofs.YtaihlcdkcampbaaGreatDoor
open Go.Proofs
structure Rec94 where
 q94 : Expr → Option Expr
def rec94 (N : Nat) : Nat → Rec94
 | 0 => ⟨fun _ => none⟩
 | k + 1 => ⟨rules_simplified_S N (rec94 N k).q94⟩
theorem rec94_ok (N : Nat) : ∀ k, Self94 (rec94 N k).q94
 | 0 => (by unfold Self94; intros; rename_i h; cases h)
 | k + 1 => by
  have ih := rec94_ok N k
  exact @cS_rules_simplified N (rec94 N k).q94 ih
def rules_simplified (N : Nat) (x0 : Expr) : Option Expr := (rec94 N N).q94 x0
theorem c_rules_simplified (N : Nat) (w0 : World) (F0 : Mem) (hF : ∀ b o, F0 b = some o → w0.heap[b]? = some o) (x0 : Expr) (a0_2 : Option Addr) (n0_2 : Nat) (hb0_2 : LC x0.Kids.length n0_2) (hs0_2 : SlA tExpr F0 a0_2 x0.Kids) (r : Expr) (h : rules_simplified N x0 = some r) :
  Calls Tryz.prog 94 ([(.agg #[(.int .i64 x0.Op), (.int .i64 x0.Value), (.slice a0_2 x0.Kids.length n0_2)])] : List Value).toArray w0 (FRet w0 F0 fun F' v => ∃ (aq0_2 : Option Addr) (nq0_2 : Nat), v = (.agg #[(.int .i64 r.Op), (.int .i64 r.Value), (.slice aq0_2 r.Kids.length nq0_2)]) ∧ LC r.Kids.length nq0_2 ∧ SlA tExpr F' aq0_2 r.Kids) := (rec94_ok N N) w0 F0 hF x0 a0_2 n0_2 hb0_2 hs0_2 r h
end Go.Proofs.YtaihlcdkcampbaaGreatDoor
namespace Go.Proofs.YtaihlcdkcampbaaGreatDoor
open Go.Proofs
def Self96 (sR96 : Expr → Option Expr) : Prop := ∀ (w0 : World) (F0 : Mem) (hF : ∀ b o, F0 b = some o → w0.heap[b]? = some o) (x0 : Expr) (a0_2 : Option Addr) (n0_2 : Nat) (hb0_2 : LC x0.Kids.length n0_2) (hs0_2 : SlA tExpr F0 a0_2 x0.Kids) (r : Expr), sR96 x0 = some r → Calls Tryz.prog 96 ([(.agg #[(.int .i64 x0.Op), (.int .i64 x0.Value), (.slice a0_2 x0.Kids.length n0_2)])] : List Value).toArray w0 (FRet w0 F0 fun F' v => ∃ (aq0_2 : Option Addr) (nq0_2 : Nat), v = (.agg #[(.int .i64 r.Op), (.int .i64 r.Value), (.slice aq0_2 r.Kids.length nq0_2)]) ∧ LC r.Kids.length nq0_2 ∧ SlA tExpr F' aq0_2 r.Kids)
theorem co_ref06_simple : CallOk Tryz.prog 96 := fun _ _ => by kernel_rfl
end Go.Proofs.YtaihlcdkcampbaaGreatDoor
namespace Go.Proofs.YtaihlcdkcampbaaGreatDoor
open Go.Proofs
def ref06_simple_L0 (N : Nat) (sR96 : Expr → Option Expr) (x0 : Expr) : (Int × List Expr) → Option (Flow Expr (Int × List Expr)) := fun s37 =>
 (bif (decide (s37.1 < (x0.Kids.length : Int))) then (((idx x0.Kids s37.1).bind fun x75 => ((sR96 x75).bind fun r89 => ((apnd s37.2 [r89]).bind fun r102 => some r102))).bind fun j67 => some (.next ((W64 (s37.1 + 1)), j67))) else some (.done (s37.1, s37.2)))
def ref06_simple_S (N : Nat) (sR96 : Expr → Option Expr) (x0 : Expr) : Option Expr :=
 ((iter (ref06_simple_L0 N sR96 x0) N (0, ([] : List Expr))).bind fun o => o.k (fun r => some r) (fun s46 => ((ref06_simplified N ({ Op := x0.Op, Value := x0.Value, Kids := s46.2 } : Expr)).bind fun r120 => some r120)))
theorem cS_ref06_simple (N : Nat) (sR96 : Expr → Option Expr) (hsR96 : Self96 sR96) (w0 : World) (F0 : Mem) (hF : ∀ b o, F0 b = some o → w0.heap[b]? = some o) (x0 : Expr) (a0_2 : Option Addr) (n0_2 : Nat) (hb0_2 : LC x0.Kids.length n0_2) (hs0_2 : SlA tExpr F0 a0_2 x0.Kids) (r : Expr) (h : ref06_simple_S N sR96 x0 = some r) :
  Calls Tryz.prog 96 ([(.agg (kExpr x0 a0_2 n0_2))] : List Value).toArray w0 (FRet w0 F0 fun F' v => ∃ (aq0_2 : Option Addr) (nq0_2 : Nat), v = (.agg (kExpr r aq0_2 nq0_2)) ∧ LC r.Kids.length nq0_2 ∧ SlA tExpr F' aq0_2 r.Kids) := by
 have hs0 := HS.start hF
 refine Go 30 Tryz.func96 ?_
 refine Sq (Rg [0, 1] ?_)
 refine Bx' 33 (kExpr x0 a0_2 n0_2) hs0 (fun b21 w22 hs23 => ?_)
 refine Al' 33 #[(vi 0), (vi 0), (.slice none ([] : List Expr).length 0)] hs23 (fun b24 w25 hs26 => ?_)
 refine Nss (Rg [0, 1, 2, 3, 4, 5, 6] ?_)
 refine Vs 1 ?_
 refine Ld hs26.at1 ?_
 refine Vs 1 ?_
 refine Ld hs26.at1 ?_
 refine Vs 1 ?_
 refine Al' 33 #[(vi 0), (vi 0), (.slice none ([] : List Expr).length 0)] hs26 (fun b27 w28 hs29 => ?_)
 refine St0 #[(vi x0.Op), (vi x0.Value), (.slice none ([] : List Expr).length 0)] hs29 (fun w30 hs31 => ?_)
 refine Nss ?_
 refine Sq (Rg [0] ?_)
 refine Vs 1 ?_
 refine Nt ?_
 have hs32 := hs31.dummy (oc #[] 0)
 obtain ⟨o34, ho35, h36⟩ := bind_some h
 refine CWP.cut (fun f w => ∃ (s46 : (Int × List Expr)) (F2 : Mem) (as46_1 : Option Addr) (ns46_1 : Nat) (es46_1 : Option Nat × Obj), o34 = .done s46 ∧ HS w0 F0 w F2 [es46_1, (sb b27 #[(vi x0.Op), (vi x0.Value), (.slice as46_1 s46.2.length ns46_1)] 33), (sb b24 #[(vi 0), (vi 0), (.slice none ([] : List Expr).length 0)] 33)] ∧ Mem.le F0 F2 ∧ FI f [] [(2, (pt b24 0)), (3, (pt b27 0))] ∧ RowR tExpr 33 F2 as46_1 ns46_1 s46.2 es46_1) ?_ ?_
 ·refine Bk ?_
  refine CWP.loop (by kernel_rfl) (fun m f w => ∃ (s37 : (Int × List Expr)) (F1 : Mem) (as37_1 : Option Addr) (ns37_1 : Nat) (es37_1 : Option Nat × Obj), iter (ref06_simple_L0 N sR96 x0) m s37 = some o34 ∧ HS w0 F0 w F1 [es37_1, (sb b27 #[(vi x0.Op), (vi x0.Value), (.slice as37_1 s37.2.length ns37_1)] 33), (sb b24 #[(vi 0), (vi 0), (.slice none ([] : List Expr).length 0)] 33), (sb b21 (kExpr x0 a0_2 n0_2) 33)] ∧ Mem.le F0 F1 ∧ FI f [] [(1, (pt b21 0)), (2, (pt b24 0)), (3, (pt b27 0)), (4, (vi s37.1))] ∧ RowR tExpr 33 F1 as37_1 ns37_1 s37.2 es37_1) N ⟨(0, ([] : List Expr)), F0, none, 0, (none, .cells #[] 0 (0, 0)), ho35, hs32, (Mem.le.refl _), fI, (RowR.nil tExpr 33 F0 _)⟩ ?_
  rintro m53 f w38 ⟨s37, F1, as37_1, ns37_1, es37_1, hit54, hs39, le40, ⟨_, rfl⟩, hrs37_1⟩
  obtain ⟨m55, fl56, rfl, hb57, hnx58⟩ := iter_step hit54
  refine Sq ?_
  refine Sq (Rg [0, 1, 2, 3, 4] ?_)
  refine Vs 2 ?_
  refine Ld hs39.at3 ?_
  refine Vs 2 ?_
  refine Nt ?_
  refine Cd hb57 (fun hb59 h60 => ?_) (fun hb59 h61 => ?_)
  ·refine Sc ?_
   refine thenQ_nrm ?_
   refine Sq ?_
   refine Bk ?_
   obtain ⟨j67, hj73, h74⟩ := bind_some h60
   refine RD 11 12 [(sb b24 #[(vi 0), (vi 0), (.slice none ([] : List Expr).length 0)] 33), (sb b21 (kExpr x0 a0_2 n0_2) 33)] [(sb b27 #[(vi x0.Op), (vi x0.Value), (.slice as37_1 s37.2.length ns37_1)] 33)] hs39 (fun f w => ∃ (F3 : Mem) (aj67_0 : Option Addr) (nj67_0 : Nat) (ej67_0 : Option Nat × Obj), HS w0 F0 w F3 [ej67_0, (sb b27 #[(vi x0.Op), (vi x0.Value), (.slice aj67_0 j67.length nj67_0)] 33), (sb b24 #[(vi 0), (vi 0), (.slice none ([] : List Expr).length 0)] 33), (sb b21 (kExpr x0 a0_2 n0_2) 33)] ∧ Mem.le F1 F3 ∧ FI f [] [(1, (pt b21 0)), (2, (pt b24 0)), (3, (pt b27 0)), (4, (vi s37.1))] ∧ RowR tExpr 33 F3 aj67_0 nj67_0 j67 ej67_0) (fun wd62 hw63 => ?_) ?_
   ·refine Dv [0] ?_
    refine Dl 1 (fun _ hq => ((hq.2 rfl).2 0 _ _ rfl)) ?_
    refine Dv [2] ?_
    refine Dl 3 (fun _ hq => (hq.1.2 1 _ _ rfl)) ?_
    refine Dv [4] ?_
    obtain ⟨x75, hx76, h78⟩ := bind_some hj73
    obtain ⟨hi77, hx76'⟩ := idx_spec hx76
    obtain ⟨b79, o80, C81, E82, fz83, rfl, hF85, hE86⟩ := SlA.open (SlA.mono hs0_2 le40) hx76'
    obtain ⟨ae87_2, ne87_2, hc88, hbe87_2, hse87_2⟩ := (tExpr_open (hE86 _ _ hx76'))
    refine Di 5 hi77 ?_
    refine Dx 6 0 (fun _ hq => hq.1.1 _ _ hF85) hc88 ?_
    refine D1 7 ?_
    obtain ⟨r89, hr90, h91⟩ := bind_some h78
    refine DCl co_ref06_simple hw63 (hsR96 wd62 F1 hw63.pers (x75) ae87_2 ne87_2 hbe87_2 hse87_2 _ hr90) ?_
    rintro _ F4 w93 hs94 le95 ⟨ar89_0_2, nr89_0_2, rfl, hbr89_0_2, hsr89_0_2⟩
    refine D1 8 ?_
    refine DBs 33 [(vi r89.Op), (vi r89.Value), (.slice ar89_0_2 r89.Kids.length nr89_0_2)] hs94 le95 (fun b97 w98 hs99 => ?_)
    have hr101 : RowR tExpr 33 F4 (some ⟨b97, 0, none⟩) 1 [r89] (some b97, .cells ([(vi r89.Op), (vi r89.Value), (.slice ar89_0_2 r89.Kids.length nr89_0_2)] : List Value).toArray 33 (0, 0)) := RowR.lit ⟨(tExpr_mk ⟨ar89_0_2, nr89_0_2, rfl, hbr89_0_2, hsr89_0_2⟩), rfl⟩ (by simp)
    refine D1 9 ?_
    obtain ⟨r102, hap103, h104⟩ := bind_some h91
    refine DAp1 oExpr hs99 (hrs37_1.mono le95) (hs99.rd0 hr101) hap103 le95 (fun a105 n106 e107 w108 hs109 hr110 => ?_)
    refine Dv [10] ?_
    refine D1 11 ?_
    refine DSt2 #[(vi x0.Op), (vi x0.Value), (.slice a105 r102.length n106)] hs109 le95 (fun w111 hs112 => ?_)
    obtain rfl := some_inj h104
    exact DWP.done (by kernel_rfl) ⟨F4, a105, n106, e107, hs112.dr0, le95, fI, hr110⟩
   ·rintro f w64 ⟨F3, aj67_0, nj67_0, ej67_0, hs65, le66, ⟨_, rfl⟩, hrj67_0⟩
    refine blockQ_nrm ?_
    refine thenQ_nrm ?_
    refine Rg [0, 1, 2] ?_
    refine Vs 3 ?_
    refine RWP.nil ?_
    have hn113 := iter_next h74 hnx58
    exact ⟨m55, Nat.lt_succ_self _, ((W64 (s37.1 + 1)), j67), F3, aj67_0, nj67_0, ej67_0, hn113, hs65, (le40.trans le66), fI, hrj67_0⟩
  ·refine Ex ?_
   refine thenQ_ex ?_
   refine thenQ_ex ?_
   refine blockQ_hit rfl ?_
   have ho114 := iter_done h61 hnx58
   exact .inl ⟨rfl, (s37.1, s37.2), F1, as37_1, ns37_1, es37_1, ho114, hs39.dr3, le40, fI, hrs37_1⟩
 ·rintro f w47 ⟨s46, F2, as46_1, ns46_1, es46_1, rfl, hs48, le49, ⟨_, rfl⟩, hrs46_1⟩
  have h115 := k_done h36
  refine thenQ_nrm ?_
  refine Sq (Rg [0, 1, 2] ?_)
  refine Ld hs48.at1 ?_
  have hb119 := RowR.bound hrs46_1
  obtain ⟨F5, hs116, le117, hs118⟩ := hs48.fr0 hrs46_1
  obtain ⟨r120, hr121, h122⟩ := bind_some h115
  refine Cl' co_ref06_simplified hs116 (c_ref06_simplified N w47 F5 hs116.pers (({ Op := x0.Op, Value := x0.Value, Kids := s46.2 } : Expr)) as46_1 ns46_1 hb119 hs118 _ hr121) ?_
  rintro _ F6 w124 hs125 le126 ⟨ar120_0_2, nr120_0_2, rfl, hbr120_0_2, hsr120_0_2⟩
  refine St1 (kExpr r120 ar120_0_2 nr120_0_2) hs125 (fun w128 hs129 => ?_)
  refine Nt ?_
  refine Rt ?_
  obtain rfl := some_inj h122
  exact ⟨rfl, (.agg (kExpr r120 ar120_0_2 nr120_0_2)), res_of (l := [.cell 2 33]) (by kernel_rfl) (vs := [(.agg (kExpr r120 ar120_0_2 nr120_0_2))]) ⟨b24, 0, rfl, run_loadVar' (t := 33) (g := true) (s := 3) (by kernel_rfl) hs129.at1 rfl (by decide), trivial⟩, (.agg (kExpr r120 ar120_0_2 nr120_0_2)), F6, rfl, hs129.clear, ⟨ar120_0_2, nr120_0_2, rfl, hbr120_0_2, hsr120_0_2⟩⟩
end Go.Proofs.YtaihlcdkcampbaaGreatDoor
namespace Go.Proofs.YtaihlcdkcampbaaGreatDoor
open Go.Proofs
structure Rec96 where
 q96 : Expr → Option Expr
def rec96 (N : Nat) : Nat → Rec96
 | 0 => ⟨fun _ => none⟩
 | k + 1 => ⟨ref06_simple_S N (rec96 N k).q96⟩
theorem rec96_ok (N : Nat) : ∀ k, Self96 (rec96 N k).q96
 | 0 => (by unfold Self96; intros; rename_i h; cases h)
 | k + 1 => by
  have ih := rec96_ok N k
  exact @cS_ref06_simple N (rec96 N k).q96 ih
def ref06_simple (N : Nat) (x0 : Expr) : Option Expr := (rec96 N N).q96 x0
theorem c_ref06_simple (N : Nat) (w0 : World) (F0 : Mem) (hF : ∀ b o, F0 b = some o → w0.heap[b]? = some o) (x0 : Expr) (a0_2 : Option Addr) (n0_2 : Nat) (hb0_2 : LC x0.Kids.length n0_2) (hs0_2 : SlA tExpr F0 a0_2 x0.Kids) (r : Expr) (h : ref06_simple N x0 = some r) :
  Calls Tryz.prog 96 ([(.agg #[(.int .i64 x0.Op), (.int .i64 x0.Value), (.slice a0_2 x0.Kids.length n0_2)])] : List Value).toArray w0 (FRet w0 F0 fun F' v => ∃ (aq0_2 : Option Addr) (nq0_2 : Nat), v = (.agg #[(.int .i64 r.Op), (.int .i64 r.Value), (.slice aq0_2 r.Kids.length nq0_2)]) ∧ LC r.Kids.length nq0_2 ∧ SlA tExpr F' aq0_2 r.Kids) := (rec96_ok N N) w0 F0 hF x0 a0_2 n0_2 hb0_2 hs0_2 r h
end Go.Proofs.YtaihlcdkcampbaaGreatDoor
namespace Go.Proofs.YtaihlcdkcampbaaGreatDoor
open Go.Proofs
def rules_Simplify (N : Nat) (x0 : Expr) : Option (Expr × Int) :=
 ((rules_sound N x0).bind fun r27 => (bif (!r27) then some (({ Op := 0, Value := 0, Kids := ([] : List Expr) } : Expr), 61) else ((rules_simplified N x0).bind fun r40 => some (r40, 0))))
theorem co_rules_Simplify : CallOk Tryz.prog 30 := fun _ _ => by kernel_rfl
theorem c_rules_Simplify (N : Nat) (w0 : World) (F0 : Mem) (hF : ∀ b o, F0 b = some o → w0.heap[b]? = some o) (x0 : Expr) (a0_2 : Option Addr) (n0_2 : Nat) (hb0_2 : LC x0.Kids.length n0_2) (hs0_2 : SlA tExpr F0 a0_2 x0.Kids) (r : (Expr × Int)) (h : rules_Simplify N x0 = some r) :
  Calls Tryz.prog 30 ([(.agg (kExpr x0 a0_2 n0_2))] : List Value).toArray w0 (FRet w0 F0 fun F' v => ∃ (aq0_2 : Option Addr) (nq0_2 : Nat), v = (.tuple #[(.agg (kExpr r.1 aq0_2 nq0_2)), (vi r.2)]) ∧ LC r.1.Kids.length nq0_2 ∧ SlA tExpr F' aq0_2 r.1.Kids) := by
 have hs0 := HS.start hF
 refine Go 10 Tryz.func30 ?_
 refine Sq (Rg [0, 1, 2] ?_)
 refine Bx' 33 (kExpr x0 a0_2 n0_2) hs0 (fun b21 w22 hs23 => ?_)
 refine Al' 33 #[(vi 0), (vi 0), (.slice none ([] : List Expr).length 0)] hs23 (fun b24 w25 hs26 => ?_)
 refine Vs 1 ?_
 refine Nss ?_
 refine Sq (Rg [0, 1, 2] ?_)
 refine Ld hs26.at1 ?_
 obtain ⟨r27, hr28, h29⟩ := bind_some h
 refine Cl' co_rules_sound hs26 (c_rules_sound N w25 F0 hs26.pers (x0) a0_2 n0_2 hb0_2 hs0_2 _ hr28) ?_
 rintro _ F1 w31 hs32 le33 rfl
 refine Vs 1 ?_
 refine Nt ?_
 refine Cd h29 (fun hb35 h36 => ?_) (fun hb35 h37 => ?_)
 ·refine Sq (Rg [0, 1, 2] ?_)
  refine Vs 1 ?_
  refine St0 #[(vi 0), (vi 0), (.slice none ([] : List Expr).length 0)] hs32 (fun w38 hs39 => ?_)
  refine Vs 1 ?_
  refine Nt ?_
  refine Rt ?_
  refine thenQ_ret ?_
  obtain rfl := some_inj h36
  exact ⟨rfl, (.tuple #[(.agg #[(vi 0), (vi 0), (.slice none ([] : List Expr).length 0)]), (vi 61)]), res_of (l := [.cell 2 33, .tmp 3]) (by kernel_rfl) (vs := [(.agg #[(vi 0), (vi 0), (.slice none ([] : List Expr).length 0)]), (vi 61)]) ⟨b24, 0, rfl, run_loadVar' (t := 33) (g := true) (s := 3) (by kernel_rfl) hs39.at0 rfl (by decide), ⟨rfl, trivial⟩⟩, (.tuple #[(.agg #[(vi 0), (vi 0), (.slice none ([] : List Expr).length 0)]), (vi 61)]), F1, rfl, hs39.clear, ⟨none, 0, rfl, LC.nil, (.inl rfl)⟩⟩
 ·refine Sc ?_
  refine thenQ_nrm ?_
  refine Sq (Rg [0, 1, 2, 3] ?_)
  refine Ld hs32.at1 ?_
  obtain ⟨r40, hr41, h42⟩ := bind_some h37
  refine Cl' co_rules_simplified hs32 (c_rules_simplified N w31 F1 hs32.pers (x0) a0_2 n0_2 hb0_2 (SlA.mono hs0_2 le33) _ hr41) ?_
  rintro _ F2 w44 hs45 le46 ⟨ar40_0_2, nr40_0_2, rfl, hbr40_0_2, hsr40_0_2⟩
  refine St0 (kExpr r40 ar40_0_2 nr40_0_2) hs45 (fun w48 hs49 => ?_)
  refine Vs 1 ?_
  refine Nt ?_
  refine Rt ?_
  obtain rfl := some_inj h42
  exact ⟨rfl, (.tuple #[(.agg (kExpr r40 ar40_0_2 nr40_0_2)), (vi 0)]), res_of (l := [.cell 2 33, .tmp 3]) (by kernel_rfl) (vs := [(.agg (kExpr r40 ar40_0_2 nr40_0_2)), (vi 0)]) ⟨b24, 0, rfl, run_loadVar' (t := 33) (g := true) (s := 3) (by kernel_rfl) hs49.at0 rfl (by decide), ⟨rfl, trivial⟩⟩, (.tuple #[(.agg (kExpr r40 ar40_0_2 nr40_0_2)), (vi 0)]), F2, rfl, hs49.clear, ⟨ar40_0_2, nr40_0_2, rfl, hbr40_0_2, hsr40_0_2⟩⟩
end Go.Proofs.YtaihlcdkcampbaaGreatDoor
namespace Go.Proofs.YtaihlcdkcampbaaGreatDoor
open Go.Proofs
def ref06_Simplify (N : Nat) (x0 : Expr) : Option (Expr × Int) :=
 ((ref06_soundAny N x0).bind fun r27 => (bif (!r27) then some (({ Op := 0, Value := 0, Kids := ([] : List Expr) } : Expr), 61) else ((ref06_simple N x0).bind fun r40 => some (r40, 0))))
theorem co_ref06_Simplify : CallOk Tryz.prog 31 := fun _ _ => by kernel_rfl
theorem c_ref06_Simplify (N : Nat) (w0 : World) (F0 : Mem) (hF : ∀ b o, F0 b = some o → w0.heap[b]? = some o) (x0 : Expr) (a0_2 : Option Addr) (n0_2 : Nat) (hb0_2 : LC x0.Kids.length n0_2) (hs0_2 : SlA tExpr F0 a0_2 x0.Kids) (r : (Expr × Int)) (h : ref06_Simplify N x0 = some r) :
  Calls Tryz.prog 31 ([(.agg (kExpr x0 a0_2 n0_2))] : List Value).toArray w0 (FRet w0 F0 fun F' v => ∃ (aq0_2 : Option Addr) (nq0_2 : Nat), v = (.tuple #[(.agg (kExpr r.1 aq0_2 nq0_2)), (vi r.2)]) ∧ LC r.1.Kids.length nq0_2 ∧ SlA tExpr F' aq0_2 r.1.Kids) := by
 have hs0 := HS.start hF
 refine Go 10 Tryz.func31 ?_
 refine Sq (Rg [0, 1, 2] ?_)
 refine Bx' 33 (kExpr x0 a0_2 n0_2) hs0 (fun b21 w22 hs23 => ?_)
 refine Al' 33 #[(vi 0), (vi 0), (.slice none ([] : List Expr).length 0)] hs23 (fun b24 w25 hs26 => ?_)
 refine Vs 1 ?_
 refine Nss ?_
 refine Sq (Rg [0, 1, 2] ?_)
 refine Ld hs26.at1 ?_
 obtain ⟨r27, hr28, h29⟩ := bind_some h
 refine Cl' co_ref06_soundAny hs26 (c_ref06_soundAny N w25 F0 hs26.pers (x0) a0_2 n0_2 hb0_2 hs0_2 _ hr28) ?_
 rintro _ F1 w31 hs32 le33 rfl
 refine Vs 1 ?_
 refine Nt ?_
 refine Cd h29 (fun hb35 h36 => ?_) (fun hb35 h37 => ?_)
 ·refine Sq (Rg [0, 1, 2] ?_)
  refine Vs 1 ?_
  refine St0 #[(vi 0), (vi 0), (.slice none ([] : List Expr).length 0)] hs32 (fun w38 hs39 => ?_)
  refine Vs 1 ?_
  refine Nt ?_
  refine Rt ?_
  refine thenQ_ret ?_
  obtain rfl := some_inj h36
  exact ⟨rfl, (.tuple #[(.agg #[(vi 0), (vi 0), (.slice none ([] : List Expr).length 0)]), (vi 61)]), res_of (l := [.cell 2 33, .tmp 3]) (by kernel_rfl) (vs := [(.agg #[(vi 0), (vi 0), (.slice none ([] : List Expr).length 0)]), (vi 61)]) ⟨b24, 0, rfl, run_loadVar' (t := 33) (g := true) (s := 3) (by kernel_rfl) hs39.at0 rfl (by decide), ⟨rfl, trivial⟩⟩, (.tuple #[(.agg #[(vi 0), (vi 0), (.slice none ([] : List Expr).length 0)]), (vi 61)]), F1, rfl, hs39.clear, ⟨none, 0, rfl, LC.nil, (.inl rfl)⟩⟩
 ·refine Sc ?_
  refine thenQ_nrm ?_
  refine Sq (Rg [0, 1, 2, 3] ?_)
  refine Ld hs32.at1 ?_
  obtain ⟨r40, hr41, h42⟩ := bind_some h37
  refine Cl' co_ref06_simple hs32 (c_ref06_simple N w31 F1 hs32.pers (x0) a0_2 n0_2 hb0_2 (SlA.mono hs0_2 le33) _ hr41) ?_
  rintro _ F2 w44 hs45 le46 ⟨ar40_0_2, nr40_0_2, rfl, hbr40_0_2, hsr40_0_2⟩
  refine St0 (kExpr r40 ar40_0_2 nr40_0_2) hs45 (fun w48 hs49 => ?_)
  refine Vs 1 ?_
  refine Nt ?_
  refine Rt ?_
  obtain rfl := some_inj h42
  exact ⟨rfl, (.tuple #[(.agg (kExpr r40 ar40_0_2 nr40_0_2)), (vi 0)]), res_of (l := [.cell 2 33, .tmp 3]) (by kernel_rfl) (vs := [(.agg (kExpr r40 ar40_0_2 nr40_0_2)), (vi 0)]) ⟨b24, 0, rfl, run_loadVar' (t := 33) (g := true) (s := 3) (by kernel_rfl) hs49.at0 rfl (by decide), ⟨rfl, trivial⟩⟩, (.tuple #[(.agg (kExpr r40 ar40_0_2 nr40_0_2)), (vi 0)]), F2, rfl, hs49.clear, ⟨ar40_0_2, nr40_0_2, rfl, hbr40_0_2, hsr40_0_2⟩⟩
end Go.Proofs.YtaihlcdkcampbaaGreatDoor
namespace Go.Proofs.YtaihlcdkcampbaaGreatDoor
def arith (op a b : Int) : Int := if op = 8 then hold (a + b) else if op = 9 then hold (a - b) else hold (a * b)
theorem mk_num {x : Expr} (hx : kd x = 1) (ho : x.Op = 1) : 0 ≤ x.Value ∧ x.Value ≤ 1000000 ∧ x.Kids = [] := by
 have hm := kd_mk (e := x) (by rw [hx]; decide)
 rw [hx] at hm
 cases hm with
 | num _ h1 h2 h3 => exact ⟨h1, h2, h3⟩
 | field h => omega
 | sum h => omega
 | cond h => omega
theorem num_eq {x : Expr} (hx : kd x = 1) (ho : x.Op = 1) : x = cst x.Value := by
 obtain ⟨_, _, hk⟩ := mk_num hx ho
 exact expr_ext ho rfl hk
def zeros : List Int := List.replicate 14 0
theorem fac_zeros : fac zeros = true := by decide
theorem val_num (f : List Int) (a : Int) : val f (cst a) = a := by rw [val_eq]; rfl
section
variable {N : Nat}
theorem q_num {f : List Int} (k : Nat) (hN : 0 < N) (a : Int) : (rec101 N (k + 1)).q101 (cst a) f = some a := by
 show ref06_value_S N (rec101 N k).q101 (cst a) f = _
 unfold ref06_value_S
 obtain ⟨m, rfl⟩ : ∃ m, N = m + 1 := ⟨N - 1, by omega⟩
 rfl
theorem q_sum {f : List Int} {op a b : Int} (hop : op = 8 ∨ op = 9 ∨ op = 10) (k : Nat) (hN : 5 < N) (ha : 0 ≤ a ∧ a ≤ 1000000) (hb : 0 ≤ b ∧ b ≤ 1000000) : (rec101 N (k + 2)).q101 ⟨op, 0, [cst a, cst b]⟩ f = some (arith op a b) := by
 show ref06_value_S N (rec101 N (k + 1)).q101 ⟨op, 0, [cst a, cst b]⟩ f = _
 unfold ref06_value_S
 have hit : iter (ref06_value_L0 N (rec101 N (k + 1)).q101 ⟨op, 0, [cst a, cst b]⟩ f) N ([], 0) = some (.done ([a, b], 2)) := by
  have := iter_cat' (n := 2) (N := N) (body := ref06_value_L0 N (rec101 N (k + 1)).q101 ⟨op, 0, [cst a, cst b]⟩ f) 1 (fun i => if i = 0 then [a] else [b]) (fun i hi => by split <;> simp) (s0 := []) (fun i s hi hs => by
   unfold ref06_value_L0
   simp only
   rw [show ([cst a, cst b].length : Int) = ((2 : Nat) : Int) from rfl, lt_t hi, cond_true]
   rcases (show i = 0 ∨ i = 1 by omega) with rfl | rfl
   ·rw [show idx [cst a, cst b] ((0 : Nat) : Int) = some (cst a) from rfl, Option.bind_some, q_num k (by omega), Option.bind_some, apnd_ok (by simp at hs ⊢; omega), Option.bind_some]; rfl
   ·rw [show idx [cst a, cst b] ((1 : Nat) : Int) = some (cst b) from rfl, Option.bind_some, q_num k (by omega), Option.bind_some, apnd_ok (by simp at hs ⊢; omega), Option.bind_some]; rfl) (fun s => by
   unfold ref06_value_L0
   simp only
   rw [show ([cst a, cst b].length : Int) = ((2 : Nat) : Int) from rfl, lt_f, cond_false]) (by omega)
  rw [this]; rfl
 rw [hit]
 have c' := mul_small (a := a) (b := b) (by omega) (by omega) (by omega) (by omega)
 rcases hop with rfl | rfl | rfl
 ·show some (hold (W64 (a + b))) = some (hold (a + b)); rw [W64_small (by omega) (by omega)]
 ·show some (hold (W64 (a - b))) = some (hold (a - b)); rw [W64_small (by omega) (by omega)]
 ·show some (hold (W64 (a * b))) = some (hold (a * b)); rw [W64_small (by omega) (by omega)]
def cb (x : Expr) (n : Int) : Bool := (x.Op == 1) && (x.Value == n)
noncomputable def reckS (op : Int) (x y : Expr) : Expr :=
 if op = 8 then (if cb x 0 then y else if cb y 0 then x else ⟨op, 0, [x, y]⟩)
 else if op = 9 then (if cb y 0 then x else if eqv x y then cst 0 else ⟨op, 0, [x, y]⟩)
 else (if cb x 1 then y else if cb y 1 then x else if cb x 0 || cb y 0 then cst 0 else ⟨op, 0, [x, y]⟩)
theorem m_isC (x : Expr) (n : Int) : rules_isConstant N x n = some (cb x n) := rfl
theorem m_ris (x : Expr) (n : Int) : ref06_is N x n = some (cb x n) := rfl
theorem m_reck {op : Int} {x y : Expr} (hop : op = 8 ∨ op = 9 ∨ op = 10) (fx : Fit N x) : rules_reckoned N ⟨op, 0, [x, y]⟩ x y = some (reckS op x y) := by
 unfold rules_reckoned reckS
 simp only [m_isC, s_same fx, Option.bind_some]
 rcases hop with rfl | rfl | rfl
 ·cases cb x 0 <;> cases cb y 0 <;> rfl
 ·cases cb y 0 <;> cases eqv x y <;> rfl
 ·cases cb x 1 <;> cases cb y 1 <;> cases cb x 0 <;> cases cb y 0 <;> rfl
theorem reck_ok {n : Nat} {op : Int} {x y : Expr} (hN : 2 * n + 10 ≤ N) (h : Ht N n ⟨op, 0, [x, y]⟩) (hk : kd ⟨op, 0, [x, y]⟩ = 1) (hx : kd x = 1) (hy : kd y = 1) : kd (reckS op x y) = 1 ∧ Ht N n (reckS op x y) := by
 obtain ⟨m, rfl⟩ := ht_pos h
 have hxh : Ht N m x := h.2.2 x (List.mem_cons_self ..)
 have hyh : Ht N m y := h.2.2 y (by show y ∈ [x, y]; simp)
 have h0 : kd (cst 0) = 1 ∧ Ht N (m + 1) (cst 0) := ⟨kd_cst (by decide) (by decide), ht_cst 0 (by omega)⟩
 unfold reckS
 repeat' split
 all_goals first | exact ⟨hx, hxh.succ⟩ | exact ⟨hy, hyh.succ⟩ | exact h0 | exact ⟨hk, h⟩
theorem reck_nums {op a b : Int} (hop : op = 8 ∨ op = 9 ∨ op = 10) (ha : 0 ≤ a) (hb : 0 ≤ b) (hn : arith op a b < 0) : reckS op (cst a) (cst b) = ⟨op, 0, [cst a, cst b]⟩ := by
 unfold arith at hn
 rcases hop with rfl | rfl | rfl
 ·exfalso; simp only [if_true] at hn; unfold hold at hn; omega
 ·simp only [show ¬ (9 : Int) = 8 from by decide, if_false, if_true] at hn
  have hlt : a < b := by unfold hold at hn; omega
  unfold reckS
  simp only [show ¬ (9 : Int) = 8 from by decide, if_false, if_true]
  have c0 : cb (cst b) 0 = false := by show ((1 : Int) == 1 && b == 0) = false; simp; omega
  have e0 : eqv (cst a) (cst b) = false := eqv_false.2 (fun h => by injection h; omega)
  rw [c0, e0]; rfl
 ·exfalso
  simp only [show ¬ (10 : Int) = 8 from by decide, show ¬ (10 : Int) = 9 from by decide, if_false] at hn
  have : 0 ≤ a * b := Int.mul_nonneg ha hb
  unfold hold at hn; omega
noncomputable def sumS (op : Int) (x y : Expr) : Expr :=
 if (decide (x.Op = 1) && decide (y.Op = 1)) && decide (0 ≤ arith op x.Value y.Value) then cst (arith op x.Value y.Value) else reckS op x y
theorem step_sum {n : Nat} {op : Int} {x y : Expr} (hop : op = 8 ∨ op = 9 ∨ op = 10) (hN : 2 * n + 10 ≤ N) (h : Ht N n ⟨op, 0, [x, y]⟩) (hk : kd ⟨op, 0, [x, y]⟩ = 1) (hx : kd x = 1) (hy : kd y = 1) : Step N n ⟨op, 0, [x, y]⟩ := by
 have hfull := h
 obtain ⟨m, rfl⟩ := ht_pos h
 have hxh : Ht N m x := h.2.2 x (List.mem_cons_self ..)
 have fx : Fit N x := ⟨_, hxh, by omega⟩
 have fe : Fit N ⟨op, 0, [x, y]⟩ := ⟨_, hfull, by omega⟩
 have i0 : idx (⟨op, 0, [x, y]⟩ : Expr).Kids 0 = some x := rfl
 have i1 : idx (⟨op, 0, [x, y]⟩ : Expr).Kids 1 = some y := rfl
 have hv : val zeros ⟨op, 0, [x, y]⟩ = if op = 8 then hold (val zeros x + val zeros y) else if op = 9 then hold (val zeros x - val zeros y) else hold (val zeros x * val zeros y) := by
  rw [val_eq]
  rcases hop with rfl | rfl | rfl <;> rfl
 have hz : mk0 (0 : Int) 14 = some zeros := by unfold mk0; rw [if_pos ⟨by decide, by decide⟩]; rfl
 have h1 : rules_simpler N ⟨op, 0, [x, y]⟩ = some (sumS op x y) := by
  have core : (((mk0 0 14).bind fun r382 => ((rules_value N ⟨op, 0, [x, y]⟩ r382).bind fun r396 => some r396)).bind fun j372 => (bif (((x.Op == 1) && (y.Op == 1)) && (decide (j372 ≥ 0))) then ((rules_constant N j372).bind fun r417 => some r417) else ((rules_reckoned N ⟨op, 0, [x, y]⟩ x y).bind fun r428 => some r428))) = some (sumS op x y) := by
   rw [hz, Option.bind_some, s_value fac_zeros fe (by rw [hk]; decide), Option.bind_some, Option.bind_some, m_reck hop fx, Option.bind_some]
   unfold sumS
   rw [int_beq x.Op, int_beq y.Op]
   by_cases hx1 : x.Op = 1
   ·by_cases hy1 : y.Op = 1
    ·have e1 := num_eq hx hx1
     have e2 := num_eq hy hy1
     have : val zeros ⟨op, 0, [x, y]⟩ = arith op x.Value y.Value := by
      rw [hv, e1, e2, val_num, val_num]; rfl
     rw [this, decide_eq_true hx1, decide_eq_true hy1]
     by_cases h0 : 0 ≤ arith op x.Value y.Value
     ·rw [decide_eq_true h0]; rfl
     ·rw [decide_eq_false h0]; rfl
    ·rw [decide_eq_false hy1]; simp
   ·rw [decide_eq_false hx1]; simp
  unfold rules_simpler
  show (bif (2 : Int) == 0 then _ else _) = _
  rw [show ((2 : Int) == 0) = false from rfl, cond_false, i0, Option.bind_some, i1, Option.bind_some, core]
  rcases hop with rfl | rfl | rfl <;> rfl
 have h2 : ref06_simplified N ⟨op, 0, [x, y]⟩ = some (sumS op x y) := by
  have core : ref06_reckoned N ⟨op, 0, [x, y]⟩ x y = some (sumS op x y) := by
   unfold ref06_reckoned sumS
   rw [int_beq x.Op, int_beq y.Op]
   have ref : ∀ b : Bool, (x.Op = 1 ∧ y.Op = 1 → b = true) → b = (decide (x.Op = 1) && decide (y.Op = 1)) → b = false → (bif op == 8 then ((ref06_is N x 0).bind fun r71 => (bif r71 then some y else ((ref06_is N y 0).bind fun r84 => (bif r84 then some x else some (⟨op, 0, [x, y]⟩ : Expr))))) else (bif (op == 9) then ((ref06_is N y 0).bind fun r102 => (bif r102 then some x else ((ref06_Equal N x y).bind fun r115 => (bif r115 then ((ref06_number N 0).bind fun r125 => some r125) else some ⟨op, 0, [x, y]⟩)))) else (bif (op == 10) then ((ref06_is N x 1).bind fun r141 => (bif r141 then some y else ((ref06_is N y 1).bind fun r154 => (bif r154 then some x else (((ref06_is N x 0).bind fun r177 => (bif r177 then some true else ((ref06_is N y 0).bind fun r190 => some r190))).bind fun j170 => (bif j170 then ((ref06_number N 0).bind fun r202 => some r202) else some ⟨op, 0, [x, y]⟩)))))) else some ⟨op, 0, [x, y]⟩))) = some (reckS op x y) := by
    intro _ _ _ _
    unfold reckS
    simp only [m_ris, s_Equal fx, Option.bind_some]
    rcases hop with rfl | rfl | rfl
    ·cases cb x 0 <;> cases cb y 0 <;> rfl
    ·cases cb y 0 <;> cases eqv x y <;> rfl
    ·cases cb x 1 <;> cases cb y 1 <;> cases cb x 0 <;> cases cb y 0 <;> rfl
   by_cases hb : (decide (x.Op = 1) && decide (y.Op = 1)) = true
   ·have hb' := hb
    simp only [Bool.and_eq_true, decide_eq_true_eq] at hb'
    obtain ⟨hx1, hy1⟩ := hb'
    have e1 := num_eq hx hx1
    have e2 := num_eq hy hy1
    obtain ⟨a1, a2, _⟩ := mk_num hx hx1
    obtain ⟨b1, b2, _⟩ := mk_num hy hy1
    rw [hb, cond_true]
    have hq : ref06_value N ⟨op, 0, [x, y]⟩ [] = some (arith op x.Value y.Value) := by
     obtain ⟨k, hk⟩ : ∃ k, N = k + 2 := ⟨N - 2, by omega⟩
     have := q_sum (N := N) (f := []) hop k (by omega) ⟨a1, a2⟩ ⟨b1, b2⟩
     rw [← e1, ← e2, ← hk] at this
     exact this
    rw [hq, Option.bind_some]
    by_cases h0 : 0 ≤ arith op x.Value y.Value
    ·rw [decide_eq_true h0]; rfl
    ·rw [decide_eq_false h0]
     have := reck_nums hop a1 b1 (by omega)
     rw [← e1, ← e2] at this
     rw [this]; rfl
   ·rw [Bool.not_eq_true] at hb
    rw [hb, cond_false, ref false (fun ⟨p, q⟩ => by rw [decide_eq_true p, decide_eq_true q] at hb; cases hb) hb.symm rfl]; rfl
  unfold ref06_simplified
  simp only [i0, i1, core, Option.bind_some, eta]
  rcases hop with rfl | rfl | rfl <;> rfl
 obtain ⟨r1, r2⟩ := reck_ok hN hfull hk hx hy
 refine step_ret h1 h2 ?_ ?_
 ·rw [hk]; unfold sumS
  split
  ·rename_i hc
   simp only [Bool.and_eq_true, decide_eq_true_eq] at hc
   refine kd_cst hc.2 ?_
   unfold arith
   have := hold_r
   split
   ·exact (this _).2
   ·split <;> exact (this _).2
  ·exact r1
 ·unfold sumS
  split
  ·exact ht_cst _ (by omega)
  ·exact r2
theorem step_any {n : Nat} {e : Expr} (hN : 2 * n + 10 ≤ N) (h : Ht N n e) (hk : kd e ≠ 0) : Step N n e := by
 have hm := kd_mk hk
 have leaf : ∀ t : Int, kd e = t → e.Kids = [] → e.Op = 1 ∨ e.Op = 2 → Step N n e := by
  intro t ht hk' ho
  refine step_ret (r := e) ?_ ?_ rfl h
  ·unfold rules_simpler; rw [hk']; rfl
  ·unfold ref06_simplified; rcases ho with ho | ho <;> rw [ho] <;> rfl
 generalize ht : kd e = t at hm
 cases hm with
 | num ho _ _ hk' => exact leaf _ ht hk' (.inl ho)
 | field ho _ _ hk' => exact leaf _ ht hk' (.inr ho)
 | deny ho hv x hk' hx =>
  obtain rfl : e = ⟨3, 0, [x]⟩ := expr_ext ho hv hk'
  exact step_deny hN h ht hx
 | logic ho hv x y hk' hx hy =>
  obtain ⟨op, he⟩ : ∃ op, e.Op = op := ⟨_, rfl⟩
  rw [he] at ho
  obtain rfl : e = ⟨op, 0, [x, y]⟩ := expr_ext he hv hk'
  exact step_logic ho hN h ht hx hy
 | test ho hv x y hk' hx hy =>
  obtain ⟨op, he⟩ : ∃ op, e.Op = op := ⟨_, rfl⟩
  rw [he] at ho
  obtain rfl : e = ⟨op, 0, [x, y]⟩ := expr_ext he hv hk'
  exact step_test ho hN h ht hx hy
 | sum ho hv x y hk' hx hy =>
  obtain ⟨op, he⟩ : ∃ op, e.Op = op := ⟨_, rfl⟩
  rw [he] at ho
  obtain rfl : e = ⟨op, 0, [x, y]⟩ := expr_ext he hv hk'
  exact step_sum ho hN h ht hx hy
 | cond ho hv c x y hk' hc hx hy =>
  obtain rfl : e = ⟨11, 0, [c, x, y]⟩ := expr_ext ho hv hk'
  exact step_cond hN h ht hx hy
theorem kids_n {e : Expr} (hk : kd e ≠ 0) : e.Kids.length ≤ 3 ∧ ∀ x, x ∈ e.Kids → kd x ≠ 0 := by
 have hm := kd_mk hk
 generalize kd e = t at hm
 cases hm with
 | num _ _ _ hk => rw [hk]; exact ⟨by simp, fun x hx => by cases hx⟩
 | field _ _ _ hk => rw [hk]; exact ⟨by simp, fun x hx => by cases hx⟩
 | deny _ _ a hk h1 => rw [hk]; exact ⟨by simp, fun x hx => by simp at hx; subst hx; rw [h1]; decide⟩
 | logic _ _ a b hk h1 h2 => rw [hk]; exact ⟨by simp, fun x hx => by simp at hx; rcases hx with rfl | rfl <;> first | (rw [h1]; decide) | (rw [h2]; decide)⟩
 | test _ _ a b hk h1 h2 => rw [hk]; exact ⟨by simp, fun x hx => by simp at hx; rcases hx with rfl | rfl <;> first | (rw [h1]; decide) | (rw [h2]; decide)⟩
 | sum _ _ a b hk h1 h2 => rw [hk]; exact ⟨by simp, fun x hx => by simp at hx; rcases hx with rfl | rfl <;> first | (rw [h1]; decide) | (rw [h2]; decide)⟩
 | cond _ _ c a b hk h0 h1 h2 => rw [hk]; exact ⟨by simp, fun x hx => by simp at hx; rcases hx with rfl | rfl | rfl <;> first | (rw [h1]; decide) | (rw [h2]; decide) | (rw [h0]; decide)⟩
theorem choose_list' {R : Nat → Expr → Prop} : ∀ {n : Nat}, (∀ i, i < n → ∃ x, R i x) → ∃ l : List Expr, l.length = n ∧ ∀ i x, l[i]? = some x → R i x
 | 0, _ => ⟨[], rfl, fun i x h => by simp at h⟩
 | n + 1, h => by
  obtain ⟨l, h1, h2⟩ := choose_list' (n := n) (fun i hi => h i (by omega))
  obtain ⟨x, hx⟩ := h n (by omega)
  refine ⟨l ++ [x], by simp [h1], fun i y hy => ?_⟩
  rcases Nat.lt_or_ge i l.length with hlt | hge
  ·rw [List.getElem?_append_left hlt] at hy; exact h2 i y hy
  ·rw [List.getElem?_append_right hge] at hy
   have : i - l.length = 0 := by
    rcases Nat.eq_zero_or_pos (i - l.length) with h | h
    ·exact h
    ·rw [List.getElem?_eq_none (by simp; omega)] at hy; cases hy
   rw [this] at hy
   simp at hy
   subst hy
   have : i = n := by omega
   rw [this]; exact hx
theorem snd0_k' {e : Expr} (h : snd0 e = true) : kd e ≠ 0 := by unfold snd0 at h; simp at h; exact h.2
theorem simp_both : ∀ {n k : Nat} {e : Expr}, 2 * n + 10 ≤ N → Ht N n e → n ≤ k → kd e ≠ 0 → ∃ r, (rec94 N k).q94 e = some r ∧ (rec96 N k).q96 e = some r ∧ kd r = kd e ∧ Ht N n r
 | 0, _, _, _, h, _, _ => h.elim
 | n + 1, 0, _, _, _, h, _ => absurd h (by omega)
 | n + 1, k + 1, e, hN, h, hk, h0 => by
  obtain ⟨h1, h2, h3⟩ := h
  obtain ⟨hl, hkz⟩ := kids_n h0
  have ih : ∀ i, i < e.Kids.length → ∃ r, ∀ x, e.Kids[i]? = some x → (rec94 N k).q94 x = some r ∧ (rec96 N k).q96 x = some r ∧ kd r = kd x ∧ Ht N n r := fun i hi => by
   obtain ⟨r, hr⟩ := simp_both (n := n) (k := k) (e := e.Kids[i]) (by omega) (h3 _ (List.getElem_mem hi)) (by omega) (hkz _ (List.getElem_mem hi))
   exact ⟨r, fun x hx => by rw [List.getElem?_eq_getElem hi] at hx; cases hx; exact hr⟩
  obtain ⟨l, hll, hlr⟩ : ∃ l : List Expr, l.length = e.Kids.length ∧ ∀ i r, l[i]? = some r → ∀ x, e.Kids[i]? = some x → (rec94 N k).q94 x = some r ∧ (rec96 N k).q96 x = some r ∧ kd r = kd x ∧ Ht N n r :=
   choose_list' ih
  have g : ∀ i (hi : i < e.Kids.length), (rec94 N k).q94 e.Kids[i] = some (l[i]'(by omega)) ∧ (rec96 N k).q96 e.Kids[i] = some (l[i]'(by omega)) ∧ kd (l[i]'(by omega)) = kd e.Kids[i] ∧ Ht N n (l[i]'(by omega)) := fun i hi => hlr i _ (List.getElem?_eq_getElem _) _ (List.getElem?_eq_getElem hi)
  have hcat : cat e.Kids.length (fun i => [l[i]?.getD zE]) = l := by
   rw [← hll]
   have : ∀ m, m ≤ l.length → cat m (fun i => [l[i]?.getD zE]) = l.take m := by
    intro m
    induction m with
    | zero => intro _; simp [cat]
    | succ m ih => intro hm; rw [cat_succ, ih (by omega), List.take_succ_eq_append_getElem (by omega), List.getElem?_eq_getElem (by omega)]; rfl
   rw [this _ (Nat.le_refl _), List.take_length]
  have hmap : l.map kd = e.Kids.map kd := by
   apply List.ext_getElem (by simp [hll])
   intro i a b
   simp only [List.getElem_map]
   exact (g i (by simpa using b)).2.2.1
  have hk' : kd ⟨e.Op, e.Value, l⟩ = kd e := by
   rw [kd_eq, kd_eq (e := e)]; simp only [hmap]
  have hh : Ht N (n + 1) ⟨e.Op, e.Value, l⟩ := ⟨by show l.length < N; omega, by show l.length < _; omega, fun x hx => by
   obtain ⟨i, hi, rfl⟩ := List.getElem_of_mem hx
   have hi' : i < l.length := hi
   exact (g i (by omega)).2.2.2⟩
  obtain ⟨r, r1, r2, r3, r4⟩ := step_any hN hh (by rw [hk']; exact h0)
  refine ⟨r, ?_, ?_, by rw [r3, hk'], r4⟩
  ·show rules_simplified_S N (rec94 N k).q94 e = _
   unfold rules_simplified_S
   have hit : iter (rules_simplified_L0 N (rec94 N k).q94 e) N (0, []) = some (.done ((e.Kids.length : Int), ([] : List Expr) ++ cat e.Kids.length (fun i => [l[i]?.getD zE]))) := by
    refine iter_cat 1 _ (fun i hi => by simp) (fun i s hi hs => ?_) (fun s => ?_) h1
    ·unfold rules_simplified_L0
     simp only
     rw [lt_t hi, cond_true, idx_nat hi, Option.bind_some, (g i hi).1, Option.bind_some, apnd_ok (by simp at hs ⊢; omega), Option.bind_some, Option.bind_some, W64_succ (by omega), List.getElem?_eq_getElem (by omega)]
     rfl
    ·unfold rules_simplified_L0; simp only; rw [lt_f, cond_false]
   rw [hit, hcat]
   simp only [Option.bind_some, Flow.k, List.nil_append]
   rw [r1]; rfl
  ·show ref06_simple_S N (rec96 N k).q96 e = _
   unfold ref06_simple_S
   have hit : iter (ref06_simple_L0 N (rec96 N k).q96 e) N (0, []) = some (.done ((e.Kids.length : Int), ([] : List Expr) ++ cat e.Kids.length (fun i => [l[i]?.getD zE]))) := by
    refine iter_cat 1 _ (fun i hi => by simp) (fun i s hi hs => ?_) (fun s => ?_) h1
    ·unfold ref06_simple_L0
     simp only
     rw [lt_t hi, cond_true, idx_nat hi, Option.bind_some, (g i hi).2.1, Option.bind_some, apnd_ok (by simp at hs ⊢; omega), Option.bind_some, Option.bind_some, W64_succ (by omega), List.getElem?_eq_getElem (by omega)]
     rfl
    ·unfold ref06_simple_L0; simp only; rw [lt_f, cond_false]
   rw [hit, hcat]
   simp only [Option.bind_some, Flow.k, List.nil_append]
   rw [r2]; rfl
theorem s_Simplify {e : Expr} (h : Fit N e) : ∃ r t, rules_Simplify N e = some (r, t) ∧ ref06_Simplify N e = some (r, t) ∧ Fit N r ∧ (snd0 e = true → t = 0 ∧ kd r = kd e) ∧ (snd0 e = false → t = 61 ∧ r = zE) := by
 obtain ⟨n, h1, h2⟩ := h
 have hf : Fit N e := ⟨n, h1, h2⟩
 obtain ⟨n', hn'⟩ := ht_pos h1
 unfold rules_Simplify ref06_Simplify
 rw [s_sound hf, s_soundAny hf]
 cases hs : snd0 e with
 | false => exact ⟨zE, 61, rfl, rfl, ⟨1, ⟨by show 0 < N; omega, by show 0 < 9223372036854775808; omega, fun x hx => by cases hx⟩, by omega⟩, (fun h => by cases h), fun _ => ⟨rfl, rfl⟩⟩
 | true =>
  obtain ⟨r, r1, r2, r3, r4⟩ := simp_both (k := N) h2 h1 (by omega) (snd0_k' hs)
  refine ⟨r, 0, ?_, ?_, ⟨n, r4, h2⟩, fun _ => ⟨rfl, r3⟩, (fun h => by cases h)⟩
  ·have : rules_simplified N e = some r := r1
   rw [Option.bind_some, this]; rfl
  ·have : ref06_simple N e = some r := r2
   rw [Option.bind_some, this]; rfl
end
end Go.Proofs.YtaihlcdkcampbaaGreatDoor
namespace Go.Proofs.YtaihlcdkcampbaaGreatDoor
open Go.Proofs
def slices_IndexFunc_api_Clause_api_Clause_L0 (N : Nat) (x0 : (List Clause)) (x1 : (Clause → Option Bool)) : Int → Option (Flow Int Int) := fun s24 =>
 (bif (decide (s24 < (x0.length : Int))) then ((idx x0 s24).bind fun x47 => ((x1 x47).bind fun r61 => (bif r61 then some (.ret s24) else some (.next (W64 (s24 + 1)))))) else some (.done s24))
def slices_IndexFunc_api_Clause_api_Clause (N : Nat) (x0 : (List Clause)) (x1 : (Clause → Option Bool)) : Option Int :=
 ((iter (slices_IndexFunc_api_Clause_api_Clause_L0 N x0 x1) N 0).bind fun o => o.k (fun r => some r) (fun s33 => some (-1)))
theorem co_slices_IndexFunc_api_Clause_api_Clause : CallOk Tryz.prog 162 := fun _ _ => by kernel_rfl
theorem c_slices_IndexFunc_api_Clause_api_Clause (N : Nat) (w0 : World) (F0 : Mem) (hF : ∀ b o, F0 b = some o → w0.heap[b]? = some o) (x0 : (List Clause)) (a0_0 : Option Addr) (n0_0 : Nat) (hb0_0 : LC x0.length n0_0) (hs0_0 : SlA tClause F0 a0_0 x0) (gx1 : FuncId) (fx1 kx1 : List Value) (x1 : Clause → Option Bool) (hox1 : CallOk Tryz.prog gx1) (hpx1 : Fn148 F0 gx1 fx1 kx1 x1) (r : Int) (h : slices_IndexFunc_api_Clause_api_Clause N x0 x1 = some r) :
  Calls Tryz.prog 162 ([(.slice a0_0 x0.length n0_0), (.func (.func gx1) fx1.toArray kx1.toArray)] : List Value).toArray w0 (FRet w0 F0 fun F' v => v = (vi r)) := by
 have hs0 := HS.start hF
 refine Go 19 Tryz.func162 ?_
 refine Sq (Rg [0] ?_)
 refine Vs 1 ?_
 refine Nss ?_
 refine Sq (Rg [0, 1, 2] ?_)
 refine Vs 3 ?_
 refine Nt ?_
 obtain ⟨o21, ho22, h23⟩ := bind_some h
 refine CWP.cut (fun f w => ∃ (s33 : Int) (F2 : Mem), o21 = .done s33 ∧ HS w0 F0 w F2 [] ∧ Mem.le F0 F2 ∧ FI f [] []) ?_ ?_
 ·refine Bk ?_
  refine CWP.loop (by kernel_rfl) (fun m f w => ∃ (s24 : Int) (F1 : Mem), iter (slices_IndexFunc_api_Clause_api_Clause_L0 N x0 x1) m s24 = some o21 ∧ HS w0 F0 w F1 [] ∧ Mem.le F0 F1 ∧ FI f [] [(0, (.slice a0_0 x0.length n0_0)), (1, (.func (.func gx1) fx1.toArray kx1.toArray)), (7, (vi (x0.length : Int))), (8, (vi s24))]) N ⟨0, F0, ho22, hs0, (Mem.le.refl _), fI⟩ ?_
  rintro m38 f w25 ⟨s24, F1, hit39, hs26, le27, ⟨_, rfl⟩⟩
  obtain ⟨m40, fl41, rfl, hb42, hnx43⟩ := iter_step hit39
  refine Sq (Rg [0] ?_)
  refine Vs 1 ?_
  refine Nss ?_
  refine Cd hb42 (fun hb44 h45 => ?_) (fun hb44 h46 => ?_)
  ·refine Sc ?_
   refine thenQ_nrm ?_
   refine Sq ?_
   refine Bk ?_
   refine Sq (Rg [0, 1] ?_)
   refine Vs 2 ?_
   refine Nss (Rg [0, 1, 2, 3, 4, 5] ?_)
   refine Vs 3 ?_
   obtain ⟨x47, hx48, h50⟩ := bind_some h45
   obtain ⟨hi49, hx48'⟩ := idx_spec hx48
   obtain ⟨b51, o52, C53, E54, fz55, rfl, hF57, hE58⟩ := SlA.open (SlA.mono hs0_0 le27) hx48'
   obtain ⟨ae59_2, ne59_2, ae59_5, ne59_5, hc60, hbe59_2, hse59_2, hbe59_5, hse59_5⟩ := hE58 _ _ hx48'
   refine Ix hi49 ?_
   refine Lx 0 (hs26.pers _ _ hF57) hc60 ?_
   obtain ⟨r61, hr62, h63⟩ := bind_some h50
   refine Cq hox1 hs26 (hpx1 w25 F1 (x47) ae59_2 ne59_2 hbe59_2 hse59_2 ae59_5 ne59_5 hbe59_5 hse59_5 _ le27 hs26.pers hr62) ?_
   rintro _ F3 w65 hs66 le67 rfl
   refine Nt ?_
   refine Cd h63 (fun hb69 h70 => ?_) (fun hb69 h71 => ?_)
   ·refine Sq (Rg [0, 1] ?_)
    refine Vs 2 ?_
    refine Nt ?_
    refine Rt ?_
    refine blockQ_ret ?_
    refine thenQ_ret ?_
    refine thenQ_ret ?_
    refine blockQ_ret ?_
    have hret := iter_ret h70 hnx43
    subst hret
    refine .inr ?_
    refine thenQ_ret ?_
    obtain rfl := some_inj h23
    exact Re [(vi s24)] hs66 rfl
   ·refine Sc ?_
    refine blockQ_nrm ?_
    refine thenQ_nrm ?_
    refine Rg [0, 1] ?_
    refine Vs 2 ?_
    refine RWP.nil ?_
    have hn72 := iter_next h71 hnx43
    exact ⟨m40, Nat.lt_succ_self _, (W64 (s24 + 1)), F3, hn72, hs66, (le27.trans le67), fI⟩
  ·refine Ex ?_
   refine thenQ_ex ?_
   refine thenQ_ex ?_
   refine blockQ_hit rfl ?_
   have ho73 := iter_done h46 hnx43
   exact .inl ⟨rfl, s24, F1, ho73, hs26, le27, fI⟩
 ·rintro f w34 ⟨s33, F2, rfl, hs35, le36, ⟨_, rfl⟩⟩
  have h74 := k_done h23
  refine thenQ_nrm ?_
  refine Sq (Rg [0] ?_)
  refine Vs 1 ?_
  refine Nt ?_
  refine Rt ?_
  obtain rfl := some_inj h74
  exact Re [(vi (-1))] hs35 rfl
end Go.Proofs.YtaihlcdkcampbaaGreatDoor
namespace Go.Proofs.YtaihlcdkcampbaaGreatDoor
open Go.Proofs
end Go.Proofs.YtaihlcdkcampbaaGreatDoor
namespace Go.Proofs.YtaihlcdkcampbaaGreatDoor
open Go.Proofs
end Go.Proofs.YtaihlcdkcampbaaGreatDoor
namespace Go.Proofs.YtaihlcdkcampbaaGreatDoor
open Go.Proofs
end Go.Proofs.YtaihlcdkcampbaaGreatDoor
namespace Go.Proofs.YtaihlcdkcampbaaGreatDoor
open Go.Proofs
def rules_first_1 (N : Nat) (x0 : Clause) (z0 : (List Int)) : Option Bool :=
 ((rules_value N x0.When z0).bind fun r24 => some (r24 == 1))
theorem co_rules_first_1 : CallOk Tryz.prog 163 := fun _ _ => by kernel_rfl
theorem c_rules_first_1 (N : Nat) (w0 : World) (F0 : Mem) (hF : ∀ b o, F0 b = some o → w0.heap[b]? = some o) (x0 : Clause) (a0_2 : Option Addr) (n0_2 : Nat) (hb0_2 : LC x0.When.Kids.length n0_2) (hs0_2 : SlA tExpr F0 a0_2 x0.When.Kids) (a0_5 : Option Addr) (n0_5 : Nat) (hb0_5 : LC x0.Then.Kids.length n0_5) (hs0_5 : SlA tExpr F0 a0_5 x0.Then.Kids) (bz0 : Nat) (z0 : (List Int)) (az0_0 : Option Addr) (nz0_0 : Nat) (hbz0_0 : LC z0.length nz0_0) (hsz0_0 : SlA tInt F0 az0_0 z0) (hz0 : F0 bz0 = some (oc #[(.slice az0_0 z0.length nz0_0)] 47)) (r : Bool) (h : rules_first_1 N x0 z0 = some r) :
  Calls Tryz.prog 163 ([(.agg (kClause x0 a0_2 n0_2 a0_5 n0_5)), (pt bz0 0)] : List Value).toArray w0 (FRet w0 F0 fun F' v => v = (.bool r)) := by
 have hs0 := HS.start hF
 refine Go 9 Tryz.func163 ?_
 refine Sq (Rg [0, 1] ?_)
 refine Bx' 56 (kClause x0 a0_2 n0_2 a0_5 n0_5) hs0 (fun b21 w22 hs23 => ?_)
 refine Vs 1 ?_
 refine Nss (Rg [0, 1, 2, 3, 4, 5] ?_)
 refine Vs 1 ?_
 refine Ld hs23.at0 ?_
 refine Ld (hs23.pers _ _ hz0) ?_
 obtain ⟨r24, hr25, h26⟩ := bind_some h
 refine Cl' co_rules_value hs23 (c_rules_value N w22 F0 hs23.pers (x0.When) a0_2 n0_2 hb0_2 hs0_2 (z0) az0_0 nz0_0 hbz0_0 hsz0_0 _ hr25) ?_
 rintro _ F1 w28 hs29 le30 rfl
 refine Vs 2 ?_
 refine Nt ?_
 refine Rt ?_
 obtain rfl := some_inj h26
 exact Re [(.bool (r24 == 1))] hs29 rfl
end Go.Proofs.YtaihlcdkcampbaaGreatDoor
namespace Go.Proofs.YtaihlcdkcampbaaGreatDoor
open Go.Proofs
def rules_first (N : Nat) (x0 : (List Clause)) (x1 : (List Int)) : Option Int :=
 ((slices_IndexFunc_api_Clause_api_Clause N x0 (fun y0 => rules_first_1 N y0 x1)).bind fun r27 => some r27)
theorem co_rules_first : CallOk Tryz.prog 103 := fun _ _ => by kernel_rfl
theorem c_rules_first (N : Nat) (w0 : World) (F0 : Mem) (hF : ∀ b o, F0 b = some o → w0.heap[b]? = some o) (x0 : (List Clause)) (a0_0 : Option Addr) (n0_0 : Nat) (hb0_0 : LC x0.length n0_0) (hs0_0 : SlA tClause F0 a0_0 x0) (x1 : (List Int)) (a1_0 : Option Addr) (n1_0 : Nat) (hb1_0 : LC x1.length n1_0) (hs1_0 : SlA tInt F0 a1_0 x1) (r : Int) (h : rules_first N x0 x1 = some r) :
  Calls Tryz.prog 103 ([(.slice a0_0 x0.length n0_0), (.slice a1_0 x1.length n1_0)] : List Value).toArray w0 (FRet w0 F0 fun F' v => v = (vi r)) := by
 have hs0 := HS.start hF
 refine Go 8 Tryz.func103 ?_
 refine Sq (Rg [0, 1] ?_)
 refine Bx' 47 #[(.slice a1_0 x1.length n1_0)] hs0 (fun b21 w22 hs23 => ?_)
 refine Vs 1 ?_
 refine Nss (Rg [0, 1, 2, 3] ?_)
 refine Vs 2 ?_
 obtain ⟨F1, hs24, le25, hF26⟩ := hs23.fc0
 obtain ⟨r27, hr28, h29⟩ := bind_some h
 refine Cl' co_slices_IndexFunc_api_Clause_api_Clause hs24 (c_slices_IndexFunc_api_Clause_api_Clause N w22 F1 hs24.pers (x0) a0_0 n0_0 hb0_0 (SlA.mono hs0_0 le25) 163 [] [(pt b21 0)] (fun y0 => rules_first_1 N y0 x1) co_rules_first_1 (fun w1 F1 y0 ay0_2 ny0_2 hby0_2 hsy0_2 ay0_5 ny0_5 hby0_5 hsy0_5 r le1 pe1 hr1 => c_rules_first_1 N w1 F1 pe1  y0 ay0_2 ny0_2 hby0_2 hsy0_2 ay0_5 ny0_5 hby0_5 hsy0_5 b21 x1 a1_0 n1_0 hb1_0 (SlA.mono (SlA.mono hs1_0 le25) le1) (le1 _ _ hF26) r hr1) _ hr28) ?_
 rintro _ F2 w31 hs32 le33 rfl
 refine Vs 1 ?_
 refine Nt ?_
 refine Rt ?_
 obtain rfl := some_inj h29
 exact Re [(vi r27)] hs32 rfl
end Go.Proofs.YtaihlcdkcampbaaGreatDoor
namespace Go.Proofs.YtaihlcdkcampbaaGreatDoor
open Go.Proofs
end Go.Proofs.YtaihlcdkcampbaaGreatDoor
namespace Go.Proofs.YtaihlcdkcampbaaGreatDoor
open Go.Proofs
end Go.Proofs.YtaihlcdkcampbaaGreatDoor
namespace Go.Proofs.YtaihlcdkcampbaaGreatDoor
open Go.Proofs
end Go.Proofs.YtaihlcdkcampbaaGreatDoor
namespace Go.Proofs.YtaihlcdkcampbaaGreatDoor
open Go.Proofs
end Go.Proofs.YtaihlcdkcampbaaGreatDoor
namespace Go.Proofs.YtaihlcdkcampbaaGreatDoor
open Go.Proofs
end Go.Proofs.YtaihlcdkcampbaaGreatDoor
namespace Go.Proofs.YtaihlcdkcampbaaGreatDoor
open Go.Proofs
end Go.Proofs.YtaihlcdkcampbaaGreatDoor
namespace Go.Proofs.YtaihlcdkcampbaaGreatDoor
open Go.Proofs
end Go.Proofs.YtaihlcdkcampbaaGreatDoor
namespace Go.Proofs.YtaihlcdkcampbaaGreatDoor
open Go.Proofs
end Go.Proofs.YtaihlcdkcampbaaGreatDoor
namespace Go.Proofs.YtaihlcdkcampbaaGreatDoor
open Go.Proofs
end Go.Proofs.YtaihlcdkcampbaaGreatDoor
namespace Go.Proofs.YtaihlcdkcampbaaGreatDoor
open Go.Proofs
def slices_Grow_api_Clause_api_Clause (N : Nat) (x1 : Int) : Option (List Clause) :=
 (bif (decide (x1 < 0)) then none else (bif (decide ((W64 (x1 - (W64 (0 - (([] : List Clause).length : Int))))) > 0)) then ((mk0 ({ When := ({ Op := 0, Value := 0, Kids := ([] : List Expr) } : Expr), Then := ({ Op := 0, Value := 0, Kids := ([] : List Expr) } : Expr) } : Clause) (W64 (x1 - (W64 (0 - (([] : List Clause).length : Int)))))).bind fun r7 => ((sub r7 0 (([] : List Clause).length : Int)).bind fun r17 => some r17)) else some ([] : List Clause)))
theorem co_slices_Grow_api_Clause_api_Clause : CallOk Tryz.prog 173 := fun _ _ => by kernel_rfl
theorem c_slices_Grow_api_Clause_api_Clause (N : Nat) (w0 : World) (F0 : Mem) (hF : ∀ b o, F0 b = some o → w0.heap[b]? = some o) (x1 : Int) (r : (List Clause)) (h : slices_Grow_api_Clause_api_Clause N x1 = some r) :
  Calls Tryz.prog 173 ([.slice none 0 0, (vi x1)] : List Value).toArray w0 (FRetO w0 F0 fun F' v L' => ∃ (a : Option Addr) (n : Nat) (e : Option Nat × Obj), v = .slice a r.length n ∧ L' = [e] ∧ RowR tClause 56 F' a n r e) := by
 have hs0 := HS.start hF
 refine calls_of (n := 27) (c := bodyOf Tryz.f173) Tryz.func173 (by kernel_rfl) (by kernel_rfl) (by kernel_rfl) ?_
 refine Sq (Rg [0] ?_)
 refine Vs 1 ?_
 refine Nss ?_
 refine Sq (Rg [0, 1] ?_)
 refine Vs 1 ?_
 refine Vs 1 ?_
 refine Nt ?_
 refine Cd h (fun hb1 h2 => ?_) (fun hb1 h3 => ?_)
 ·refine Rg [0, 1] ?_
  refine V 7 20 (run_mkIface' (t := 9) (x := (.const (.string ⟨([99, 97, 110, 110, 111, 116, 32, 98, 101, 32, 110, 101, 103, 97, 116, 105, 118, 101] : List UInt8).toArray⟩))) (v := (.string ⟨(([99, 97, 110, 110, 111, 116, 32, 98, 101, 32, 110, 101, 103, 97, 116, 105, 118, 101] : List UInt8)).toArray⟩)) rfl (by kernel_rfl)) ?_
  cases h2
 ·refine Sc ?_
  refine thenQ_nrm ?_
  refine Sq ?_
  refine Sq (Rg [0, 1, 2, 3, 4, 5, 6, 7] ?_)
  refine Vs 1 ?_
  refine Vs 1 ?_
  refine V 10 3 (run_cap_slice (x := (.tmp 9)) (ats := #[23]) (a := none) (n := 0) (c := 0) (E := 56) (s := 6) (by_ := 80) rfl rfl (by kernel_rfl)) ?_
  refine Vs 1 ?_
  refine Vs 1 ?_
  refine Vs 1 ?_
  refine Vs 1 ?_
  refine Vs 1 ?_
  refine Nss (Rg [0, 1] ?_)
  refine Vs 1 ?_
  refine Vs 1 ?_
  refine Nt ?_
  refine Cd h3 (fun hb4 h5 => ?_) (fun hb4 h6 => ?_)
  ·refine Rg [0, 1, 2, 3, 4, 5, 6, 7, 8, 9] ?_
   refine Vs 1 ?_
   refine Vs 1 ?_
   refine V 19 3 (run_cap_slice (x := (.tmp 18)) (ats := #[23]) (a := none) (n := 0) (c := 0) (E := 56) (s := 6) (by_ := 80) rfl rfl (by kernel_rfl)) ?_
   refine V 20 23 (run_slice_nil (t := 23) (x := (.tmp 17)) (y := (.tmp 19)) (E := 56) (s := 6) (by_ := 80) rfl (by kernel_rfl) (by kernel_rfl) rfl) ?_
   refine Vs 1 ?_
   obtain ⟨r7, hm8, h9⟩ := bind_some h5
   refine RWP.appendNil (dst := (some 22)) (ty := 23) (g := none) (by kernel_rfl) rfl (x := (.tmp 20)) (y := (.tmp 21)) (t := 23) (t2 := 3) (by_ := 80) (z := (.agg #[(vi 0), (vi 0), (.slice none ([] : List Expr).length 0), (vi 0), (vi 0), (.slice none ([] : List Expr).length 0)])) (T := tClause) (E := 56) rfl rfl (by kernel_rfl) (by decide) (by kernel_rfl) (by kernel_rfl) (z0 := ({ When := ({ Op := 0, Value := 0, Kids := ([] : List Expr) } : Expr), Then := ({ Op := 0, Value := 0, Kids := ([] : List Expr) } : Expr) } : Clause)) (fun _ => ⟨none, 0, none, 0, rfl, LC.nil, (.inl rfl), LC.nil, (.inl rfl)⟩) (by decide) hs0 hm8 (fun a10 n11 e12 w13 (hs14 : HS w0 F0 w13 F0 [e12]) hr15 => ?_)
   refine Vs 1 ?_
   refine Vs 1 ?_
   obtain ⟨r17, hr18, h19⟩ := bind_some h9
   refine RWP.sliceRow (T := tClause) (x := (.tmp 22)) (y := (.tmp 24)) (t := 23) (E := 56) (by_ := 80) (c := n11) (a := a10) (l := r7) (r := r17) (ih := (([] : List Clause).length : Int)) (dst := (some 25)) (ty := 23) (g := none) (by kernel_rfl) rfl rfl (by kernel_rfl) (by kernel_rfl) hr15 rfl hr18 (fun hr20 => ?_)
   refine Vs 1 ?_
   refine Nss (Rg [0, 1] ?_)
   refine Vs 1 ?_
   refine Vs 1 ?_
   refine Nt ?_
   refine Rt ?_
   have hfin := some_inj h19
   subst hfin
   exact ⟨rfl, (.slice a10 r17.length n11), res_of (l := [.tmp 4]) (by kernel_rfl) (vs := [(.slice a10 r17.length n11)]) ⟨rfl, trivial⟩, (.slice a10 r17.length n11), F0, _, rfl, hs14, _, _, _, rfl, rfl, hr20⟩
  ·refine Sc ?_
   refine thenQ_nrm ?_
   refine Sq (Rg [0, 1] ?_)
   refine Vs 1 ?_
   refine Vs 1 ?_
   refine Nt ?_
   refine Rt ?_
   have hs21 := hs0.dummy (oc #[] 0)
   have hfin := some_inj h6
   subst hfin
   exact ⟨rfl, (.slice none ([] : List Clause).length 0), res_of (l := [.tmp 4]) (by kernel_rfl) (vs := [(.slice none ([] : List Clause).length 0)]) ⟨rfl, trivial⟩, (.slice none ([] : List Clause).length 0), F0, _, rfl, hs21, _, _, _, rfl, rfl, (RowR.nil tClause 56 F0 _)⟩
end Go.Proofs.YtaihlcdkcampbaaGreatDoor
namespace Go.Proofs.YtaihlcdkcampbaaGreatDoor
open Go.Proofs
def slices_Concat_api_Clause_api_Clause_L0 (N : Nat) (x0 : (List (List Clause))) : (Int × Int) → Option (Flow (List Clause) (Int × Int)) := fun s24 =>
 (bif (decide (s24.2 < (x0.length : Int))) then ((idx x0 s24.2).bind fun x50 => (bif (decide ((W64 (s24.1 + (x50.length : Int))) < 0)) then none else some (.next ((W64 (s24.1 + (x50.length : Int))), (W64 (s24.2 + 1)))))) else some (.done (s24.1, s24.2)))
def slices_Concat_api_Clause_api_Clause_L1 (N : Nat) (x0 : (List (List Clause))) (s34 : (Int × Int)) (r70 : (List Clause)) : (List Clause × Int) → Option (Flow (List Clause) (List Clause × Int)) := fun s87 =>
 (bif (decide (s87.2 < (x0.length : Int))) then ((idx x0 s87.2).bind fun x111 => ((apnd s87.1 x111).bind fun r125 => some (.next (r125, (W64 (s87.2 + 1)))))) else some (.done (s87.1, s87.2)))
def slices_Concat_api_Clause_api_Clause (N : Nat) (x0 : (List (List Clause))) : Option (List Clause) :=
 ((iter (slices_Concat_api_Clause_api_Clause_L0 N x0) N (0, 0)).bind fun o => o.k (fun r => some r) (fun s34 => ((slices_Grow_api_Clause_api_Clause N s34.1).bind fun r70 => ((iter (slices_Concat_api_Clause_api_Clause_L1 N x0 s34 r70) N (r70, 0)).bind fun o => o.k (fun r => some r) (fun s96 => some s96.1)))))
theorem co_slices_Concat_api_Clause_api_Clause : CallOk Tryz.prog 122 := fun _ _ => by kernel_rfl
theorem c_slices_Concat_api_Clause_api_Clause (N : Nat) (w0 : World) (F0 : Mem) (hF : ∀ b o, F0 b = some o → w0.heap[b]? = some o) (x0 : (List (List Clause))) (a0_0 : Option Addr) (n0_0 : Nat) (hb0_0 : LC x0.length n0_0) (hs0_0 : SlA (tSl tClause) F0 a0_0 x0) (r : (List Clause)) (h : slices_Concat_api_Clause_api_Clause N x0 = some r) :
  Calls Tryz.prog 122 ([(.slice a0_0 x0.length n0_0)] : List Value).toArray w0 (FRet w0 F0 fun F' v => ∃ (aq0_0 : Option Addr) (nq0_0 : Nat), v = (.slice aq0_0 r.length nq0_0) ∧ LC r.length nq0_0 ∧ SlA tClause F' aq0_0 r) := by
 have hs0 := HS.start hF
 refine Go 36 Tryz.func122 ?_
 refine Sq (Rg [0] ?_)
 refine Vs 1 ?_
 refine Nss (Rg [0] ?_)
 refine Vs 1 ?_
 refine Nss ?_
 refine Sq (Rg [0, 1, 2] ?_)
 refine Vs 3 ?_
 refine Nt ?_
 obtain ⟨o21, ho22, h23⟩ := bind_some h
 refine CWP.cut (fun f w => ∃ (s34 : (Int × Int)) (F2 : Mem), o21 = .done s34 ∧ HS w0 F0 w F2 [] ∧ Mem.le F0 F2 ∧ FI f [] [(0, (.slice a0_0 x0.length n0_0)), (3, (vi s34.1))]) ?_ ?_
 ·refine Bk ?_
  refine CWP.loop (by kernel_rfl) (fun m f w => ∃ (s24 : (Int × Int)) (F1 : Mem), iter (slices_Concat_api_Clause_api_Clause_L0 N x0) m s24 = some o21 ∧ HS w0 F0 w F1 [] ∧ Mem.le F0 F1 ∧ FI f [] [(0, (.slice a0_0 x0.length n0_0)), (3, (vi s24.1)), (9, (.slice a0_0 x0.length n0_0)), (10, (vi (x0.length : Int))), (11, (vi s24.2))]) N ⟨(0, 0), F0, ho22, hs0, (Mem.le.refl _), fI⟩ ?_
  rintro m41 f w25 ⟨s24, F1, hit42, hs26, le27, ⟨_, rfl⟩⟩
  obtain ⟨m43, fl44, rfl, hb45, hnx46⟩ := iter_step hit42
  refine Sq (Rg [0] ?_)
  refine Vs 1 ?_
  refine Nss ?_
  refine Cd hb45 (fun hb47 h48 => ?_) (fun hb47 h49 => ?_)
  ·refine Sc ?_
   refine thenQ_nrm ?_
   refine Sq ?_
   refine Bk ?_
   refine Sq (Rg [0, 1, 2] ?_)
   obtain ⟨x50, hx51, h53⟩ := bind_some h48
   obtain ⟨hi52, hx51'⟩ := idx_spec hx51
   obtain ⟨b54, o55, C56, E57, fz58, rfl, hF60, hE61⟩ := SlA.open (SlA.mono hs0_0 le27) hx51'
   obtain ⟨ae62_0, ne62_0, hc63, hbe62_0, hse62_0⟩ := hE61 _ _ hx51'
   refine Ix hi52 ?_
   refine Lx 0 (hs26.pers _ _ hF60) hc63 ?_
   refine Vs 1 ?_
   refine Nss (Rg [0, 1, 2, 3, 4] ?_)
   refine Vs 5 ?_
   refine Nss (Rg [0, 1] ?_)
   refine Vs 2 ?_
   refine Nt ?_
   refine Cd h53 (fun hb64 h65 => ?_) (fun hb64 h66 => ?_)
   ·refine Rg [0, 1] ?_
    refine V 21 20 (run_mkIface' (t := 9) (x := (.const (.string ⟨([108, 101, 110, 32, 111, 117, 116, 32, 111, 102, 32, 114, 97, 110, 103, 101] : List UInt8).toArray⟩))) (v := (.string ⟨(([108, 101, 110, 32, 111, 117, 116, 32, 111, 102, 32, 114, 97, 110, 103, 101] : List UInt8)).toArray⟩)) rfl (by kernel_rfl)) ?_
    cases h65
   ·refine Sc ?_
    refine blockQ_nrm ?_
    refine thenQ_nrm ?_
    refine Rg [0, 1] ?_
    refine Vs 2 ?_
    refine RWP.nil ?_
    have hn67 := iter_next h66 hnx46
    exact ⟨m43, Nat.lt_succ_self _, ((W64 (s24.1 + (x50.length : Int))), (W64 (s24.2 + 1))), F1, hn67, hs26, le27, fI⟩
  ·refine Ex ?_
   refine thenQ_ex ?_
   refine thenQ_ex ?_
   refine blockQ_hit rfl ?_
   have ho68 := iter_done h49 hnx46
   exact .inl ⟨rfl, (s24.1, s24.2), F1, ho68, hs26, le27, fI⟩
 ·rintro f w35 ⟨s34, F2, rfl, hs36, le37, ⟨_, rfl⟩⟩
  have h69 := k_done h23
  refine thenQ_nrm ?_
  refine Sq (Rg [0, 1, 2] ?_)
  refine Vs 1 ?_
  obtain ⟨r70, hr71, h72⟩ := bind_some h69
  refine RWP.callO (dst := (some 24)) (ty := 23) (g := none) (by kernel_rfl) rfl (f0 := (.func 173)) (aos := #[(.const (.slice none 0 0)), (.tmp 23)]) (ats := #[23, 3]) (fid := 173) (first := #[]) (cap := #[]) (args := [(.slice none ([] : List Clause).length 0), (vi s34.1)]) rfl co_slices_Grow_api_Clause_api_Clause (rfl) hs36 (c_slices_Grow_api_Clause_api_Clause N w35 F2 hs36.pers (s34.1) _ hr71) ?_
  rintro _ F3 w74 _ hs75 le76 ⟨a78, n79, e80, rfl, rfl, hr81⟩
  have hs83 : HS w0 F0 w74 F3 [e80] := hs75
  refine Vs 1 ?_
  refine Nss ?_
  refine Sq (Rg [0, 1, 2] ?_)
  refine Vs 3 ?_
  refine Nt ?_
  obtain ⟨o84, ho85, h86⟩ := bind_some h72
  refine CWP.cut (fun f w => ∃ (s96 : (List Clause × Int)) (F5 : Mem) (as96_0 : Option Addr) (ns96_0 : Nat) (es96_0 : Option Nat × Obj), o84 = .done s96 ∧ HS w0 F0 w F5 [es96_0] ∧ Mem.le F3 F5 ∧ FI f [] [(6, (.slice as96_0 s96.1.length ns96_0))] ∧ RowR tClause 56 F5 as96_0 ns96_0 s96.1 es96_0) ?_ ?_
  ·refine Bk ?_
   refine CWP.loop (by kernel_rfl) (fun m f w => ∃ (s87 : (List Clause × Int)) (F4 : Mem) (as87_0 : Option Addr) (ns87_0 : Nat) (es87_0 : Option Nat × Obj), iter (slices_Concat_api_Clause_api_Clause_L1 N x0 s34 r70) m s87 = some o84 ∧ HS w0 F0 w F4 [es87_0] ∧ Mem.le F3 F4 ∧ FI f [] [(6, (.slice as87_0 s87.1.length ns87_0)), (25, (.slice a0_0 x0.length n0_0)), (26, (vi (x0.length : Int))), (27, (vi s87.2))] ∧ RowR tClause 56 F4 as87_0 ns87_0 s87.1 es87_0) N ⟨(r70, 0), F3, a78, n79, e80, ho85, hs83, (Mem.le.refl _), fI, hr81⟩ ?_
   rintro m102 f w88 ⟨s87, F4, as87_0, ns87_0, es87_0, hit103, hs89, le90, ⟨_, rfl⟩, hrs87_0⟩
   obtain ⟨m104, fl105, rfl, hb106, hnx107⟩ := iter_step hit103
   refine Sq (Rg [0] ?_)
   refine Vs 1 ?_
   refine Nss ?_
   refine Cd hb106 (fun hb108 h109 => ?_) (fun hb108 h110 => ?_)
   ·refine Sc ?_
    refine thenQ_nrm ?_
    refine Sq ?_
    refine Bk ?_
    refine Sq (Rg [0, 1, 2] ?_)
    obtain ⟨x111, hx112, h114⟩ := bind_some h109
    obtain ⟨hi113, hx112'⟩ := idx_spec hx112
    obtain ⟨b115, o116, C117, E118, fz119, rfl, hF121, hE122⟩ := SlA.open (SlA.mono hs0_0 ((le37.trans le76).trans le90)) hx112'
    obtain ⟨ae123_0, ne123_0, hc124, hbe123_0, hse123_0⟩ := hE122 _ _ hx112'
    refine Ix hi113 ?_
    refine Lx 0 (hs89.pers _ _ hF121) hc124 ?_
    refine Vs 1 ?_
    refine Nt ?_
    refine Rg [0, 1, 2, 3] ?_
    refine Vs 2 ?_
    obtain ⟨r125, hap126, h127⟩ := bind_some h114
    refine Ap0 oClause hs89 hrs87_0 (SlA.rd hs89 hse123_0) hap126 (fun a128 n129 e130 w131 hs132 hr133 => ?_)
    refine Vs 1 ?_
    refine RWP.nil ?_
    refine blockQ_nrm ?_
    refine thenQ_nrm ?_
    refine Rg [0, 1] ?_
    refine Vs 2 ?_
    refine RWP.nil ?_
    have hn134 := iter_next h127 hnx107
    exact ⟨m104, Nat.lt_succ_self _, (r125, (W64 (s87.2 + 1))), F4, a128, n129, e130, hn134, hs132, le90, fI, hr133⟩
   ·refine Ex ?_
    refine thenQ_ex ?_
    refine thenQ_ex ?_
    refine blockQ_hit rfl ?_
    have ho135 := iter_done h110 hnx107
    exact .inl ⟨rfl, (s87.1, s87.2), F4, as87_0, ns87_0, es87_0, ho135, hs89, le90, fI, hrs87_0⟩
  ·rintro f w97 ⟨s96, F5, as96_0, ns96_0, es96_0, rfl, hs98, le99, ⟨_, rfl⟩, hrs96_0⟩
   have h136 := k_done h86
   refine thenQ_nrm ?_
   refine Sq (Rg [0, 1] ?_)
   refine Vs 2 ?_
   refine Nt ?_
   refine Rt ?_
   have hb140 := RowR.bound hrs96_0
   obtain ⟨F6, hs137, le138, hs139⟩ := hs98.fr0 hrs96_0
   obtain rfl := some_inj h136
   exact Re [(.slice as96_0 s96.1.length ns96_0)] hs137 ⟨as96_0, ns96_0, rfl, hb140, hs139⟩
end Go.Proofs.YtaihlcdkcampbaaGreatDoor
