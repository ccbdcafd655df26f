/- Lemmas of the claim RulesGaps, printed by a program of the claimant and by hand. No statement of the seat is proved here. -/
import Derived.Test.YtaihlcdkcampbaaGreatDoorA2
set_option linter.unusedVariables false
set_option linter.unusedSimpArgs false
set_option linter.unusedSectionVars false
set_option maxHeartbeats 4000000
set_option maxRecDepth 100000
namespace Go.Proofs.YtaihlcdkcampbaaGreatDoor
open Go.Proofs
def ref06_value_L0 (N : Nat) (sR101 : Expr → (List Int) → Option Int) (x0 : Expr) (x1 : (List Int)) : (List Int × Int) → Option (Flow Int (List Int × Int)) := fun s29 =>
 (bif (decide (s29.2 < (x0.Kids.length : Int))) then ((idx x0.Kids s29.2).bind fun x55 => ((sR101 x55 x1).bind fun r69 => ((apnd s29.1 [r69]).bind fun r82 => some (.next (r82, (W64 (s29.2 + 1))))))) else some (.done (s29.1, s29.2)))
def ref06_value_S (N : Nat) (sR101 : Expr → (List Int) → Option Int) (x0 : Expr) (x1 : (List Int)) : Option Int :=
 ((iter (ref06_value_L0 N sR101 x0 x1) N (([] : List Int), 0)).bind fun o => o.k (fun r => some r) (fun s38 => (bif (x0.Op == 1) then some x0.Value else (bif (x0.Op == 2) then ((idx x1 x0.Value).bind fun x100 => some x100) else (bif (x0.Op == 3) then ((idx s38.1 0).bind fun x117 => some (W64 (1 - x117))) else (bif (x0.Op == 4) then (((idx s38.1 0).bind fun x142 => ((idx s38.1 1).bind fun x154 => some (min x142 x154))).bind fun j137 => some j137) else (bif (x0.Op == 5) then (((idx s38.1 0).bind fun x178 => ((idx s38.1 1).bind fun x190 => some (max x178 x190))).bind fun j173 => some j173) else (bif (x0.Op == 6) then (((idx s38.1 0).bind fun x214 => ((idx s38.1 1).bind fun x226 => ((ref06_bit N (x214 == x226)).bind fun r237 => some r237))).bind fun j209 => some j209) else (bif (x0.Op == 7) then (((idx s38.1 0).bind fun x258 => ((idx s38.1 1).bind fun x270 => ((ref06_bit N (decide (x258 < x270))).bind fun r281 => some r281))).bind fun j253 => some j253) else (bif (x0.Op == 8) then (((idx s38.1 0).bind fun x302 => ((idx s38.1 1).bind fun x314 => ((ref06_held N (W64 (x302 + x314))).bind fun r325 => some r325))).bind fun j297 => some j297) else (bif (x0.Op == 9) then (((idx s38.1 0).bind fun x346 => ((idx s38.1 1).bind fun x358 => ((ref06_held N (W64 (x346 - x358))).bind fun r369 => some r369))).bind fun j341 => some j341) else (bif (x0.Op == 10) then (((idx s38.1 0).bind fun x390 => ((idx s38.1 1).bind fun x402 => ((ref06_held N (W64 (x390 * x402))).bind fun r413 => some r413))).bind fun j385 => some j385) else ((idx s38.1 0).bind fun x421 => (bif (x421 == 1) then ((idx s38.1 1).bind fun x436 => some x436) else ((idx s38.1 2).bind fun x447 => some x447)))))))))))))))
theorem cS_ref06_value (N : Nat) (sR101 : Expr → (List Int) → Option Int) (hsR101 : Self101 sR101) (w0 : World) (F0 : Mem) (hF : ∀ b o, F0 b = some o → w0.heap[b]? = some o) (x0 : Expr) (a0_2 : Option Addr) (n0_2 : Nat) (hb0_2 : LC x0.Kids.length n0_2) (hs0_2 : SlA tExpr F0 a0_2 x0.Kids) (x1 : (List Int)) (a1_0 : Option Addr) (n1_0 : Nat) (hb1_0 : LC x1.length n1_0) (hs1_0 : SlA tInt F0 a1_0 x1) (r : Int) (h : ref06_value_S N sR101 x0 x1 = some r) :
  Calls Tryz.prog 101 ([(.agg (kExpr x0 a0_2 n0_2)), (.slice a1_0 x1.length n1_0)] : List Value).toArray w0 (FRet w0 F0 fun F' v => v = (vi r)) := by
 have hs0 := HS.start hF
 refine Go 121 Tryz.func101 ?_
 refine Sq (Rg [0, 1] ?_)
 refine Bx' 33 (kExpr x0 a0_2 n0_2) hs0 (fun b21 w22 hs23 => ?_)
 refine Vs 1 ?_
 refine Nss (Rg [0] ?_)
 refine Vs 1 ?_
 refine Nss ?_
 refine Sq (Rg [0] ?_)
 refine Vs 1 ?_
 refine Nt ?_
 have hs24 := hs23.dummy (oc #[] 0)
 obtain ⟨o26, ho27, h28⟩ := bind_some h
 refine CWP.cut (fun f w => ∃ (s38 : (List Int × Int)) (F2 : Mem) (as38_0 : Option Addr) (ns38_0 : Nat) (es38_0 : Option Nat × Obj), o26 = .done s38 ∧ HS w0 F0 w F2 [es38_0, (sb b21 (kExpr x0 a0_2 n0_2) 33)] ∧ Mem.le F0 F2 ∧ FI f [] [(1, (.slice a1_0 x1.length n1_0)), (2, (pt b21 0)), (5, (.slice as38_0 s38.1.length ns38_0))] ∧ RowR tInt 3 F2 as38_0 ns38_0 s38.1 es38_0) ?_ ?_
 ·refine Bk ?_
  refine CWP.loop (by kernel_rfl) (fun m f w => ∃ (s29 : (List Int × Int)) (F1 : Mem) (as29_0 : Option Addr) (ns29_0 : Nat) (es29_0 : Option Nat × Obj), iter (ref06_value_L0 N sR101 x0 x1) m s29 = some o26 ∧ HS w0 F0 w F1 [es29_0, (sb b21 (kExpr x0 a0_2 n0_2) 33)] ∧ Mem.le F0 F1 ∧ FI f [] [(1, (.slice a1_0 x1.length n1_0)), (2, (pt b21 0)), (5, (.slice as29_0 s29.1.length ns29_0)), (6, (vi s29.2))] ∧ RowR tInt 3 F1 as29_0 ns29_0 s29.1 es29_0) N ⟨(([] : List Int), 0), F0, none, 0, (none, .cells #[] 0 (0, 0)), ho27, hs24, (Mem.le.refl _), fI, (RowR.nil tInt 3 F0 _)⟩ ?_
  rintro m46 f w30 ⟨s29, F1, as29_0, ns29_0, es29_0, hit47, hs31, le32, ⟨_, rfl⟩, hrs29_0⟩
  obtain ⟨m48, fl49, rfl, hb50, hnx51⟩ := iter_step hit47
  refine Sq ?_
  refine Sq (Rg [0, 1, 2, 3, 4] ?_)
  refine Vs 2 ?_
  refine Ld hs31.at1 ?_
  refine Vs 2 ?_
  refine Nt ?_
  refine Cd hb50 (fun hb52 h53 => ?_) (fun hb52 h54 => ?_)
  ·refine Sc ?_
   refine thenQ_nrm ?_
   refine Sq ?_
   refine Bk ?_
   refine Rg [0, 1, 2, 3, 4, 5, 6, 7, 8, 9, 10] ?_
   refine Vs 2 ?_
   refine Ld hs31.at1 ?_
   refine Vs 1 ?_
   obtain ⟨x55, hx56, h58⟩ := bind_some h53
   obtain ⟨hi57, hx56'⟩ := idx_spec hx56
   obtain ⟨b59, o60, C61, E62, fz63, rfl, hF65, hE66⟩ := SlA.open (SlA.mono hs0_2 le32) hx56'
   obtain ⟨ae67_2, ne67_2, hc68, hbe67_2, hse67_2⟩ := (tExpr_open (hE66 _ _ hx56'))
   refine Ix hi57 ?_
   refine Lx 0 (hs31.pers _ _ hF65) hc68 ?_
   refine Vs 1 ?_
   obtain ⟨r69, hr70, h71⟩ := bind_some h58
   refine Cl' co_ref06_value hs31 (hsR101 w30 F1 hs31.pers (x55) ae67_2 ne67_2 hbe67_2 hse67_2 (x1) a1_0 n1_0 hb1_0 (SlA.mono hs1_0 le32) _ hr70) ?_
   rintro _ F3 w73 hs74 le75 rfl
   refine Bs 3 [(vi r69)] hs74 (fun b77 w78 hs79 => ?_)
   have hr81 : RowR tInt 3 F3 (some ⟨b77, 0, none⟩) 1 [r69] (some b77, .cells ([(vi r69)] : List Value).toArray 3 (0, 0)) := RowR.lit ⟨rfl, rfl⟩ (by simp)
   obtain ⟨r82, hap83, h84⟩ := bind_some h71
   refine Ap1 oInt hs79 (hrs29_0.mono le75) (hs79.rd0 hr81) hap83 (fun a85 n86 e87 w88 hs89 hr90 => ?_)
   refine Vs 1 ?_
   refine RWP.nil ?_
   refine blockQ_nrm ?_
   refine thenQ_nrm ?_
   refine Rg [0, 1, 2] ?_
   refine Vs 3 ?_
   refine RWP.nil ?_
   have hn91 := iter_next h84 hnx51
   exact ⟨m48, Nat.lt_succ_self _, (r82, (W64 (s29.2 + 1))), F3, a85, n86, e87, hn91, hs89.dr0, (le32.trans le75), fI, hr90⟩
  ·refine Ex ?_
   refine thenQ_ex ?_
   refine thenQ_ex ?_
   refine blockQ_hit rfl ?_
   have ho92 := iter_done h54 hnx51
   exact .inl ⟨rfl, (s29.1, s29.2), F1, as29_0, ns29_0, es29_0, ho92, hs31, le32, fI, hrs29_0⟩
 ·rintro f w39 ⟨s38, F2, as38_0, ns38_0, es38_0, rfl, hs40, le41, ⟨_, rfl⟩, hrs38_0⟩
  have h93 := k_done h28
  refine thenQ_nrm ?_
  refine Sq ?_
  refine Sq (Rg [0, 1] ?_)
  refine Vs 1 ?_
  refine Ld hs40.at1 ?_
  refine Nt ?_
  refine Bk ?_
  refine Sq (Rg [0, 1] ?_)
  refine Vs 2 ?_
  refine Nt ?_
  refine Cd h93 (fun hb94 h95 => ?_) (fun hb94 h96 => ?_)
  ·refine Sq (Rg [0, 1, 2] ?_)
   refine Vs 1 ?_
   refine Ld hs40.at1 ?_
   refine Vs 1 ?_
   refine Nt ?_
   refine Rt ?_
   refine blockQ_ret ?_
   refine thenQ_ret ?_
   obtain rfl := some_inj h95
   exact Re [(vi x0.Value)] hs40 rfl
  ·refine Sq (Rg [0, 1] ?_)
   refine Vs 2 ?_
   refine Nt ?_
   refine Cd h96 (fun hb97 h98 => ?_) (fun hb97 h99 => ?_)
   ·refine Sq (Rg [0, 1, 2, 3, 4, 5] ?_)
    refine Vs 2 ?_
    refine Ld hs40.at1 ?_
    obtain ⟨x100, hx101, h103⟩ := bind_some h98
    obtain ⟨hi102, hx101'⟩ := idx_spec hx101
    obtain ⟨b104, o105, C106, E107, fz108, rfl, hF110, hE111⟩ := SlA.open (SlA.mono hs1_0 le41) hx101'
    have hc113 := hE111 _ _ hx101'
    refine Ix hi102 ?_
    refine Lx 0 (hs40.pers _ _ hF110) hc113 ?_
    refine Vs 1 ?_
    refine Nt ?_
    refine Rt ?_
    refine blockQ_ret ?_
    refine thenQ_ret ?_
    obtain rfl := some_inj h103
    exact Re [(vi x100)] hs40 rfl
   ·refine Sq (Rg [0, 1] ?_)
    refine Vs 2 ?_
    refine Nt ?_
    refine Cd h99 (fun hb114 h115 => ?_) (fun hb114 h116 => ?_)
    ·refine Sq (Rg [0, 1, 2, 3, 4] ?_)
     refine Vs 1 ?_
     obtain ⟨x117, hx118, h120⟩ := bind_some h115
     obtain ⟨hi119, hx118'⟩ := idx_spec hx118
     obtain ⟨b121, C122, rfl, rfl, hE125⟩ := RowR.open hrs38_0 hx118'
     have hr126 := hrs38_0
     have hc128 := hE125 _ _ hx118'
     refine Ix0 hi119 ?_
     refine Lx 0 hs40.at0 hc128 ?_
     refine Vs 2 ?_
     refine Nt ?_
     refine Rt ?_
     refine blockQ_ret ?_
     refine thenQ_ret ?_
     obtain rfl := some_inj h120
     exact Re [(vi (W64 (1 - x117)))] hs40 rfl
    ·refine Sq (Rg [0, 1] ?_)
     refine Vs 2 ?_
     refine Nt ?_
     refine Cd h116 (fun hb129 h130 => ?_) (fun hb129 h131 => ?_)
     ·refine Sq ?_
      obtain ⟨j137, hj140, h141⟩ := bind_some h130
      refine RD 8 8 [es38_0, (sb b21 (kExpr x0 a0_2 n0_2) 33)] [] hs40 (fun f w => ∃ (F4 : Mem), HS w0 F0 w F4 [] ∧ Mem.le F2 F4 ∧ FI f [] [(4, (vi j137))]) (fun wd132 hw133 => ?_) ?_
      ·refine Dv [0] ?_
       obtain ⟨x142, hx143, h145⟩ := bind_some hj140
       obtain ⟨hi144, hx143'⟩ := idx_spec hx143
       obtain ⟨b146, C147, rfl, rfl, hE150⟩ := RowR.open hrs38_0 hx143'
       have hr151 := hrs38_0
       have hc153 := hE150 _ _ hx143'
       refine Dj 1 hi144 ?_
       refine Dx 2 0 (fun _ hq => (hq.1.2 0 _ _ rfl)) hc153 ?_
       refine Dv [3] ?_
       obtain ⟨x154, hx155, h157⟩ := bind_some h145
       obtain ⟨hi156, hx155'⟩ := idx_spec hx155
       obtain ⟨b158, C159, ha160, he161, hE162⟩ := RowR.open hr151 hx155'
       cases ha160
       cases he161
       have hc164 := hE162 _ _ hx155'
       refine Dj 4 hi156 ?_
       refine Dx 5 0 (fun _ hq => (hq.1.2 0 _ _ rfl)) hc164 ?_
       refine Dv [6, 7] ?_
       obtain rfl := some_inj h157
       exact DWP.done (by kernel_rfl) ⟨F2, hw133.dr0.dr0, (Mem.le.refl _), fI⟩
      ·rintro f w134 ⟨F4, hs135, le136, ⟨_, rfl⟩⟩
       refine thenQ_nrm ?_
       refine Rt ?_
       refine blockQ_ret ?_
       refine thenQ_ret ?_
       obtain rfl := some_inj h141
       exact Re [(vi j137)] hs135 rfl
     ·refine Sq (Rg [0, 1] ?_)
      refine Vs 2 ?_
      refine Nt ?_
      refine Cd h131 (fun hb165 h166 => ?_) (fun hb165 h167 => ?_)
      ·refine Sq ?_
       obtain ⟨j173, hj176, h177⟩ := bind_some h166
       refine RD 8 8 [es38_0, (sb b21 (kExpr x0 a0_2 n0_2) 33)] [] hs40 (fun f w => ∃ (F5 : Mem), HS w0 F0 w F5 [] ∧ Mem.le F2 F5 ∧ FI f [] [(4, (vi j173))]) (fun wd168 hw169 => ?_) ?_
       ·refine Dv [0] ?_
        obtain ⟨x178, hx179, h181⟩ := bind_some hj176
        obtain ⟨hi180, hx179'⟩ := idx_spec hx179
        obtain ⟨b182, C183, rfl, rfl, hE186⟩ := RowR.open hrs38_0 hx179'
        have hr187 := hrs38_0
        have hc189 := hE186 _ _ hx179'
        refine Dj 1 hi180 ?_
        refine Dx 2 0 (fun _ hq => (hq.1.2 0 _ _ rfl)) hc189 ?_
        refine Dv [3] ?_
        obtain ⟨x190, hx191, h193⟩ := bind_some h181
        obtain ⟨hi192, hx191'⟩ := idx_spec hx191
        obtain ⟨b194, C195, ha196, he197, hE198⟩ := RowR.open hr187 hx191'
        cases ha196
        cases he197
        have hc200 := hE198 _ _ hx191'
        refine Dj 4 hi192 ?_
        refine Dx 5 0 (fun _ hq => (hq.1.2 0 _ _ rfl)) hc200 ?_
        refine Dv [6, 7] ?_
        obtain rfl := some_inj h193
        exact DWP.done (by kernel_rfl) ⟨F2, hw169.dr0.dr0, (Mem.le.refl _), fI⟩
       ·rintro f w170 ⟨F5, hs171, le172, ⟨_, rfl⟩⟩
        refine thenQ_nrm ?_
        refine Rt ?_
        refine blockQ_ret ?_
        refine thenQ_ret ?_
        obtain rfl := some_inj h177
        exact Re [(vi j173)] hs171 rfl
      ·refine Sq (Rg [0, 1] ?_)
       refine Vs 2 ?_
       refine Nt ?_
       refine Cd h167 (fun hb201 h202 => ?_) (fun hb201 h203 => ?_)
       ·refine Sq ?_
        obtain ⟨j209, hj212, h213⟩ := bind_some h202
        refine RD 9 9 [es38_0, (sb b21 (kExpr x0 a0_2 n0_2) 33)] [] hs40 (fun f w => ∃ (F6 : Mem), HS w0 F0 w F6 [] ∧ Mem.le F2 F6 ∧ FI f [] [(4, (vi j209))]) (fun wd204 hw205 => ?_) ?_
        ·refine Dv [0] ?_
         obtain ⟨x214, hx215, h217⟩ := bind_some hj212
         obtain ⟨hi216, hx215'⟩ := idx_spec hx215
         obtain ⟨b218, C219, rfl, rfl, hE222⟩ := RowR.open hrs38_0 hx215'
         have hr223 := hrs38_0
         have hc225 := hE222 _ _ hx215'
         refine Dj 1 hi216 ?_
         refine Dx 2 0 (fun _ hq => (hq.1.2 0 _ _ rfl)) hc225 ?_
         refine Dv [3] ?_
         obtain ⟨x226, hx227, h229⟩ := bind_some h217
         obtain ⟨hi228, hx227'⟩ := idx_spec hx227
         obtain ⟨b230, C231, ha232, he233, hE234⟩ := RowR.open hr223 hx227'
         cases ha232
         cases he233
         have hc236 := hE234 _ _ hx227'
         refine Dj 4 hi228 ?_
         refine Dx 5 0 (fun _ hq => (hq.1.2 0 _ _ rfl)) hc236 ?_
         refine Dv [6] ?_
         refine D1 7 ?_
         obtain ⟨r237, hr238, h239⟩ := bind_some h229
         refine DCl co_ref06_bit hw205 (c_ref06_bit N wd204 F2 hw205.pers ((x214 == x226)) _ hr238) ?_
         rintro _ F7 w241 hs242 le243 rfl
         refine Dv [8] ?_
         obtain rfl := some_inj h239
         exact DWP.done (by kernel_rfl) ⟨F7, hs242.dr0.dr0, le243, fI⟩
        ·rintro f w206 ⟨F6, hs207, le208, ⟨_, rfl⟩⟩
         refine thenQ_nrm ?_
         refine Rt ?_
         refine blockQ_ret ?_
         refine thenQ_ret ?_
         obtain rfl := some_inj h213
         exact Re [(vi j209)] hs207 rfl
       ·refine Sq (Rg [0, 1] ?_)
        refine Vs 2 ?_
        refine Nt ?_
        refine Cd h203 (fun hb245 h246 => ?_) (fun hb245 h247 => ?_)
        ·refine Sq ?_
         obtain ⟨j253, hj256, h257⟩ := bind_some h246
         refine RD 9 9 [es38_0, (sb b21 (kExpr x0 a0_2 n0_2) 33)] [] hs40 (fun f w => ∃ (F8 : Mem), HS w0 F0 w F8 [] ∧ Mem.le F2 F8 ∧ FI f [] [(4, (vi j253))]) (fun wd248 hw249 => ?_) ?_
         ·refine Dv [0] ?_
          obtain ⟨x258, hx259, h261⟩ := bind_some hj256
          obtain ⟨hi260, hx259'⟩ := idx_spec hx259
          obtain ⟨b262, C263, rfl, rfl, hE266⟩ := RowR.open hrs38_0 hx259'
          have hr267 := hrs38_0
          have hc269 := hE266 _ _ hx259'
          refine Dj 1 hi260 ?_
          refine Dx 2 0 (fun _ hq => (hq.1.2 0 _ _ rfl)) hc269 ?_
          refine Dv [3] ?_
          obtain ⟨x270, hx271, h273⟩ := bind_some h261
          obtain ⟨hi272, hx271'⟩ := idx_spec hx271
          obtain ⟨b274, C275, ha276, he277, hE278⟩ := RowR.open hr267 hx271'
          cases ha276
          cases he277
          have hc280 := hE278 _ _ hx271'
          refine Dj 4 hi272 ?_
          refine Dx 5 0 (fun _ hq => (hq.1.2 0 _ _ rfl)) hc280 ?_
          refine Dv [6] ?_
          refine D1 7 ?_
          obtain ⟨r281, hr282, h283⟩ := bind_some h273
          refine DCl co_ref06_bit hw249 (c_ref06_bit N wd248 F2 hw249.pers ((decide (x258 < x270))) _ hr282) ?_
          rintro _ F9 w285 hs286 le287 rfl
          refine Dv [8] ?_
          obtain rfl := some_inj h283
          exact DWP.done (by kernel_rfl) ⟨F9, hs286.dr0.dr0, le287, fI⟩
         ·rintro f w250 ⟨F8, hs251, le252, ⟨_, rfl⟩⟩
          refine thenQ_nrm ?_
          refine Rt ?_
          refine blockQ_ret ?_
          refine thenQ_ret ?_
          obtain rfl := some_inj h257
          exact Re [(vi j253)] hs251 rfl
        ·refine Sq (Rg [0, 1] ?_)
         refine Vs 2 ?_
         refine Nt ?_
         refine Cd h247 (fun hb289 h290 => ?_) (fun hb289 h291 => ?_)
         ·refine Sq ?_
          obtain ⟨j297, hj300, h301⟩ := bind_some h290
          refine RD 9 9 [es38_0, (sb b21 (kExpr x0 a0_2 n0_2) 33)] [] hs40 (fun f w => ∃ (F10 : Mem), HS w0 F0 w F10 [] ∧ Mem.le F2 F10 ∧ FI f [] [(4, (vi j297))]) (fun wd292 hw293 => ?_) ?_
          ·refine Dv [0] ?_
           obtain ⟨x302, hx303, h305⟩ := bind_some hj300
           obtain ⟨hi304, hx303'⟩ := idx_spec hx303
           obtain ⟨b306, C307, rfl, rfl, hE310⟩ := RowR.open hrs38_0 hx303'
           have hr311 := hrs38_0
           have hc313 := hE310 _ _ hx303'
           refine Dj 1 hi304 ?_
           refine Dx 2 0 (fun _ hq => (hq.1.2 0 _ _ rfl)) hc313 ?_
           refine Dv [3] ?_
           obtain ⟨x314, hx315, h317⟩ := bind_some h305
           obtain ⟨hi316, hx315'⟩ := idx_spec hx315
           obtain ⟨b318, C319, ha320, he321, hE322⟩ := RowR.open hr311 hx315'
           cases ha320
           cases he321
           have hc324 := hE322 _ _ hx315'
           refine Dj 4 hi316 ?_
           refine Dx 5 0 (fun _ hq => (hq.1.2 0 _ _ rfl)) hc324 ?_
           refine Dv [6] ?_
           refine D1 7 ?_
           obtain ⟨r325, hr326, h327⟩ := bind_some h317
           refine DCl co_ref06_held hw293 (c_ref06_held N wd292 F2 hw293.pers ((W64 (x302 + x314))) _ hr326) ?_
           rintro _ F11 w329 hs330 le331 rfl
           refine Dv [8] ?_
           obtain rfl := some_inj h327
           exact DWP.done (by kernel_rfl) ⟨F11, hs330.dr0.dr0, le331, fI⟩
          ·rintro f w294 ⟨F10, hs295, le296, ⟨_, rfl⟩⟩
           refine thenQ_nrm ?_
           refine Rt ?_
           refine blockQ_ret ?_
           refine thenQ_ret ?_
           obtain rfl := some_inj h301
           exact Re [(vi j297)] hs295 rfl
         ·refine Sq (Rg [0, 1] ?_)
          refine Vs 2 ?_
          refine Nt ?_
          refine Cd h291 (fun hb333 h334 => ?_) (fun hb333 h335 => ?_)
          ·refine Sq ?_
           obtain ⟨j341, hj344, h345⟩ := bind_some h334
           refine RD 9 9 [es38_0, (sb b21 (kExpr x0 a0_2 n0_2) 33)] [] hs40 (fun f w => ∃ (F12 : Mem), HS w0 F0 w F12 [] ∧ Mem.le F2 F12 ∧ FI f [] [(4, (vi j341))]) (fun wd336 hw337 => ?_) ?_
           ·refine Dv [0] ?_
            obtain ⟨x346, hx347, h349⟩ := bind_some hj344
            obtain ⟨hi348, hx347'⟩ := idx_spec hx347
            obtain ⟨b350, C351, rfl, rfl, hE354⟩ := RowR.open hrs38_0 hx347'
            have hr355 := hrs38_0
            have hc357 := hE354 _ _ hx347'
            refine Dj 1 hi348 ?_
            refine Dx 2 0 (fun _ hq => (hq.1.2 0 _ _ rfl)) hc357 ?_
            refine Dv [3] ?_
            obtain ⟨x358, hx359, h361⟩ := bind_some h349
            obtain ⟨hi360, hx359'⟩ := idx_spec hx359
            obtain ⟨b362, C363, ha364, he365, hE366⟩ := RowR.open hr355 hx359'
            cases ha364
            cases he365
            have hc368 := hE366 _ _ hx359'
            refine Dj 4 hi360 ?_
            refine Dx 5 0 (fun _ hq => (hq.1.2 0 _ _ rfl)) hc368 ?_
            refine Dv [6] ?_
            refine D1 7 ?_
            obtain ⟨r369, hr370, h371⟩ := bind_some h361
            refine DCl co_ref06_held hw337 (c_ref06_held N wd336 F2 hw337.pers ((W64 (x346 - x358))) _ hr370) ?_
            rintro _ F13 w373 hs374 le375 rfl
            refine Dv [8] ?_
            obtain rfl := some_inj h371
            exact DWP.done (by kernel_rfl) ⟨F13, hs374.dr0.dr0, le375, fI⟩
           ·rintro f w338 ⟨F12, hs339, le340, ⟨_, rfl⟩⟩
            refine thenQ_nrm ?_
            refine Rt ?_
            refine blockQ_ret ?_
            refine thenQ_ret ?_
            obtain rfl := some_inj h345
            exact Re [(vi j341)] hs339 rfl
          ·refine Sq (Rg [0, 1] ?_)
           refine Vs 2 ?_
           refine Nt ?_
           refine Cd h335 (fun hb377 h378 => ?_) (fun hb377 h379 => ?_)
           ·refine Sq ?_
            obtain ⟨j385, hj388, h389⟩ := bind_some h378
            refine RD 9 9 [es38_0, (sb b21 (kExpr x0 a0_2 n0_2) 33)] [] hs40 (fun f w => ∃ (F14 : Mem), HS w0 F0 w F14 [] ∧ Mem.le F2 F14 ∧ FI f [] [(4, (vi j385))]) (fun wd380 hw381 => ?_) ?_
            ·refine Dv [0] ?_
             obtain ⟨x390, hx391, h393⟩ := bind_some hj388
             obtain ⟨hi392, hx391'⟩ := idx_spec hx391
             obtain ⟨b394, C395, rfl, rfl, hE398⟩ := RowR.open hrs38_0 hx391'
             have hr399 := hrs38_0
             have hc401 := hE398 _ _ hx391'
             refine Dj 1 hi392 ?_
             refine Dx 2 0 (fun _ hq => (hq.1.2 0 _ _ rfl)) hc401 ?_
             refine Dv [3] ?_
             obtain ⟨x402, hx403, h405⟩ := bind_some h393
             obtain ⟨hi404, hx403'⟩ := idx_spec hx403
             obtain ⟨b406, C407, ha408, he409, hE410⟩ := RowR.open hr399 hx403'
             cases ha408
             cases he409
             have hc412 := hE410 _ _ hx403'
             refine Dj 4 hi404 ?_
             refine Dx 5 0 (fun _ hq => (hq.1.2 0 _ _ rfl)) hc412 ?_
             refine Dv [6] ?_
             refine D1 7 ?_
             obtain ⟨r413, hr414, h415⟩ := bind_some h405
             refine DCl co_ref06_held hw381 (c_ref06_held N wd380 F2 hw381.pers ((W64 (x390 * x402))) _ hr414) ?_
             rintro _ F15 w417 hs418 le419 rfl
             refine Dv [8] ?_
             obtain rfl := some_inj h415
             exact DWP.done (by kernel_rfl) ⟨F15, hs418.dr0.dr0, le419, fI⟩
            ·rintro f w382 ⟨F14, hs383, le384, ⟨_, rfl⟩⟩
             refine thenQ_nrm ?_
             refine Rt ?_
             refine blockQ_ret ?_
             refine thenQ_ret ?_
             obtain rfl := some_inj h389
             exact Re [(vi j385)] hs383 rfl
           ·refine Sc ?_
            refine blockQ_nrm ?_
            refine thenQ_nrm ?_
            refine Sq ?_
            refine Sq (Rg [0, 1, 2, 3] ?_)
            refine Vs 1 ?_
            obtain ⟨x421, hx422, h424⟩ := bind_some h379
            obtain ⟨hi423, hx422'⟩ := idx_spec hx422
            obtain ⟨b425, C426, rfl, rfl, hE429⟩ := RowR.open hrs38_0 hx422'
            have hr430 := hrs38_0
            have hc432 := hE429 _ _ hx422'
            refine Ix0 hi423 ?_
            refine Lx 0 hs40.at0 hc432 ?_
            refine Vs 1 ?_
            refine Nt ?_
            refine Cd h424 (fun hb433 h434 => ?_) (fun hb433 h435 => ?_)
            ·refine Sq (Rg [0, 1, 2, 3] ?_)
             refine Vs 1 ?_
             obtain ⟨x436, hx437, h439⟩ := bind_some h434
             obtain ⟨hi438, hx437'⟩ := idx_spec hx437
             obtain ⟨b440, C441, ha442, he443, hE444⟩ := RowR.open hr430 hx437'
             cases ha442
             cases he443
             have hc446 := hE444 _ _ hx437'
             refine Ix0 hi438 ?_
             refine Lx 0 hs40.at0 hc446 ?_
             refine Vs 1 ?_
             refine Nt ?_
             refine Rt ?_
             refine thenQ_ret ?_
             obtain rfl := some_inj h439
             exact Re [(vi x436)] hs40 rfl
            ·refine Sc ?_
             refine thenQ_nrm ?_
             refine Sq (Rg [0, 1, 2, 3] ?_)
             refine Vs 1 ?_
             obtain ⟨x447, hx448, h450⟩ := bind_some h435
             obtain ⟨hi449, hx448'⟩ := idx_spec hx448
             obtain ⟨b451, C452, ha453, he454, hE455⟩ := RowR.open hr430 hx448'
             cases ha453
             cases he454
             have hc457 := hE455 _ _ hx448'
             refine Ix0 hi449 ?_
             refine Lx 0 hs40.at0 hc457 ?_
             refine Vs 1 ?_
             refine Nt ?_
             refine Rt ?_
             obtain rfl := some_inj h450
             exact Re [(vi x447)] hs40 rfl
end Go.Proofs.YtaihlcdkcampbaaGreatDoor
namespace Go.Proofs.YtaihlcdkcampbaaGreatDoor
open Go.Proofs
structure Rec101 where
 q101 : Expr → (List Int) → Option Int
def rec101 (N : Nat) : Nat → Rec101
 | 0 => ⟨fun _ _ => none⟩
 | k + 1 => ⟨ref06_value_S N (rec101 N k).q101⟩
theorem rec101_ok (N : Nat) : ∀ k, Self101 (rec101 N k).q101
 | 0 => (by unfold Self101; intros; rename_i h; cases h)
 | k + 1 => by
  have ih := rec101_ok N k
  exact @cS_ref06_value N (rec101 N k).q101 ih
def ref06_value (N : Nat) (x0 : Expr) (x1 : (List Int)) : Option Int := (rec101 N N).q101 x0 x1
theorem c_ref06_value (N : Nat) (w0 : World) (F0 : Mem) (hF : ∀ b o, F0 b = some o → w0.heap[b]? = some o) (x0 : Expr) (a0_2 : Option Addr) (n0_2 : Nat) (hb0_2 : LC x0.Kids.length n0_2) (hs0_2 : SlA tExpr F0 a0_2 x0.Kids) (x1 : (List Int)) (a1_0 : Option Addr) (n1_0 : Nat) (hb1_0 : LC x1.length n1_0) (hs1_0 : SlA tInt F0 a1_0 x1) (r : Int) (h : ref06_value N x0 x1 = some r) :
  Calls Tryz.prog 101 ([(.agg #[(.int .i64 x0.Op), (.int .i64 x0.Value), (.slice a0_2 x0.Kids.length n0_2)]), (.slice a1_0 x1.length n1_0)] : List Value).toArray w0 (FRet w0 F0 fun F' v => v = (.int .i64 r)) := (rec101_ok N N) w0 F0 hF x0 a0_2 n0_2 hb0_2 hs0_2 x1 a1_0 n1_0 hb1_0 hs1_0 r h
end Go.Proofs.YtaihlcdkcampbaaGreatDoor
namespace Go.Proofs.YtaihlcdkcampbaaGreatDoor
open Go.Proofs
def slices_IndexFunc_int_int_L0 (N : Nat) (x0 : (List Int)) (x1 : (Int → Option Bool)) : Int → Option (Flow Int Int) := fun s24 =>
 (bif (decide (s24 < (x0.length : Int))) then ((idx x0 s24).bind fun x47 => ((x1 x47).bind fun r61 => (bif r61 then some (.ret s24) else some (.next (W64 (s24 + 1)))))) else some (.done s24))
def slices_IndexFunc_int_int (N : Nat) (x0 : (List Int)) (x1 : (Int → Option Bool)) : Option Int :=
 ((iter (slices_IndexFunc_int_int_L0 N x0 x1) N 0).bind fun o => o.k (fun r => some r) (fun s33 => some (-1)))
theorem co_slices_IndexFunc_int_int : CallOk Tryz.prog 197 := fun _ _ => by kernel_rfl
theorem c_slices_IndexFunc_int_int (N : Nat) (w0 : World) (F0 : Mem) (hF : ∀ b o, F0 b = some o → w0.heap[b]? = some o) (x0 : (List Int)) (a0_0 : Option Addr) (n0_0 : Nat) (hb0_0 : LC x0.length n0_0) (hs0_0 : SlA tInt F0 a0_0 x0) (gx1 : FuncId) (fx1 kx1 : List Value) (x1 : Int → Option Bool) (hox1 : CallOk Tryz.prog gx1) (hpx1 : Fn179 F0 gx1 fx1 kx1 x1) (r : Int) (h : slices_IndexFunc_int_int N x0 x1 = some r) :
  Calls Tryz.prog 197 ([(.slice a0_0 x0.length n0_0), (.func (.func gx1) fx1.toArray kx1.toArray)] : List Value).toArray w0 (FRet w0 F0 fun F' v => v = (vi r)) := by
 have hs0 := HS.start hF
 refine Go 19 Tryz.func197 ?_
 refine Sq (Rg [0] ?_)
 refine Vs 1 ?_
 refine Nss ?_
 refine Sq (Rg [0, 1, 2] ?_)
 refine Vs 3 ?_
 refine Nt ?_
 obtain ⟨o21, ho22, h23⟩ := bind_some h
 refine CWP.cut (fun f w => ∃ (s33 : Int) (F2 : Mem), o21 = .done s33 ∧ HS w0 F0 w F2 [] ∧ Mem.le F0 F2 ∧ FI f [] []) ?_ ?_
 ·refine Bk ?_
  refine CWP.loop (by kernel_rfl) (fun m f w => ∃ (s24 : Int) (F1 : Mem), iter (slices_IndexFunc_int_int_L0 N x0 x1) m s24 = some o21 ∧ HS w0 F0 w F1 [] ∧ Mem.le F0 F1 ∧ FI f [] [(0, (.slice a0_0 x0.length n0_0)), (1, (.func (.func gx1) fx1.toArray kx1.toArray)), (7, (vi (x0.length : Int))), (8, (vi s24))]) N ⟨0, F0, ho22, hs0, (Mem.le.refl _), fI⟩ ?_
  rintro m38 f w25 ⟨s24, F1, hit39, hs26, le27, ⟨_, rfl⟩⟩
  obtain ⟨m40, fl41, rfl, hb42, hnx43⟩ := iter_step hit39
  refine Sq (Rg [0] ?_)
  refine Vs 1 ?_
  refine Nss ?_
  refine Cd hb42 (fun hb44 h45 => ?_) (fun hb44 h46 => ?_)
  ·refine Sc ?_
   refine thenQ_nrm ?_
   refine Sq ?_
   refine Bk ?_
   refine Sq (Rg [0, 1] ?_)
   refine Vs 2 ?_
   refine Nss (Rg [0, 1, 2, 3, 4, 5] ?_)
   refine Vs 3 ?_
   obtain ⟨x47, hx48, h50⟩ := bind_some h45
   obtain ⟨hi49, hx48'⟩ := idx_spec hx48
   obtain ⟨b51, o52, C53, E54, fz55, rfl, hF57, hE58⟩ := SlA.open (SlA.mono hs0_0 le27) hx48'
   have hc60 := hE58 _ _ hx48'
   refine Ix hi49 ?_
   refine Lx 0 (hs26.pers _ _ hF57) hc60 ?_
   obtain ⟨r61, hr62, h63⟩ := bind_some h50
   refine Cq hox1 hs26 (hpx1 w25 F1 (x47) _ le27 hs26.pers hr62) ?_
   rintro _ F3 w65 hs66 le67 rfl
   refine Nt ?_
   refine Cd h63 (fun hb69 h70 => ?_) (fun hb69 h71 => ?_)
   ·refine Sq (Rg [0, 1] ?_)
    refine Vs 2 ?_
    refine Nt ?_
    refine Rt ?_
    refine blockQ_ret ?_
    refine thenQ_ret ?_
    refine thenQ_ret ?_
    refine blockQ_ret ?_
    have hret := iter_ret h70 hnx43
    subst hret
    refine .inr ?_
    refine thenQ_ret ?_
    obtain rfl := some_inj h23
    exact Re [(vi s24)] hs66 rfl
   ·refine Sc ?_
    refine blockQ_nrm ?_
    refine thenQ_nrm ?_
    refine Rg [0, 1] ?_
    refine Vs 2 ?_
    refine RWP.nil ?_
    have hn72 := iter_next h71 hnx43
    exact ⟨m40, Nat.lt_succ_self _, (W64 (s24 + 1)), F3, hn72, hs66, (le27.trans le67), fI⟩
  ·refine Ex ?_
   refine thenQ_ex ?_
   refine thenQ_ex ?_
   refine blockQ_hit rfl ?_
   have ho73 := iter_done h46 hnx43
   exact .inl ⟨rfl, s24, F1, ho73, hs26, le27, fI⟩
 ·rintro f w34 ⟨s33, F2, rfl, hs35, le36, ⟨_, rfl⟩⟩
  have h74 := k_done h23
  refine thenQ_nrm ?_
  refine Sq (Rg [0] ?_)
  refine Vs 1 ?_
  refine Nt ?_
  refine Rt ?_
  obtain rfl := some_inj h74
  exact Re [(vi (-1))] hs35 rfl
end Go.Proofs.YtaihlcdkcampbaaGreatDoor
namespace Go.Proofs.YtaihlcdkcampbaaGreatDoor
open Go.Proofs
def slices_ContainsFunc_int_int (N : Nat) (x0 : (List Int)) (x1 : (Int → Option Bool)) : Option Bool :=
 ((slices_IndexFunc_int_int N x0 x1).bind fun r21 => some (decide (r21 ≥ 0)))
theorem co_slices_ContainsFunc_int_int : CallOk Tryz.prog 153 := fun _ _ => by kernel_rfl
theorem c_slices_ContainsFunc_int_int (N : Nat) (w0 : World) (F0 : Mem) (hF : ∀ b o, F0 b = some o → w0.heap[b]? = some o) (x0 : (List Int)) (a0_0 : Option Addr) (n0_0 : Nat) (hb0_0 : LC x0.length n0_0) (hs0_0 : SlA tInt F0 a0_0 x0) (gx1 : FuncId) (fx1 kx1 : List Value) (x1 : Int → Option Bool) (hox1 : CallOk Tryz.prog gx1) (hpx1 : Fn179 F0 gx1 fx1 kx1 x1) (r : Bool) (h : slices_ContainsFunc_int_int N x0 x1 = some r) :
  Calls Tryz.prog 153 ([(.slice a0_0 x0.length n0_0), (.func (.func gx1) fx1.toArray kx1.toArray)] : List Value).toArray w0 (FRet w0 F0 fun F' v => v = (.bool r)) := by
 have hs0 := HS.start hF
 refine Go 9 Tryz.func153 ?_
 refine Sq (Rg [0] ?_)
 refine Vs 1 ?_
 refine Nss (Rg [0, 1, 2, 3, 4] ?_)
 refine Vs 2 ?_
 obtain ⟨r21, hr22, h23⟩ := bind_some h
 refine Cl' co_slices_IndexFunc_int_int hs0 (c_slices_IndexFunc_int_int N w0 F0 hs0.pers (x0) a0_0 n0_0 hb0_0 hs0_0 gx1 fx1 kx1 x1 hox1 (fun w1 F1 y0 r le1 pe1 hr1 => hpx1 w1 F1 y0 r (le1) pe1 hr1) _ hr22) ?_
 rintro _ F1 w25 hs26 le27 rfl
 refine Vs 2 ?_
 refine Nt ?_
 refine Rt ?_
 obtain rfl := some_inj h23
 exact Re [(.bool (decide (r21 ≥ 0)))] hs26 rfl
end Go.Proofs.YtaihlcdkcampbaaGreatDoor
namespace Go.Proofs.YtaihlcdkcampbaaGreatDoor
open Go.Proofs
def rules_validFacts_1 (N : Nat) (x0 : Int) : Option Bool :=
 some ((decide (x0 < 0)) || (decide (x0 > 1000000)))
theorem co_rules_validFacts_1 : CallOk Tryz.prog 154 := fun _ _ => by kernel_rfl
theorem c_rules_validFacts_1 (N : Nat) (w0 : World) (F0 : Mem) (hF : ∀ b o, F0 b = some o → w0.heap[b]? = some o) (x0 : Int) (r : Bool) (h : rules_validFacts_1 N x0 = some r) :
  Calls Tryz.prog 154 ([(vi x0)] : List Value).toArray w0 (FRet w0 F0 fun F' v => v = (.bool r)) := by
 have hs0 := HS.start hF
 refine Go 9 Tryz.func154 ?_
 refine Sq (Rg [0] ?_)
 refine Vs 1 ?_
 refine Nss (Rg [0, 1, 2, 3, 4, 5, 6] ?_)
 refine RWP.cut (fun f w => ∃ (F1 : Mem), HS w0 F0 w F1 [] ∧ Mem.le F0 F1 ∧ FI f [] [(2, (.bool ((decide (x0 < 0)) || (decide (x0 > 1000000)))))]) ?_ ?_
 ·refine Vs 3 ?_
  refine RWP.split (decide (x0 < 0)) (fun hb26 => ?_) (fun hb26 => ?_)
  ·refine Ss hb26 2 ?_
   refine Pk1 hb26 ?_
   refine Vs 1 ?_
   exact RWP.nil ⟨rfl, F0, hs0, (Mem.le.refl _), (fJ ⟨(congrArg Value.bool (or_t hb26 (rfl))), trivial⟩)⟩
  ·refine Vgs hb26 2 ?_
   refine Pk0 hb26 ?_
   refine Vs 1 ?_
   exact RWP.nil ⟨rfl, F0, hs0, (Mem.le.refl _), (fJ ⟨(congrArg Value.bool (or_f hb26 (rfl))), trivial⟩)⟩
 ·rintro f w21 ⟨F1, hs22, le23, ⟨_, rfl⟩⟩
  refine thenQ_nrm ?_
  refine Rt ?_
  obtain rfl := some_inj h
  exact Re [(.bool ((decide (x0 < 0)) || (decide (x0 > 1000000))))] hs22 rfl
end Go.Proofs.YtaihlcdkcampbaaGreatDoor
namespace Go.Proofs.YtaihlcdkcampbaaGreatDoor
open Go.Proofs
def rules_validFacts (N : Nat) (x0 : (List Int)) : Option Bool :=
 ((bif ((x0.length : Int) == 14) then ((slices_ContainsFunc_int_int N x0 (fun y0 => rules_validFacts_1 N y0)).bind fun r32 => some (!r32)) else some false).bind fun j24 => some j24)
theorem co_rules_validFacts : CallOk Tryz.prog 98 := fun _ _ => by kernel_rfl
theorem c_rules_validFacts (N : Nat) (w0 : World) (F0 : Mem) (hF : ∀ b o, F0 b = some o → w0.heap[b]? = some o) (x0 : (List Int)) (a0_0 : Option Addr) (n0_0 : Nat) (hb0_0 : LC x0.length n0_0) (hs0_0 : SlA tInt F0 a0_0 x0) (r : Bool) (h : rules_validFacts N x0 = some r) :
  Calls Tryz.prog 98 ([(.slice a0_0 x0.length n0_0)] : List Value).toArray w0 (FRet w0 F0 fun F' v => v = (.bool r)) := by
 have hs0 := HS.start hF
 refine Go 11 Tryz.func98 ?_
 refine Sq (Rg [0] ?_)
 refine Vs 1 ?_
 refine Nss (Rg [0, 1, 2, 3, 4, 5, 6, 7, 8] ?_)
 obtain ⟨j24, hj27, h28⟩ := bind_some h
 refine RWP.cut (fun f w => ∃ (F1 : Mem), HS w0 F0 w F1 [] ∧ Mem.le F0 F1 ∧ FI f [] [(2, (.bool j24))]) ?_ ?_
 ·refine Vs 4 ?_
  refine Sp hj27 (fun hb29 h30 => ?_) (fun hb29 h31 => ?_)
  ·refine Vgs hb29 1 ?_
   obtain ⟨r32, hr33, h34⟩ := bind_some h30
   refine Cg hb29 co_slices_ContainsFunc_int_int hs0 (c_slices_ContainsFunc_int_int N w0 F0 hs0.pers (x0) a0_0 n0_0 hb0_0 hs0_0 154 [] [] (fun y0 => rules_validFacts_1 N y0) co_rules_validFacts_1 (fun w1 F1 y0 r le1 pe1 hr1 => c_rules_validFacts_1 N w1 F1 pe1  y0  r hr1) _ hr33) ?_
   rintro _ F2 w36 hs37 le38 rfl
   refine Vgs hb29 1 ?_
   refine Pk1 hb29 ?_
   refine Vs 1 ?_
   obtain rfl := some_inj h34
   exact RWP.nil ⟨rfl, F2, hs37, le38, fI⟩
  ·refine Ss hb29 3 ?_
   refine Pk0 hb29 ?_
   refine Vs 1 ?_
   obtain rfl := some_inj h31
   exact RWP.nil ⟨rfl, F0, hs0, (Mem.le.refl _), fI⟩
 ·rintro f w21 ⟨F1, hs22, le23, ⟨_, rfl⟩⟩
  refine thenQ_nrm ?_
  refine Rt ?_
  obtain rfl := some_inj h28
  exact Re [(.bool j24)] hs22 rfl
end Go.Proofs.YtaihlcdkcampbaaGreatDoor
namespace Go.Proofs.YtaihlcdkcampbaaGreatDoor
open Go.Proofs
end Go.Proofs.YtaihlcdkcampbaaGreatDoor
namespace Go.Proofs.YtaihlcdkcampbaaGreatDoor
def zE : Expr := ⟨0, 0, []⟩
def hold (n : Int) : Int := max (-1000000) (min 1000000 n)
theorem hold_r (n : Int) : -1000000 ≤ hold n ∧ hold n ≤ 1000000 := by unfold hold; omega
def bitv (b : Bool) : Int := if b then 1 else 0
def vop (op v fv : Int) (l : List Int) : Int :=
 if op = 1 then v else if op = 2 then fv else if op = 3 then 1 - l[0]! else if op = 4 then min l[0]! l[1]! else if op = 5 then max l[0]! l[1]! else if op = 6 then bitv (l[0]! == l[1]!)
 else if op = 7 then bitv (decide (l[0]! < l[1]!)) else if op = 8 then hold (l[0]! + l[1]!) else if op = 9 then hold (l[0]! - l[1]!) else if op = 10 then hold (l[0]! * l[1]!)
 else if l[0]! = 1 then l[1]! else l[2]!
def val (f : List Int) (e : Expr) : Int := match e with
 | ⟨op, v, ks⟩ => vop op v f[v.toNat]! (ks.map fun x => val f x)
theorem val_eq (f : List Int) (e : Expr) : val f e = vop e.Op e.Value f[e.Value.toNat]! (e.Kids.map (val f)) := by
 cases e; rw [val]
def fac (f : List Int) : Bool := decide (f.length = 14) && f.all fun n => decide (0 ≤ n) && decide (n ≤ 1000000)
def vok (t v : Int) : Prop := (t = 2 → v = 0 ∨ v = 1) ∧ (t = 1 → -1000000 ≤ v ∧ v ≤ 1000000)
inductive Mk (e : Expr) : Int → Prop
 | num (h : e.Op = 1) (h1 : 0 ≤ e.Value) (h2 : e.Value ≤ 1000000) (hk : e.Kids = []) : Mk e 1
 | field (h : e.Op = 2) (h1 : 0 ≤ e.Value) (h2 : e.Value ≤ 13) (hk : e.Kids = []) : Mk e 1
 | deny (h : e.Op = 3) (hv : e.Value = 0) (x : Expr) (hk : e.Kids = [x]) (h1 : kd x = 2) : Mk e 2
 | logic (h : e.Op = 4 ∨ e.Op = 5) (hv : e.Value = 0) (x y : Expr) (hk : e.Kids = [x, y]) (h1 : kd x = 2) (h2 : kd y = 2) : Mk e 2
 | test (h : e.Op = 6 ∨ e.Op = 7) (hv : e.Value = 0) (x y : Expr) (hk : e.Kids = [x, y]) (h1 : kd x = 1) (h2 : kd y = 1) : Mk e 2
 | sum (h : e.Op = 8 ∨ e.Op = 9 ∨ e.Op = 10) (hv : e.Value = 0) (x y : Expr) (hk : e.Kids = [x, y]) (h1 : kd x = 1) (h2 : kd y = 1) : Mk e 1
 | cond (h : e.Op = 11) (hv : e.Value = 0) (c x y : Expr) (hk : e.Kids = [c, x, y]) (h0 : kd c = 2) (h1 : kd x = 1) (h2 : kd y = 1) : Mk e 1
theorem map1 {l : List Expr} {a : Int} (h : l.map kd = [a]) : ∃ x, l = [x] ∧ kd x = a := by
 match l, h with
 | [x], h => exact ⟨x, rfl, by simpa using h⟩
theorem map2 {l : List Expr} {a b : Int} (h : l.map kd = [a, b]) : ∃ x y, l = [x, y] ∧ kd x = a ∧ kd y = b := by
 match l, h with
 | [x, y], h => simp at h; exact ⟨x, y, rfl, h.1, h.2⟩
theorem map3 {l : List Expr} {a b c : Int} (h : l.map kd = [a, b, c]) : ∃ x y z, l = [x, y, z] ∧ kd x = a ∧ kd y = b ∧ kd z = c := by
 match l, h with
 | [x, y, z], h => simp at h; exact ⟨x, y, z, rfl, h.1, h.2.1, h.2.2⟩
theorem kd_mk {e : Expr} (h : kd e ≠ 0) : Mk e (kd e) := by
 rw [kd_eq] at h ⊢
 cases hf : kf e.Op with
 | none => rw [hf] at h; exact absurd rfl h
 | some x =>
  obtain ⟨m, o, l⟩ := x
  rw [hf] at h
  simp only at h ⊢
  by_cases hc : 0 ≤ e.Value ∧ e.Value ≤ m ∧ e.Kids.map kd = l
  ·rw [if_pos hc]
   obtain ⟨c1, c2, c3⟩ := hc
   unfold kf at hf
   by_cases h1 : e.Op = 1
   ·rw [if_pos h1] at hf; cases hf; exact .num h1 c1 c2 (by simpa using c3)
   rw [if_neg h1] at hf
   by_cases h2 : e.Op = 2
   ·rw [if_pos h2] at hf; cases hf; exact .field h2 c1 c2 (by simpa using c3)
   rw [if_neg h2] at hf
   by_cases h3 : e.Op = 3
   ·rw [if_pos h3] at hf; cases hf; obtain ⟨x, hk, hx⟩ := map1 c3; exact .deny h3 (by omega) x hk hx
   rw [if_neg h3] at hf
   by_cases h4 : e.Op = 4 ∨ e.Op = 5
   ·rw [if_pos h4] at hf; cases hf; obtain ⟨x, y, hk, hx, hy⟩ := map2 c3; exact .logic h4 (by omega) x y hk hx hy
   rw [if_neg h4] at hf
   by_cases h6 : e.Op = 6 ∨ e.Op = 7
   ·rw [if_pos h6] at hf; cases hf; obtain ⟨x, y, hk, hx, hy⟩ := map2 c3; exact .test h6 (by omega) x y hk hx hy
   rw [if_neg h6] at hf
   by_cases h8 : e.Op = 8 ∨ e.Op = 9 ∨ e.Op = 10
   ·rw [if_pos h8] at hf; cases hf; obtain ⟨x, y, hk, hx, hy⟩ := map2 c3; exact .sum h8 (by omega) x y hk hx hy
   rw [if_neg h8] at hf
   by_cases h11 : e.Op = 11
   ·rw [if_pos h11] at hf; cases hf; obtain ⟨x, y, z, hk, hx, hy, hz⟩ := map3 c3; exact .cond h11 (by omega) x y z hk hx hy hz
   rw [if_neg h11] at hf; cases hf
  ·rw [if_neg hc] at h; exact absurd rfl h
theorem fac_len {f : List Int} (h : fac f = true) : f.length = 14 := by unfold fac at h; simp at h; exact h.1
theorem fac_get {f : List Int} (h : fac f = true) {i : Nat} (hi : i < 14) : 0 ≤ f[i]! ∧ f[i]! ≤ 1000000 := by
 have hl := fac_len h
 unfold fac at h
 simp only [Bool.and_eq_true, decide_eq_true_eq, List.all_eq_true] at h
 have := h.2 f[i]! (by rw [getElem!_pos f i (by omega)]; exact List.getElem_mem _)
 exact this
theorem bitv_ok (b : Bool) : bitv b = 0 ∨ bitv b = 1 := by cases b <;> simp [bitv]
theorem val_ok {f : List Int} (hf : fac f = true) {M : Nat} : ∀ {n : Nat} {e : Expr}, Ht M n e → kd e ≠ 0 → vok (kd e) (val f e)
 | 0, _, h, _ => h.elim
 | n + 1, e, ⟨_, _, h3⟩, h0 => by
  have ih : ∀ x, x ∈ e.Kids → kd x ≠ 0 → vok (kd x) (val f x) := fun x hx => val_ok hf (h3 x hx)
  rw [val_eq]
  have hm := kd_mk h0
  generalize kd e = t at hm h0
  have T : ∀ x, x ∈ e.Kids → kd x = 2 → val f x = 0 ∨ val f x = 1 := fun x hx h => (ih x hx (by rw [h]; decide)).1 h
  have U : ∀ x, x ∈ e.Kids → kd x = 1 → -1000000 ≤ val f x ∧ val f x ≤ 1000000 := fun x hx h => (ih x hx (by rw [h]; decide)).2 h
  cases hm with
  | num h h1 h2 hk =>
   rw [h]
   refine ⟨fun h => (by cases h), fun _ => ?_⟩
   show -1000000 ≤ e.Value ∧ e.Value ≤ 1000000
   omega
  | field h h1 h2 hk =>
    rw [h]
    refine ⟨fun h => (by cases h), fun _ => ?_⟩
    show -1000000 ≤ f[e.Value.toNat]! ∧ f[e.Value.toNat]! ≤ 1000000
    have := fac_get hf (i := e.Value.toNat) (by omega)
    omega
  | deny h hv x hk h1 =>
   rw [h, hk]
   have := T x (by rw [hk]; simp) h1
   refine ⟨fun _ => ?_, fun h => (by cases h)⟩
   show 1 - val f x = 0 ∨ 1 - val f x = 1
   omega
  | logic h hv x y hk h1 h2 =>
   have a := T x (by rw [hk]; simp) h1
   have b := T y (by rw [hk]; simp) h2
   rw [hk]
   refine ⟨fun _ => ?_, fun h => by cases h⟩
   rcases h with h | h <;> rw [h]
   ·show min (val f x) (val f y) = 0 ∨ min (val f x) (val f y) = 1; omega
   ·show max (val f x) (val f y) = 0 ∨ max (val f x) (val f y) = 1; omega
  | test h hv x y hk h1 h2 =>
   refine ⟨fun _ => ?_, fun h => by cases h⟩
   rcases h with h | h <;> rw [h] <;> exact bitv_ok _
  | sum h hv x y hk h1 h2 =>
   refine ⟨fun h => (by cases h), fun _ => ?_⟩
   rcases h with h | h | h <;> rw [h] <;> exact hold_r _
  | cond h hv c x y hk h0 h1 h2 =>
   have b := U x (by rw [hk]; simp) h1
   have c := U y (by rw [hk]; simp) h2
   rw [h, hk]
   refine ⟨fun h => (by cases h), fun _ => ?_⟩
   show -1000000 ≤ (if val f _ = 1 then val f x else val f y) ∧ (if val f _ = 1 then val f x else val f y) ≤ 1000000
   split <;> assumption
section
variable {N : Nat} {f : List Int}
theorem m_one (b : Bool) : rules_one N b = some (bitv b) := by unfold rules_one bitv; cases b <;> rfl
theorem m_bit (b : Bool) : ref06_bit N b = some (bitv b) := by unfold ref06_bit bitv; cases b <;> rfl
theorem m_held (n : Int) : rules_held N n = some (hold n) := rfl
theorem W64_small {n : Int} (h : -1000000000000000 ≤ n) (h2 : n ≤ 1000000000000000) : W64 n = n := W64_id (by omega) (by omega)
theorem mul_small {a b : Int} (ha : -1000000 ≤ a) (ha' : a ≤ 1000000) (hb : -1000000 ≤ b) (hb' : b ≤ 1000000) : -1000000000000 ≤ a * b ∧ a * b ≤ 1000000000000 := by
 have hk : (a * b).natAbs ≤ 1000000 * 1000000 := by
  rw [Int.natAbs_mul]
  exact Nat.mul_le_mul (by omega) (by omega)
 omega
theorem k_value (hf : fac f = true) : ∀ {n k : Nat} {e : Expr}, Ht N n e → 2 * n ≤ k → kd e ≠ 0 → (rec99 N k).q99 e f = some (val f e)
 | 0, _, _, h, _, _ => h.elim
 | n + 1, 0, _, _, h, _ => absurd h (by omega)
 | n + 1, 1, _, _, h, _ => absurd h (by omega)
 | n + 1, k + 2, e, ⟨h1, h2, h3⟩, hk, h0 => by
  have hq : ∀ x, x ∈ e.Kids → kd x ≠ 0 → (rec99 N k).q99 x f = some (val f x) := fun x hx => k_value hf (h3 x hx) (by omega)
  have hv : ∀ x, x ∈ e.Kids → kd x ≠ 0 → vok (kd x) (val f x) := fun x hx => val_ok hf (h3 x hx)
  have T : ∀ x, x ∈ e.Kids → kd x = 2 → val f x = 0 ∨ val f x = 1 := fun x hx h => (hv x hx (by rw [h]; decide)).1 h
  have U : ∀ x, x ∈ e.Kids → kd x = 1 → -1000000 ≤ val f x ∧ val f x ≤ 1000000 := fun x hx h => (hv x hx (by rw [h]; decide)).2 h
  have hi : ∀ (i : Nat) x, e.Kids[i]? = some x → kd x ≠ 0 → (rec99 N (k + 1)).q155 (i : Int) e f = some (val f x) := fun i x hx hx0 => by
   show rules_value_1_S N (rec99 N k).q99 i e f = _
   unfold rules_value_1_S
   rw [idx_nat', hx, Option.bind_some, hq x (List.mem_of_getElem? hx) hx0]
   rfl
  have hi0 : ∀ x, e.Kids[0]? = some x → kd x ≠ 0 → (rec99 N (k + 1)).q155 0 e f = some (val f x) := hi 0
  have hi1 : ∀ x, e.Kids[1]? = some x → kd x ≠ 0 → (rec99 N (k + 1)).q155 1 e f = some (val f x) := hi 1
  have hi2 : ∀ x, e.Kids[2]? = some x → kd x ≠ 0 → (rec99 N (k + 1)).q155 2 e f = some (val f x) := hi 2
  show rules_value_S N (rec99 N (k + 1)).q155 e f = _
  unfold rules_value_S
  rw [val_eq]
  have hm := kd_mk h0
  generalize kd e = t at hm
  cases hm with
  | num h _ _ hk => rw [h]; rfl
  | field h h1 h2 hk =>
   have hl := fac_len hf
   rw [h]
   show ((idx f e.Value).bind fun x32 => some x32) = some f[e.Value.toNat]!
   obtain ⟨m, hm⟩ : ∃ m : Nat, e.Value = m := ⟨e.Value.toNat, by omega⟩
   have hm' : m < f.length := by omega
   rw [hm, idx_nat hm', Int.toNat_natCast, getElem!_pos f m hm']
   rfl
  | deny h hv x hk h1 =>
   have a := hi0 x (by rw [hk]; rfl) (by rw [h1]; decide)
   have b := T x (by rw [hk]; simp) h1
   rw [h, hk]
   show ((rec99 N (k + 1)).q155 0 e f).bind _ = some (1 - val f x)
   rw [a, Option.bind_some, W64_small (by omega) (by omega)]
  | logic h hv x y hk h1 h2 =>
   have a := hi0 x (by rw [hk]; rfl) (by rw [h1]; decide)
   have b := hi1 y (by rw [hk]; rfl) (by rw [h2]; decide)
   have a' := T x (by rw [hk]; simp) h1
   have b' := T y (by rw [hk]; simp) h2
   rcases h with h | h <;> rw [h, hk]
   ·show ((rec99 N (k + 1)).q155 0 e f).bind _ = some (min (val f x) (val f y))
    rw [a, Option.bind_some, b, Option.bind_some]
    congr 1
    rcases a' with a' | a' <;> rcases b' with b' | b' <;> rw [a', b'] <;> decide
   ·show ((rec99 N (k + 1)).q155 0 e f).bind _ = some (max (val f x) (val f y))
    rw [a, Option.bind_some, b, Option.bind_some]
  | test h hv x y hk h1 h2 =>
   have a := hi0 x (by rw [hk]; rfl) (by rw [h1]; decide)
   have b := hi1 y (by rw [hk]; rfl) (by rw [h2]; decide)
   rcases h with h | h <;> rw [h, hk]
   ·show ((rec99 N (k + 1)).q155 0 e f).bind _ = some (bitv (val f x == val f y))
    rw [a, Option.bind_some, b, Option.bind_some, m_one]; rfl
   ·show ((rec99 N (k + 1)).q155 0 e f).bind _ = some (bitv (decide (val f x < val f y)))
    rw [a, Option.bind_some, b, Option.bind_some, m_one]; rfl
  | sum h hv x y hk h1 h2 =>
   have a := hi0 x (by rw [hk]; rfl) (by rw [h1]; decide)
   have b := hi1 y (by rw [hk]; rfl) (by rw [h2]; decide)
   have a' := U x (by rw [hk]; simp) h1
   have b' := U y (by rw [hk]; simp) h2
   have c' := mul_small a'.1 a'.2 b'.1 b'.2
   rcases h with h | h | h <;> rw [h, hk]
   ·show ((rec99 N (k + 1)).q155 0 e f).bind _ = some (hold (val f x + val f y))
    rw [a, Option.bind_some, b, Option.bind_some, W64_small (by omega) (by omega), m_held]; rfl
   ·show ((rec99 N (k + 1)).q155 0 e f).bind _ = some (hold (val f x - val f y))
    rw [a, Option.bind_some, b, Option.bind_some, W64_small (by omega) (by omega), m_held]; rfl
   ·show ((rec99 N (k + 1)).q155 0 e f).bind _ = some (hold (val f x * val f y))
    rw [a, Option.bind_some, b, Option.bind_some, W64_small (by omega) (by omega), m_held]; rfl
  | cond h hv c x y hk h0 h1 h2 =>
   have z := hi0 c (by rw [hk]; rfl) (by rw [h0]; decide)
   have a := hi1 x (by rw [hk]; rfl) (by rw [h1]; decide)
   have b := hi2 y (by rw [hk]; rfl) (by rw [h2]; decide)
   have z' := T c (by rw [hk]; simp) h0
   rw [h, hk]
   show ((rec99 N (k + 1)).q155 0 e f).bind _ = some (if val f c = 1 then val f x else val f y)
   rw [z, Option.bind_some]
   rcases z' with z' | z' <;> rw [z']
   ·rw [show W64 (2 - 0) = 2 from rfl, b]; rfl
   ·rw [show W64 (2 - 1) = 1 from rfl, a]; rfl
theorem k_rvalue (hf : fac f = true) : ∀ {n k : Nat} {e : Expr}, Ht N n e → n ≤ k → kd e ≠ 0 → (rec101 N k).q101 e f = some (val f e)
 | 0, _, _, h, _, _ => h.elim
 | n + 1, 0, _, _, h, _ => absurd h (by omega)
 | n + 1, k + 1, e, ⟨h1, h2, h3⟩, hk, h0 => by
  have hq : ∀ x, x ∈ e.Kids → kd x ≠ 0 → (rec101 N k).q101 x f = some (val f x) := fun x hx => k_rvalue hf (h3 x hx) (by omega)
  have hv : ∀ x, x ∈ e.Kids → kd x ≠ 0 → vok (kd x) (val f x) := fun x hx => val_ok hf (h3 x hx)
  have T : ∀ x, x ∈ e.Kids → kd x = 2 → val f x = 0 ∨ val f x = 1 := fun x hx h => (hv x hx (by rw [h]; decide)).1 h
  have U : ∀ x, x ∈ e.Kids → kd x = 1 → -1000000 ≤ val f x ∧ val f x ≤ 1000000 := fun x hx h => (hv x hx (by rw [h]; decide)).2 h
  show ref06_value_S N (rec101 N k).q101 e f = _
  unfold ref06_value_S
  have hm := kd_mk h0
  generalize kd e = t at hm
  have hkz : ∀ x, x ∈ e.Kids → kd x ≠ 0 := by
   intro x hx
   cases hm with
   | num h _ _ hk => rw [hk] at hx; cases hx
   | field h _ _ hk => rw [hk] at hx; cases hx
   | deny h _ a hk h1 => rw [hk] at hx; simp at hx; subst hx; rw [h1]; decide
   | logic h _ a b hk h1 h2 => rw [hk] at hx; simp at hx; rcases hx with rfl | rfl <;> first | (rw [h1]; decide) | (rw [h2]; decide)
   | test h _ a b hk h1 h2 => rw [hk] at hx; simp at hx; rcases hx with rfl | rfl <;> first | (rw [h1]; decide) | (rw [h2]; decide)
   | sum h _ a b hk h1 h2 => rw [hk] at hx; simp at hx; rcases hx with rfl | rfl <;> first | (rw [h1]; decide) | (rw [h2]; decide)
   | cond h _ c a b hk h0 h1 h2 => rw [hk] at hx; simp at hx; rcases hx with rfl | rfl | rfl <;> first | (rw [h1]; decide) | (rw [h2]; decide) | (rw [h0]; decide)
  have hl3 : e.Kids.length ≤ 3 := by
   cases hm with
   | num h _ _ hk => rw [hk]; simp
   | field h _ _ hk => rw [hk]; simp
   | deny h _ a hk h1 => rw [hk]; simp
   | logic h _ a b hk h1 h2 => rw [hk]; simp
   | test h _ a b hk h1 h2 => rw [hk]; simp
   | sum h _ a b hk h1 h2 => rw [hk]; simp
   | cond h _ c a b hk h0 h1 h2 => rw [hk]; simp
  have hit : iter (ref06_value_L0 N (rec101 N k).q101 e f) N ([], 0) = some (.done (([] : List Int) ++ cat e.Kids.length (fun i => [val f (e.Kids[i]?.getD zE)]), (e.Kids.length : Int))) := by
   refine iter_cat' 1 _ (fun i hi => by simp) (fun i s hi hs => ?_) (fun s => ?_) h1
   ·unfold ref06_value_L0
    simp only
    rw [lt_t hi, cond_true, idx_nat hi, Option.bind_some, hq _ (List.getElem_mem hi) (hkz _ (List.getElem_mem hi)), Option.bind_some, apnd_ok (by simp at hs ⊢; omega), Option.bind_some, W64_succ (by omega), List.getElem?_eq_getElem hi]
    rfl
   ·unfold ref06_value_L0
    simp only
    rw [lt_f, cond_false]
  rw [hit, val_eq]
  cases hm with
  | num h _ _ hk => rw [h]; rfl
  | field h h1 h2 hk =>
   have hl := fac_len hf
   rw [h]
   show ((idx f e.Value).bind fun x32 => some x32) = some f[e.Value.toNat]!
   obtain ⟨m, hm⟩ : ∃ m : Nat, e.Value = m := ⟨e.Value.toNat, by omega⟩
   have hm' : m < f.length := by omega
   rw [hm, idx_nat hm', Int.toNat_natCast, getElem!_pos f m hm']
   rfl
  | deny h hv x hk h1 =>
   have b := T x (by rw [hk]; simp) h1
   rw [h, hk]
   show some (W64 (1 - val f x)) = some (1 - val f x)
   rw [W64_small (by omega) (by omega)]
  | logic h hv x y hk h1 h2 =>
   rcases h with h | h <;> rw [h, hk] <;> rfl
  | test h hv x y hk h1 h2 =>
   rcases h with h | h <;> rw [h, hk]
   ·show (((ref06_bit N (val f x == val f y)).bind fun r241 => some r241).bind fun j213 => some j213) = some (bitv (val f x == val f y))
    rw [m_bit]; rfl
   ·show (((ref06_bit N (decide (val f x < val f y))).bind fun r241 => some r241).bind fun j213 => some j213) = some (bitv (decide (val f x < val f y)))
    rw [m_bit]; rfl
  | sum h hv x y hk h1 h2 =>
   have a' := U x (by rw [hk]; simp) h1
   have b' := U y (by rw [hk]; simp) h2
   have c' := mul_small a'.1 a'.2 b'.1 b'.2
   rcases h with h | h | h <;> rw [h, hk]
   ·show some (hold (W64 (val f x + val f y))) = some (hold (val f x + val f y))
    rw [W64_small (by omega) (by omega)]
   ·show some (hold (W64 (val f x - val f y))) = some (hold (val f x - val f y))
    rw [W64_small (by omega) (by omega)]
   ·show some (hold (W64 (val f x * val f y))) = some (hold (val f x * val f y))
    rw [W64_small (by omega) (by omega)]
  | cond h hv c x y hk h0 h1 h2 =>
   have z' := T c (by rw [hk]; simp) h0
   rw [h, hk]
   show (bif (val f c == 1) then some (val f x) else some (val f y)) = some (if val f c = 1 then val f x else val f y)
   rcases z' with z' | z' <;> rw [z'] <;> rfl
theorem s_value (hf : fac f = true) {e : Expr} (h : Fit N e) (h0 : kd e ≠ 0) : rules_value N e f = some (val f e) := by obtain ⟨n, h1, h2⟩ := h; exact k_value hf h1 (by omega) h0
theorem s_rvalue (hf : fac f = true) {e : Expr} (h : Fit N e) (h0 : kd e ≠ 0) : ref06_value N e f = some (val f e) := by obtain ⟨n, h1, h2⟩ := h; exact k_rvalue hf h1 (by omega) h0
end
end Go.Proofs.YtaihlcdkcampbaaGreatDoor
namespace Go.Proofs.YtaihlcdkcampbaaGreatDoor
open Go.Proofs
def slices_IndexFunc_api_Clause_api_Clause_L0 (N : Nat) (x0 : (List Clause)) (x1 : (Clause → Option Bool)) : Int → Option (Flow Int Int) := fun s24 =>
 (bif (decide (s24 < (x0.length : Int))) then ((idx x0 s24).bind fun x47 => ((x1 x47).bind fun r61 => (bif r61 then some (.ret s24) else some (.next (W64 (s24 + 1)))))) else some (.done s24))
def slices_IndexFunc_api_Clause_api_Clause (N : Nat) (x0 : (List Clause)) (x1 : (Clause → Option Bool)) : Option Int :=
 ((iter (slices_IndexFunc_api_Clause_api_Clause_L0 N x0 x1) N 0).bind fun o => o.k (fun r => some r) (fun s33 => some (-1)))
theorem co_slices_IndexFunc_api_Clause_api_Clause : CallOk Tryz.prog 162 := fun _ _ => by kernel_rfl
theorem c_slices_IndexFunc_api_Clause_api_Clause (N : Nat) (w0 : World) (F0 : Mem) (hF : ∀ b o, F0 b = some o → w0.heap[b]? = some o) (x0 : (List Clause)) (a0_0 : Option Addr) (n0_0 : Nat) (hb0_0 : LC x0.length n0_0) (hs0_0 : SlA tClause F0 a0_0 x0) (gx1 : FuncId) (fx1 kx1 : List Value) (x1 : Clause → Option Bool) (hox1 : CallOk Tryz.prog gx1) (hpx1 : Fn148 F0 gx1 fx1 kx1 x1) (r : Int) (h : slices_IndexFunc_api_Clause_api_Clause N x0 x1 = some r) :
  Calls Tryz.prog 162 ([(.slice a0_0 x0.length n0_0), (.func (.func gx1) fx1.toArray kx1.toArray)] : List Value).toArray w0 (FRet w0 F0 fun F' v => v = (vi r)) := by
 have hs0 := HS.start hF
 refine Go 19 Tryz.func162 ?_
 refine Sq (Rg [0] ?_)
 refine Vs 1 ?_
 refine Nss ?_
 refine Sq (Rg [0, 1, 2] ?_)
 refine Vs 3 ?_
 refine Nt ?_
 obtain ⟨o21, ho22, h23⟩ := bind_some h
 refine CWP.cut (fun f w => ∃ (s33 : Int) (F2 : Mem), o21 = .done s33 ∧ HS w0 F0 w F2 [] ∧ Mem.le F0 F2 ∧ FI f [] []) ?_ ?_
 ·refine Bk ?_
  refine CWP.loop (by kernel_rfl) (fun m f w => ∃ (s24 : Int) (F1 : Mem), iter (slices_IndexFunc_api_Clause_api_Clause_L0 N x0 x1) m s24 = some o21 ∧ HS w0 F0 w F1 [] ∧ Mem.le F0 F1 ∧ FI f [] [(0, (.slice a0_0 x0.length n0_0)), (1, (.func (.func gx1) fx1.toArray kx1.toArray)), (7, (vi (x0.length : Int))), (8, (vi s24))]) N ⟨0, F0, ho22, hs0, (Mem.le.refl _), fI⟩ ?_
  rintro m38 f w25 ⟨s24, F1, hit39, hs26, le27, ⟨_, rfl⟩⟩
  obtain ⟨m40, fl41, rfl, hb42, hnx43⟩ := iter_step hit39
  refine Sq (Rg [0] ?_)
  refine Vs 1 ?_
  refine Nss ?_
  refine Cd hb42 (fun hb44 h45 => ?_) (fun hb44 h46 => ?_)
  ·refine Sc ?_
   refine thenQ_nrm ?_
   refine Sq ?_
   refine Bk ?_
   refine Sq (Rg [0, 1] ?_)
   refine Vs 2 ?_
   refine Nss (Rg [0, 1, 2, 3, 4, 5] ?_)
   refine Vs 3 ?_
   obtain ⟨x47, hx48, h50⟩ := bind_some h45
   obtain ⟨hi49, hx48'⟩ := idx_spec hx48
   obtain ⟨b51, o52, C53, E54, fz55, rfl, hF57, hE58⟩ := SlA.open (SlA.mono hs0_0 le27) hx48'
   obtain ⟨ae59_2, ne59_2, ae59_5, ne59_5, hc60, hbe59_2, hse59_2, hbe59_5, hse59_5⟩ := hE58 _ _ hx48'
   refine Ix hi49 ?_
   refine Lx 0 (hs26.pers _ _ hF57) hc60 ?_
   obtain ⟨r61, hr62, h63⟩ := bind_some h50
   refine Cq hox1 hs26 (hpx1 w25 F1 (x47) ae59_2 ne59_2 hbe59_2 hse59_2 ae59_5 ne59_5 hbe59_5 hse59_5 _ le27 hs26.pers hr62) ?_
   rintro _ F3 w65 hs66 le67 rfl
   refine Nt ?_
   refine Cd h63 (fun hb69 h70 => ?_) (fun hb69 h71 => ?_)
   ·refine Sq (Rg [0, 1] ?_)
    refine Vs 2 ?_
    refine Nt ?_
    refine Rt ?_
    refine blockQ_ret ?_
    refine thenQ_ret ?_
    refine thenQ_ret ?_
    refine blockQ_ret ?_
    have hret := iter_ret h70 hnx43
    subst hret
    refine .inr ?_
    refine thenQ_ret ?_
    obtain rfl := some_inj h23
    exact Re [(vi s24)] hs66 rfl
   ·refine Sc ?_
    refine blockQ_nrm ?_
    refine thenQ_nrm ?_
    refine Rg [0, 1] ?_
    refine Vs 2 ?_
    refine RWP.nil ?_
    have hn72 := iter_next h71 hnx43
    exact ⟨m40, Nat.lt_succ_self _, (W64 (s24 + 1)), F3, hn72, hs66, (le27.trans le67), fI⟩
  ·refine Ex ?_
   refine thenQ_ex ?_
   refine thenQ_ex ?_
   refine blockQ_hit rfl ?_
   have ho73 := iter_done h46 hnx43
   exact .inl ⟨rfl, s24, F1, ho73, hs26, le27, fI⟩
 ·rintro f w34 ⟨s33, F2, rfl, hs35, le36, ⟨_, rfl⟩⟩
  have h74 := k_done h23
  refine thenQ_nrm ?_
  refine Sq (Rg [0] ?_)
  refine Vs 1 ?_
  refine Nt ?_
  refine Rt ?_
  obtain rfl := some_inj h74
  exact Re [(vi (-1))] hs35 rfl
end Go.Proofs.YtaihlcdkcampbaaGreatDoor
namespace Go.Proofs.YtaihlcdkcampbaaGreatDoor
open Go.Proofs
def slices_ContainsFunc_api_Clause_api_Clause (N : Nat) (x0 : (List Clause)) (x1 : (Clause → Option Bool)) : Option Bool :=
 ((slices_IndexFunc_api_Clause_api_Clause N x0 x1).bind fun r21 => some (decide (r21 ≥ 0)))
theorem co_slices_ContainsFunc_api_Clause_api_Clause : CallOk Tryz.prog 160 := fun _ _ => by kernel_rfl
theorem c_slices_ContainsFunc_api_Clause_api_Clause (N : Nat) (w0 : World) (F0 : Mem) (hF : ∀ b o, F0 b = some o → w0.heap[b]? = some o) (x0 : (List Clause)) (a0_0 : Option Addr) (n0_0 : Nat) (hb0_0 : LC x0.length n0_0) (hs0_0 : SlA tClause F0 a0_0 x0) (gx1 : FuncId) (fx1 kx1 : List Value) (x1 : Clause → Option Bool) (hox1 : CallOk Tryz.prog gx1) (hpx1 : Fn148 F0 gx1 fx1 kx1 x1) (r : Bool) (h : slices_ContainsFunc_api_Clause_api_Clause N x0 x1 = some r) :
  Calls Tryz.prog 160 ([(.slice a0_0 x0.length n0_0), (.func (.func gx1) fx1.toArray kx1.toArray)] : List Value).toArray w0 (FRet w0 F0 fun F' v => v = (.bool r)) := by
 have hs0 := HS.start hF
 refine Go 9 Tryz.func160 ?_
 refine Sq (Rg [0] ?_)
 refine Vs 1 ?_
 refine Nss (Rg [0, 1, 2, 3, 4] ?_)
 refine Vs 2 ?_
 obtain ⟨r21, hr22, h23⟩ := bind_some h
 refine Cl' co_slices_IndexFunc_api_Clause_api_Clause hs0 (c_slices_IndexFunc_api_Clause_api_Clause N w0 F0 hs0.pers (x0) a0_0 n0_0 hb0_0 hs0_0 gx1 fx1 kx1 x1 hox1 (fun w1 F1 y0 ay0_2 ny0_2 hby0_2 hsy0_2 ay0_5 ny0_5 hby0_5 hsy0_5 r le1 pe1 hr1 => hpx1 w1 F1 y0 ay0_2 ny0_2 hby0_2 hsy0_2 ay0_5 ny0_5 hby0_5 hsy0_5 r (le1) pe1 hr1) _ hr22) ?_
 rintro _ F1 w25 hs26 le27 rfl
 refine Vs 2 ?_
 refine Nt ?_
 refine Rt ?_
 obtain rfl := some_inj h23
 exact Re [(.bool (decide (r21 ≥ 0)))] hs26 rfl
end Go.Proofs.YtaihlcdkcampbaaGreatDoor
namespace Go.Proofs.YtaihlcdkcampbaaGreatDoor
open Go.Proofs
def rules_clauses_1 (N : Nat) (x0 : Clause) : Option Bool :=
 ((rules_soundClause N x0).bind fun r24 => some (!r24))
theorem co_rules_clauses_1 : CallOk Tryz.prog 161 := fun _ _ => by kernel_rfl
theorem c_rules_clauses_1 (N : Nat) (w0 : World) (F0 : Mem) (hF : ∀ b o, F0 b = some o → w0.heap[b]? = some o) (x0 : Clause) (a0_2 : Option Addr) (n0_2 : Nat) (hb0_2 : LC x0.When.Kids.length n0_2) (hs0_2 : SlA tExpr F0 a0_2 x0.When.Kids) (a0_5 : Option Addr) (n0_5 : Nat) (hb0_5 : LC x0.Then.Kids.length n0_5) (hs0_5 : SlA tExpr F0 a0_5 x0.Then.Kids) (r : Bool) (h : rules_clauses_1 N x0 = some r) :
  Calls Tryz.prog 161 ([(.agg (kClause x0 a0_2 n0_2 a0_5 n0_5))] : List Value).toArray w0 (FRet w0 F0 fun F' v => v = (.bool r)) := by
 have hs0 := HS.start hF
 refine Go 6 Tryz.func161 ?_
 refine Sq (Rg [0, 1] ?_)
 refine Bx' 56 (kClause x0 a0_2 n0_2 a0_5 n0_5) hs0 (fun b21 w22 hs23 => ?_)
 refine Vs 1 ?_
 refine Nss (Rg [0, 1, 2, 3] ?_)
 refine Ld hs23.at0 ?_
 obtain ⟨r24, hr25, h26⟩ := bind_some h
 refine Cl' co_rules_soundClause hs23 (c_rules_soundClause N w22 F0 hs23.pers (x0) a0_2 n0_2 hb0_2 hs0_2 a0_5 n0_5 hb0_5 hs0_5 _ hr25) ?_
 rintro _ F1 w28 hs29 le30 rfl
 refine Vs 2 ?_
 refine Nt ?_
 refine Rt ?_
 obtain rfl := some_inj h26
 exact Re [(.bool (!r24))] hs29 rfl
end Go.Proofs.YtaihlcdkcampbaaGreatDoor
namespace Go.Proofs.YtaihlcdkcampbaaGreatDoor
open Go.Proofs
def rules_clauses (N : Nat) (x0 : (List Clause)) : Option Bool :=
 ((bif (decide ((x0.length : Int) ≤ 64)) then ((slices_ContainsFunc_api_Clause_api_Clause N x0 (fun y0 => rules_clauses_1 N y0)).bind fun r32 => some (!r32)) else some false).bind fun j24 => some j24)
theorem co_rules_clauses : CallOk Tryz.prog 102 := fun _ _ => by kernel_rfl
theorem c_rules_clauses (N : Nat) (w0 : World) (F0 : Mem) (hF : ∀ b o, F0 b = some o → w0.heap[b]? = some o) (x0 : (List Clause)) (a0_0 : Option Addr) (n0_0 : Nat) (hb0_0 : LC x0.length n0_0) (hs0_0 : SlA tClause F0 a0_0 x0) (r : Bool) (h : rules_clauses N x0 = some r) :
  Calls Tryz.prog 102 ([(.slice a0_0 x0.length n0_0)] : List Value).toArray w0 (FRet w0 F0 fun F' v => v = (.bool r)) := by
 have hs0 := HS.start hF
 refine Go 11 Tryz.func102 ?_
 refine Sq (Rg [0] ?_)
 refine Vs 1 ?_
 refine Nss (Rg [0, 1, 2, 3, 4, 5, 6, 7, 8] ?_)
 obtain ⟨j24, hj27, h28⟩ := bind_some h
 refine RWP.cut (fun f w => ∃ (F1 : Mem), HS w0 F0 w F1 [] ∧ Mem.le F0 F1 ∧ FI f [] [(2, (.bool j24))]) ?_ ?_
 ·refine Vs 4 ?_
  refine Sp hj27 (fun hb29 h30 => ?_) (fun hb29 h31 => ?_)
  ·refine Vgs hb29 1 ?_
   obtain ⟨r32, hr33, h34⟩ := bind_some h30
   refine Cg hb29 co_slices_ContainsFunc_api_Clause_api_Clause hs0 (c_slices_ContainsFunc_api_Clause_api_Clause N w0 F0 hs0.pers (x0) a0_0 n0_0 hb0_0 hs0_0 161 [] [] (fun y0 => rules_clauses_1 N y0) co_rules_clauses_1 (fun w1 F1 y0 ay0_2 ny0_2 hby0_2 hsy0_2 ay0_5 ny0_5 hby0_5 hsy0_5 r le1 pe1 hr1 => c_rules_clauses_1 N w1 F1 pe1  y0 ay0_2 ny0_2 hby0_2 hsy0_2 ay0_5 ny0_5 hby0_5 hsy0_5  r hr1) _ hr33) ?_
   rintro _ F2 w36 hs37 le38 rfl
   refine Vgs hb29 1 ?_
   refine Pk1 hb29 ?_
   refine Vs 1 ?_
   obtain rfl := some_inj h34
   exact RWP.nil ⟨rfl, F2, hs37, le38, fI⟩
  ·refine Ss hb29 3 ?_
   refine Pk0 hb29 ?_
   refine Vs 1 ?_
   obtain rfl := some_inj h31
   exact RWP.nil ⟨rfl, F0, hs0, (Mem.le.refl _), fI⟩
 ·rintro f w21 ⟨F1, hs22, le23, ⟨_, rfl⟩⟩
  refine thenQ_nrm ?_
  refine Rt ?_
  obtain rfl := some_inj h28
  exact Re [(.bool j24)] hs22 rfl
end Go.Proofs.YtaihlcdkcampbaaGreatDoor
namespace Go.Proofs.YtaihlcdkcampbaaGreatDoor
open Go.Proofs
def rules_first_1 (N : Nat) (x0 : Clause) (z0 : (List Int)) : Option Bool :=
 ((rules_value N x0.When z0).bind fun r24 => some (r24 == 1))
theorem co_rules_first_1 : CallOk Tryz.prog 163 := fun _ _ => by kernel_rfl
theorem c_rules_first_1 (N : Nat) (w0 : World) (F0 : Mem) (hF : ∀ b o, F0 b = some o → w0.heap[b]? = some o) (x0 : Clause) (a0_2 : Option Addr) (n0_2 : Nat) (hb0_2 : LC x0.When.Kids.length n0_2) (hs0_2 : SlA tExpr F0 a0_2 x0.When.Kids) (a0_5 : Option Addr) (n0_5 : Nat) (hb0_5 : LC x0.Then.Kids.length n0_5) (hs0_5 : SlA tExpr F0 a0_5 x0.Then.Kids) (bz0 : Nat) (z0 : (List Int)) (az0_0 : Option Addr) (nz0_0 : Nat) (hbz0_0 : LC z0.length nz0_0) (hsz0_0 : SlA tInt F0 az0_0 z0) (hz0 : F0 bz0 = some (oc #[(.slice az0_0 z0.length nz0_0)] 47)) (r : Bool) (h : rules_first_1 N x0 z0 = some r) :
  Calls Tryz.prog 163 ([(.agg (kClause x0 a0_2 n0_2 a0_5 n0_5)), (pt bz0 0)] : List Value).toArray w0 (FRet w0 F0 fun F' v => v = (.bool r)) := by
 have hs0 := HS.start hF
 refine Go 9 Tryz.func163 ?_
 refine Sq (Rg [0, 1] ?_)
 refine Bx' 56 (kClause x0 a0_2 n0_2 a0_5 n0_5) hs0 (fun b21 w22 hs23 => ?_)
 refine Vs 1 ?_
 refine Nss (Rg [0, 1, 2, 3, 4, 5] ?_)
 refine Vs 1 ?_
 refine Ld hs23.at0 ?_
 refine Ld (hs23.pers _ _ hz0) ?_
 obtain ⟨r24, hr25, h26⟩ := bind_some h
 refine Cl' co_rules_value hs23 (c_rules_value N w22 F0 hs23.pers (x0.When) a0_2 n0_2 hb0_2 hs0_2 (z0) az0_0 nz0_0 hbz0_0 hsz0_0 _ hr25) ?_
 rintro _ F1 w28 hs29 le30 rfl
 refine Vs 2 ?_
 refine Nt ?_
 refine Rt ?_
 obtain rfl := some_inj h26
 exact Re [(.bool (r24 == 1))] hs29 rfl
end Go.Proofs.YtaihlcdkcampbaaGreatDoor
namespace Go.Proofs.YtaihlcdkcampbaaGreatDoor
open Go.Proofs
def rules_first (N : Nat) (x0 : (List Clause)) (x1 : (List Int)) : Option Int :=
 ((slices_IndexFunc_api_Clause_api_Clause N x0 (fun y0 => rules_first_1 N y0 x1)).bind fun r27 => some r27)
theorem co_rules_first : CallOk Tryz.prog 103 := fun _ _ => by kernel_rfl
theorem c_rules_first (N : Nat) (w0 : World) (F0 : Mem) (hF : ∀ b o, F0 b = some o → w0.heap[b]? = some o) (x0 : (List Clause)) (a0_0 : Option Addr) (n0_0 : Nat) (hb0_0 : LC x0.length n0_0) (hs0_0 : SlA tClause F0 a0_0 x0) (x1 : (List Int)) (a1_0 : Option Addr) (n1_0 : Nat) (hb1_0 : LC x1.length n1_0) (hs1_0 : SlA tInt F0 a1_0 x1) (r : Int) (h : rules_first N x0 x1 = some r) :
  Calls Tryz.prog 103 ([(.slice a0_0 x0.length n0_0), (.slice a1_0 x1.length n1_0)] : List Value).toArray w0 (FRet w0 F0 fun F' v => v = (vi r)) := by
 have hs0 := HS.start hF
 refine Go 8 Tryz.func103 ?_
 refine Sq (Rg [0, 1] ?_)
 refine Bx' 47 #[(.slice a1_0 x1.length n1_0)] hs0 (fun b21 w22 hs23 => ?_)
 refine Vs 1 ?_
 refine Nss (Rg [0, 1, 2, 3] ?_)
 refine Vs 2 ?_
 obtain ⟨F1, hs24, le25, hF26⟩ := hs23.fc0
 obtain ⟨r27, hr28, h29⟩ := bind_some h
 refine Cl' co_slices_IndexFunc_api_Clause_api_Clause hs24 (c_slices_IndexFunc_api_Clause_api_Clause N w22 F1 hs24.pers (x0) a0_0 n0_0 hb0_0 (SlA.mono hs0_0 le25) 163 [] [(pt b21 0)] (fun y0 => rules_first_1 N y0 x1) co_rules_first_1 (fun w1 F1 y0 ay0_2 ny0_2 hby0_2 hsy0_2 ay0_5 ny0_5 hby0_5 hsy0_5 r le1 pe1 hr1 => c_rules_first_1 N w1 F1 pe1  y0 ay0_2 ny0_2 hby0_2 hsy0_2 ay0_5 ny0_5 hby0_5 hsy0_5 b21 x1 a1_0 n1_0 hb1_0 (SlA.mono (SlA.mono hs1_0 le25) le1) (le1 _ _ hF26) r hr1) _ hr28) ?_
 rintro _ F2 w31 hs32 le33 rfl
 refine Vs 1 ?_
 refine Nt ?_
 refine Rt ?_
 obtain rfl := some_inj h29
 exact Re [(vi r27)] hs32 rfl
end Go.Proofs.YtaihlcdkcampbaaGreatDoor
namespace Go.Proofs.YtaihlcdkcampbaaGreatDoor
open Go.Proofs
def ref06_clauses_L0 (N : Nat) (x0 : (List Clause)) : Int → Option (Flow Int Int) := fun s24 =>
 (bif (decide (s24 < (x0.length : Int))) then ((idx x0 s24).bind fun x46 => ((ref06_clause N x46).bind fun r60 => (bif (!r60) then some (.ret s24) else some (.next (W64 (s24 + 1)))))) else some (.done s24))
def ref06_clauses (N : Nat) (x0 : (List Clause)) : Option Int :=
 ((iter (ref06_clauses_L0 N x0) N 0).bind fun o => o.k (fun r => some r) (fun s31 => some (x0.length : Int)))
theorem co_ref06_clauses : CallOk Tryz.prog 125 := fun _ _ => by kernel_rfl
theorem c_ref06_clauses (N : Nat) (w0 : World) (F0 : Mem) (hF : ∀ b o, F0 b = some o → w0.heap[b]? = some o) (x0 : (List Clause)) (a0_0 : Option Addr) (n0_0 : Nat) (hb0_0 : LC x0.length n0_0) (hs0_0 : SlA tClause F0 a0_0 x0) (r : Int) (h : ref06_clauses N x0 = some r) :
  Calls Tryz.prog 125 ([(.slice a0_0 x0.length n0_0)] : List Value).toArray w0 (FRet w0 F0 fun F' v => v = (vi r)) := by
 have hs0 := HS.start hF
 refine Go 19 Tryz.func125 ?_
 refine Sq (Rg [0] ?_)
 refine Vs 1 ?_
 refine Nss ?_
 refine Sq (Rg [0] ?_)
 refine Vs 1 ?_
 refine Nt ?_
 obtain ⟨o21, ho22, h23⟩ := bind_some h
 refine CWP.cut (fun f w => ∃ (s31 : Int) (F2 : Mem), o21 = .done s31 ∧ HS w0 F0 w F2 [] ∧ Mem.le F0 F2 ∧ FI f [] [(0, (.slice a0_0 x0.length n0_0))]) ?_ ?_
 ·refine Bk ?_
  refine CWP.loop (by kernel_rfl) (fun m f w => ∃ (s24 : Int) (F1 : Mem), iter (ref06_clauses_L0 N x0) m s24 = some o21 ∧ HS w0 F0 w F1 [] ∧ Mem.le F0 F1 ∧ FI f [] [(0, (.slice a0_0 x0.length n0_0)), (3, (vi s24))]) N ⟨0, F0, ho22, hs0, (Mem.le.refl _), fI⟩ ?_
  rintro m37 f w25 ⟨s24, F1, hit38, hs26, le27, ⟨_, rfl⟩⟩
  obtain ⟨m39, fl40, rfl, hb41, hnx42⟩ := iter_step hit38
  refine Sq ?_
  refine Sq (Rg [0, 1, 2, 3] ?_)
  refine Vs 4 ?_
  refine Nt ?_
  refine Cd hb41 (fun hb43 h44 => ?_) (fun hb43 h45 => ?_)
  ·refine Sc ?_
   refine thenQ_nrm ?_
   refine Sq ?_
   refine Bk ?_
   refine Sq (Rg [0, 1, 2, 3, 4, 5] ?_)
   refine Vs 2 ?_
   obtain ⟨x46, hx47, h49⟩ := bind_some h44
   obtain ⟨hi48, hx47'⟩ := idx_spec hx47
   obtain ⟨b50, o51, C52, E53, fz54, rfl, hF56, hE57⟩ := SlA.open (SlA.mono hs0_0 le27) hx47'
   obtain ⟨ae58_2, ne58_2, ae58_5, ne58_5, hc59, hbe58_2, hse58_2, hbe58_5, hse58_5⟩ := hE57 _ _ hx47'
   refine Ix hi48 ?_
   refine Lx 0 (hs26.pers _ _ hF56) hc59 ?_
   obtain ⟨r60, hr61, h62⟩ := bind_some h49
   refine Cl' co_ref06_clause hs26 (c_ref06_clause N w25 F1 hs26.pers (x46) ae58_2 ne58_2 hbe58_2 hse58_2 ae58_5 ne58_5 hbe58_5 hse58_5 _ hr61) ?_
   rintro _ F3 w64 hs65 le66 rfl
   refine Vs 1 ?_
   refine Nt ?_
   refine Cd h62 (fun hb68 h69 => ?_) (fun hb68 h70 => ?_)
   ·refine Sq (Rg [0, 1] ?_)
    refine Vs 2 ?_
    refine Nt ?_
    refine Rt ?_
    refine blockQ_ret ?_
    refine thenQ_ret ?_
    refine thenQ_ret ?_
    refine blockQ_ret ?_
    have hret := iter_ret h69 hnx42
    subst hret
    refine .inr ?_
    refine thenQ_ret ?_
    obtain rfl := some_inj h23
    exact Re [(vi s24)] hs65 rfl
   ·refine Sc ?_
    refine blockQ_nrm ?_
    refine thenQ_nrm ?_
    refine Rg [0, 1, 2] ?_
    refine Vs 3 ?_
    refine RWP.nil ?_
    have hn71 := iter_next h70 hnx42
    exact ⟨m39, Nat.lt_succ_self _, (W64 (s24 + 1)), F3, hn71, hs65, (le27.trans le66), fI⟩
  ·refine Ex ?_
   refine thenQ_ex ?_
   refine thenQ_ex ?_
   refine blockQ_hit rfl ?_
   have ho72 := iter_done h45 hnx42
   exact .inl ⟨rfl, s24, F1, ho72, hs26, le27, fI⟩
 ·rintro f w32 ⟨s31, F2, rfl, hs33, le34, ⟨_, rfl⟩⟩
  have h73 := k_done h23
  refine thenQ_nrm ?_
  refine Sq (Rg [0, 1, 2] ?_)
  refine Vs 3 ?_
  refine Nt ?_
  refine Rt ?_
  obtain rfl := some_inj h73
  exact Re [(vi (x0.length : Int))] hs33 rfl
end Go.Proofs.YtaihlcdkcampbaaGreatDoor
namespace Go.Proofs.YtaihlcdkcampbaaGreatDoor
open Go.Proofs
def ref06_listed (N : Nat) (x0 : (List Clause)) : Option Bool :=
 ((bif (decide ((x0.length : Int) ≤ 64)) then ((ref06_clauses N x0).bind fun r32 => some (r32 == (x0.length : Int))) else some false).bind fun j24 => some j24)
theorem co_ref06_listed : CallOk Tryz.prog 104 := fun _ _ => by kernel_rfl
theorem c_ref06_listed (N : Nat) (w0 : World) (F0 : Mem) (hF : ∀ b o, F0 b = some o → w0.heap[b]? = some o) (x0 : (List Clause)) (a0_0 : Option Addr) (n0_0 : Nat) (hb0_0 : LC x0.length n0_0) (hs0_0 : SlA tClause F0 a0_0 x0) (r : Bool) (h : ref06_listed N x0 = some r) :
  Calls Tryz.prog 104 ([(.slice a0_0 x0.length n0_0)] : List Value).toArray w0 (FRet w0 F0 fun F' v => v = (.bool r)) := by
 have hs0 := HS.start hF
 refine Go 13 Tryz.func104 ?_
 refine Sq (Rg [0] ?_)
 refine Vs 1 ?_
 refine Nss (Rg [0, 1, 2, 3, 4, 5, 6, 7, 8, 9, 10] ?_)
 obtain ⟨j24, hj27, h28⟩ := bind_some h
 refine RWP.cut (fun f w => ∃ (F1 : Mem), HS w0 F0 w F1 [] ∧ Mem.le F0 F1 ∧ FI f [] [(2, (.bool j24))]) ?_ ?_
 ·refine Vs 4 ?_
  refine Sp hj27 (fun hb29 h30 => ?_) (fun hb29 h31 => ?_)
  ·refine Vgs hb29 1 ?_
   obtain ⟨r32, hr33, h34⟩ := bind_some h30
   refine Cg hb29 co_ref06_clauses hs0 (c_ref06_clauses N w0 F0 hs0.pers (x0) a0_0 n0_0 hb0_0 hs0_0 _ hr33) ?_
   rintro _ F2 w36 hs37 le38 rfl
   refine Vgs hb29 3 ?_
   refine Pk1 hb29 ?_
   refine Vs 1 ?_
   obtain rfl := some_inj h34
   exact RWP.nil ⟨rfl, F2, hs37, le38, fI⟩
  ·refine Ss hb29 5 ?_
   refine Pk0 hb29 ?_
   refine Vs 1 ?_
   obtain rfl := some_inj h31
   exact RWP.nil ⟨rfl, F0, hs0, (Mem.le.refl _), fI⟩
 ·rintro f w21 ⟨F1, hs22, le23, ⟨_, rfl⟩⟩
  refine thenQ_nrm ?_
  refine Rt ?_
  obtain rfl := some_inj h28
  exact Re [(.bool j24)] hs22 rfl
end Go.Proofs.YtaihlcdkcampbaaGreatDoor
namespace Go.Proofs.YtaihlcdkcampbaaGreatDoor
open Go.Proofs
def ref06_first_L0 (N : Nat) (x0 : (List Clause)) (x1 : (List Int)) : Int → Option (Flow Int Int) := fun s24 =>
 (bif (decide (s24 < (x0.length : Int))) then ((idx x0 s24).bind fun x46 => ((ref06_value N x46.When x1).bind fun r60 => (bif (r60 == 1) then some (.ret s24) else some (.next (W64 (s24 + 1)))))) else some (.done s24))
def ref06_first (N : Nat) (x0 : (List Clause)) (x1 : (List Int)) : Option Int :=
 ((iter (ref06_first_L0 N x0 x1) N 0).bind fun o => o.k (fun r => some r) (fun s32 => some (-1)))
theorem co_ref06_first : CallOk Tryz.prog 105 := fun _ _ => by kernel_rfl
theorem c_ref06_first (N : Nat) (w0 : World) (F0 : Mem) (hF : ∀ b o, F0 b = some o → w0.heap[b]? = some o) (x0 : (List Clause)) (a0_0 : Option Addr) (n0_0 : Nat) (hb0_0 : LC x0.length n0_0) (hs0_0 : SlA tClause F0 a0_0 x0) (x1 : (List Int)) (a1_0 : Option Addr) (n1_0 : Nat) (hb1_0 : LC x1.length n1_0) (hs1_0 : SlA tInt F0 a1_0 x1) (r : Int) (h : ref06_first N x0 x1 = some r) :
  Calls Tryz.prog 105 ([(.slice a0_0 x0.length n0_0), (.slice a1_0 x1.length n1_0)] : List Value).toArray w0 (FRet w0 F0 fun F' v => v = (vi r)) := by
 have hs0 := HS.start hF
 refine Go 21 Tryz.func105 ?_
 refine Sq (Rg [0] ?_)
 refine Vs 1 ?_
 refine Nss ?_
 refine Sq (Rg [0] ?_)
 refine Vs 1 ?_
 refine Nt ?_
 obtain ⟨o21, ho22, h23⟩ := bind_some h
 refine CWP.cut (fun f w => ∃ (s32 : Int) (F2 : Mem), o21 = .done s32 ∧ HS w0 F0 w F2 [] ∧ Mem.le F0 F2 ∧ FI f [] []) ?_ ?_
 ·refine Bk ?_
  refine CWP.loop (by kernel_rfl) (fun m f w => ∃ (s24 : Int) (F1 : Mem), iter (ref06_first_L0 N x0 x1) m s24 = some o21 ∧ HS w0 F0 w F1 [] ∧ Mem.le F0 F1 ∧ FI f [] [(0, (.slice a0_0 x0.length n0_0)), (1, (.slice a1_0 x1.length n1_0)), (5, (vi s24))]) N ⟨0, F0, ho22, hs0, (Mem.le.refl _), fI⟩ ?_
  rintro m37 f w25 ⟨s24, F1, hit38, hs26, le27, ⟨_, rfl⟩⟩
  obtain ⟨m39, fl40, rfl, hb41, hnx42⟩ := iter_step hit38
  refine Sq ?_
  refine Sq (Rg [0, 1, 2, 3] ?_)
  refine Vs 4 ?_
  refine Nt ?_
  refine Cd hb41 (fun hb43 h44 => ?_) (fun hb43 h45 => ?_)
  ·refine Sc ?_
   refine thenQ_nrm ?_
   refine Sq ?_
   refine Bk ?_
   refine Sq (Rg [0, 1, 2, 3, 4, 5, 6, 7] ?_)
   refine Vs 2 ?_
   obtain ⟨x46, hx47, h49⟩ := bind_some h44
   obtain ⟨hi48, hx47'⟩ := idx_spec hx47
   obtain ⟨b50, o51, C52, E53, fz54, rfl, hF56, hE57⟩ := SlA.open (SlA.mono hs0_0 le27) hx47'
   obtain ⟨ae58_2, ne58_2, ae58_5, ne58_5, hc59, hbe58_2, hse58_2, hbe58_5, hse58_5⟩ := hE57 _ _ hx47'
   refine Ix hi48 ?_
   refine Vs 1 ?_
   refine Lx 0 (hs26.pers _ _ hF56) hc59 ?_
   refine Vs 1 ?_
   obtain ⟨r60, hr61, h62⟩ := bind_some h49
   refine Cl' co_ref06_value hs26 (c_ref06_value N w25 F1 hs26.pers (x46.When) ae58_2 ne58_2 hbe58_2 hse58_2 (x1) a1_0 n1_0 hb1_0 (SlA.mono hs1_0 le27) _ hr61) ?_
   rintro _ F3 w64 hs65 le66 rfl
   refine Vs 1 ?_
   refine Nt ?_
   refine Cd h62 (fun hb68 h69 => ?_) (fun hb68 h70 => ?_)
   ·refine Sq (Rg [0, 1] ?_)
    refine Vs 2 ?_
    refine Nt ?_
    refine Rt ?_
    refine blockQ_ret ?_
    refine thenQ_ret ?_
    refine thenQ_ret ?_
    refine blockQ_ret ?_
    have hret := iter_ret h69 hnx42
    subst hret
    refine .inr ?_
    refine thenQ_ret ?_
    obtain rfl := some_inj h23
    exact Re [(vi s24)] hs65 rfl
   ·refine Sc ?_
    refine blockQ_nrm ?_
    refine thenQ_nrm ?_
    refine Rg [0, 1, 2] ?_
    refine Vs 3 ?_
    refine RWP.nil ?_
    have hn71 := iter_next h70 hnx42
    exact ⟨m39, Nat.lt_succ_self _, (W64 (s24 + 1)), F3, hn71, hs65, (le27.trans le66), fI⟩
  ·refine Ex ?_
   refine thenQ_ex ?_
   refine thenQ_ex ?_
   refine blockQ_hit rfl ?_
   have ho72 := iter_done h45 hnx42
   exact .inl ⟨rfl, s24, F1, ho72, hs26, le27, fI⟩
 ·rintro f w33 ⟨s32, F2, rfl, hs34, le35, ⟨_, rfl⟩⟩
  have h73 := k_done h23
  refine thenQ_nrm ?_
  refine Sq (Rg [0] ?_)
  refine Vs 1 ?_
  refine Nt ?_
  refine Rt ?_
  obtain rfl := some_inj h73
  exact Re [(vi (-1))] hs34 rfl
end Go.Proofs.YtaihlcdkcampbaaGreatDoor
namespace Go.Proofs.YtaihlcdkcampbaaGreatDoor
open Go.Proofs
end Go.Proofs.YtaihlcdkcampbaaGreatDoor
namespace Go.Proofs.YtaihlcdkcampbaaGreatDoor
open Go.Proofs
end Go.Proofs.YtaihlcdkcampbaaGreatDoor
namespace Go.Proofs.YtaihlcdkcampbaaGreatDoor
open Go.Proofs
end Go.Proofs.YtaihlcdkcampbaaGreatDoor
namespace Go.Proofs.YtaihlcdkcampbaaGreatDoor
open Go.Proofs
end Go.Proofs.YtaihlcdkcampbaaGreatDoor
namespace Go.Proofs.YtaihlcdkcampbaaGreatDoor
open Go.Proofs
def law06_weight_L0 (N : Nat) (x0 : (List Clause)) : (Int × Int) → Option (Flow Int (Int × Int)) := fun s24 =>
 (bif (decide (s24.2 < (x0.length : Int))) then (((idx x0 s24.2).bind fun x59 => ((idx x0 s24.2).bind fun x73 => ((law06_nodes N x59.When).bind fun r79 => ((law06_nodes N x73.Then).bind fun r87 => some (W64 (s24.1 + (W64 (r79 + r87)))))))).bind fun j52 => some (.next (j52, (W64 (s24.2 + 1))))) else some (.done (s24.1, s24.2)))
def law06_weight (N : Nat) (x0 : (List Clause)) : Option Int :=
 ((iter (law06_weight_L0 N x0) N ((x0.length : Int), 0)).bind fun o => o.k (fun r => some r) (fun s32 => some s32.1))
theorem co_law06_weight : CallOk Tryz.prog 35 := fun _ _ => by kernel_rfl
theorem c_law06_weight (N : Nat) (w0 : World) (F0 : Mem) (hF : ∀ b o, F0 b = some o → w0.heap[b]? = some o) (x0 : (List Clause)) (a0_0 : Option Addr) (n0_0 : Nat) (hb0_0 : LC x0.length n0_0) (hs0_0 : SlA tClause F0 a0_0 x0) (r : Int) (h : law06_weight N x0 = some r) :
  Calls Tryz.prog 35 ([(.slice a0_0 x0.length n0_0)] : List Value).toArray w0 (FRet w0 F0 fun F' v => v = (vi r)) := by
 have hs0 := HS.start hF
 refine Go 29 Tryz.func35 ?_
 refine Sq (Rg [0] ?_)
 refine Vs 1 ?_
 refine Nss (Rg [0, 1, 2] ?_)
 refine Vs 3 ?_
 refine Nss ?_
 refine Sq (Rg [0] ?_)
 refine Vs 1 ?_
 refine Nt ?_
 obtain ⟨o21, ho22, h23⟩ := bind_some h
 refine CWP.cut (fun f w => ∃ (s32 : (Int × Int)) (F2 : Mem), o21 = .done s32 ∧ HS w0 F0 w F2 [] ∧ Mem.le F0 F2 ∧ FI f [] [(3, (vi s32.1))]) ?_ ?_
 ·refine Bk ?_
  refine CWP.loop (by kernel_rfl) (fun m f w => ∃ (s24 : (Int × Int)) (F1 : Mem), iter (law06_weight_L0 N x0) m s24 = some o21 ∧ HS w0 F0 w F1 [] ∧ Mem.le F0 F1 ∧ FI f [] [(0, (.slice a0_0 x0.length n0_0)), (3, (vi s24.1)), (4, (vi s24.2))]) N ⟨((x0.length : Int), 0), F0, ho22, hs0, (Mem.le.refl _), fI⟩ ?_
  rintro m38 f w25 ⟨s24, F1, hit39, hs26, le27, ⟨_, rfl⟩⟩
  obtain ⟨m40, fl41, rfl, hb42, hnx43⟩ := iter_step hit39
  refine Sq ?_
  refine Sq (Rg [0, 1, 2, 3] ?_)
  refine Vs 4 ?_
  refine Nt ?_
  refine Cd hb42 (fun hb44 h45 => ?_) (fun hb44 h46 => ?_)
  ·refine Sc ?_
   refine thenQ_nrm ?_
   refine Sq ?_
   refine Bk ?_
   obtain ⟨j52, hj57, h58⟩ := bind_some h45
   refine RD 16 16 [] [] hs26 (fun f w => ∃ (F3 : Mem), HS w0 F0 w F3 [] ∧ Mem.le F1 F3 ∧ FI f [] [(0, (.slice a0_0 x0.length n0_0)), (3, (vi j52)), (4, (vi s24.2))]) (fun wd47 hw48 => ?_) ?_
   ·refine Dv [0, 1, 2] ?_
    obtain ⟨x59, hx60, h62⟩ := bind_some hj57
    obtain ⟨hi61, hx60'⟩ := idx_spec hx60
    obtain ⟨b63, o64, C65, E66, fz67, rfl, hF69, hE70⟩ := SlA.open (SlA.mono hs0_0 le27) hx60'
    obtain ⟨ae71_2, ne71_2, ae71_5, ne71_5, hc72, hbe71_2, hse71_2, hbe71_5, hse71_5⟩ := hE70 _ _ hx60'
    refine Di 3 hi61 ?_
    refine Dv [4] ?_
    refine Dx 5 0 (fun _ hq => hq.1.1 _ _ hF69) hc72 ?_
    refine Dv [7, 8] ?_
    obtain ⟨x73, hx74, h76⟩ := bind_some h62
    obtain ⟨hi75, hx74'⟩ := idx_spec hx74
    obtain ⟨ae77_2, ne77_2, ae77_5, ne77_5, hc78, hbe77_2, hse77_2, hbe77_5, hse77_5⟩ := hE70 _ _ hx74'
    refine Di 9 hi75 ?_
    refine Dv [10] ?_
    refine Dx 11 3 (fun _ hq => hq.1.1 _ _ hF69) hc78 ?_
    refine D1 6 ?_
    obtain ⟨r79, hr80, h81⟩ := bind_some h76
    refine DCl co_law06_nodes hw48 (c_law06_nodes N wd47 F1 hw48.pers (x59.When) ae71_2 ne71_2 hbe71_2 hse71_2 _ hr80) ?_
    rintro _ F4 w83 hs84 le85 rfl
    refine D1 12 ?_
    obtain ⟨r87, hr88, h89⟩ := bind_some h81
    refine DCl co_law06_nodes hs84 (c_law06_nodes N w83 F4 hs84.pers (x73.Then) ae77_5 ne77_5 hbe77_5 (SlA.mono hse77_5 le85) _ hr88) ?_
    rintro _ F5 w91 hs92 le93 rfl
    refine Dv [13, 14, 15] ?_
    obtain rfl := some_inj h89
    exact DWP.done (by kernel_rfl) ⟨F5, hs92, (le85.trans le93), fI⟩
   ·rintro f w49 ⟨F3, hs50, le51, ⟨_, rfl⟩⟩
    refine blockQ_nrm ?_
    refine thenQ_nrm ?_
    refine Rg [0, 1, 2] ?_
    refine Vs 3 ?_
    refine RWP.nil ?_
    have hn95 := iter_next h58 hnx43
    exact ⟨m40, Nat.lt_succ_self _, (j52, (W64 (s24.2 + 1))), F3, hn95, hs50, (le27.trans le51), fI⟩
  ·refine Ex ?_
   refine thenQ_ex ?_
   refine thenQ_ex ?_
   refine blockQ_hit rfl ?_
   have ho96 := iter_done h46 hnx43
   exact .inl ⟨rfl, (s24.1, s24.2), F1, ho96, hs26, le27, fI⟩
 ·rintro f w33 ⟨s32, F2, rfl, hs34, le35, ⟨_, rfl⟩⟩
  have h97 := k_done h23
  refine thenQ_nrm ?_
  refine Sq (Rg [0, 1] ?_)
  refine Vs 2 ?_
  refine Nt ?_
  refine Rt ?_
  obtain rfl := some_inj h97
  exact Re [(vi s32.1)] hs34 rfl
end Go.Proofs.YtaihlcdkcampbaaGreatDoor
namespace Go.Proofs.YtaihlcdkcampbaaGreatDoor
open Go.Proofs
end Go.Proofs.YtaihlcdkcampbaaGreatDoor
namespace Go.Proofs.YtaihlcdkcampbaaGreatDoor
open Go.Proofs
def slices_Grow_api_Clause_api_Clause (N : Nat) (x1 : Int) : Option (List Clause) :=
 (bif (decide (x1 < 0)) then none else (bif (decide ((W64 (x1 - (W64 (0 - (([] : List Clause).length : Int))))) > 0)) then ((mk0 ({ When := ({ Op := 0, Value := 0, Kids := ([] : List Expr) } : Expr), Then := ({ Op := 0, Value := 0, Kids := ([] : List Expr) } : Expr) } : Clause) (W64 (x1 - (W64 (0 - (([] : List Clause).length : Int)))))).bind fun r7 => ((sub r7 0 (([] : List Clause).length : Int)).bind fun r17 => some r17)) else some ([] : List Clause)))
theorem co_slices_Grow_api_Clause_api_Clause : CallOk Tryz.prog 173 := fun _ _ => by kernel_rfl
theorem c_slices_Grow_api_Clause_api_Clause (N : Nat) (w0 : World) (F0 : Mem) (hF : ∀ b o, F0 b = some o → w0.heap[b]? = some o) (x1 : Int) (r : (List Clause)) (h : slices_Grow_api_Clause_api_Clause N x1 = some r) :
  Calls Tryz.prog 173 ([.slice none 0 0, (vi x1)] : List Value).toArray w0 (FRetO w0 F0 fun F' v L' => ∃ (a : Option Addr) (n : Nat) (e : Option Nat × Obj), v = .slice a r.length n ∧ L' = [e] ∧ RowR tClause 56 F' a n r e) := by
 have hs0 := HS.start hF
 refine calls_of (n := 27) (c := bodyOf Tryz.f173) Tryz.func173 (by kernel_rfl) (by kernel_rfl) (by kernel_rfl) ?_
 refine Sq (Rg [0] ?_)
 refine Vs 1 ?_
 refine Nss ?_
 refine Sq (Rg [0, 1] ?_)
 refine Vs 1 ?_
 refine Vs 1 ?_
 refine Nt ?_
 refine Cd h (fun hb1 h2 => ?_) (fun hb1 h3 => ?_)
 ·refine Rg [0, 1] ?_
  refine V 7 20 (run_mkIface' (t := 9) (x := (.const (.string ⟨([99, 97, 110, 110, 111, 116, 32, 98, 101, 32, 110, 101, 103, 97, 116, 105, 118, 101] : List UInt8).toArray⟩))) (v := (.string ⟨(([99, 97, 110, 110, 111, 116, 32, 98, 101, 32, 110, 101, 103, 97, 116, 105, 118, 101] : List UInt8)).toArray⟩)) rfl (by kernel_rfl)) ?_
  cases h2
 ·refine Sc ?_
  refine thenQ_nrm ?_
  refine Sq ?_
  refine Sq (Rg [0, 1, 2, 3, 4, 5, 6, 7] ?_)
  refine Vs 1 ?_
  refine Vs 1 ?_
  refine V 10 3 (run_cap_slice (x := (.tmp 9)) (ats := #[23]) (a := none) (n := 0) (c := 0) (E := 56) (s := 6) (by_ := 80) rfl rfl (by kernel_rfl)) ?_
  refine Vs 1 ?_
  refine Vs 1 ?_
  refine Vs 1 ?_
  refine Vs 1 ?_
  refine Vs 1 ?_
  refine Nss (Rg [0, 1] ?_)
  refine Vs 1 ?_
  refine Vs 1 ?_
  refine Nt ?_
  refine Cd h3 (fun hb4 h5 => ?_) (fun hb4 h6 => ?_)
  ·refine Rg [0, 1, 2, 3, 4, 5, 6, 7, 8, 9] ?_
   refine Vs 1 ?_
   refine Vs 1 ?_
   refine V 19 3 (run_cap_slice (x := (.tmp 18)) (ats := #[23]) (a := none) (n := 0) (c := 0) (E := 56) (s := 6) (by_ := 80) rfl rfl (by kernel_rfl)) ?_
   refine V 20 23 (run_slice_nil (t := 23) (x := (.tmp 17)) (y := (.tmp 19)) (E := 56) (s := 6) (by_ := 80) rfl (by kernel_rfl) (by kernel_rfl) rfl) ?_
   refine Vs 1 ?_
   obtain ⟨r7, hm8, h9⟩ := bind_some h5
   refine RWP.appendNil (dst := (some 22)) (ty := 23) (g := none) (by kernel_rfl) rfl (x := (.tmp 20)) (y := (.tmp 21)) (t := 23) (t2 := 3) (by_ := 80) (z := (.agg #[(vi 0), (vi 0), (.slice none ([] : List Expr).length 0), (vi 0), (vi 0), (.slice none ([] : List Expr).length 0)])) (T := tClause) (E := 56) rfl rfl (by kernel_rfl) (by decide) (by kernel_rfl) (by kernel_rfl) (z0 := ({ When := ({ Op := 0, Value := 0, Kids := ([] : List Expr) } : Expr), Then := ({ Op := 0, Value := 0, Kids := ([] : List Expr) } : Expr) } : Clause)) (fun _ => ⟨none, 0, none, 0, rfl, LC.nil, (.inl rfl), LC.nil, (.inl rfl)⟩) (by decide) hs0 hm8 (fun a10 n11 e12 w13 (hs14 : HS w0 F0 w13 F0 [e12]) hr15 => ?_)
   refine Vs 1 ?_
   refine Vs 1 ?_
   obtain ⟨r17, hr18, h19⟩ := bind_some h9
   refine RWP.sliceRow (T := tClause) (x := (.tmp 22)) (y := (.tmp 24)) (t := 23) (E := 56) (by_ := 80) (c := n11) (a := a10) (l := r7) (r := r17) (ih := (([] : List Clause).length : Int)) (dst := (some 25)) (ty := 23) (g := none) (by kernel_rfl) rfl rfl (by kernel_rfl) (by kernel_rfl) hr15 rfl hr18 (fun hr20 => ?_)
   refine Vs 1 ?_
   refine Nss (Rg [0, 1] ?_)
   refine Vs 1 ?_
   refine Vs 1 ?_
   refine Nt ?_
   refine Rt ?_
   have hfin := some_inj h19
   subst hfin
   exact ⟨rfl, (.slice a10 r17.length n11), res_of (l := [.tmp 4]) (by kernel_rfl) (vs := [(.slice a10 r17.length n11)]) ⟨rfl, trivial⟩, (.slice a10 r17.length n11), F0, _, rfl, hs14, _, _, _, rfl, rfl, hr20⟩
  ·refine Sc ?_
   refine thenQ_nrm ?_
   refine Sq (Rg [0, 1] ?_)
   refine Vs 1 ?_
   refine Vs 1 ?_
   refine Nt ?_
   refine Rt ?_
   have hs21 := hs0.dummy (oc #[] 0)
   have hfin := some_inj h6
   subst hfin
   exact ⟨rfl, (.slice none ([] : List Clause).length 0), res_of (l := [.tmp 4]) (by kernel_rfl) (vs := [(.slice none ([] : List Clause).length 0)]) ⟨rfl, trivial⟩, (.slice none ([] : List Clause).length 0), F0, _, rfl, hs21, _, _, _, rfl, rfl, (RowR.nil tClause 56 F0 _)⟩
end Go.Proofs.YtaihlcdkcampbaaGreatDoor
namespace Go.Proofs.YtaihlcdkcampbaaGreatDoor
open Go.Proofs
def slices_Concat_api_Clause_api_Clause_L0 (N : Nat) (x0 : (List (List Clause))) : (Int × Int) → Option (Flow (List Clause) (Int × Int)) := fun s24 =>
 (bif (decide (s24.2 < (x0.length : Int))) then ((idx x0 s24.2).bind fun x50 => (bif (decide ((W64 (s24.1 + (x50.length : Int))) < 0)) then none else some (.next ((W64 (s24.1 + (x50.length : Int))), (W64 (s24.2 + 1)))))) else some (.done (s24.1, s24.2)))
def slices_Concat_api_Clause_api_Clause_L1 (N : Nat) (x0 : (List (List Clause))) (s34 : (Int × Int)) (r70 : (List Clause)) : (List Clause × Int) → Option (Flow (List Clause) (List Clause × Int)) := fun s87 =>
 (bif (decide (s87.2 < (x0.length : Int))) then ((idx x0 s87.2).bind fun x111 => ((apnd s87.1 x111).bind fun r125 => some (.next (r125, (W64 (s87.2 + 1)))))) else some (.done (s87.1, s87.2)))
def slices_Concat_api_Clause_api_Clause (N : Nat) (x0 : (List (List Clause))) : Option (List Clause) :=
 ((iter (slices_Concat_api_Clause_api_Clause_L0 N x0) N (0, 0)).bind fun o => o.k (fun r => some r) (fun s34 => ((slices_Grow_api_Clause_api_Clause N s34.1).bind fun r70 => ((iter (slices_Concat_api_Clause_api_Clause_L1 N x0 s34 r70) N (r70, 0)).bind fun o => o.k (fun r => some r) (fun s96 => some s96.1)))))
theorem co_slices_Concat_api_Clause_api_Clause : CallOk Tryz.prog 122 := fun _ _ => by kernel_rfl
theorem c_slices_Concat_api_Clause_api_Clause (N : Nat) (w0 : World) (F0 : Mem) (hF : ∀ b o, F0 b = some o → w0.heap[b]? = some o) (x0 : (List (List Clause))) (a0_0 : Option Addr) (n0_0 : Nat) (hb0_0 : LC x0.length n0_0) (hs0_0 : SlA (tSl tClause) F0 a0_0 x0) (r : (List Clause)) (h : slices_Concat_api_Clause_api_Clause N x0 = some r) :
  Calls Tryz.prog 122 ([(.slice a0_0 x0.length n0_0)] : List Value).toArray w0 (FRet w0 F0 fun F' v => ∃ (aq0_0 : Option Addr) (nq0_0 : Nat), v = (.slice aq0_0 r.length nq0_0) ∧ LC r.length nq0_0 ∧ SlA tClause F' aq0_0 r) := by
 have hs0 := HS.start hF
 refine Go 36 Tryz.func122 ?_
 refine Sq (Rg [0] ?_)
 refine Vs 1 ?_
 refine Nss (Rg [0] ?_)
 refine Vs 1 ?_
 refine Nss ?_
 refine Sq (Rg [0, 1, 2] ?_)
 refine Vs 3 ?_
 refine Nt ?_
 obtain ⟨o21, ho22, h23⟩ := bind_some h
 refine CWP.cut (fun f w => ∃ (s34 : (Int × Int)) (F2 : Mem), o21 = .done s34 ∧ HS w0 F0 w F2 [] ∧ Mem.le F0 F2 ∧ FI f [] [(0, (.slice a0_0 x0.length n0_0)), (3, (vi s34.1))]) ?_ ?_
 ·refine Bk ?_
  refine CWP.loop (by kernel_rfl) (fun m f w => ∃ (s24 : (Int × Int)) (F1 : Mem), iter (slices_Concat_api_Clause_api_Clause_L0 N x0) m s24 = some o21 ∧ HS w0 F0 w F1 [] ∧ Mem.le F0 F1 ∧ FI f [] [(0, (.slice a0_0 x0.length n0_0)), (3, (vi s24.1)), (9, (.slice a0_0 x0.length n0_0)), (10, (vi (x0.length : Int))), (11, (vi s24.2))]) N ⟨(0, 0), F0, ho22, hs0, (Mem.le.refl _), fI⟩ ?_
  rintro m41 f w25 ⟨s24, F1, hit42, hs26, le27, ⟨_, rfl⟩⟩
  obtain ⟨m43, fl44, rfl, hb45, hnx46⟩ := iter_step hit42
  refine Sq (Rg [0] ?_)
  refine Vs 1 ?_
  refine Nss ?_
  refine Cd hb45 (fun hb47 h48 => ?_) (fun hb47 h49 => ?_)
  ·refine Sc ?_
   refine thenQ_nrm ?_
   refine Sq ?_
   refine Bk ?_
   refine Sq (Rg [0, 1, 2] ?_)
   obtain ⟨x50, hx51, h53⟩ := bind_some h48
   obtain ⟨hi52, hx51'⟩ := idx_spec hx51
   obtain ⟨b54, o55, C56, E57, fz58, rfl, hF60, hE61⟩ := SlA.open (SlA.mono hs0_0 le27) hx51'
   obtain ⟨ae62_0, ne62_0, hc63, hbe62_0, hse62_0⟩ := hE61 _ _ hx51'
   refine Ix hi52 ?_
   refine Lx 0 (hs26.pers _ _ hF60) hc63 ?_
   refine Vs 1 ?_
   refine Nss (Rg [0, 1, 2, 3, 4] ?_)
   refine Vs 5 ?_
   refine Nss (Rg [0, 1] ?_)
   refine Vs 2 ?_
   refine Nt ?_
   refine Cd h53 (fun hb64 h65 => ?_) (fun hb64 h66 => ?_)
   ·refine Rg [0, 1] ?_
    refine V 21 20 (run_mkIface' (t := 9) (x := (.const (.string ⟨([108, 101, 110, 32, 111, 117, 116, 32, 111, 102, 32, 114, 97, 110, 103, 101] : List UInt8).toArray⟩))) (v := (.string ⟨(([108, 101, 110, 32, 111, 117, 116, 32, 111, 102, 32, 114, 97, 110, 103, 101] : List UInt8)).toArray⟩)) rfl (by kernel_rfl)) ?_
    cases h65
   ·refine Sc ?_
    refine blockQ_nrm ?_
    refine thenQ_nrm ?_
    refine Rg [0, 1] ?_
    refine Vs 2 ?_
    refine RWP.nil ?_
    have hn67 := iter_next h66 hnx46
    exact ⟨m43, Nat.lt_succ_self _, ((W64 (s24.1 + (x50.length : Int))), (W64 (s24.2 + 1))), F1, hn67, hs26, le27, fI⟩
  ·refine Ex ?_
   refine thenQ_ex ?_
   refine thenQ_ex ?_
   refine blockQ_hit rfl ?_
   have ho68 := iter_done h49 hnx46
   exact .inl ⟨rfl, (s24.1, s24.2), F1, ho68, hs26, le27, fI⟩
 ·rintro f w35 ⟨s34, F2, rfl, hs36, le37, ⟨_, rfl⟩⟩
  have h69 := k_done h23
  refine thenQ_nrm ?_
  refine Sq (Rg [0, 1, 2] ?_)
  refine Vs 1 ?_
  obtain ⟨r70, hr71, h72⟩ := bind_some h69
  refine RWP.callO (dst := (some 24)) (ty := 23) (g := none) (by kernel_rfl) rfl (f0 := (.func 173)) (aos := #[(.const (.slice none 0 0)), (.tmp 23)]) (ats := #[23, 3]) (fid := 173) (first := #[]) (cap := #[]) (args := [(.slice none ([] : List Clause).length 0), (vi s34.1)]) rfl co_slices_Grow_api_Clause_api_Clause (rfl) hs36 (c_slices_Grow_api_Clause_api_Clause N w35 F2 hs36.pers (s34.1) _ hr71) ?_
  rintro _ F3 w74 _ hs75 le76 ⟨a78, n79, e80, rfl, rfl, hr81⟩
  have hs83 : HS w0 F0 w74 F3 [e80] := hs75
  refine Vs 1 ?_
  refine Nss ?_
  refine Sq (Rg [0, 1, 2] ?_)
  refine Vs 3 ?_
  refine Nt ?_
  obtain ⟨o84, ho85, h86⟩ := bind_some h72
  refine CWP.cut (fun f w => ∃ (s96 : (List Clause × Int)) (F5 : Mem) (as96_0 : Option Addr) (ns96_0 : Nat) (es96_0 : Option Nat × Obj), o84 = .done s96 ∧ HS w0 F0 w F5 [es96_0] ∧ Mem.le F3 F5 ∧ FI f [] [(6, (.slice as96_0 s96.1.length ns96_0))] ∧ RowR tClause 56 F5 as96_0 ns96_0 s96.1 es96_0) ?_ ?_
  ·refine Bk ?_
   refine CWP.loop (by kernel_rfl) (fun m f w => ∃ (s87 : (List Clause × Int)) (F4 : Mem) (as87_0 : Option Addr) (ns87_0 : Nat) (es87_0 : Option Nat × Obj), iter (slices_Concat_api_Clause_api_Clause_L1 N x0 s34 r70) m s87 = some o84 ∧ HS w0 F0 w F4 [es87_0] ∧ Mem.le F3 F4 ∧ FI f [] [(6, (.slice as87_0 s87.1.length ns87_0)), (25, (.slice a0_0 x0.length n0_0)), (26, (vi (x0.length : Int))), (27, (vi s87.2))] ∧ RowR tClause 56 F4 as87_0 ns87_0 s87.1 es87_0) N ⟨(r70, 0), F3, a78, n79, e80, ho85, hs83, (Mem.le.refl _), fI, hr81⟩ ?_
   rintro m102 f w88 ⟨s87, F4, as87_0, ns87_0, es87_0, hit103, hs89, le90, ⟨_, rfl⟩, hrs87_0⟩
   obtain ⟨m104, fl105, rfl, hb106, hnx107⟩ := iter_step hit103
   refine Sq (Rg [0] ?_)
   refine Vs 1 ?_
   refine Nss ?_
   refine Cd hb106 (fun hb108 h109 => ?_) (fun hb108 h110 => ?_)
   ·refine Sc ?_
    refine thenQ_nrm ?_
    refine Sq ?_
    refine Bk ?_
    refine Sq (Rg [0, 1, 2] ?_)
    obtain ⟨x111, hx112, h114⟩ := bind_some h109
    obtain ⟨hi113, hx112'⟩ := idx_spec hx112
    obtain ⟨b115, o116, C117, E118, fz119, rfl, hF121, hE122⟩ := SlA.open (SlA.mono hs0_0 ((le37.trans le76).trans le90)) hx112'
    obtain ⟨ae123_0, ne123_0, hc124, hbe123_0, hse123_0⟩ := hE122 _ _ hx112'
    refine Ix hi113 ?_
    refine Lx 0 (hs89.pers _ _ hF121) hc124 ?_
    refine Vs 1 ?_
    refine Nt ?_
    refine Rg [0, 1, 2, 3] ?_
    refine Vs 2 ?_
    obtain ⟨r125, hap126, h127⟩ := bind_some h114
    refine Ap0 oClause hs89 hrs87_0 (SlA.rd hs89 hse123_0) hap126 (fun a128 n129 e130 w131 hs132 hr133 => ?_)
    refine Vs 1 ?_
    refine RWP.nil ?_
    refine blockQ_nrm ?_
    refine thenQ_nrm ?_
    refine Rg [0, 1] ?_
    refine Vs 2 ?_
    refine RWP.nil ?_
    have hn134 := iter_next h127 hnx107
    exact ⟨m104, Nat.lt_succ_self _, (r125, (W64 (s87.2 + 1))), F4, a128, n129, e130, hn134, hs132, le90, fI, hr133⟩
   ·refine Ex ?_
    refine thenQ_ex ?_
    refine thenQ_ex ?_
    refine blockQ_hit rfl ?_
    have ho135 := iter_done h110 hnx107
    exact .inl ⟨rfl, (s87.1, s87.2), F4, as87_0, ns87_0, es87_0, ho135, hs89, le90, fI, hrs87_0⟩
  ·rintro f w97 ⟨s96, F5, as96_0, ns96_0, es96_0, rfl, hs98, le99, ⟨_, rfl⟩, hrs96_0⟩
   have h136 := k_done h86
   refine thenQ_nrm ?_
   refine Sq (Rg [0, 1] ?_)
   refine Vs 2 ?_
   refine Nt ?_
   refine Rt ?_
   have hb140 := RowR.bound hrs96_0
   obtain ⟨F6, hs137, le138, hs139⟩ := hs98.fr0 hrs96_0
   obtain rfl := some_inj h136
   exact Re [(.slice as96_0 s96.1.length ns96_0)] hs137 ⟨as96_0, ns96_0, rfl, hb140, hs139⟩
end Go.Proofs.YtaihlcdkcampbaaGreatDoor
namespace Go.Proofs.YtaihlcdkcampbaaGreatDoor
open Go.Proofs
def rules_Check_L0 (N : Nat) (x0 : Book) (r36 : (List Clause)) : (Int × Int) → Option (Flow (Int × Int) (Int × Int)) := fun s47 =>
 (bif (decide (s47.2 < (r36.length : Int))) then ((idx r36 s47.2).bind fun x73 => ((rules_soundClause N x73).bind fun r92 => (bif (!r92) then some (.ret (62, (W64 (s47.1 + 1)))) else some (.next ((W64 (s47.1 + 1)), (W64 (s47.2 + 1))))))) else some (.done (s47.1, s47.2)))
def rules_Check_L1 (N : Nat) (x0 : Book) (r36 : (List Clause)) (s57 : (Int × Int)) : (Int × Int) → Option (Flow (Int × Int) (Int × Int)) := fun s109 =>
 (bif (decide (s109.2 < (x0.Repeats.length : Int))) then ((idx x0.Repeats s109.2).bind fun x132 => ((rules_is N x132 1).bind fun r151 => (bif (!r151) then some (.ret (62, (W64 (s109.1 + 1)))) else some (.next ((W64 (s109.1 + 1)), (W64 (s109.2 + 1))))))) else some (.done (s109.1, s109.2)))
def rules_Check (N : Nat) (x0 : Book) : Option (Int × Int) :=
 (bif (decide ((max (max (max (x0.Points.length : Int) (x0.Multipliers.length : Int)) (x0.Penalties.length : Int)) (x0.Repeats.length : Int)) > 64)) then some (2, 0) else ((slices_Concat_api_Clause_api_Clause N ([x0.Points, x0.Multipliers, x0.Penalties])).bind fun r36 => ((iter (rules_Check_L0 N x0 r36) N (0, 0)).bind fun o => o.k (fun r => some r) (fun s57 => ((iter (rules_Check_L1 N x0 r36 s57) N (s57.1, 0)).bind fun o => o.k (fun r => some r) (fun s118 => some (0, 0)))))))
theorem co_rules_Check : CallOk Tryz.prog 70 := fun _ _ => by kernel_rfl
theorem c_rules_Check (N : Nat) (w0 : World) (F0 : Mem) (hF : ∀ b o, F0 b = some o → w0.heap[b]? = some o) (x0 : Book) (a0_0 : Option Addr) (n0_0 : Nat) (hb0_0 : LC x0.Points.length n0_0) (hs0_0 : SlA tClause F0 a0_0 x0.Points) (a0_1 : Option Addr) (n0_1 : Nat) (hb0_1 : LC x0.Multipliers.length n0_1) (hs0_1 : SlA tClause F0 a0_1 x0.Multipliers) (a0_2 : Option Addr) (n0_2 : Nat) (hb0_2 : LC x0.Penalties.length n0_2) (hs0_2 : SlA tClause F0 a0_2 x0.Penalties) (a0_3 : Option Addr) (n0_3 : Nat) (hb0_3 : LC x0.Repeats.length n0_3) (hs0_3 : SlA tExpr F0 a0_3 x0.Repeats) (r : (Int × Int)) (h : rules_Check N x0 = some r) :
  Calls Tryz.prog 70 ([(.agg (kBook x0 a0_0 n0_0 a0_1 n0_1 a0_2 n0_2 a0_3 n0_3))] : List Value).toArray w0 (FRet w0 F0 fun F' v => v = (.tuple #[(vi r.1), (vi r.2)])) := by
 have hs0 := HS.start hF
 refine Go 57 Tryz.func70 ?_
 refine Sq (Rg [0, 1, 2] ?_)
 refine Bx' 26 (kBook x0 a0_0 n0_0 a0_1 n0_1 a0_2 n0_2 a0_3 n0_3) hs0 (fun b21 w22 hs23 => ?_)
 refine Vs 2 ?_
 refine Nss ?_
 refine Sq (Rg [0, 1, 2, 3, 4, 5, 6, 7, 8, 9, 10, 11, 12, 13] ?_)
 refine Vs 1 ?_
 refine Ld hs23.at0 ?_
 refine Vs 2 ?_
 refine Ld hs23.at0 ?_
 refine Vs 2 ?_
 refine Ld hs23.at0 ?_
 refine Vs 2 ?_
 refine Ld hs23.at0 ?_
 refine Vs 1 ?_
 refine V 21 3 (run_max4 (x := (.tmp 11)) (y := (.tmp 14)) (z := (.tmp 17)) (u := (.tmp 20)) (ats := #[3, 3, 3, 3]) (a := (x0.Points.length : Int)) (b := (x0.Multipliers.length : Int)) (c := (x0.Penalties.length : Int)) (d := (x0.Repeats.length : Int)) rfl rfl rfl rfl) ?_
 refine Vs 1 ?_
 refine Nt ?_
 refine Cd h (fun hb24 h25 => ?_) (fun hb24 h26 => ?_)
 ·refine Sq (Rg [0, 1] ?_)
  refine Vs 2 ?_
  refine Nt ?_
  refine Rt ?_
  refine thenQ_ret ?_
  obtain rfl := some_inj h25
  exact Re [(vi 2), (vi 0)] hs23 rfl
 ·refine Sc ?_
  refine thenQ_nrm ?_
  refine Sq (Rg [0] ?_)
  refine Vs 1 ?_
  refine Nss ?_
  refine Sq (Rg [0, 1, 2, 3, 4, 5, 6, 7, 8, 9] ?_)
  refine Vs 1 ?_
  refine Ld hs23.at0 ?_
  refine Vs 1 ?_
  refine Ld hs23.at0 ?_
  refine Vs 1 ?_
  refine Ld hs23.at0 ?_
  refine Bs 23 [(.slice a0_0 x0.Points.length n0_0), (.slice a0_1 x0.Multipliers.length n0_1), (.slice a0_2 x0.Penalties.length n0_2)] hs23 (fun b27 w28 hs29 => ?_)
  have hr31 : RowR (tSl tClause) 23 F0 (some ⟨b27, 0, none⟩) 3 [x0.Points, x0.Multipliers, x0.Penalties] (some b27, .cells ([(.slice a0_0 x0.Points.length n0_0), (.slice a0_1 x0.Multipliers.length n0_1), (.slice a0_2 x0.Penalties.length n0_2)] : List Value).toArray 23 (0, 0)) := RowR.lit ⟨⟨a0_0, n0_0, rfl, hb0_0, hs0_0⟩, ⟨⟨a0_1, n0_1, rfl, hb0_1, hs0_1⟩, ⟨⟨a0_2, n0_2, rfl, hb0_2, hs0_2⟩, rfl⟩⟩⟩ (by simp)
  have hb35 := RowR.bound hr31
  obtain ⟨F1, hs32, le33, hs34⟩ := hs29.fr0 hr31
  obtain ⟨r36, hr37, h38⟩ := bind_some h26
  refine Cl' co_slices_Concat_api_Clause_api_Clause hs32 (c_slices_Concat_api_Clause_api_Clause N w28 F1 hs32.pers ([x0.Points, x0.Multipliers, x0.Penalties]) (some ⟨b27, 0, none⟩) 3 hb35 hs34 _ hr37) ?_
  rintro _ F2 w40 hs41 le42 ⟨ar36_0_0, nr36_0_0, rfl, hbr36_0_0, hsr36_0_0⟩
  refine Vs 2 ?_
  refine Nt ?_
  obtain ⟨o44, ho45, h46⟩ := bind_some h38
  refine CWP.cut (fun f w => ∃ (s57 : (Int × Int)) (F4 : Mem), o44 = .done s57 ∧ HS w0 F0 w F4 [(sb b21 (kBook x0 a0_0 n0_0 a0_1 n0_1 a0_2 n0_2 a0_3 n0_3) 26)] ∧ Mem.le F2 F4 ∧ FI f [] [(1, (pt b21 0)), (4, (vi s57.1))]) ?_ ?_
  ·refine Bk ?_
   refine CWP.loop (by kernel_rfl) (fun m f w => ∃ (s47 : (Int × Int)) (F3 : Mem), iter (rules_Check_L0 N x0 r36) m s47 = some o44 ∧ HS w0 F0 w F3 [(sb b21 (kBook x0 a0_0 n0_0 a0_1 n0_1 a0_2 n0_2 a0_3 n0_3) 26)] ∧ Mem.le F2 F3 ∧ FI f [] [(1, (pt b21 0)), (4, (vi s47.1)), (30, (.slice ar36_0_0 r36.length nr36_0_0)), (31, (vi (r36.length : Int))), (32, (vi s47.2))]) N ⟨(0, 0), F2, ho45, hs41, (Mem.le.refl _), fI⟩ ?_
   rintro m64 f w48 ⟨s47, F3, hit65, hs49, le50, ⟨_, rfl⟩⟩
   obtain ⟨m66, fl67, rfl, hb68, hnx69⟩ := iter_step hit65
   refine Sq (Rg [0] ?_)
   refine Vs 1 ?_
   refine Nss ?_
   refine Cd hb68 (fun hb70 h71 => ?_) (fun hb70 h72 => ?_)
   ·refine Sc ?_
    refine thenQ_nrm ?_
    refine Sq ?_
    refine Bk ?_
    refine Sq (Rg [0, 1, 2, 3] ?_)
    obtain ⟨x73, hx74, h76⟩ := bind_some h71
    obtain ⟨hi75, hx74'⟩ := idx_spec hx74
    obtain ⟨b77, o78, C79, E80, fz81, rfl, hF83, hE84⟩ := SlA.open (SlA.mono hsr36_0_0 le50) hx74'
    obtain ⟨ae85_2, ne85_2, ae85_5, ne85_5, hc86, hbe85_2, hse85_2, hbe85_5, hse85_5⟩ := hE84 _ _ hx74'
    refine Ix hi75 ?_
    refine Lx 0 (hs49.pers _ _ hF83) hc86 ?_
    refine Al' 56 #[(vi 0), (vi 0), (.slice none ([] : List Expr).length 0), (vi 0), (vi 0), (.slice none ([] : List Expr).length 0)] hs49 (fun b87 w88 hs89 => ?_)
    refine St0 (kClause x73 ae85_2 ne85_2 ae85_5 ne85_5) hs89 (fun w90 hs91 => ?_)
    refine Nss (Rg [0, 1, 2] ?_)
    refine Vs 3 ?_
    refine Nss (Rg [0, 1, 2] ?_)
    refine Ld hs91.at0 ?_
    obtain ⟨r92, hr93, h94⟩ := bind_some h76
    refine Cl' co_rules_soundClause hs91 (c_rules_soundClause N w90 F3 hs91.pers (x73) ae85_2 ne85_2 hbe85_2 hse85_2 ae85_5 ne85_5 hbe85_5 hse85_5 _ hr93) ?_
    rintro _ F5 w96 hs97 le98 rfl
    refine Vs 1 ?_
    refine Nt ?_
    refine Cd h94 (fun hb100 h101 => ?_) (fun hb100 h102 => ?_)
    ·refine Sq (Rg [0, 1, 2] ?_)
     refine Vs 3 ?_
     refine Nt ?_
     refine Rt ?_
     refine blockQ_ret ?_
     refine thenQ_ret ?_
     refine thenQ_ret ?_
     refine blockQ_ret ?_
     have hret := iter_ret h101 hnx69
     subst hret
     refine .inr ?_
     refine thenQ_ret ?_
     obtain rfl := some_inj h46
     exact Re [(vi 62), (vi (W64 (s47.1 + 1)))] hs97 rfl
    ·refine Sc ?_
     refine blockQ_nrm ?_
     refine thenQ_nrm ?_
     refine Rg [0, 1] ?_
     refine Vs 2 ?_
     refine RWP.nil ?_
     have hn103 := iter_next h102 hnx69
     exact ⟨m66, Nat.lt_succ_self _, ((W64 (s47.1 + 1)), (W64 (s47.2 + 1))), F5, hn103, hs97.dr0, (le50.trans le98), fI⟩
   ·refine Ex ?_
    refine thenQ_ex ?_
    refine thenQ_ex ?_
    refine blockQ_hit rfl ?_
    have ho104 := iter_done h72 hnx69
    exact .inl ⟨rfl, (s47.1, s47.2), F3, ho104, hs49, le50, fI⟩
  ·rintro f w58 ⟨s57, F4, rfl, hs59, le60, ⟨_, rfl⟩⟩
   have h105 := k_done h46
   refine thenQ_nrm ?_
   refine Sq ?_
   refine Sq (Rg [0, 1, 2, 3] ?_)
   refine Vs 1 ?_
   refine Ld hs59.at0 ?_
   refine Vs 2 ?_
   refine Nt ?_
   obtain ⟨o106, ho107, h108⟩ := bind_some h105
   refine CWP.cut (fun f w => ∃ (s118 : (Int × Int)) (F7 : Mem), o106 = .done s118 ∧ HS w0 F0 w F7 [] ∧ Mem.le F4 F7 ∧ FI f [] []) ?_ ?_
   ·refine Bk ?_
    refine CWP.loop (by kernel_rfl) (fun m f w => ∃ (s109 : (Int × Int)) (F6 : Mem), iter (rules_Check_L1 N x0 r36 s57) m s109 = some o106 ∧ HS w0 F0 w F6 [] ∧ Mem.le F4 F6 ∧ FI f [] [(4, (vi s109.1)), (44, (.slice a0_3 x0.Repeats.length n0_3)), (45, (vi (x0.Repeats.length : Int))), (46, (vi s109.2))]) N ⟨(s57.1, 0), F4, ho107, hs59.dr0, (Mem.le.refl _), fI⟩ ?_
    rintro m123 f w110 ⟨s109, F6, hit124, hs111, le112, ⟨_, rfl⟩⟩
    obtain ⟨m125, fl126, rfl, hb127, hnx128⟩ := iter_step hit124
    refine Sq (Rg [0] ?_)
    refine Vs 1 ?_
    refine Nss ?_
    refine Cd hb127 (fun hb129 h130 => ?_) (fun hb129 h131 => ?_)
    ·refine Sc ?_
     refine thenQ_nrm ?_
     refine Sq ?_
     refine Bk ?_
     refine Sq (Rg [0, 1, 2, 3] ?_)
     obtain ⟨x132, hx133, h135⟩ := bind_some h130
     obtain ⟨hi134, hx133'⟩ := idx_spec hx133
     obtain ⟨b136, o137, C138, E139, fz140, rfl, hF142, hE143⟩ := SlA.open (SlA.mono hs0_3 (((le33.trans le42).trans le60).trans le112)) hx133'
     obtain ⟨ae144_2, ne144_2, hc145, hbe144_2, hse144_2⟩ := (tExpr_open (hE143 _ _ hx133'))
     refine Ix hi134 ?_
     refine Lx 0 (hs111.pers _ _ hF142) hc145 ?_
     refine Al' 33 #[(vi 0), (vi 0), (.slice none ([] : List Expr).length 0)] hs111 (fun b146 w147 hs148 => ?_)
     refine St0 (kExpr x132 ae144_2 ne144_2) hs148 (fun w149 hs150 => ?_)
     refine Nss (Rg [0, 1, 2] ?_)
     refine Vs 3 ?_
     refine Nss (Rg [0, 1, 2] ?_)
     refine Ld hs150.at0 ?_
     obtain ⟨r151, hr152, h153⟩ := bind_some h135
     refine Cl' co_rules_is hs150 (c_rules_is N w149 F6 hs150.pers (x132) ae144_2 ne144_2 hbe144_2 hse144_2 (1) _ hr152) ?_
     rintro _ F8 w155 hs156 le157 rfl
     refine Vs 1 ?_
     refine Nt ?_
     refine Cd h153 (fun hb159 h160 => ?_) (fun hb159 h161 => ?_)
     ·refine Sq (Rg [0, 1, 2] ?_)
      refine Vs 3 ?_
      refine Nt ?_
      refine Rt ?_
      refine blockQ_ret ?_
      refine thenQ_ret ?_
      refine thenQ_ret ?_
      refine blockQ_ret ?_
      have hret := iter_ret h160 hnx128
      subst hret
      refine .inr ?_
      refine thenQ_ret ?_
      obtain rfl := some_inj h108
      exact Re [(vi 62), (vi (W64 (s109.1 + 1)))] hs156 rfl
     ·refine Sc ?_
      refine blockQ_nrm ?_
      refine thenQ_nrm ?_
      refine Rg [0, 1] ?_
      refine Vs 2 ?_
      refine RWP.nil ?_
      have hn162 := iter_next h161 hnx128
      exact ⟨m125, Nat.lt_succ_self _, ((W64 (s109.1 + 1)), (W64 (s109.2 + 1))), F8, hn162, hs156.dr0, (le112.trans le157), fI⟩
    ·refine Ex ?_
     refine thenQ_ex ?_
     refine thenQ_ex ?_
     refine blockQ_hit rfl ?_
     have ho163 := iter_done h131 hnx128
     exact .inl ⟨rfl, (s109.1, s109.2), F6, ho163, hs111, le112, fI⟩
   ·rintro f w119 ⟨s118, F7, rfl, hs120, le121, ⟨_, rfl⟩⟩
    have h164 := k_done h108
    refine thenQ_nrm ?_
    refine Sq (Rg [0, 1] ?_)
    refine Vs 2 ?_
    refine Nt ?_
    refine Rt ?_
    obtain rfl := some_inj h164
    exact Re [(vi 0), (vi 0)] hs120 rfl
end Go.Proofs.YtaihlcdkcampbaaGreatDoor
namespace Go.Proofs.YtaihlcdkcampbaaGreatDoor
open Go.Proofs
def rules_Valid (N : Nat) (x0 : Book) : Option Bool :=
 ((rules_Check N x0).bind fun r24 => some (r24.1 == 0))
theorem co_rules_Valid : CallOk Tryz.prog 54 := fun _ _ => by kernel_rfl
theorem c_rules_Valid (N : Nat) (w0 : World) (F0 : Mem) (hF : ∀ b o, F0 b = some o → w0.heap[b]? = some o) (x0 : Book) (a0_0 : Option Addr) (n0_0 : Nat) (hb0_0 : LC x0.Points.length n0_0) (hs0_0 : SlA tClause F0 a0_0 x0.Points) (a0_1 : Option Addr) (n0_1 : Nat) (hb0_1 : LC x0.Multipliers.length n0_1) (hs0_1 : SlA tClause F0 a0_1 x0.Multipliers) (a0_2 : Option Addr) (n0_2 : Nat) (hb0_2 : LC x0.Penalties.length n0_2) (hs0_2 : SlA tClause F0 a0_2 x0.Penalties) (a0_3 : Option Addr) (n0_3 : Nat) (hb0_3 : LC x0.Repeats.length n0_3) (hs0_3 : SlA tExpr F0 a0_3 x0.Repeats) (r : Bool) (h : rules_Valid N x0 = some r) :
  Calls Tryz.prog 54 ([(.agg (kBook x0 a0_0 n0_0 a0_1 n0_1 a0_2 n0_2 a0_3 n0_3))] : List Value).toArray w0 (FRet w0 F0 fun F' v => v = (.bool r)) := by
 have hs0 := HS.start hF
 refine Go 12 Tryz.func54 ?_
 refine Sq (Rg [0, 1] ?_)
 refine Bx' 26 (kBook x0 a0_0 n0_0 a0_1 n0_1 a0_2 n0_2 a0_3 n0_3) hs0 (fun b21 w22 hs23 => ?_)
 refine Vs 1 ?_
 refine Nss (Rg [0, 1, 2, 3, 4, 5, 6] ?_)
 refine Ld hs23.at0 ?_
 obtain ⟨r24, hr25, h26⟩ := bind_some h
 refine Cl' co_rules_Check hs23 (c_rules_Check N w22 F0 hs23.pers (x0) a0_0 n0_0 hb0_0 hs0_0 a0_1 n0_1 hb0_1 hs0_1 a0_2 n0_2 hb0_2 hs0_2 a0_3 n0_3 hb0_3 hs0_3 _ hr25) ?_
 rintro _ F1 w28 hs29 le30 rfl
 refine Vs 5 ?_
 refine Nss (Rg [0, 1, 2] ?_)
 refine Vs 3 ?_
 refine Nt ?_
 refine Rt ?_
 obtain rfl := some_inj h26
 exact Re [(.bool (r24.1 == 0))] hs29 rfl
end Go.Proofs.YtaihlcdkcampbaaGreatDoor
namespace Go.Proofs.YtaihlcdkcampbaaGreatDoor
open Go.Proofs
def rules_wrong (N : Nat) (x0 : Book) (x1 : (List Int)) : Option Int :=
 ((rules_Valid N x0).bind fun r24 => (bif (!r24) then some 62 else ((rules_validFacts N x1).bind fun r35 => (bif (!r35) then some 63 else some 0))))
theorem co_rules_wrong : CallOk Tryz.prog 106 := fun _ _ => by kernel_rfl
theorem c_rules_wrong (N : Nat) (w0 : World) (F0 : Mem) (hF : ∀ b o, F0 b = some o → w0.heap[b]? = some o) (x0 : Book) (a0_0 : Option Addr) (n0_0 : Nat) (hb0_0 : LC x0.Points.length n0_0) (hs0_0 : SlA tClause F0 a0_0 x0.Points) (a0_1 : Option Addr) (n0_1 : Nat) (hb0_1 : LC x0.Multipliers.length n0_1) (hs0_1 : SlA tClause F0 a0_1 x0.Multipliers) (a0_2 : Option Addr) (n0_2 : Nat) (hb0_2 : LC x0.Penalties.length n0_2) (hs0_2 : SlA tClause F0 a0_2 x0.Penalties) (a0_3 : Option Addr) (n0_3 : Nat) (hb0_3 : LC x0.Repeats.length n0_3) (hs0_3 : SlA tExpr F0 a0_3 x0.Repeats) (x1 : (List Int)) (a1_0 : Option Addr) (n1_0 : Nat) (hb1_0 : LC x1.length n1_0) (hs1_0 : SlA tInt F0 a1_0 x1) (r : Int) (h : rules_wrong N x0 x1 = some r) :
  Calls Tryz.prog 106 ([(.agg (kBook x0 a0_0 n0_0 a0_1 n0_1 a0_2 n0_2 a0_3 n0_3)), (.slice a1_0 x1.length n1_0)] : List Value).toArray w0 (FRet w0 F0 fun F' v => v = (vi r)) := by
 have hs0 := HS.start hF
 refine Go 13 Tryz.func106 ?_
 refine Sq (Rg [0, 1] ?_)
 refine Bx' 26 (kBook x0 a0_0 n0_0 a0_1 n0_1 a0_2 n0_2 a0_3 n0_3) hs0 (fun b21 w22 hs23 => ?_)
 refine Vs 1 ?_
 refine Nss ?_
 refine Bk ?_
 refine Sq (Rg [0, 1, 2, 3] ?_)
 refine Ld hs23.at0 ?_
 obtain ⟨r24, hr25, h26⟩ := bind_some h
 refine Cl' co_rules_Valid hs23 (c_rules_Valid N w22 F0 hs23.pers (x0) a0_0 n0_0 hb0_0 hs0_0 a0_1 n0_1 hb0_1 hs0_1 a0_2 n0_2 hb0_2 hs0_2 a0_3 n0_3 hb0_3 hs0_3 _ hr25) ?_
 rintro _ F1 w28 hs29 le30 rfl
 refine Vs 2 ?_
 refine Nt ?_
 refine Cd h26 (fun hb32 h33 => ?_) (fun hb32 h34 => ?_)
 ·refine Sq (Rg [0] ?_)
  refine Vs 1 ?_
  refine Nt ?_
  refine Rt ?_
  refine blockQ_ret ?_
  refine thenQ_ret ?_
  obtain rfl := some_inj h33
  exact Re [(vi 62)] hs29 rfl
 ·refine Sq (Rg [0, 1, 2, 3] ?_)
  refine Vs 1 ?_
  obtain ⟨r35, hr36, h37⟩ := bind_some h34
  refine Cl' co_rules_validFacts hs29 (c_rules_validFacts N w28 F1 hs29.pers (x1) a1_0 n1_0 hb1_0 (SlA.mono hs1_0 le30) _ hr36) ?_
  rintro _ F2 w39 hs40 le41 rfl
  refine Vs 2 ?_
  refine Nt ?_
  refine Cd h37 (fun hb43 h44 => ?_) (fun hb43 h45 => ?_)
  ·refine Sq (Rg [0] ?_)
   refine Vs 1 ?_
   refine Nt ?_
   refine Rt ?_
   refine blockQ_ret ?_
   refine thenQ_ret ?_
   obtain rfl := some_inj h44
   exact Re [(vi 63)] hs40 rfl
  ·refine Sc ?_
   refine blockQ_nrm ?_
   refine thenQ_nrm ?_
   refine Sq (Rg [0] ?_)
   refine Vs 1 ?_
   refine Nt ?_
   refine Rt ?_
   obtain rfl := some_inj h45
   exact Re [(vi 0)] hs40 rfl
end Go.Proofs.YtaihlcdkcampbaaGreatDoor
namespace Go.Proofs.YtaihlcdkcampbaaGreatDoor
open Go.Proofs
end Go.Proofs.YtaihlcdkcampbaaGreatDoor
namespace Go.Proofs.YtaihlcdkcampbaaGreatDoor
open Go.Proofs
end Go.Proofs.YtaihlcdkcampbaaGreatDoor
namespace Go.Proofs.YtaihlcdkcampbaaGreatDoor
open Go.Proofs
end Go.Proofs.YtaihlcdkcampbaaGreatDoor
namespace Go.Proofs.YtaihlcdkcampbaaGreatDoor
structure FitL (N : Nat) (l : List Clause) : Prop where
 n : l.length < N
 w : l.length < 9223372036854775808
 c : ∀ c, c ∈ l → FitC N c
structure FitX (N : Nat) (l : List Expr) : Prop where
 n : l.length < N
 w : l.length < 9223372036854775808
 c : ∀ c, c ∈ l → Fit N c
structure FitB (N : Nat) (b : Book) : Prop where
 p : FitL N b.Points
 m : FitL N b.Multipliers
 e : FitL N b.Penalties
 r : FitX N b.Repeats
theorem ofNat_eq {a b : Nat} : ((a : Int) == (b : Int)) = decide (a = b) := by
 by_cases h : a = b
 ·subst h; simp
 ·simp [h]; omega
def sndL (l : List Clause) : Bool := decide (l.length ≤ 64) && l.all sndC
theorem sndT_k {e : Expr} {t : Int} (h : sndT e t = true) : kd e = t := by unfold sndT at h; simp at h; exact h.2
theorem sndC_w {c : Clause} (h : sndC c = true) : kd c.When = 2 := by unfold sndC at h; simp at h; exact sndT_k h.1
theorem sndL_c {l : List Clause} (h : sndL l = true) {c : Clause} (hc : c ∈ l) : sndC c = true := by
 unfold sndL at h; simp only [Bool.and_eq_true, List.all_eq_true] at h; exact h.2 c hc
theorem sndL_n {l : List Clause} (h : sndL l = true) : l.length ≤ 64 := by
 unfold sndL at h; simp only [Bool.and_eq_true, decide_eq_true_eq] at h; exact h.1
def fi {α : Type} (p : α → Bool) (l : List α) : Int := if l.any p then (l.findIdx p : Int) else -1
theorem fi_neg {α : Type} {p : α → Bool} {l : List α} : fi p l < 0 ↔ l.any p = false := by
 unfold fi; cases l.any p <;> simp
theorem fi_nn {α : Type} {p : α → Bool} {l : List α} (h : 0 ≤ fi p l) : ∃ (i : Nat) (hi : i < l.length), fi p l = i ∧ p l[i] = true ∧ ∀ k (hk : k < i), p (l[k]'(by omega)) = false := by
 have ha : l.any p = true := by
  cases h' : l.any p with
  | true => rfl
  | false => have := fi_neg.2 h'; omega
 have hx : ∃ x, x ∈ l ∧ p x = true := List.any_eq_true.1 ha
 have hlt : l.findIdx p < l.length := List.findIdx_lt_length.2 hx
 refine ⟨l.findIdx p, hlt, by unfold fi; rw [ha]; rfl, List.findIdx_getElem (w := hlt), fun k hk => ?_⟩
 have := List.not_of_lt_findIdx hk
 simpa using this
section
variable {N : Nat} {f : List Int}
theorem s_IndexFuncC {l : List Clause} {g : Clause → Option Bool} {p : Clause → Bool} (hg : ∀ c, c ∈ l → g c = some (p c)) (h : FitL N l) : slices_IndexFunc_api_Clause_api_Clause N l g = some (fi p l) := by
 unfold slices_IndexFunc_api_Clause_api_Clause fi
 rw [iter_first l p (fun i => (i : Int)) (fun i hi => by
  unfold slices_IndexFunc_api_Clause_api_Clause_L0
  rw [lt_t hi, cond_true, idx_nat hi, Option.bind_some, hg _ (List.getElem_mem hi), Option.bind_some]) (by unfold slices_IndexFunc_api_Clause_api_Clause_L0; rw [lt_f, cond_false]) h.n h.w]
 cases l.any p <;> rfl
theorem all_any {α : Type} {l : List α} {p : α → Bool} : l.all p = !(l.any fun x => !p x) := by
 rw [List.not_any_eq_all_not]; congr 1; funext n; simp
theorem s_clauses {l : List Clause} (h : FitL N l) : rules_clauses N l = some (sndL l) := by
 unfold rules_clauses sndL slices_ContainsFunc_api_Clause_api_Clause
 rw [s_IndexFuncC (p := fun c => !sndC c) (fun c hc => by
  show rules_clauses_1 N c = _
  unfold rules_clauses_1
  rw [s_soundClause (h.c c hc)]; rfl) h, all_any]
 by_cases hl : l.length ≤ 64
 ·rw [decide_eq_true (by omega), cond_true, decide_eq_true hl]
  unfold fi
  cases l.any fun c => !sndC c with
  | true => rw [if_pos rfl, Option.bind_some, decide_eq_true (by omega)]; rfl
  | false => rfl
 ·rw [decide_eq_false (by omega), cond_false, decide_eq_false hl]; rfl
theorem s_rclauses {l : List Clause} (h : FitL N l) : ref06_clauses N l = some ((l.findIdx fun c => !sndC c : Nat) : Int) := by
 unfold ref06_clauses
 rw [iter_first l (fun c => !sndC c) (fun i => (i : Int)) (fun i hi => by
  unfold ref06_clauses_L0
  rw [lt_t hi, cond_true, idx_nat hi, Option.bind_some, s_clause (h.c _ (List.getElem_mem hi)), Option.bind_some]) (by unfold ref06_clauses_L0; rw [lt_f, cond_false]) h.n h.w]
 cases ha : l.any fun c => !sndC c with
 | true => rfl
 | false =>
  rw [List.findIdx_eq_length.2 (fun x hx => by
   rw [List.any_eq_false] at ha; have := ha x hx; simpa using this)]
  rfl
theorem idx_all {l : List Clause} : decide ((l.findIdx fun c => !sndC c) = l.length) = l.all sndC := by
 rw [Bool.eq_iff_iff, decide_eq_true_eq, List.findIdx_eq_length, List.all_eq_true]
 simp
theorem s_listed {l : List Clause} (h : FitL N l) : ref06_listed N l = some (sndL l) := by
 unfold ref06_listed sndL
 by_cases hl : l.length ≤ 64
 ·rw [decide_eq_true (by omega), cond_true, s_rclauses h, Option.bind_some, Option.bind_some, decide_eq_true hl, ← idx_all]
  rw [ofNat_eq]; rfl
 ·rw [decide_eq_false (by omega), cond_false, decide_eq_false hl]; rfl
def isT (f : List Int) (c : Clause) : Bool := val f c.When == 1
theorem s_first (hf : fac f = true) {l : List Clause} (h : FitL N l) (hs : ∀ c, c ∈ l → sndC c = true) : rules_first N l f = some (fi (isT f) l) := by
 unfold rules_first
 rw [s_IndexFuncC (p := isT f) (fun c hc => by
  show rules_first_1 N c f = _
  unfold rules_first_1
  rw [s_value hf (h.c c hc).1 (by rw [sndC_w (hs c hc)]; decide)]; rfl) h]
 rfl
theorem s_rfirst (hf : fac f = true) {l : List Clause} (h : FitL N l) (hs : ∀ c, c ∈ l → sndC c = true) : ref06_first N l f = some (fi (isT f) l) := by
 unfold ref06_first fi
 rw [iter_first l (isT f) (fun i => (i : Int)) (fun i hi => by
  unfold ref06_first_L0
  rw [lt_t hi, cond_true, idx_nat hi, Option.bind_some, s_rvalue hf (h.c _ (List.getElem_mem hi)).1 (by rw [sndC_w (hs _ (List.getElem_mem hi))]; decide), Option.bind_some]; rfl) (by unfold ref06_first_L0; rw [lt_f, cond_false]) h.n h.w]
 cases l.any (isT f) <;> rfl
noncomputable def wt (l : List Clause) : Int := l.foldl (fun s c => W64 (s + W64 (nd c.When + nd c.Then))) (l.length : Int)
theorem s_weight {l : List Clause} (h : FitL N l) : law06_weight N l = some (wt l) := by
 unfold law06_weight wt
 rw [iter_fold l (fun c => (law06_nodes N c.When).bind fun r78 => ((law06_nodes N c.Then).bind fun r86 => some (W64 (r78 + r86)))) (fun c => W64 (nd c.When + nd c.Then)) (fun s r => W64 (s + r)) (fun c hc => by rw [s_nodes (h.c c hc).1, Option.bind_some, s_nodes (h.c c hc).2]; rfl) (fun s i => by
  unfold law06_weight_L0
  simp only
  cases decide (i < (l.length : Int)) with
  | false => rfl
  | true =>
   rw [cond_true, cond_true]
   cases idx l i with
   | none => rfl
   | some c =>
    simp only [Option.bind_some]
    cases law06_nodes N c.When with
    | none => rfl
    | some a =>
     simp only [Option.bind_some]
     cases law06_nodes N c.Then <;> rfl) h.n h.w]
 rfl
end
section
variable {N : Nat} {f : List Int}
end
end Go.Proofs.YtaihlcdkcampbaaGreatDoor
namespace Go.Proofs.YtaihlcdkcampbaaGreatDoor
theorem fit_ex {x : Expr} (h : qExpr x) : ∃ n0, ∀ N, n0 ≤ N → Fit N x := by
 obtain ⟨n, hn⟩ := h
 exact ⟨3518437208781 + (2 * n + 10), fun N hN => ⟨n, hn.wide (by omega), by omega⟩⟩
theorem fit_all {α : Type} {P : Nat → α → Prop} : ∀ {l : List α}, (∀ x, x ∈ l → ∃ n0, ∀ N, n0 ≤ N → P N x) → ∃ n0, ∀ N, n0 ≤ N → ∀ x, x ∈ l → P N x
 | [], _ => ⟨0, fun _ _ x hx => by cases hx⟩
 | a :: l, h => by
  obtain ⟨n, hn⟩ := h a (List.mem_cons_self ..)
  obtain ⟨m, hm⟩ := fit_all fun x hx => h x (List.mem_cons_of_mem _ hx)
  refine ⟨n + m, fun N hN x hx => ?_⟩
  rcases List.mem_cons.1 hx with rfl | hx
  ·exact hn N (by omega)
  ·exact hm N (by omega) x hx
theorem fitL_ex {l : List Clause} (h : l.length < 9223372036854775808 ∧ ∀ c, c ∈ l → qClause c) : ∃ n0, ∀ N, n0 ≤ N → FitL N l := by
 obtain ⟨n, hn⟩ := fit_all (P := FitC) (l := l) (fun c hc => by
  obtain ⟨a, ha⟩ := fit_ex (h.2 c hc).1
  obtain ⟨b, hb⟩ := fit_ex (h.2 c hc).2
  exact ⟨a + b, fun N hN => ⟨ha N (by omega), hb N (by omega)⟩⟩)
 exact ⟨n + l.length + 1, fun N hN => ⟨by omega, h.1, hn N (by omega)⟩⟩
end Go.Proofs.YtaihlcdkcampbaaGreatDoor
namespace Go.Proofs.YtaihlcdkcampbaaGreatDoor
def upto (a b : Int) : List Int := (List.range (b + 1 - a).toNat).map fun k : Nat => a + (k : Int)
theorem upto_nil {a b : Int} (h : b < a) : upto a b = [] := by
 unfold upto
 rw [show (b + 1 - a).toNat = 0 by omega]; rfl
theorem upto_cons {a b : Int} (h : a ≤ b) : upto a b = a :: upto (a + 1) b := by
 unfold upto
 obtain ⟨n, hn⟩ : ∃ n : Nat, (b + 1 - a).toNat = n + 1 := ⟨(b + 1 - a).toNat - 1, by omega⟩
 rw [hn, show (b + 1 - (a + 1)).toNat = n by omega, List.range_succ_eq_map, List.map_cons, List.map_map]
 congr 1
 ·simp
 ·apply List.map_congr_left
  intro k _
  simp only [Function.comp_apply, Nat.succ_eq_add_one]; omega
theorem upto_mem {a b x : Int} : x ∈ upto a b ↔ a ≤ x ∧ x ≤ b := by
 unfold upto
 simp only [List.mem_map, List.mem_range]
 constructor
 ·rintro ⟨k, h1, rfl⟩; omega
 ·intro h; exact ⟨(x - a).toNat, by omega, by omega⟩
theorem upto_length (a b : Int) : (upto a b).length = (b + 1 - a).toNat := by simp [upto]
def allL : List Span → List (List Int)
 | [] => [[]]
 | s :: d => (upto s.Lo s.Hi).flatMap fun v => (allL d).map (v :: ·)
def los (d : List Span) : List Int := d.map (·.Lo)
def box : List Span → List Int → Prop
 | [], [] => True
 | s :: d, v :: f => (s.Lo ≤ v ∧ v ≤ s.Hi) ∧ box d f
 | _, _ => False
def okD (d : List Span) : Prop := ∀ s, s ∈ d → s.Lo ≤ s.Hi
theorem box_len : ∀ {d : List Span} {f : List Int}, box d f → f.length = d.length
 | [], [], _ => rfl
 | s :: d, v :: f, h => by simp [box_len h.2]
 | [], _ :: _, h => h.elim
 | _ :: _, [], h => h.elim
theorem box_get : ∀ {d : List Span} {f : List Int}, box d f → ∀ (i : Nat) (hi : i < d.length) (hj : i < f.length), d[i].Lo ≤ f[i] ∧ f[i] ≤ d[i].Hi
 | s :: d, v :: f, h, 0, _, _ => h.1
 | s :: d, v :: f, h, i + 1, hi, hj => box_get h.2 i (by simpa using hi) (by simpa using hj)
theorem los_box : ∀ {d : List Span}, okD d → box d (los d)
 | [], _ => trivial
 | s :: d, h => ⟨⟨Int.le_refl _, h s (List.mem_cons_self ..)⟩, los_box fun x hx => h x (List.mem_cons_of_mem _ hx)⟩
theorem mem_allL : ∀ {d : List Span} {f : List Int}, f ∈ allL d ↔ box d f
 | [], f => by
  unfold allL
  cases f with
  | nil => simp [box]
  | cons v f => simp [box]
 | s :: d, f => by
  unfold allL
  simp only [List.mem_flatMap, List.mem_map]
  cases f with
  | nil =>
   simp only [box, iff_false, not_exists, not_and]
   intro v _ x _ h; cases h
  | cons v f =>
   simp only [box]
   constructor
   ·rintro ⟨u, hu, x, hx, h⟩
    cases h
    exact ⟨upto_mem.1 hu, mem_allL.1 hx⟩
   ·rintro ⟨h1, h2⟩
    exact ⟨v, upto_mem.2 h1, f, mem_allL.2 h2, rfl⟩
def suc : List Span → List Int → Option (List Int)
 | s :: d, v :: f => (suc d f).elim (if v < s.Hi then some ((v + 1) :: los d) else none) fun g => some (v :: g)
 | _, _ => none
def frm : List Span → List Int → List (List Int)
 | s :: d, v :: f => (frm d f).map (v :: ·) ++ (upto (v + 1) s.Hi).flatMap fun u => (allL d).map (u :: ·)
 | _, _ => [[]]
theorem frm_los : ∀ {d : List Span}, okD d → frm d (los d) = allL d
 | [], _ => rfl
 | s :: d, h => by
  show (frm d (los d)).map (s.Lo :: ·) ++ _ = _
  rw [frm_los fun x hx => h x (List.mem_cons_of_mem _ hx), allL, upto_cons (h s (List.mem_cons_self ..)), List.flatMap_cons]
theorem suc_box : ∀ {d : List Span} {f g : List Int}, okD d → box d f → suc d f = some g → box d g
 | [], [], g, _, _, h => by simp [suc] at h
 | s :: d, v :: f, g, hd, hb, h => by
  unfold suc at h
  have hd' : okD d := fun x hx => hd x (List.mem_cons_of_mem _ hx)
  cases hs : suc d f with
  | none =>
   rw [hs] at h
   simp only [Option.elim_none] at h
   split at h
   ·cases h
    exact ⟨⟨by have := hb.1.1; omega, by omega⟩, los_box hd'⟩
   ·cases h
  | some g' =>
   rw [hs] at h
   cases h
   exact ⟨hb.1, suc_box hd' hb.2 hs⟩
 | [], _ :: _, _, _, hb, _ => hb.elim
 | _ :: _, [], _, _, hb, _ => hb.elim
theorem frm_suc : ∀ {d : List Span} {f : List Int}, okD d → box d f → frm d f = f :: (suc d f).elim [] (frm d)
 | [], [], _, _ => rfl
 | s :: d, v :: f, hd, hb => by
  have hd' : okD d := fun x hx => hd x (List.mem_cons_of_mem _ hx)
  unfold frm suc
  rw [frm_suc hd' hb.2]
  cases hs : suc d f with
  | some g =>
   simp only [Option.elim_some, List.map_cons, List.cons_append]
   rfl
  | none =>
   simp only [Option.elim_none, List.map_cons, List.map_nil, List.cons_append, List.nil_append]
   congr 1
   by_cases h : v < s.Hi
   ·rw [if_pos h, Option.elim_some]
    rw [upto_cons (by omega), List.flatMap_cons]
    show _ = (frm d (los d)).map ((v + 1) :: ·) ++ _
    rw [frm_los hd']
   ·rw [if_neg h, upto_nil (by omega)]; rfl
 | [], _ :: _, _, hb => hb.elim
 | _ :: _, [], _, hb => hb.elim
theorem suc_none : ∀ {d : List Span} {f : List Int}, f.length = d.length → (∀ (i : Nat) (hi : i < d.length) (hj : i < f.length), f[i] = d[i].Hi) → suc d f = none
 | [], _, _, _ => by unfold suc; rfl
 | s :: d, v :: f, hl, h => by
  unfold suc
  rw [suc_none (by simpa using hl) fun i hi hj => h (i + 1) (by simpa using hi) (by simpa using hj)]
  have : v = s.Hi := h 0 (by simp) (by simp)
  rw [Option.elim_none, if_neg (by omega)]
 | _ :: _, [], hl, _ => by simp at hl
theorem suc_at : ∀ {d : List Span} {f : List Int} {i : Nat}, f.length = d.length → (hi : i < d.length) → (hj : i < f.length) → f[i] < d[i].Hi → (∀ (k : Nat) (hk : k < d.length) (hk' : k < f.length), i < k → f[k] = d[k].Hi) →
  suc d f = some (f.take i ++ (f[i] + 1) :: los (d.drop (i + 1)))
 | s :: d, v :: f, 0, hl, _, _, h, hk => by
  unfold suc
  rw [suc_none (by simpa using hl) fun i hi hj => hk (i + 1) (by simpa using hi) (by simpa using hj) (by omega)]
  rw [Option.elim_none, if_pos (by exact h)]
  simp
 | s :: d, v :: f, i + 1, hl, hi, hj, h, hk => by
  unfold suc
  rw [suc_at (i := i) (by simpa using hl) (by simpa using hi) (by simpa using hj) (by simpa using h) fun k hk1 hk2 hik => hk (k + 1) (by simpa using hk1) (by simpa using hk2) (by omega)]
  simp
 | [], _, _, _, hi, _, _, _ => by simp at hi
 | _ :: _, [], _, _, _, hj, _, _ => by simp at hj
def vol : List Span → Nat
 | [] => 1
 | s :: d => (s.Hi + 1 - s.Lo).toNat * vol d
theorem flatMap_len {α β : Type} {l : List α} {f : α → List β} {k : Nat} (h : ∀ x, x ∈ l → (f x).length = k) : (l.flatMap f).length = l.length * k := by
 induction l with
 | nil => simp
 | cons a l ih =>
  rw [List.flatMap_cons, List.length_append, h a (List.mem_cons_self ..), ih fun x hx => h x (List.mem_cons_of_mem _ hx), List.length_cons, Nat.succ_mul]; omega
theorem allL_length : ∀ d : List Span, (allL d).length = vol d
 | [] => rfl
 | s :: d => by
  unfold allL vol
  rw [flatMap_len (k := vol d) fun v _ => by rw [List.length_map, allL_length d], upto_length]
theorem vol_pos : ∀ {d : List Span}, okD d → 0 < vol d
 | [], _ => by simp [vol]
 | s :: d, h => by
  unfold vol
  have h1 := h s (List.mem_cons_self ..)
  exact Nat.mul_pos (by omega) (vol_pos fun x hx => h x (List.mem_cons_of_mem _ hx))
theorem allP : ∀ (d : List Span) (acc : List (List Int)), d.foldl (fun out s => out.flatMap fun p => (upto s.Lo s.Hi).map fun v => p ++ [v]) acc = acc.flatMap fun p => (allL d).map (p ++ ·)
 | [], acc => by simp [allL]
 | s :: d, acc => by
  rw [List.foldl_cons, allP d, List.flatMap_assoc]
  congr 1
  funext p
  rw [allL, List.map_flatMap, List.flatMap_map]
  congr 1
  funext v
  simp [List.map_map, Function.comp_def]
theorem allP0 (d : List Span) : d.foldl (fun out s => out.flatMap fun p => (upto s.Lo s.Hi).map fun v => p ++ [v]) [[]] = allL d := by
 rw [allP]; simp
end Go.Proofs.YtaihlcdkcampbaaGreatDoor
namespace Go.Proofs.YtaihlcdkcampbaaGreatDoor
open Go.Proofs
def rules_Points (N : Nat) (x0 : Book) (x1 : (List Int)) : Option (Int × Int) :=
 ((rules_wrong N x0 x1).bind fun r24 => (bif (r24 != 0) then some (0, r24) else ((rules_first N x0.Points x1).bind fun r35 => (bif (decide (r35 < 0)) then some (0, 70) else ((idx x0.Points r35).bind fun x46 => ((rules_value N x46.Then x1).bind fun r60 => some (r60, 0)))))))
theorem co_rules_Points : CallOk Tryz.prog 41 := fun _ _ => by kernel_rfl
theorem c_rules_Points (N : Nat) (w0 : World) (F0 : Mem) (hF : ∀ b o, F0 b = some o → w0.heap[b]? = some o) (x0 : Book) (a0_0 : Option Addr) (n0_0 : Nat) (hb0_0 : LC x0.Points.length n0_0) (hs0_0 : SlA tClause F0 a0_0 x0.Points) (a0_1 : Option Addr) (n0_1 : Nat) (hb0_1 : LC x0.Multipliers.length n0_1) (hs0_1 : SlA tClause F0 a0_1 x0.Multipliers) (a0_2 : Option Addr) (n0_2 : Nat) (hb0_2 : LC x0.Penalties.length n0_2) (hs0_2 : SlA tClause F0 a0_2 x0.Penalties) (a0_3 : Option Addr) (n0_3 : Nat) (hb0_3 : LC x0.Repeats.length n0_3) (hs0_3 : SlA tExpr F0 a0_3 x0.Repeats) (x1 : (List Int)) (a1_0 : Option Addr) (n1_0 : Nat) (hb1_0 : LC x1.length n1_0) (hs1_0 : SlA tInt F0 a1_0 x1) (r : (Int × Int)) (h : rules_Points N x0 x1 = some r) :
  Calls Tryz.prog 41 ([(.agg (kBook x0 a0_0 n0_0 a0_1 n0_1 a0_2 n0_2 a0_3 n0_3)), (.slice a1_0 x1.length n1_0)] : List Value).toArray w0 (FRet w0 F0 fun F' v => v = (.tuple #[(vi r.1), (vi r.2)])) := by
 have hs0 := HS.start hF
 refine Go 28 Tryz.func41 ?_
 refine Sq (Rg [0, 1, 2] ?_)
 refine Bx' 26 (kBook x0 a0_0 n0_0 a0_1 n0_1 a0_2 n0_2 a0_3 n0_3) hs0 (fun b21 w22 hs23 => ?_)
 refine Vs 2 ?_
 refine Nss ?_
 refine Sq (Rg [0, 1, 2, 3] ?_)
 refine Ld hs23.at0 ?_
 refine Vs 1 ?_
 obtain ⟨r24, hr25, h26⟩ := bind_some h
 refine Cl' co_rules_wrong hs23 (c_rules_wrong N w22 F0 hs23.pers (x0) a0_0 n0_0 hb0_0 hs0_0 a0_1 n0_1 hb0_1 hs0_1 a0_2 n0_2 hb0_2 hs0_2 a0_3 n0_3 hb0_3 hs0_3 (x1) a1_0 n1_0 hb1_0 hs1_0 _ hr25) ?_
 rintro _ F1 w28 hs29 le30 rfl
 refine Vs 1 ?_
 refine Nss (Rg [0, 1] ?_)
 refine Vs 2 ?_
 refine Nt ?_
 refine Cd h26 (fun hb32 h33 => ?_) (fun hb32 h34 => ?_)
 ·refine Sq (Rg [0, 1, 2] ?_)
  refine Vs 3 ?_
  refine Nt ?_
  refine Rt ?_
  refine thenQ_ret ?_
  obtain rfl := some_inj h33
  exact Re [(vi 0), (vi r24)] hs29 rfl
 ·refine Sc ?_
  refine thenQ_nrm ?_
  refine Sq (Rg [0, 1, 2, 3, 4] ?_)
  refine Vs 1 ?_
  refine Ld hs29.at0 ?_
  refine Vs 1 ?_
  obtain ⟨r35, hr36, h37⟩ := bind_some h34
  refine Cl' co_rules_first hs29 (c_rules_first N w28 F1 hs29.pers (x0.Points) a0_0 n0_0 hb0_0 (SlA.mono hs0_0 le30) (x1) a1_0 n1_0 hb1_0 (SlA.mono hs1_0 le30) _ hr36) ?_
  rintro _ F2 w39 hs40 le41 rfl
  refine Vs 1 ?_
  refine Nss ?_
  refine Sq (Rg [0, 1] ?_)
  refine Vs 2 ?_
  refine Nt ?_
  refine Cd h37 (fun hb43 h44 => ?_) (fun hb43 h45 => ?_)
  ·refine Sq (Rg [0, 1] ?_)
   refine Vs 2 ?_
   refine Nt ?_
   refine Rt ?_
   refine thenQ_ret ?_
   obtain rfl := some_inj h44
   exact Re [(vi 0), (vi 70)] hs40 rfl
  ·refine Sc ?_
   refine thenQ_nrm ?_
   refine Sq (Rg [0, 1, 2, 3, 4, 5, 6, 7, 8, 9] ?_)
   refine Vs 1 ?_
   refine Ld hs40.at0 ?_
   refine Vs 1 ?_
   obtain ⟨x46, hx47, h49⟩ := bind_some h45
   obtain ⟨hi48, hx47'⟩ := idx_spec hx47
   obtain ⟨b50, o51, C52, E53, fz54, rfl, hF56, hE57⟩ := SlA.open (SlA.mono hs0_0 (le30.trans le41)) hx47'
   obtain ⟨ae58_2, ne58_2, ae58_5, ne58_5, hc59, hbe58_2, hse58_2, hbe58_5, hse58_5⟩ := hE57 _ _ hx47'
   refine Ix hi48 ?_
   refine Vs 1 ?_
   refine Lx 3 (hs40.pers _ _ hF56) hc59 ?_
   refine Vs 1 ?_
   obtain ⟨r60, hr61, h62⟩ := bind_some h49
   refine Cl' co_rules_value hs40 (c_rules_value N w39 F2 hs40.pers (x46.Then) ae58_5 ne58_5 hbe58_5 hse58_5 (x1) a1_0 n1_0 hb1_0 (SlA.mono hs1_0 (le30.trans le41)) _ hr61) ?_
   rintro _ F3 w64 hs65 le66 rfl
   refine Vs 2 ?_
   refine Nt ?_
   refine Rt ?_
   obtain rfl := some_inj h62
   exact Re [(vi r60), (vi 0)] hs65 rfl
end Go.Proofs.YtaihlcdkcampbaaGreatDoor
namespace Go.Proofs.YtaihlcdkcampbaaGreatDoor
open Go.Proofs
end Go.Proofs.YtaihlcdkcampbaaGreatDoor
namespace Go.Proofs.YtaihlcdkcampbaaGreatDoor
open Go.Proofs
end Go.Proofs.YtaihlcdkcampbaaGreatDoor
namespace Go.Proofs.YtaihlcdkcampbaaGreatDoor
open Go.Proofs
end Go.Proofs.YtaihlcdkcampbaaGreatDoor
namespace Go.Proofs.YtaihlcdkcampbaaGreatDoor
open Go.Proofs
end Go.Proofs.YtaihlcdkcampbaaGreatDoor
namespace Go.Proofs.YtaihlcdkcampbaaGreatDoor
open Go.Proofs
end Go.Proofs.YtaihlcdkcampbaaGreatDoor
namespace Go.Proofs.YtaihlcdkcampbaaGreatDoor
open Go.Proofs
end Go.Proofs.YtaihlcdkcampbaaGreatDoor
namespace Go.Proofs.YtaihlcdkcampbaaGreatDoor
open Go.Proofs
end Go.Proofs.YtaihlcdkcampbaaGreatDoor
namespace Go.Proofs.YtaihlcdkcampbaaGreatDoor
open Go.Proofs
end Go.Proofs.YtaihlcdkcampbaaGreatDoor
namespace Go.Proofs.YtaihlcdkcampbaaGreatDoor
open Go.Proofs
def law06_same_L0 (N : Nat) (x0 : (List Int)) (x1 : (List Int)) : Int → Option (Flow Bool Int) := fun s27 =>
 (bif (decide (s27 < (x0.length : Int))) then (((idx x0 s27).bind fun x62 => ((idx x1 s27).bind fun x76 => some (x62 != x76))).bind fun j54 => (bif j54 then some (.ret false) else some (.next (W64 (s27 + 1))))) else some (.done s27))
def law06_same (N : Nat) (x0 : (List Int)) (x1 : (List Int)) : Option Bool :=
 (bif ((x0.length : Int) != (x1.length : Int)) then some false else ((iter (law06_same_L0 N x0 x1) N 0).bind fun o => o.k (fun r => some r) (fun s35 => some true)))
theorem co_law06_same : CallOk Tryz.prog 50 := fun _ _ => by kernel_rfl
theorem c_law06_same (N : Nat) (w0 : World) (F0 : Mem) (hF : ∀ b o, F0 b = some o → w0.heap[b]? = some o) (x0 : (List Int)) (a0_0 : Option Addr) (n0_0 : Nat) (hb0_0 : LC x0.length n0_0) (hs0_0 : SlA tInt F0 a0_0 x0) (x1 : (List Int)) (a1_0 : Option Addr) (n1_0 : Nat) (hb1_0 : LC x1.length n1_0) (hs1_0 : SlA tInt F0 a1_0 x1) (r : Bool) (h : law06_same N x0 x1 = some r) :
  Calls Tryz.prog 50 ([(.slice a0_0 x0.length n0_0), (.slice a1_0 x1.length n1_0)] : List Value).toArray w0 (FRet w0 F0 fun F' v => v = (.bool r)) := by
 have hs0 := HS.start hF
 refine Go 26 Tryz.func50 ?_
 refine Sq (Rg [0] ?_)
 refine Vs 1 ?_
 refine Nss ?_
 refine Sq (Rg [0, 1, 2, 3, 4] ?_)
 refine Vs 5 ?_
 refine Nt ?_
 refine Cd h (fun hb21 h22 => ?_) (fun hb21 h23 => ?_)
 ·refine Sq (Rg [0] ?_)
  refine Vs 1 ?_
  refine Nt ?_
  refine Rt ?_
  refine thenQ_ret ?_
  obtain rfl := some_inj h22
  exact Re [(.bool false)] hs0 rfl
 ·refine Sc ?_
  refine thenQ_nrm ?_
  refine Sq ?_
  refine Sq (Rg [0] ?_)
  refine Vs 1 ?_
  refine Nt ?_
  obtain ⟨o24, ho25, h26⟩ := bind_some h23
  refine CWP.cut (fun f w => ∃ (s35 : Int) (F2 : Mem), o24 = .done s35 ∧ HS w0 F0 w F2 [] ∧ Mem.le F0 F2 ∧ FI f [] []) ?_ ?_
  ·refine Bk ?_
   refine CWP.loop (by kernel_rfl) (fun m f w => ∃ (s27 : Int) (F1 : Mem), iter (law06_same_L0 N x0 x1) m s27 = some o24 ∧ HS w0 F0 w F1 [] ∧ Mem.le F0 F1 ∧ FI f [] [(0, (.slice a0_0 x0.length n0_0)), (1, (.slice a1_0 x1.length n1_0)), (5, (vi s27))]) N ⟨0, F0, ho25, hs0, (Mem.le.refl _), fI⟩ ?_
   rintro m40 f w28 ⟨s27, F1, hit41, hs29, le30, ⟨_, rfl⟩⟩
   obtain ⟨m42, fl43, rfl, hb44, hnx45⟩ := iter_step hit41
   refine Sq ?_
   refine Sq (Rg [0, 1, 2, 3] ?_)
   refine Vs 4 ?_
   refine Nt ?_
   refine Cd hb44 (fun hb46 h47 => ?_) (fun hb46 h48 => ?_)
   ·refine Sc ?_
    refine thenQ_nrm ?_
    refine Sq ?_
    refine Bk ?_
    refine Sq ?_
    obtain ⟨j54, hj60, h61⟩ := bind_some h47
    refine RD 9 9 [] [] hs29 (fun f w => ∃ (F3 : Mem), HS w0 F0 w F3 [] ∧ Mem.le F1 F3 ∧ FI f [] [(0, (.slice a0_0 x0.length n0_0)), (1, (.slice a1_0 x1.length n1_0)), (5, (vi s27)), (25, (.bool j54))]) (fun wd49 hw50 => ?_) ?_
    ·refine Dv [0, 1] ?_
     obtain ⟨x62, hx63, h65⟩ := bind_some hj60
     obtain ⟨hi64, hx63'⟩ := idx_spec hx63
     obtain ⟨b66, o67, C68, E69, fz70, rfl, hF72, hE73⟩ := SlA.open (SlA.mono hs0_0 le30) hx63'
     have hc75 := hE73 _ _ hx63'
     refine Di 2 hi64 ?_
     refine Dx 3 0 (fun _ hq => hq.1.1 _ _ hF72) hc75 ?_
     refine Dv [4, 5] ?_
     obtain ⟨x76, hx77, h79⟩ := bind_some h65
     obtain ⟨hi78, hx77'⟩ := idx_spec hx77
     obtain ⟨b80, o81, C82, E83, fz84, rfl, hF86, hE87⟩ := SlA.open (SlA.mono hs1_0 le30) hx77'
     have hc89 := hE87 _ _ hx77'
     refine Di 6 hi78 ?_
     refine Dx 7 0 (fun _ hq => hq.1.1 _ _ hF86) hc89 ?_
     refine Dv [8] ?_
     obtain rfl := some_inj h79
     exact DWP.done (by kernel_rfl) ⟨F1, hw50, (Mem.le.refl _), fI⟩
    ·rintro f w51 ⟨F3, hs52, le53, ⟨_, rfl⟩⟩
     refine thenQ_nrm ?_
     refine Cd h61 (fun hb90 h91 => ?_) (fun hb90 h92 => ?_)
     ·refine Sq (Rg [0] ?_)
      refine Vs 1 ?_
      refine Nt ?_
      refine Rt ?_
      refine blockQ_ret ?_
      refine thenQ_ret ?_
      refine thenQ_ret ?_
      refine blockQ_ret ?_
      have hret := iter_ret h91 hnx45
      subst hret
      refine .inr ?_
      refine thenQ_ret ?_
      obtain rfl := some_inj h26
      exact Re [(.bool false)] hs52 rfl
     ·refine Sc ?_
      refine blockQ_nrm ?_
      refine thenQ_nrm ?_
      refine Rg [0, 1, 2] ?_
      refine Vs 3 ?_
      refine RWP.nil ?_
      have hn93 := iter_next h92 hnx45
      exact ⟨m42, Nat.lt_succ_self _, (W64 (s27 + 1)), F3, hn93, hs52, (le30.trans le53), fI⟩
   ·refine Ex ?_
    refine thenQ_ex ?_
    refine thenQ_ex ?_
    refine blockQ_hit rfl ?_
    have ho94 := iter_done h48 hnx45
    exact .inl ⟨rfl, s27, F1, ho94, hs29, le30, fI⟩
  ·rintro f w36 ⟨s35, F2, rfl, hs37, le38, ⟨_, rfl⟩⟩
   have h95 := k_done h26
   refine thenQ_nrm ?_
   refine Sq (Rg [0] ?_)
   refine Vs 1 ?_
   refine Nt ?_
   refine Rt ?_
   obtain rfl := some_inj h95
   exact Re [(.bool true)] hs37 rfl
end Go.Proofs.YtaihlcdkcampbaaGreatDoor
namespace Go.Proofs.YtaihlcdkcampbaaGreatDoor
section
variable {N : Nat} {f : List Int}
theorem any_none {α : Type} {l : List α} : (l.any fun _ => false) = false := by rw [List.any_eq_false]; simp
theorem m_same_self {l : List Int} (hN : l.length < N) (hl : l.length < 9223372036854775808) : law06_same N l l = some true := by
 unfold law06_same
 rw [show ((l.length : Int) != (l.length : Int)) = false by simp, cond_false]
 rw [iter_first l (fun _ => false) (fun _ => false) (fun i hi => by
  unfold law06_same_L0
  rw [lt_t hi, cond_true, idx_nat hi]; simp) (by unfold law06_same_L0; rw [lt_f, cond_false]) hN hl, any_none]
 rfl
end
end Go.Proofs.YtaihlcdkcampbaaGreatDoor
namespace Go.Proofs.YtaihlcdkcampbaaGreatDoor
open Go.Proofs
theorem co_rules_all : CallOk Tryz.prog 118 := fun _ _ => by kernel_rfl
set_option maxRecDepth 100000 in
theorem c_rules_all (w0 : World) (F0 : Mem) (hF : ∀ b o, F0 b = some o → w0.heap[b]? = some o) (x0 : List Span) (a0_0 : Option Addr) (n0_0 : Nat) (_ : LC x0.length n0_0) (_ : SlA tSpan F0 a0_0 x0) :
  Calls Tryz.prog 118 ([(.slice a0_0 x0.length n0_0)] : List Value).toArray w0 (FRetO w0 F0 fun _ v L' => ∃ (b0 : Nat), v = .func (.func 172) #[] #[.pointer (some ⟨b0, 0, none⟩)] ∧ L' = [(some b0, .cells #[(.slice a0_0 x0.length n0_0)] 68 (0, 0))]) := by
 have hs0 := HS.start hF
 refine Go 4 Tryz.func118 ?_
 refine Sq (Rg [0, 1] ?_)
 refine Bx' 68 #[(.slice a0_0 x0.length n0_0)] hs0 (fun b0 w1 hs1 => ?_)
 refine Vs 1 ?_
 refine Nss (Rg [0, 1] ?_)
 refine Vs 2 ?_
 refine Nt ?_
 refine Rt ?_
 exact ⟨rfl, _, res_of (l := [.tmp 2]) (by kernel_rfl) (vs := [.func (.func 172) #[] #[.pointer (some ⟨b0, 0, none⟩)]]) ⟨by kernel_rfl, trivial⟩, _, F0, _, rfl, hs1, b0, rfl, rfl⟩
end Go.Proofs.YtaihlcdkcampbaaGreatDoor
namespace Go.Proofs.YtaihlcdkcampbaaGreatDoor
open Go.Proofs
def slices_Clone_int_int (N : Nat) (x0 : List Int) : Option (List Int) := apnd [] x0
theorem co_slices_Clone_int_int : CallOk Tryz.prog 169 := fun _ _ => by kernel_rfl
set_option maxRecDepth 100000 in
theorem c_slices_Clone_int_int (N : Nat) (w0 : World) (F0 : Mem) (hF : ∀ b o, F0 b = some o → w0.heap[b]? = some o) (x0 : List Int) (a0_0 : Option Addr) (n0_0 : Nat) (hb0_0 : LC x0.length n0_0) (hs0_0 : SlA tInt F0 a0_0 x0) (r : List Int) (h : slices_Clone_int_int N x0 = some r) :
  Calls Tryz.prog 169 ([(.slice a0_0 x0.length n0_0)] : List Value).toArray w0 (FRetO w0 F0 fun F' v L' => ∃ (a : Option Addr) (n : Nat) (e : Option Nat × Obj), v = .slice a r.length n ∧ L' = [e] ∧ RowR tInt 3 F' a n r e) := by
 have hs0 := HS.start hF
 refine Go 8 Tryz.func169 ?_
 refine Sq (Rg [0] ?_)
 refine Vs 1 ?_
 refine Nt ?_
 refine Sq ?_
 refine Sq (Rg [0, 1] ?_)
 refine Vs 1 ?_
 refine RWP.val (dst := some 4) (ty := 4) (g := none) (by kernel_rfl) rfl (run_eqnil (t := 47) (t' := 47) (e := 3) (x := .tmp 3) (y := .const (.slice none 0 0)) (a := a0_0) (n := x0.length) (c := n0_0) rfl rfl (by kernel_rfl)) ?_
 refine Nt ?_
 cases a0_0 with
 | none =>
  have hx : x0 = [] := by
   rcases hs0_0 with h | ⟨_, _, _, _, _, h, _⟩
   ·exact h
   ·cases h
  subst hx
  cases h
  refine C1 (rfl : true = true) ?_
  refine Sq (Rg [0] ?_)
  refine Vs 1 ?_
  refine Nt ?_
  refine Rt ?_
  refine thenQ_ret ?_
  exact ⟨rfl, _, res_of (l := [.tmp 2]) (by kernel_rfl) (vs := [.slice none 0 0]) ⟨by kernel_rfl, trivial⟩, _, F0, _, rfl, hs0.dummy (oc #[] 0), _, _, _, rfl, rfl, RowR.nil tInt 3 F0 _⟩
 | some ad =>
  refine C0 (rfl : false = false) ?_
  refine Sc ?_
  refine thenQ_nrm ?_
  refine Sq (Rg [0, 1, 2, 3] ?_)
  refine Bs 3 [] hs0 (fun b w1 hs1 => ?_)
  refine Vs 1 ?_
  refine Ap0 oInt hs1 (RowR.lit (T := tInt) (E := 3) (F := F0) (l := []) (cs := []) rfl (by simp)) (SlA.rd hs1 hs0_0) h (fun a n e w2 hs2 hr2 => ?_)
  refine Vs 1 ?_
  refine Nt ?_
  refine Rt ?_
  exact ⟨rfl, _, res_of (l := [.tmp 2]) (by kernel_rfl) (vs := [.slice a r.length n]) ⟨by kernel_rfl, trivial⟩, _, F0, _, rfl, hs2, _, _, _, rfl, rfl, hr2⟩
end Go.Proofs.YtaihlcdkcampbaaGreatDoor
namespace Go.Proofs.YtaihlcdkcampbaaGreatDoor
open Go.Proofs
def rules_all_1_L0 {σ : Type} (N : Nat) (y : (σ → (List Int) → Option (Bool × σ))) (z0 : (List Span)) (s : σ) (r1 : List Int) : (Int × List Int × σ) → Option (Flow σ (Int × List Int × σ)) := fun s14 =>
 (bif (decide (s14.1 < (z0.length : Int))) then ((idx z0 s14.1).bind fun x46 => ((idx s14.2.1 s14.1).bind fun x65 => some (.next ((W64 (s14.1 + 1)), (s14.2.1.set (s14.1 : Int).toNat (x46.Lo)), s14.2.2)))) else some (.done (s14.1, s14.2.1, s14.2.2)))
def rules_all_1_L2 {σ : Type} (N : Nat) (y : (σ → (List Int) → Option (Bool × σ))) (z0 : (List Span)) (s : σ) (r1 : List Int) (s27 : (Int × List Int × σ)) (s87 : (List Int × σ)) (q110 : (Bool × σ)) : (Int × List Int × σ) → Option (Flow σ (Int × List Int × σ)) := fun s125 =>
 ((bif (decide (s125.1 ≥ 0)) then ((idx s125.2.1 s125.1).bind fun x170 => ((idx z0 s125.1).bind fun x182 => some (x170 == x182.Hi))) else some false).bind fun j158 => (bif j158 then ((idx z0 s125.1).bind fun x199 => ((idx s125.2.1 s125.1).bind fun x213 => some (.next ((W64 (s125.1 - 1)), (s125.2.1.set (s125.1 : Int).toNat (x199.Lo)), s125.2.2)))) else some (.done (s125.1, s125.2.1, s125.2.2))))
def rules_all_1_L1 {σ : Type} (N : Nat) (y : (σ → (List Int) → Option (Bool × σ))) (z0 : (List Span)) (s : σ) (r1 : List Int) (s27 : (Int × List Int × σ)) : (List Int × σ) → Option (Flow σ (List Int × σ)) := fun s87 =>
 ((y s87.2 s87.1).bind fun q110 => (bif q110.1 then ((iter (rules_all_1_L2 N y z0 s r1 s27 s87 q110) N ((W64 ((z0.length : Int) - 1)), s87.1, q110.2)).bind fun o => o.k (fun r => some (.ret r)) (fun s136 => (bif (decide (s136.1 < 0)) then some (.ret s136.2.2) else ((idx s136.2.1 s136.1).bind fun x235 => ((idx s136.2.1 s136.1).bind fun x247 => some (.next ((s136.2.1.set (s136.1 : Int).toNat ((W64 (x235 + 1)))), s136.2.2))))))) else some (.done (s87.1, q110.2))))
def rules_all_1 {σ : Type} (N : Nat) (y : σ → (List Int) → Option (Bool × σ)) (z0 : (List Span)) (s : σ) : Option σ :=
 ((mk0 0 (z0.length : Int)).bind fun r1 => ((iter (rules_all_1_L0 N y z0 s r1) N (0, r1, s)).bind fun o => o.k (fun r => some r) (fun s27 => ((iter (rules_all_1_L1 N y z0 s r1 s27) N (s27.2.1, s27.2.2)).bind fun o => o.k (fun r => some r) (fun s97 => some s97.2)))))
theorem co_rules_all_1 : CallOk Tryz.prog 172 := fun _ _ => by kernel_rfl
theorem c_rules_all_1 (N : Nat) (F0 : Mem) (z0 : (List Span)) (az0_0 : Option Addr) (nz0_0 : Nat) (hbz0_0 : LC z0.length nz0_0) (hsz0_0 : SlA tSpan F0 az0_0 z0) (bz0 : Nat) :
  SeqOkI Tryz.prog 172 [(pt bz0 0)] F0 [(sb bz0 #[(.slice az0_0 z0.length nz0_0)] 68)] enc121 ok121 px121 (fun {_} y s => rules_all_1 N y z0 s) := by
 intro σ wb w0 Fb F1 l y J s r Lf le01 hJm hs0 hJ hY h
 have hs0 : HS wb Fb w0 F1 ((sb bz0 #[(.slice az0_0 z0.length nz0_0)] 68) :: Lf) := hs0
 refine calls_of (n := 61) (c := bodyOf Tryz.f172) Tryz.func172 (by kernel_rfl) (by kernel_rfl) (by kernel_rfl) ?_
 refine Sq (Rg [0, 1, 2, 3] ?_)
 refine Ld hs0.at0 ?_
 refine Vs 1 ?_
 obtain ⟨r1, hm2, h3⟩ := bind_some h
 refine RWP.makeSlice (dst := (some 9)) (ty := 47) (g := none) (by kernel_rfl) rfl (x := (.tmp 8)) (y := (.tmp 8)) (t := 47) (by_ := 8) (z := (vi 0)) (T := tInt) (E := 3) rfl rfl (by kernel_rfl) (by decide) (by kernel_rfl) (z0 := 0) (fun _ => rfl) (by decide) hs0 hm2 (fun b4 n5 C6 w7 (hs8 : HS wb Fb w7 F1 ((some b4, .cells C6 3 (0, 0)) :: (sb bz0 #[(.slice az0_0 z0.length nz0_0)] 68) :: Lf)) hr9 => ?_)
 refine Vs 1 ?_
 refine Nss ?_
 refine Sq (Rg [0, 1, 2] ?_)
 refine Ld hs8.at1 ?_
 refine Vs 1 ?_
 refine Vs 1 ?_
 refine Nt ?_
 obtain ⟨o11, ho12, h13⟩ := bind_some h3
 refine CWP.cut (fun f w => ∃ (s27 : (Int × List Int × σ)) (F3 : Mem) (es27_1 : Option Nat × Obj) (Lf31 : Own), o11 = .done s27 ∧ HS wb Fb w F3 (es27_1 :: (sb bz0 #[(.slice az0_0 z0.length nz0_0)] 68) :: Lf31) ∧ Mem.le F1 F3 ∧ FI f [] [(0, (.func (.yield l) #[] #[])), (1, (pt bz0 0)), (3, (.slice (some ⟨b4, 0, none⟩) s27.2.1.length n5))] ∧ RowR tInt 3 F3 (some ⟨b4, 0, none⟩) n5 s27.2.1 es27_1 ∧ J s27.2.2 F3 Lf31) ?_ ?_
 ·refine Bk ?_
  refine CWP.loop (by kernel_rfl) (fun m f w => ∃ (s14 : (Int × List Int × σ)) (F2 : Mem) (es14_1 : Option Nat × Obj) (Lf18 : Own), iter (rules_all_1_L0 N y z0 s r1) m s14 = some o11 ∧ HS wb Fb w F2 (es14_1 :: (sb bz0 #[(.slice az0_0 z0.length nz0_0)] 68) :: Lf18) ∧ Mem.le F1 F2 ∧ FI f [] [(0, (.func (.yield l) #[] #[])), (1, (pt bz0 0)), (3, (.slice (some ⟨b4, 0, none⟩) s14.2.1.length n5)), (10, (.slice az0_0 z0.length nz0_0)), (11, (vi (z0.length : Int))), (12, (vi s14.1))] ∧ RowR tInt 3 F2 (some ⟨b4, 0, none⟩) n5 s14.2.1 es14_1 ∧ J s14.2.2 F2 Lf18) N ⟨(0, r1, s), F1, (some b4, .cells C6 3 (0, 0)), Lf, ho12, hs8, (Mem.le.refl _), fI, hr9, hJ⟩ ?_
  rintro m37 f w15 ⟨s14, F2, es14_1, Lf18, hit38, hs16, le17, ⟨_, rfl⟩, hrs14_1, hJ19⟩
  obtain ⟨m39, fl40, rfl, hb41, hnx42⟩ := iter_step hit38
  refine Sq (Rg [0] ?_)
  refine Vs 1 ?_
  refine Nss ?_
  refine Cd hb41 (fun hb43 h44 => ?_) (fun hb43 h45 => ?_)
  ·refine Sc ?_
   refine thenQ_nrm ?_
   refine Sq ?_
   refine Bk ?_
   refine Sq (Rg [0, 1, 2, 3, 4, 5] ?_)
   refine Vs 1 ?_
   obtain ⟨x46, hx47, h49⟩ := bind_some h44
   obtain ⟨hi48, hx47'⟩ := idx_spec hx47
   obtain ⟨b50, o51, C52, E53, fz54, rfl, hF56, hE57⟩ := SlA.open (SlA.mono hsz0_0 (le01.trans le17)) hx47'
   have hc59 := hE57 _ _ hx47'
   refine Ix hi48 ?_
   refine Lx 0 (hs16.pers _ _ hF56) hc59 ?_
   refine Al' 72 #[(vi 0), (vi 0)] hs16 (fun b60 w61 hs62 => ?_)
   refine Vs 1 ?_
   refine St0 #[(vi x46.Lo), (vi x46.Hi)] hs62 (fun w63 hs64 => ?_)
   refine Nt ?_
   refine Rg [0, 1, 2, 3, 4, 5] ?_
   refine Vs 1 ?_
   refine Vs 1 ?_
   refine Vs 1 ?_
   refine Ld hs64.at0 ?_
   obtain ⟨x65, hx66, h68⟩ := bind_some h49
   obtain ⟨hi67, hx66'⟩ := idx_spec hx66
   obtain ⟨b69, C70, ha71, rfl, hE73⟩ := RowR.open hrs14_1 hx66'
   cases ha71
   have hr74 := hrs14_1
   have hc76 := hE73 _ _ hx66'
   refine Ix0 hi67 ?_
   refine RWP.storeRow (ty := 0) (g := none) (by kernel_rfl) rfl (x := (.tmp 21)) (y := (.tmp 20)) (t := 3) (v := (vi x46.Lo)) (gg := false) (b := b4) (j := (s14.1 : Int).toNat) (C := C70) (T := tInt) (E := 3) (u := (x46.Lo)) rfl rfl (by kernel_rfl) hs64 (k := 1) rfl hr74 hx66' rfl rfl (fun C77 w78 (hs79 : HS wb Fb w78 F2 ((sb b60 #[(vi x46.Lo), (vi x46.Hi)] 72) :: (some b4, .cells C77 3 (0, 0)) :: (sb bz0 #[(.slice (some ⟨b50, o51, none⟩) z0.length nz0_0)] 68) :: Lf18)) hr80 => ?_)
   refine RWP.nil ?_
   refine blockQ_nrm ?_
   refine thenQ_nrm ?_
   refine Rg [0, 1] ?_
   refine Vs 1 ?_
   refine Vs 1 ?_
   refine RWP.nil ?_
   have hn81 := iter_next h68 hnx42
   exact ⟨m39, Nat.lt_succ_self _, ((W64 (s14.1 + 1)), (s14.2.1.set (s14.1 : Int).toNat (x46.Lo)), s14.2.2), F2, (some b4, .cells C77 3 (0, 0)), Lf18, hn81, hs79.dr0, le17, (fJ ⟨rfl, rfl, (len_set rfl), rfl, rfl, rfl, trivial⟩), hr80, hJ19⟩
  ·refine Ex ?_
   refine thenQ_ex ?_
   refine thenQ_ex ?_
   refine blockQ_hit rfl ?_
   have ho82 := iter_done h45 hnx42
   exact .inl ⟨rfl, (s14.1, s14.2.1, s14.2.2), F2, es14_1, Lf18, ho82, hs16, le17, fI, hrs14_1, hJ19⟩
 ·rintro f w28 ⟨s27, F3, es27_1, Lf31, rfl, hs29, le30, ⟨_, rfl⟩, hrs27_1, hJ32⟩
  have h83 := k_done h13
  refine thenQ_nrm ?_
  obtain ⟨o84, ho85, h86⟩ := bind_some h83
  refine CWP.cut (fun f w => ∃ (s97 : (List Int × σ)) (F5 : Mem) (Lf101 : Own), o84 = .done s97 ∧ HS wb Fb w F5 Lf101 ∧ Mem.le F3 F5 ∧ FI f [] [] ∧ J s97.2 F5 Lf101) ?_ ?_
  ·refine Bk ?_
   refine CWP.loop (by kernel_rfl) (fun m f w => ∃ (s87 : (List Int × σ)) (F4 : Mem) (es87_0 : Option Nat × Obj) (Lf91 : Own), iter (rules_all_1_L1 N y z0 s r1 s27) m s87 = some o84 ∧ HS wb Fb w F4 (es87_0 :: (sb bz0 #[(.slice az0_0 z0.length nz0_0)] 68) :: Lf91) ∧ Mem.le F3 F4 ∧ FI f [] [(0, (.func (.yield l) #[] #[])), (1, (pt bz0 0)), (3, (.slice (some ⟨b4, 0, none⟩) s87.1.length n5))] ∧ RowR tInt 3 F4 (some ⟨b4, 0, none⟩) n5 s87.1 es87_0 ∧ J s87.2 F4 Lf91) N ⟨(s27.2.1, s27.2.2), F3, es27_1, Lf31, ho85, hs29, (Mem.le.refl _), fI, hrs27_1, hJ32⟩ ?_
   rintro m104 f w88 ⟨s87, F4, es87_0, Lf91, hit105, hs89, le90, ⟨_, rfl⟩, hrs87_0, hJ92⟩
   obtain ⟨m106, fl107, rfl, hb108, hnx109⟩ := iter_step hit105
   refine Sq ?_
   refine Sq (Rg [0, 1, 2] ?_)
   refine Vs 1 ?_
   refine Vs 1 ?_
   obtain ⟨q110, hq111, h112⟩ := bind_some hb108
   refine RWP.yield (dst := (some 25)) (ty := 4) (g := none) (by kernel_rfl) rfl (f0 := (.tmp 23)) (aos := #[(.tmp 24)]) (ats := #[47]) (l := l) (args := [(.slice (some ⟨b4, 0, none⟩) s87.1.length n5)]) rfl (rfl) (YOk.lent hY hJm s87.2 (s87.1, (some ⟨b4, 0, none⟩), n5) w88 F4 [(sb bz0 #[(.slice az0_0 z0.length nz0_0)] 68)] Lf91 q110 (le30.trans le90) hrs87_0 (fun _ h1 h2 => ⟨h1, h2⟩) hJ92 hs89 hq111) ?_
   rintro _ w113 ⟨F6, Lf117, rfl, hs114, le115, hJ116⟩
   have hs118 : HS wb Fb w113 F6 (es87_0 :: (sb bz0 #[(.slice az0_0 z0.length nz0_0)] 68) :: Lf117) := hs114
   refine ⟨_, rfl, ?_⟩
   refine Nt ?_
   refine Cd h112 (fun hb119 h120 => ?_) (fun hb119 h121 => ?_)
   ·refine Sc ?_
    refine thenQ_nrm ?_
    refine Bk ?_
    refine Sq (Rg [0, 1, 2, 3] ?_)
    refine Ld hs118.at1 ?_
    refine Vs 1 ?_
    refine Vs 1 ?_
    refine Vs 1 ?_
    refine Nss ?_
    obtain ⟨o122, ho123, h124⟩ := bind_some h120
    refine CWP.cut (fun f w => ∃ (s136 : (Int × List Int × σ)) (F8 : Mem) (es136_1 : Option Nat × Obj) (Lf140 : Own), o122 = .done s136 ∧ HS wb Fb w F8 (es136_1 :: (sb bz0 #[(.slice az0_0 z0.length nz0_0)] 68) :: Lf140) ∧ Mem.le F6 F8 ∧ FI f [] [(0, (.func (.yield l) #[] #[])), (1, (pt bz0 0)), (3, (.slice (some ⟨b4, 0, none⟩) s136.2.1.length n5)), (6, (vi s136.1))] ∧ RowR tInt 3 F8 (some ⟨b4, 0, none⟩) n5 s136.2.1 es136_1 ∧ J s136.2.2 F8 Lf140) ?_ ?_
    ·refine Bk ?_
     refine CWP.loop (by kernel_rfl) (fun m f w => ∃ (s125 : (Int × List Int × σ)) (F7 : Mem) (es125_1 : Option Nat × Obj) (Lf129 : Own), iter (rules_all_1_L2 N y z0 s r1 s27 s87 q110) m s125 = some o122 ∧ HS wb Fb w F7 (es125_1 :: (sb bz0 #[(.slice az0_0 z0.length nz0_0)] 68) :: Lf129) ∧ Mem.le F6 F7 ∧ FI f [] [(0, (.func (.yield l) #[] #[])), (1, (pt bz0 0)), (3, (.slice (some ⟨b4, 0, none⟩) s125.2.1.length n5)), (6, (vi s125.1))] ∧ RowR tInt 3 F7 (some ⟨b4, 0, none⟩) n5 s125.2.1 es125_1 ∧ J s125.2.2 F7 Lf129) N ⟨((W64 ((z0.length : Int) - 1)), s87.1, q110.2), F6, es87_0, Lf117, ho123, hs118, (Mem.le.refl _), fI, (hrs87_0.mono le115), hJ116⟩ ?_
     rintro m147 f w126 ⟨s125, F7, es125_1, Lf129, hit148, hs127, le128, ⟨_, rfl⟩, hrs125_1, hJ130⟩
     obtain ⟨m149, fl150, rfl, hb151, hnx152⟩ := iter_step hit148
     refine Sq ?_
     refine Sq ?_
     obtain ⟨j158, hj165, h166⟩ := bind_some hb151
     refine RD 14 14 [es125_1, (sb bz0 #[(.slice az0_0 z0.length nz0_0)] 68)] [] hs127 (fun f w => ∃ (F9 : Mem), HS wb Fb w F9 (es125_1 :: (sb bz0 #[(.slice az0_0 z0.length nz0_0)] 68) :: Lf129) ∧ Mem.le F7 F9 ∧ FI f [] [(0, (.func (.yield l) #[] #[])), (1, (pt bz0 0)), (3, (.slice (some ⟨b4, 0, none⟩) s125.2.1.length n5)), (6, (vi s125.1)), (42, (.bool j158))]) (fun wd153 hw154 => ?_) ?_
     ·refine Dv [0] ?_
      refine Dv [1] ?_
      refine Dv [2] ?_
      refine Sd hj165 (fun hb167 h168 => ?_) (fun hb167 h169 => ?_)
      ·refine Dg 3 32 47 _ 2 true 31 hb167 (fun _ hq => mv 3 (.slice (some ⟨b4, 0, none⟩) s125.2.1.length n5)) ?_
       refine Dg 4 33 3 _ 2 true 31 hb167 (fun _ hq => mv 6 (vi s125.1)) ?_
       obtain ⟨x170, hx171, h173⟩ := bind_some h168
       obtain ⟨hi172, hx171'⟩ := idx_spec hx171
       obtain ⟨b174, C175, ha176, rfl, hE178⟩ := RowR.open hrs125_1 hx171'
       cases ha176
       have hr179 := hrs125_1
       have hc181 := hE178 _ _ hx171'
       refine Dg 5 34 0 (.pointer (some ⟨b4, ((s125.1 : Int).toNat * 1), none⟩)) 2 true 31 hb167 (fun _ hq => run_index0 (t := 47) (x := (.tmp 32)) (y := (.tmp 33)) (b := b4) (E := 3) (s := 1) (by_ := 8) rfl rfl (by kernel_rfl) hi172) ?_
       refine Dg 6 35 3 _ 2 true 31 hb167 (fun _ hq => lx 3 34 0 1 false 1 (vi x170) (hq.1.2 0 _ _ rfl) hc181) ?_
       refine Dg 7 36 68 _ 2 true 31 hb167 (fun _ hq => ld 68 1 bz0 0 false 1 (.slice az0_0 z0.length nz0_0) (hq.1.2 1 _ _ rfl)) ?_
       refine Dg 8 37 3 _ 2 true 31 hb167 (fun _ hq => mv 6 (vi s125.1)) ?_
       obtain ⟨x182, hx183, h185⟩ := bind_some h173
       obtain ⟨hi184, hx183'⟩ := idx_spec hx183
       obtain ⟨b186, o187, C188, E189, fz190, rfl, hF192, hE193⟩ := SlA.open (SlA.mono hsz0_0 ((((le01.trans le30).trans le90).trans le115).trans le128)) hx183'
       have hc195 := hE193 _ _ hx183'
       refine Dg 9 38 0 (.pointer (some ⟨b186, (o187 + (s125.1 : Int).toNat * 2), none⟩)) 2 true 31 hb167 (fun _ hq => ix 68 36 37 b186 o187 72 2 16 hi184) ?_
       refine Dg 10 39 0 (.pointer (some ⟨b186, ((o187 + (s125.1 : Int).toNat * 2) + 1), none⟩)) 2 true 31 hb167 (fun _ hq => fa 72 38 1 1 1 b186 (o187 + (s125.1 : Int).toNat * 2) ((o187 + (s125.1 : Int).toNat * 2) + 1)) ?_
       refine Dg 11 40 3 _ 2 true 31 hb167 (fun _ hq => lx 3 39 1 2 false 1 (vi x182.Hi) (hq.1.1 _ _ hF192) hc195) ?_
       refine Dg 12 41 4 (.bool (x170 == x182.Hi)) 2 true 31 hb167 (fun _ hq => run_eql (t := 3) (t' := 3) (x := (.tmp 35)) (y := (.tmp 40)) (k := .i64) (a := x170) (b := x182.Hi) rfl rfl) ?_
       refine Dt 13 42 4 _ (fun _ hq => p1 31 (.tmp 41) (.const (.bool false)) (.bool (x170 == x182.Hi)) hb167) ?_
       obtain rfl := some_inj h185
       exact DWP.done (by kernel_rfl) ⟨F7, hw154, (Mem.le.refl _), fI⟩
      ·refine Dk [(3, 32), (4, 33), (5, 34), (6, 35), (7, 36), (8, 37), (9, 38), (10, 39), (11, 40), (12, 41)] 2 true 31 hb167 ?_
       refine Dt 13 42 4 _ (fun _ hq => p0 31 (.tmp 41) (.const (.bool false)) (.bool false) hb167) ?_
       obtain rfl := some_inj h169
       exact DWP.done (by kernel_rfl) ⟨F7, hw154, (Mem.le.refl _), fI⟩
     ·rintro f w155 ⟨F9, hs156, le157, ⟨_, rfl⟩⟩
      refine thenQ_nrm ?_
      refine Cd h166 (fun hb196 h197 => ?_) (fun hb196 h198 => ?_)
      ·refine Sc ?_
       refine thenQ_nrm ?_
       refine Sq ?_
       refine Bk ?_
       refine Rg [0, 1, 2, 3, 4, 5, 6, 7, 8] ?_
       refine Vs 1 ?_
       refine Vs 1 ?_
       refine Ld hs156.at1 ?_
       refine Vs 1 ?_
       obtain ⟨x199, hx200, h202⟩ := bind_some h197
       obtain ⟨hi201, hx200'⟩ := idx_spec hx200
       obtain ⟨b203, o204, C205, E206, fz207, rfl, hF209, hE210⟩ := SlA.open (SlA.mono hsz0_0 (((((le01.trans le30).trans le90).trans le115).trans le128).trans le157)) hx200'
       have hc212 := hE210 _ _ hx200'
       refine Ix hi201 ?_
       refine Vs 1 ?_
       refine Lx 0 (hs156.pers _ _ hF209) hc212 ?_
       obtain ⟨x213, hx214, h216⟩ := bind_some h202
       obtain ⟨hi215, hx214'⟩ := idx_spec hx214
       obtain ⟨b217, C218, ha219, rfl, hE221⟩ := RowR.open (hrs125_1.mono le157) hx214'
       cases ha219
       have hr222 := (hrs125_1.mono le157)
       have hc224 := hE221 _ _ hx214'
       refine Ix0 hi215 ?_
       refine RWP.storeRow (ty := 0) (g := none) (by kernel_rfl) rfl (x := (.tmp 52)) (y := (.tmp 51)) (t := 3) (v := (vi x199.Lo)) (gg := false) (b := b4) (j := (s125.1 : Int).toNat) (C := C218) (T := tInt) (E := 3) (u := (x199.Lo)) rfl rfl (by kernel_rfl) hs156 (k := 0) rfl hr222 hx214' rfl rfl (fun C225 w226 (hs227 : HS wb Fb w226 F9 ((some b4, .cells C225 3 (0, 0)) :: (sb bz0 #[(.slice (some ⟨b203, o204, none⟩) z0.length nz0_0)] 68) :: Lf129)) hr228 => ?_)
       refine RWP.nil ?_
       refine blockQ_nrm ?_
       refine thenQ_nrm ?_
       refine Rg [0, 1, 2] ?_
       refine Vs 1 ?_
       refine Vs 1 ?_
       refine Vs 1 ?_
       refine RWP.nil ?_
       have hn229 := iter_next h216 hnx152
       exact ⟨m149, Nat.lt_succ_self _, ((W64 (s125.1 - 1)), (s125.2.1.set (s125.1 : Int).toNat (x199.Lo)), s125.2.2), F9, (some b4, .cells C225 3 (0, 0)), Lf129, hn229, hs227, (le128.trans le157), (fJ ⟨rfl, rfl, (len_set rfl), rfl, trivial⟩), hr228, (hJm _ _ _ _ hJ130)⟩
      ·refine Ex ?_
       refine thenQ_ex ?_
       refine thenQ_ex ?_
       refine blockQ_hit rfl ?_
       have ho230 := iter_done h198 hnx152
       exact .inl ⟨rfl, (s125.1, s125.2.1, s125.2.2), F9, es125_1, Lf129, ho230, hs156, (le128.trans le157), fI, (hrs125_1.mono le157), (hJm _ _ _ _ hJ130)⟩
    ·rintro f w137 ⟨s136, F8, es136_1, Lf140, rfl, hs138, le139, ⟨_, rfl⟩, hrs136_1, hJ141⟩
     have h231 := k_done h124
     refine thenQ_nrm ?_
     refine Sq ?_
     refine Sq (Rg [0, 1] ?_)
     refine Vs 1 ?_
     refine Vs 1 ?_
     refine Nt ?_
     refine Cd h231 (fun hb232 h233 => ?_) (fun hb232 h234 => ?_)
     ·refine Rt ?_
      refine thenQ_ret ?_
      refine blockQ_ret ?_
      refine thenQ_ret ?_
      refine blockQ_ret ?_
      have hret := iter_ret h233 hnx109
      subst hret
      refine .inr ?_
      have hfin := some_inj h86
      subst hfin
      exact ⟨rfl, .tuple #[], res_of (l := []) (by kernel_rfl) (vs := []) trivial, F8, Lf140, rfl, hs138.dr0.dr0, (((le30.trans le90).trans le115).trans le139), hJ141⟩
     ·refine Sc ?_
      refine thenQ_nrm ?_
      refine Rg [0, 1, 2, 3, 4, 5, 6] ?_
      refine Vs 1 ?_
      refine Vs 1 ?_
      obtain ⟨x235, hx236, h238⟩ := bind_some h234
      obtain ⟨hi237, hx236'⟩ := idx_spec hx236
      obtain ⟨b239, C240, ha241, rfl, hE243⟩ := RowR.open hrs136_1 hx236'
      cases ha241
      have hr244 := hrs136_1
      have hc246 := hE243 _ _ hx236'
      refine Ix0 hi237 ?_
      refine Lx 0 hs138.at0 hc246 ?_
      refine Vs 1 ?_
      obtain ⟨x247, hx248, h250⟩ := bind_some h238
      obtain ⟨hi249, hx248'⟩ := idx_spec hx248
      obtain ⟨b251, C252, ha253, he254, hE255⟩ := RowR.open hr244 hx248'
      cases ha253
      cases he254
      have hc257 := hE255 _ _ hx248'
      refine Ix0 hi249 ?_
      refine RWP.storeRow (ty := 0) (g := none) (by kernel_rfl) rfl (x := (.tmp 60)) (y := (.tmp 59)) (t := 3) (v := (vi (W64 (x235 + 1)))) (gg := false) (b := b4) (j := (s136.1 : Int).toNat) (C := C240) (T := tInt) (E := 3) (u := ((W64 (x235 + 1)))) rfl rfl (by kernel_rfl) hs138 (k := 0) rfl hr244 hx248' rfl rfl (fun C258 w259 (hs260 : HS wb Fb w259 F8 ((some b4, .cells C258 3 (0, 0)) :: (sb bz0 #[(.slice az0_0 z0.length nz0_0)] 68) :: Lf140)) hr261 => ?_)
      refine RWP.nil ?_
      refine blockQ_nrm ?_
      have hn262 := iter_next h250 hnx109
      exact ⟨m106, Nat.lt_succ_self _, ((s136.2.1.set (s136.1 : Int).toNat ((W64 (x235 + 1)))), s136.2.2), F8, (some b4, .cells C258 3 (0, 0)), Lf140, hn262, hs260, ((le90.trans le115).trans le139), (fJ ⟨rfl, rfl, (len_set rfl), trivial⟩), hr261, hJ141⟩
   ·refine Ex ?_
    refine thenQ_ex ?_
    refine thenQ_ex ?_
    refine blockQ_hit rfl ?_
    have ho263 := iter_done h121 hnx109
    exact .inl ⟨rfl, (s87.1, q110.2), F6, Lf117, ho263, hs118.dr0.dr0, (le90.trans le115), fI, hJ116⟩
  ·rintro f w98 ⟨s97, F5, Lf101, rfl, hs99, le100, ⟨_, rfl⟩, hJ102⟩
   have h264 := k_done h86
   have hfin := some_inj h264
   subst hfin
   exact ⟨rfl, .tuple #[], res_of (l := []) (by kernel_rfl) (vs := []) trivial, F5, Lf101, rfl, hs99, (le30.trans le100), hJ102⟩
end Go.Proofs.YtaihlcdkcampbaaGreatDoor
namespace Go.Proofs.YtaihlcdkcampbaaGreatDoor
open Go.Proofs
def findY (N : Nat) (x1 : List Int → Option Bool) : Option (List Int) → List Int → Option (Bool × Option (List Int)) := fun st x => match st with
 | some _ => none
 | none => (x1 x).bind fun b => bif b then (slices_Clone_int_int N x).bind fun c => some (false, some c) else some (true, none)
def rules_find (N : Nat) (x0 : List Span) (x1 : List Int → Option Bool) : Option (List Int × Int) :=
 (rules_all_1 N (findY N x1) x0 none).bind fun o => match o with | some c => some (c, 0) | none => some ([], 3)
theorem co_rules_find : CallOk Tryz.prog 115 := fun _ _ => by kernel_rfl
theorem c_rules_find (N : Nat) (w0 : World) (F0 : Mem) (hF : ∀ b o, F0 b = some o → w0.heap[b]? = some o) (x0 : (List Span)) (a0_0 : Option Addr) (n0_0 : Nat) (hb0_0 : LC x0.length n0_0) (hs0_0 : SlA tSpan F0 a0_0 x0) (gx1 : FuncId) (fx1 kx1 : List Value) (x1 : (List Int) → Option Bool) (hox1 : CallOk Tryz.prog gx1) (hpx1 : Fn121 F0 gx1 fx1 kx1 x1) (r : ((List Int) × Int)) (h : rules_find N x0 x1 = some r) :
  Calls Tryz.prog 115 ([(.slice a0_0 x0.length n0_0), (.func (.func gx1) fx1.toArray kx1.toArray)] : List Value).toArray w0 (FRet w0 F0 fun F' v => ∃ (aq0_0 : Option Addr) (nq0_0 : Nat), v = (.tuple #[(.slice aq0_0 r.1.length nq0_0), (.int .i64 r.2)]) ∧ LC r.1.length nq0_0 ∧ SlA tInt F' aq0_0 r.1) := by
 have hs0 := HS.start hF
 refine calls_ofM (n := 15) (c := bodyOf Tryz.f115) Tryz.func115 (by kernel_rfl) (by kernel_rfl) (by kernel_rfl) ?_
 refine Sq (Rg [0, 1, 2] ?_)
 refine Bx' 121 #[.func (.func gx1) fx1.toArray kx1.toArray] hs0 (fun b3 w1 hs1 => ?_)
 refine Al' 47 #[.slice none 0 0] hs1 (fun b4 w2 hs2 => ?_)
 refine Al' 27 #[.int .i64 0] hs2 (fun b5 w3 hs3 => ?_)
 refine Nt ?_
 refine Sq ?_
 refine Sq (Rg [0, 1] ?_)
 refine Vs 1 ?_
 refine RWP.callO (dst := (some 8)) (ty := 143) (g := none) (by kernel_rfl) rfl (f0 := (.func 118)) (aos := #[(.tmp 7)]) (ats := #[68]) (fid := 118) (first := #[]) (cap := #[]) (args := [(.slice a0_0 x0.length n0_0)]) rfl co_rules_all (rfl) hs3 (c_rules_all w3 F0 hs3.pers (x0) a0_0 n0_0 hb0_0 hs0_0) ?_
 rintro _ F1 w4 _ hs4 le1 ⟨b0, rfl, rfl⟩
 refine Nt ?_
 refine CWP.block (by kernel_rfl) ?_
 obtain ⟨o, ho, h5⟩ := bind_some h
 obtain ⟨J, hJd⟩ : ∃ J : Option (List Int) → Mem → Own → Prop, J = fun s F Lq => match s with
  | none => Lq = [sb b5 #[vi 0] 27, sb b4 #[.slice none 0 0] 47, sb b3 #[.func (.func gx1) fx1.toArray kx1.toArray] 121]
  | some c => ∃ (a : Option Addr) (n : Nat) (e : Option Nat × Obj), Lq = [sb b5 #[vi 0] 27, sb b4 #[.slice a c.length n] 47, sb b3 #[.func (.func gx1) fx1.toArray kx1.toArray] 121, e] ∧ RowR tInt 3 F a n c e := ⟨_, rfl⟩
 refine CWP.rangeFuncI3 (enc := enc121) (ok := ok121) (px := px121) (m := fun {_} y s => rules_all_1 N y x0 s) (jc := .ret) (je := .ret) (B := [(some b0, (.cells #[(.slice a0_0 x0.length n0_0)] 68 (0, 0)))]) (L := [sb b5 #[vi 0] 27, sb b4 #[.slice none 0 0] 47, sb b3 #[.func (.func gx1) fx1.toArray kx1.toArray] 121]) (ps := [9]) (by kernel_rfl) (gf := 172) (cap := [(.pointer (some ⟨b0, 0, none⟩))]) (.inl ⟨rfl, rfl⟩) rfl co_rules_all_1 rfl (by kernel_rfl) (by kernel_rfl) (by rintro ⟨_, _, _⟩; rfl) hs4 (c_rules_all_1 N F1 x0 a0_0 n0_0 hb0_0 (SlA.mono hs0_0 le1) b0)
  (findY N x1) (fun s => s.isNone) J (fun s F F' L hj => ?_) (s := none) (r := o) ?_ rfl ho (fun s x q hq => ?_) ?_ ?_ ?_
 ·subst hJd
  cases s with
  | none => exact hj
  | some c => exact hj
 ·subst hJd; rfl
 ·cases s with
  | some c => cases hq
  | none =>
   refine ⟨rfl, ?_⟩
   obtain ⟨b, hb, h6⟩ := bind_some hq
   cases b with
   | true =>
    obtain ⟨c, hc, h7⟩ := bind_some h6
    cases h7; rfl
   | false => cases h6; rfl
 ·rintro l s ⟨y, ay, ny⟩ w' F' Lf Rf q le2 ⟨hby, hsy⟩ hJ hs5 hq
  cases s with
  | some c => cases hq
  | none =>
   subst hJd
   cases hJ
   obtain ⟨b, hb, h6⟩ := bind_some hq
   refine Rg [0] ?_
   refine Vs 1 ?_
   refine RWP.nil ?_
   refine ⟨rfl, F', [sb b5 #[vi 0] 27, sb b4 #[.slice none 0 0] 47, sb b3 #[.func (.func gx1) fx1.toArray kx1.toArray] 121], hs5, fun w5 Rg' hs6 => ?_⟩
   have hs6' : HS w0 F0 w5 F' (sb b5 #[vi 0] 27 :: sb b4 #[.slice none 0 0] 47 :: sb b3 #[.func (.func gx1) fx1.toArray kx1.toArray] 121 :: Rg') := hs6
   refine CWP.block (by kernel_rfl) ?_
   refine Sq (Rg [0, 1, 2] ?_)
   refine Ld hs6'.at2 ?_
   refine Vs 1 ?_
   refine Cq hox1 hs6' (hpx1 w5 F' y ay ny hby hsy _ (le1.trans le2) hs6'.pers hb) ?_
   rintro _ F2 w6 hs7 le3 rfl
   refine Nt ?_
   refine Cd h6 (fun hb' h7 => ?_) (fun hb' h7 => ?_)
   ·obtain ⟨c, hc, h8⟩ := bind_some h7
    obtain rfl := some_inj h8
    refine Sq (Rg [0, 1, 2, 3] ?_)
    refine Vs 1 ?_
    refine RWP.callO (dst := (some 14)) (ty := 47) (g := none) (by kernel_rfl) rfl (f0 := (.func 169)) (aos := #[(.tmp 13)]) (ats := #[47]) (fid := 169) (first := #[]) (cap := #[]) (args := [(.slice ay y.length ny)]) rfl co_slices_Clone_int_int (rfl) hs7 (c_slices_Clone_int_int N w6 F2 hs7.pers y ay ny hby (SlA.mono hsy le3) _ hc) ?_
    rintro _ F3 w7 _ hs8 le4 ⟨a1, n1, e1, rfl, rfl, hr1⟩
    have hs8' : HS w0 F0 w7 F3 (e1 :: sb b5 #[vi 0] 27 :: sb b4 #[.slice none 0 0] 47 :: sb b3 #[.func (.func gx1) fx1.toArray kx1.toArray] 121 :: Rg') := hs8
    refine St2 #[.slice a1 c.length n1] hs8' (fun w8 hs9 => ?_)
    refine St1 #[.int .i64 0] hs9 (fun w9 hs10 => ?_)
    refine Nt ?_
    refine Rt ?_
    refine blockQ_ret ?_
    refine ⟨.inr ⟨rfl, rfl⟩, F3, [sb b5 #[vi 0] 27, sb b4 #[.slice a1 c.length n1] 47, sb b3 #[.func (.func gx1) fx1.toArray kx1.toArray] 121, e1], hs10.pm [1, 2, 3, 0], le3.trans le4, a1, n1, e1, rfl, hr1⟩
   ·obtain rfl := some_inj h7
    refine Sc ?_
    refine blockQ_nrm ?_
    exact ⟨.inl ⟨rfl, rfl⟩, F2, [sb b5 #[vi 0] 27, sb b4 #[.slice none 0 0] 47, sb b3 #[.func (.func gx1) fx1.toArray kx1.toArray] 121], hs7, le3, rfl⟩
 ·rintro D w' F' Lf hgo hs5 le2 hJ
  cases o with
  | some c => cases hgo
  | none =>
   subst hJd
   cases hJ
   obtain rfl := some_inj h5
   refine blockQ_nrm ?_
   refine thenQ_nrm ?_
   refine Sq (Rg [0, 1] ?_)
   refine St2 #[.slice none 0 0] hs5 (fun w8 hs9 => ?_)
   refine St1 #[.int .i64 3] hs9 (fun w9 hs10 => ?_)
   refine Nt ?_
   refine Rt ?_
   have hs11 := hs10.put (k := 0) rfl (.deferred none)
   have hs12 : HS w0 F0 (putB w9 D (.deferred none)) F' [sb b5 #[.int .i64 3] 27, sb b4 #[.slice none 0 0] 47, sb b3 #[.func (.func gx1) fx1.toArray kx1.toArray] 121] := hs11.drop 0
   exact .inr ⟨D, rfl, hs10.ownAt (k := 0) rfl, _, res_of (l := [.cell 4 47, .cell 5 27]) (by kernel_rfl) (vs := [.slice none 0 0, .int .i64 3]) ⟨b4, 0, by kernel_rfl, run_loadVar' (t := 47) (g := false) (s := 1) (by kernel_rfl) hs12.at1 rfl (by decide), b5, 0, by kernel_rfl, run_loadVar' (t := 27) (g := false) (s := 1) (by kernel_rfl) hs12.at0 rfl (by decide), trivial⟩, _, F', rfl, hs12.clear, none, 0, rfl, LC.nil (α := Int), .inl rfl⟩
 ·rintro D w' F' Lf hgo hs5 le2 hJ
  cases o with
  | none => cases hgo
  | some c =>
   subst hJd
   obtain ⟨a1, n1, e1, rfl, hr1⟩ := hJ
   obtain rfl := some_inj h5
   refine blockQ_ret ?_
   refine thenQ_ret ?_
   have hs11 := hs5.put (k := 0) rfl (.deferred none)
   have hs12 : HS w0 F0 (putB w' D (.deferred none)) F' [sb b5 #[vi 0] 27, sb b4 #[.slice a1 c.length n1] 47, sb b3 #[.func (.func gx1) fx1.toArray kx1.toArray] 121, e1] := hs11.drop 0
   obtain ⟨F2, hs13, le3, hsl⟩ := hs12.fr3 hr1
   exact .inr ⟨D, rfl, hs5.ownAt (k := 0) rfl, _, res_of (l := [.cell 4 47, .cell 5 27]) (by kernel_rfl) (vs := [.slice a1 c.length n1, .int .i64 0]) ⟨b4, 0, by kernel_rfl, run_loadVar' (t := 47) (g := false) (s := 1) (by kernel_rfl) hs13.at1 rfl (by decide), b5, 0, by kernel_rfl, run_loadVar' (t := 27) (g := false) (s := 1) (by kernel_rfl) hs13.at0 rfl (by decide), trivial⟩, _, F2, rfl, hs13.clear, a1, n1, rfl, hr1.bound, hsl⟩
end Go.Proofs.YtaihlcdkcampbaaGreatDoor
namespace Go.Proofs.YtaihlcdkcampbaaGreatDoor
open Go.Proofs
def ref06_Domains_L0 (N : Nat) (x0 : (List Span)) : (Int × Int) → Option (Flow Bool (Int × Int)) := fun s27 =>
 (bif (decide (s27.2 < (x0.length : Int))) then (((idx x0 s27.2).bind fun x62 => (bif (decide (x62.Lo < 0)) then some true else ((idx x0 s27.2).bind fun x79 => ((idx x0 s27.2).bind fun x85 => (bif (decide (x79.Hi < x85.Lo)) then some true else ((idx x0 s27.2).bind fun x94 => some (decide (x94.Hi > 1000000)))))))).bind fun j54 => (bif j54 then some (.ret false) else (((idx x0 s27.2).bind fun x115 => ((idx x0 s27.2).bind fun x129 => some (W64 (s27.1 * (W64 ((W64 (x115.Hi - x129.Lo)) + 1)))))).bind fun j108 => (bif (decide (j108 > 4096)) then some (.ret false) else some (.next (j108, (W64 (s27.2 + 1)))))))) else some (.done (s27.1, s27.2)))
def ref06_Domains (N : Nat) (x0 : (List Span)) : Option Bool :=
 (bif ((x0.length : Int) != 14) then some false else ((iter (ref06_Domains_L0 N x0) N (1, 0)).bind fun o => o.k (fun r => some r) (fun s35 => some true)))
theorem co_ref06_Domains : CallOk Tryz.prog 112 := fun _ _ => by kernel_rfl
theorem c_ref06_Domains (N : Nat) (w0 : World) (F0 : Mem) (hF : ∀ b o, F0 b = some o → w0.heap[b]? = some o) (x0 : (List Span)) (a0_0 : Option Addr) (n0_0 : Nat) (hb0_0 : LC x0.length n0_0) (hs0_0 : SlA tSpan F0 a0_0 x0) (r : Bool) (h : ref06_Domains N x0 = some r) :
  Calls Tryz.prog 112 ([(.slice a0_0 x0.length n0_0)] : List Value).toArray w0 (FRet w0 F0 fun F' v => v = (.bool r)) := by
 have hs0 := HS.start hF
 refine Go 57 Tryz.func112 ?_
 refine Sq (Rg [0] ?_)
 refine Vs 1 ?_
 refine Nss ?_
 refine Sq (Rg [0, 1, 2] ?_)
 refine Vs 3 ?_
 refine Nt ?_
 refine Cd h (fun hb21 h22 => ?_) (fun hb21 h23 => ?_)
 ·refine Sq (Rg [0] ?_)
  refine Vs 1 ?_
  refine Nt ?_
  refine Rt ?_
  refine thenQ_ret ?_
  obtain rfl := some_inj h22
  exact Re [(.bool false)] hs0 rfl
 ·refine Sc ?_
  refine thenQ_nrm ?_
  refine Sq (Rg [0] ?_)
  refine Vs 1 ?_
  refine Nss ?_
  refine Sq (Rg [0] ?_)
  refine Vs 1 ?_
  refine Nt ?_
  obtain ⟨o24, ho25, h26⟩ := bind_some h23
  refine CWP.cut (fun f w => ∃ (s35 : (Int × Int)) (F2 : Mem), o24 = .done s35 ∧ HS w0 F0 w F2 [] ∧ Mem.le F0 F2 ∧ FI f [] []) ?_ ?_
  ·refine Bk ?_
   refine CWP.loop (by kernel_rfl) (fun m f w => ∃ (s27 : (Int × Int)) (F1 : Mem), iter (ref06_Domains_L0 N x0) m s27 = some o24 ∧ HS w0 F0 w F1 [] ∧ Mem.le F0 F1 ∧ FI f [] [(0, (.slice a0_0 x0.length n0_0)), (3, (vi s27.1)), (4, (vi s27.2))]) N ⟨(1, 0), F0, ho25, hs0, (Mem.le.refl _), fI⟩ ?_
   rintro m40 f w28 ⟨s27, F1, hit41, hs29, le30, ⟨_, rfl⟩⟩
   obtain ⟨m42, fl43, rfl, hb44, hnx45⟩ := iter_step hit41
   refine Sq ?_
   refine Sq (Rg [0, 1, 2, 3] ?_)
   refine Vs 4 ?_
   refine Nt ?_
   refine Cd hb44 (fun hb46 h47 => ?_) (fun hb46 h48 => ?_)
   ·refine Sc ?_
    refine thenQ_nrm ?_
    refine Sq ?_
    refine Bk ?_
    refine Sq ?_
    refine Sq ?_
    obtain ⟨j54, hj60, h61⟩ := bind_some h47
    refine RD 27 27 [] [] hs29 (fun f w => ∃ (F3 : Mem), HS w0 F0 w F3 [] ∧ Mem.le F1 F3 ∧ FI f [] [(0, (.slice a0_0 x0.length n0_0)), (3, (vi s27.1)), (4, (vi s27.2)), (40, (.bool j54))]) (fun wd49 hw50 => ?_) ?_
    ·refine Dvl [0, 1] [tt, tt, ff, ff, ff, ff, ff, ff, ff, ff, ff, ff, ff, ff, ff, ff, ff, ff, ff, ff, ff, ff, ff, ff, ff, ff, ff] ?_
     obtain ⟨x62, hx63, h65⟩ := bind_some hj60
     obtain ⟨hi64, hx63'⟩ := idx_spec hx63
     obtain ⟨b66, o67, C68, E69, fz70, rfl, hF72, hE73⟩ := SlA.open (SlA.mono hs0_0 le30) hx63'
     have hc75 := hE73 _ _ hx63'
     refine Di 2 hi64 ?_
     refine Dvl [3] [tt, tt, tt, tt, ff, ff, ff, ff, ff, ff, ff, ff, ff, ff, ff, ff, ff, ff, ff, ff, ff, ff, ff, ff, ff, ff, ff] ?_
     refine Dx 4 0 (fun _ hq => hq.1.1 _ _ hF72) hc75 ?_
     refine Dvl [5, 6] [tt, tt, tt, tt, tt, tt, tt, ff, ff, ff, ff, ff, ff, ff, ff, ff, ff, ff, ff, ff, ff, ff, ff, ff, ff, ff, ff] ?_
     refine Sd h65 (fun hb76 h77 => ?_) (fun hb76 h78 => ?_)
     ·refine Dkl [(7, 21), (8, 22), (9, 23), (10, 24), (11, 25), (12, 26)] 6 false 20 hb76 [tt, tt, tt, tt, tt, tt, tt, tt, tt, tt, tt, tt, tt, ff, ff, ff, ff, ff, ff, ff, ff, ff, ff, ff, ff, ff, ff] ?_
      refine Dkl [(13, 27), (14, 28), (15, 29), (16, 30), (17, 31)] 6 false 20 hb76 [tt, tt, tt, tt, tt, tt, tt, tt, tt, tt, tt, tt, tt, tt, tt, tt, tt, tt, ff, ff, ff, ff, ff, ff, ff, ff, ff] ?_
      refine Dtl 18 32 4 _ [tt, tt, tt, tt, tt, tt, tt, tt, tt, tt, tt, tt, tt, tt, tt, tt, tt, tt, tt, ff, ff, ff, ff, ff, ff, ff, ff] (fun _ hq => p1 20 (.const (.bool true)) (.tmp 31) (.bool true) hb76) ?_
      refine Dvl [19] [tt, tt, tt, tt, tt, tt, tt, tt, tt, tt, tt, tt, tt, tt, tt, tt, tt, tt, tt, tt, ff, ff, ff, ff, ff, ff, ff] ?_
      refine Dkl [(20, 34), (21, 35), (22, 36), (23, 37), (24, 38), (25, 39)] 19 false 33 rfl [tt, tt, tt, tt, tt, tt, tt, tt, tt, tt, tt, tt, tt, tt, tt, tt, tt, tt, tt, tt, tt, tt, tt, tt, tt, tt, ff] ?_
      refine Dtl 26 40 4 _ [tt, tt, tt, tt, tt, tt, tt, tt, tt, tt, tt, tt, tt, tt, tt, tt, tt, tt, tt, tt, tt, tt, tt, tt, tt, tt, tt] (fun _ hq => p1 33 (.const (.bool true)) (.tmp 39) (.bool true) rfl) ?_
      obtain rfl := some_inj h77
      exact DWP.done (by kernel_rfl) ⟨F1, hw50, (Mem.le.refl _), fI⟩
     ·refine Dgl 7 21 68 _ [tt, tt, tt, tt, tt, tt, tt, tt, ff, ff, ff, ff, ff, ff, ff, ff, ff, ff, ff, ff, ff, ff, ff, ff, ff, ff, ff] 6 false 20 hb76 (fun _ hq => mv 0 (.slice (some ⟨b66, o67, none⟩) x0.length n0_0)) ?_
      refine Dgl 8 22 3 _ [tt, tt, tt, tt, tt, tt, tt, tt, tt, ff, ff, ff, ff, ff, ff, ff, ff, ff, ff, ff, ff, ff, ff, ff, ff, ff, ff] 6 false 20 hb76 (fun _ hq => mv 4 (vi s27.2)) ?_
      obtain ⟨x79, hx80, h82⟩ := bind_some h78
      obtain ⟨hi81, hx80'⟩ := idx_spec hx80
      have hc84 := hE73 _ _ hx80'
      refine Dgl 9 23 0 (.pointer (some ⟨b66, (o67 + (s27.2 : Int).toNat * 2), none⟩)) [tt, tt, tt, tt, tt, tt, tt, tt, tt, tt, ff, ff, ff, ff, ff, ff, ff, ff, ff, ff, ff, ff, ff, ff, ff, ff, ff] 6 false 20 hb76 (fun _ hq => ix 68 21 22 b66 o67 72 2 16 hi81) ?_
      refine Dgl 10 24 0 (.pointer (some ⟨b66, ((o67 + (s27.2 : Int).toNat * 2) + 1), none⟩)) [tt, tt, tt, tt, tt, tt, tt, tt, tt, tt, tt, ff, ff, ff, ff, ff, ff, ff, ff, ff, ff, ff, ff, ff, ff, ff, ff] 6 false 20 hb76 (fun _ hq => fa 72 23 1 1 1 b66 (o67 + (s27.2 : Int).toNat * 2) ((o67 + (s27.2 : Int).toNat * 2) + 1)) ?_
      refine Dgl 11 25 3 _ [tt, tt, tt, tt, tt, tt, tt, tt, tt, tt, tt, tt, ff, ff, ff, ff, ff, ff, ff, ff, ff, ff, ff, ff, ff, ff, ff] 6 false 20 hb76 (fun _ hq => lx 3 24 1 2 false 1 (vi x79.Hi) (hq.1.1 _ _ hF72) hc84) ?_
      refine Dgl 12 26 68 _ [tt, tt, tt, tt, tt, tt, tt, tt, tt, tt, tt, tt, tt, ff, ff, ff, ff, ff, ff, ff, ff, ff, ff, ff, ff, ff, ff] 6 false 20 hb76 (fun _ hq => mv 0 (.slice (some ⟨b66, o67, none⟩) x0.length n0_0)) ?_
      refine Dgl 13 27 3 _ [tt, tt, tt, tt, tt, tt, tt, tt, tt, tt, tt, tt, tt, tt, ff, ff, ff, ff, ff, ff, ff, ff, ff, ff, ff, ff, ff] 6 false 20 hb76 (fun _ hq => mv 4 (vi s27.2)) ?_
      obtain ⟨x85, hx86, h88⟩ := bind_some h82
      obtain ⟨hi87, hx86'⟩ := idx_spec hx86
      have hc90 := hE73 _ _ hx86'
      refine Dgl 14 28 0 (.pointer (some ⟨b66, (o67 + (s27.2 : Int).toNat * 2), none⟩)) [tt, tt, tt, tt, tt, tt, tt, tt, tt, tt, tt, tt, tt, tt, tt, ff, ff, ff, ff, ff, ff, ff, ff, ff, ff, ff, ff] 6 false 20 hb76 (fun _ hq => ix 68 26 27 b66 o67 72 2 16 hi87) ?_
      refine Dgl 15 29 0 (.pointer (some ⟨b66, (o67 + (s27.2 : Int).toNat * 2), none⟩)) [tt, tt, tt, tt, tt, tt, tt, tt, tt, tt, tt, tt, tt, tt, tt, tt, ff, ff, ff, ff, ff, ff, ff, ff, ff, ff, ff] 6 false 20 hb76 (fun _ hq => fa 72 28 0 0 1 b66 (o67 + (s27.2 : Int).toNat * 2) (o67 + (s27.2 : Int).toNat * 2)) ?_
      refine Dgl 16 30 3 _ [tt, tt, tt, tt, tt, tt, tt, tt, tt, tt, tt, tt, tt, tt, tt, tt, tt, ff, ff, ff, ff, ff, ff, ff, ff, ff, ff] 6 false 20 hb76 (fun _ hq => lx 3 29 0 2 false 1 (vi x85.Lo) (hq.1.1 _ _ hF72) hc90) ?_
      refine Dgl 17 31 4 (.bool (decide (x79.Hi < x85.Lo))) [tt, tt, tt, tt, tt, tt, tt, tt, tt, tt, tt, tt, tt, tt, tt, tt, tt, tt, ff, ff, ff, ff, ff, ff, ff, ff, ff] 6 false 20 hb76 (fun _ hq => run_lss (t := 3) (t' := 3) (x := (.tmp 25)) (y := (.tmp 30)) (k := .i64) (a := x79.Hi) (b := x85.Lo) rfl rfl) ?_
      refine Dtl 18 32 4 _ [tt, tt, tt, tt, tt, tt, tt, tt, tt, tt, tt, tt, tt, tt, tt, tt, tt, tt, tt, ff, ff, ff, ff, ff, ff, ff, ff] (fun _ hq => p0 20 (.const (.bool true)) (.tmp 31) (.bool (decide (x79.Hi < x85.Lo))) hb76) ?_
      refine Dvl [19] [tt, tt, tt, tt, tt, tt, tt, tt, tt, tt, tt, tt, tt, tt, tt, tt, tt, tt, tt, tt, ff, ff, ff, ff, ff, ff, ff] ?_
      refine Sd h88 (fun hb91 h92 => ?_) (fun hb91 h93 => ?_)
      ·refine Dkl [(20, 34), (21, 35), (22, 36), (23, 37), (24, 38), (25, 39)] 19 false 33 hb91 [tt, tt, tt, tt, tt, tt, tt, tt, tt, tt, tt, tt, tt, tt, tt, tt, tt, tt, tt, tt, tt, tt, tt, tt, tt, tt, ff] ?_
       refine Dtl 26 40 4 _ [tt, tt, tt, tt, tt, tt, tt, tt, tt, tt, tt, tt, tt, tt, tt, tt, tt, tt, tt, tt, tt, tt, tt, tt, tt, tt, tt] (fun _ hq => p1 33 (.const (.bool true)) (.tmp 39) (.bool true) hb91) ?_
       obtain rfl := some_inj h92
       exact DWP.done (by kernel_rfl) ⟨F1, hw50, (Mem.le.refl _), fI⟩
      ·refine Dgl 20 34 68 _ [tt, tt, tt, tt, tt, tt, tt, tt, tt, tt, tt, tt, tt, tt, tt, tt, tt, tt, tt, tt, tt, ff, ff, ff, ff, ff, ff] 19 false 33 hb91 (fun _ hq => mv 0 (.slice (some ⟨b66, o67, none⟩) x0.length n0_0)) ?_
       refine Dgl 21 35 3 _ [tt, tt, tt, tt, tt, tt, tt, tt, tt, tt, tt, tt, tt, tt, tt, tt, tt, tt, tt, tt, tt, tt, ff, ff, ff, ff, ff] 19 false 33 hb91 (fun _ hq => mv 4 (vi s27.2)) ?_
       obtain ⟨x94, hx95, h97⟩ := bind_some h93
       obtain ⟨hi96, hx95'⟩ := idx_spec hx95
       have hc99 := hE73 _ _ hx95'
       refine Dgl 22 36 0 (.pointer (some ⟨b66, (o67 + (s27.2 : Int).toNat * 2), none⟩)) [tt, tt, tt, tt, tt, tt, tt, tt, tt, tt, tt, tt, tt, tt, tt, tt, tt, tt, tt, tt, tt, tt, tt, ff, ff, ff, ff] 19 false 33 hb91 (fun _ hq => ix 68 34 35 b66 o67 72 2 16 hi96) ?_
       refine Dgl 23 37 0 (.pointer (some ⟨b66, ((o67 + (s27.2 : Int).toNat * 2) + 1), none⟩)) [tt, tt, tt, tt, tt, tt, tt, tt, tt, tt, tt, tt, tt, tt, tt, tt, tt, tt, tt, tt, tt, tt, tt, tt, ff, ff, ff] 19 false 33 hb91 (fun _ hq => fa 72 36 1 1 1 b66 (o67 + (s27.2 : Int).toNat * 2) ((o67 + (s27.2 : Int).toNat * 2) + 1)) ?_
       refine Dgl 24 38 3 _ [tt, tt, tt, tt, tt, tt, tt, tt, tt, tt, tt, tt, tt, tt, tt, tt, tt, tt, tt, tt, tt, tt, tt, tt, tt, ff, ff] 19 false 33 hb91 (fun _ hq => lx 3 37 1 2 false 1 (vi x94.Hi) (hq.1.1 _ _ hF72) hc99) ?_
       refine Dgl 25 39 4 (.bool (decide (x94.Hi > 1000000))) [tt, tt, tt, tt, tt, tt, tt, tt, tt, tt, tt, tt, tt, tt, tt, tt, tt, tt, tt, tt, tt, tt, tt, tt, tt, tt, ff] 19 false 33 hb91 (fun _ hq => run_gtr (t := 3) (t' := 3) (x := (.tmp 38)) (y := (.const (vi 1000000))) (k := .i64) (a := x94.Hi) (b := 1000000) rfl rfl) ?_
       refine Dtl 26 40 4 _ [tt, tt, tt, tt, tt, tt, tt, tt, tt, tt, tt, tt, tt, tt, tt, tt, tt, tt, tt, tt, tt, tt, tt, tt, tt, tt, tt] (fun _ hq => p0 33 (.const (.bool true)) (.tmp 39) (.bool (decide (x94.Hi > 1000000))) hb91) ?_
       obtain rfl := some_inj h97
       exact DWP.done (by kernel_rfl) ⟨F1, hw50, (Mem.le.refl _), fI⟩
    ·rintro f w51 ⟨F3, hs52, le53, ⟨_, rfl⟩⟩
     refine thenQ_nrm ?_
     refine Cd h61 (fun hb100 h101 => ?_) (fun hb100 h102 => ?_)
     ·refine Sq (Rg [0] ?_)
      refine Vs 1 ?_
      refine Nt ?_
      refine Rt ?_
      refine thenQ_ret ?_
      refine blockQ_ret ?_
      refine thenQ_ret ?_
      refine thenQ_ret ?_
      refine blockQ_ret ?_
      have hret := iter_ret h101 hnx45
      subst hret
      refine .inr ?_
      refine thenQ_ret ?_
      obtain rfl := some_inj h26
      exact Re [(.bool false)] hs52 rfl
     ·refine Sc ?_
      refine thenQ_nrm ?_
      refine Sq ?_
      obtain ⟨j108, hj113, h114⟩ := bind_some h102
      refine RD 15 15 [] [] hs52 (fun f w => ∃ (F4 : Mem), HS w0 F0 w F4 [] ∧ Mem.le F3 F4 ∧ FI f [] [(0, (.slice a0_0 x0.length n0_0)), (3, (vi j108)), (4, (vi s27.2))]) (fun wd103 hw104 => ?_) ?_
      ·refine Dv [0, 1, 2] ?_
       obtain ⟨x115, hx116, h118⟩ := bind_some hj113
       obtain ⟨hi117, hx116'⟩ := idx_spec hx116
       obtain ⟨b119, o120, C121, E122, fz123, rfl, hF125, hE126⟩ := SlA.open (SlA.mono hs0_0 (le30.trans le53)) hx116'
       have hc128 := hE126 _ _ hx116'
       refine Di 3 hi117 ?_
       refine Dv [4] ?_
       refine Dx 5 1 (fun _ hq => hq.1.1 _ _ hF125) hc128 ?_
       refine Dv [6, 7] ?_
       obtain ⟨x129, hx130, h132⟩ := bind_some h118
       obtain ⟨hi131, hx130'⟩ := idx_spec hx130
       have hc134 := hE126 _ _ hx130'
       refine Di 8 hi131 ?_
       refine Dv [9] ?_
       refine Dx 10 0 (fun _ hq => hq.1.1 _ _ hF125) hc134 ?_
       refine Dv [11, 12, 13, 14] ?_
       obtain rfl := some_inj h132
       exact DWP.done (by kernel_rfl) ⟨F3, hw104, (Mem.le.refl _), fI⟩
      ·rintro f w105 ⟨F4, hs106, le107, ⟨_, rfl⟩⟩
       refine thenQ_nrm ?_
       refine Sq (Rg [0, 1] ?_)
       refine Vs 2 ?_
       refine Nt ?_
       refine Cd h114 (fun hb135 h136 => ?_) (fun hb135 h137 => ?_)
       ·refine Sq (Rg [0] ?_)
        refine Vs 1 ?_
        refine Nt ?_
        refine Rt ?_
        refine blockQ_ret ?_
        refine thenQ_ret ?_
        refine thenQ_ret ?_
        refine blockQ_ret ?_
        have hret := iter_ret h136 hnx45
        subst hret
        refine .inr ?_
        refine thenQ_ret ?_
        obtain rfl := some_inj h26
        exact Re [(.bool false)] hs106 rfl
       ·refine Sc ?_
        refine blockQ_nrm ?_
        refine thenQ_nrm ?_
        refine Rg [0, 1, 2] ?_
        refine Vs 3 ?_
        refine RWP.nil ?_
        have hn138 := iter_next h137 hnx45
        exact ⟨m42, Nat.lt_succ_self _, (j108, (W64 (s27.2 + 1))), F4, hn138, hs106, ((le30.trans le53).trans le107), fI⟩
   ·refine Ex ?_
    refine thenQ_ex ?_
    refine thenQ_ex ?_
    refine blockQ_hit rfl ?_
    have ho139 := iter_done h48 hnx45
    exact .inl ⟨rfl, (s27.1, s27.2), F1, ho139, hs29, le30, fI⟩
  ·rintro f w36 ⟨s35, F2, rfl, hs37, le38, ⟨_, rfl⟩⟩
   have h140 := k_done h26
   refine thenQ_nrm ?_
   refine Sq (Rg [0] ?_)
   refine Vs 1 ?_
   refine Nt ?_
   refine Rt ?_
   obtain rfl := some_inj h140
   exact Re [(.bool true)] hs37 rfl
end Go.Proofs.YtaihlcdkcampbaaGreatDoor
namespace Go.Proofs.YtaihlcdkcampbaaGreatDoor
open Go.Proofs
def rules_domains_L0 (N : Nat) (x0 : (List Span)) : (Int × Int) → Option (Flow Bool (Int × Int)) := fun s27 =>
 (bif (decide (s27.2 < (x0.length : Int))) then ((idx x0 s27.2).bind fun x50 => (bif ((decide (x50.Lo < 0)) || ((decide (x50.Lo > x50.Hi)) || (decide (x50.Hi > 1000000)))) then some (.ret false) else (bif (decide ((W64 (s27.1 * (W64 ((W64 (x50.Hi - x50.Lo)) + 1)))) > 4096)) then some (.ret false) else some (.next ((W64 (s27.1 * (W64 ((W64 (x50.Hi - x50.Lo)) + 1)))), (W64 (s27.2 + 1))))))) else some (.done (s27.1, s27.2)))
def rules_domains (N : Nat) (x0 : (List Span)) : Option Bool :=
 (bif ((x0.length : Int) != 14) then some false else ((iter (rules_domains_L0 N x0) N (1, 0)).bind fun o => o.k (fun r => some r) (fun s36 => some true)))
theorem co_rules_domains : CallOk Tryz.prog 114 := fun _ _ => by kernel_rfl
theorem c_rules_domains (N : Nat) (w0 : World) (F0 : Mem) (hF : ∀ b o, F0 b = some o → w0.heap[b]? = some o) (x0 : (List Span)) (a0_0 : Option Addr) (n0_0 : Nat) (hb0_0 : LC x0.length n0_0) (hs0_0 : SlA tSpan F0 a0_0 x0) (r : Bool) (h : rules_domains N x0 = some r) :
  Calls Tryz.prog 114 ([(.slice a0_0 x0.length n0_0)] : List Value).toArray w0 (FRet w0 F0 fun F' v => v = (.bool r)) := by
 have hs0 := HS.start hF
 refine Go 41 Tryz.func114 ?_
 refine Sq (Rg [0] ?_)
 refine Vs 1 ?_
 refine Nss ?_
 refine Sq (Rg [0, 1, 2] ?_)
 refine Vs 3 ?_
 refine Nt ?_
 refine Cd h (fun hb21 h22 => ?_) (fun hb21 h23 => ?_)
 ·refine Sq (Rg [0] ?_)
  refine Vs 1 ?_
  refine Nt ?_
  refine Rt ?_
  refine thenQ_ret ?_
  obtain rfl := some_inj h22
  exact Re [(.bool false)] hs0 rfl
 ·refine Sc ?_
  refine thenQ_nrm ?_
  refine Sq (Rg [0] ?_)
  refine Vs 1 ?_
  refine Nss ?_
  refine Sq (Rg [0, 1, 2] ?_)
  refine Vs 3 ?_
  refine Nt ?_
  obtain ⟨o24, ho25, h26⟩ := bind_some h23
  refine CWP.cut (fun f w => ∃ (s36 : (Int × Int)) (F2 : Mem), o24 = .done s36 ∧ HS w0 F0 w F2 [] ∧ Mem.le F0 F2 ∧ FI f [] []) ?_ ?_
  ·refine Bk ?_
   refine CWP.loop (by kernel_rfl) (fun m f w => ∃ (s27 : (Int × Int)) (F1 : Mem), iter (rules_domains_L0 N x0) m s27 = some o24 ∧ HS w0 F0 w F1 [] ∧ Mem.le F0 F1 ∧ FI f [] [(3, (vi s27.1)), (9, (.slice a0_0 x0.length n0_0)), (10, (vi (x0.length : Int))), (11, (vi s27.2))]) N ⟨(1, 0), F0, ho25, hs0, (Mem.le.refl _), fI⟩ ?_
   rintro m41 f w28 ⟨s27, F1, hit42, hs29, le30, ⟨_, rfl⟩⟩
   obtain ⟨m43, fl44, rfl, hb45, hnx46⟩ := iter_step hit42
   refine Sq (Rg [0] ?_)
   refine Vs 1 ?_
   refine Nss ?_
   refine Cd hb45 (fun hb47 h48 => ?_) (fun hb47 h49 => ?_)
   ·refine Sc ?_
    refine thenQ_nrm ?_
    refine Sq ?_
    refine Bk ?_
    refine Sq (Rg [0, 1, 2, 3] ?_)
    obtain ⟨x50, hx51, h53⟩ := bind_some h48
    obtain ⟨hi52, hx51'⟩ := idx_spec hx51
    obtain ⟨b54, o55, C56, E57, fz58, rfl, hF60, hE61⟩ := SlA.open (SlA.mono hs0_0 le30) hx51'
    have hc63 := hE61 _ _ hx51'
    refine Ix hi52 ?_
    refine Lx 0 (hs29.pers _ _ hF60) hc63 ?_
    refine Al' 72 #[(vi 0), (vi 0)] hs29 (fun b64 w65 hs66 => ?_)
    refine St0 #[(vi x50.Lo), (vi x50.Hi)] hs66 (fun w67 hs68 => ?_)
    refine Nss ?_
    refine Sq (Rg [0, 1, 2, 3, 4, 5, 6, 7, 8, 9, 10, 11, 12, 13, 14] ?_)
    refine RWP.cut (fun f w => ∃ (F3 : Mem), HS w0 F0 w F3 [(sb b64 #[(vi x50.Lo), (vi x50.Hi)] 72)] ∧ Mem.le F1 F3 ∧ FI f [] [(3, (vi s27.1)), (5, (pt b64 0)), (9, (.slice (some ⟨b54, o55, none⟩) x0.length n0_0)), (10, (vi (x0.length : Int))), (11, (vi s27.2)), (29, (.bool ((decide (x50.Lo < 0)) || ((decide (x50.Lo > x50.Hi)) || (decide (x50.Hi > 1000000))))))]) ?_ ?_
    ·refine Vs 1 ?_
     refine Ld hs68.at0 ?_
     refine Vs 2 ?_
     refine RWP.split (decide (x50.Lo < 0)) (fun hb79 => ?_) (fun hb79 => ?_)
     ·refine Ss hb79 5 ?_
      refine Pk1 hb79 ?_
      refine Vs 1 ?_
      refine Ss (rfl : true = true) 3 ?_
      refine Pk1 (rfl : true = true) ?_
      exact RWP.nil ⟨rfl, F1, hs68, (Mem.le.refl _), (fJ ⟨rfl, rfl, rfl, rfl, rfl, (congrArg Value.bool (or_t hb79 (rfl))), trivial⟩)⟩
     ·refine Vgs hb79 1 ?_
      refine Lg hb79 hs68.at0 ?_
      refine Vgs hb79 1 ?_
      refine Lg hb79 hs68.at0 ?_
      refine Vgs hb79 1 ?_
      refine Pk0 hb79 ?_
      refine Vs 1 ?_
      refine RWP.split (decide (x50.Lo > x50.Hi)) (fun hb80 => ?_) (fun hb80 => ?_)
      ·refine Ss hb80 3 ?_
       refine Pk1 hb80 ?_
       exact RWP.nil ⟨rfl, F1, hs68, (Mem.le.refl _), (fJ ⟨rfl, rfl, rfl, rfl, rfl, (congrArg Value.bool (or_f hb79 (or_t hb80 (rfl)))), trivial⟩)⟩
      ·refine Vgs hb80 1 ?_
       refine Lg hb80 hs68.at0 ?_
       refine Vgs hb80 1 ?_
       refine Pk0 hb80 ?_
       exact RWP.nil ⟨rfl, F1, hs68, (Mem.le.refl _), (fJ ⟨rfl, rfl, rfl, rfl, rfl, (congrArg Value.bool (or_f hb79 (or_f hb80 (rfl)))), trivial⟩)⟩
    ·rintro f w69 ⟨F3, hs70, le71, ⟨_, rfl⟩⟩
     refine thenQ_nrm ?_
     refine Cd h53 (fun hb81 h82 => ?_) (fun hb81 h83 => ?_)
     ·refine Sq (Rg [0] ?_)
      refine Vs 1 ?_
      refine Nt ?_
      refine Rt ?_
      refine thenQ_ret ?_
      refine blockQ_ret ?_
      refine thenQ_ret ?_
      refine thenQ_ret ?_
      refine blockQ_ret ?_
      have hret := iter_ret h82 hnx46
      subst hret
      refine .inr ?_
      refine thenQ_ret ?_
      obtain rfl := some_inj h26
      exact Re [(.bool false)] hs70 rfl
     ·refine Sc ?_
      refine thenQ_nrm ?_
      refine Sq (Rg [0, 1, 2, 3, 4, 5, 6, 7, 8] ?_)
      refine Vs 2 ?_
      refine Ld hs70.at0 ?_
      refine Vs 1 ?_
      refine Ld hs70.at0 ?_
      refine Vs 4 ?_
      refine Nss (Rg [0, 1] ?_)
      refine Vs 2 ?_
      refine Nt ?_
      refine Cd h83 (fun hb84 h85 => ?_) (fun hb84 h86 => ?_)
      ·refine Sq (Rg [0] ?_)
       refine Vs 1 ?_
       refine Nt ?_
       refine Rt ?_
       refine blockQ_ret ?_
       refine thenQ_ret ?_
       refine thenQ_ret ?_
       refine blockQ_ret ?_
       have hret := iter_ret h85 hnx46
       subst hret
       refine .inr ?_
       refine thenQ_ret ?_
       obtain rfl := some_inj h26
       exact Re [(.bool false)] hs70 rfl
      ·refine Sc ?_
       refine blockQ_nrm ?_
       refine thenQ_nrm ?_
       refine Rg [0, 1] ?_
       refine Vs 2 ?_
       refine RWP.nil ?_
       have hn87 := iter_next h86 hnx46
       exact ⟨m43, Nat.lt_succ_self _, ((W64 (s27.1 * (W64 ((W64 (x50.Hi - x50.Lo)) + 1)))), (W64 (s27.2 + 1))), F3, hn87, hs70.dr0, (le30.trans le71), fI⟩
   ·refine Ex ?_
    refine thenQ_ex ?_
    refine thenQ_ex ?_
    refine blockQ_hit rfl ?_
    have ho88 := iter_done h49 hnx46
    exact .inl ⟨rfl, (s27.1, s27.2), F1, ho88, hs29, le30, fI⟩
  ·rintro f w37 ⟨s36, F2, rfl, hs38, le39, ⟨_, rfl⟩⟩
   have h89 := k_done h26
   refine thenQ_nrm ?_
   refine Sq (Rg [0] ?_)
   refine Vs 1 ?_
   refine Nt ?_
   refine Rt ?_
   obtain rfl := some_inj h89
   exact Re [(.bool true)] hs38 rfl
end Go.Proofs.YtaihlcdkcampbaaGreatDoor
namespace Go.Proofs.YtaihlcdkcampbaaGreatDoor
open Go.Proofs
def ref06_All_L2 (N : Nat) (x0 : (List Span)) (s29 : (List (List Int) × Int)) (s57 : (List (List Int) × Int)) (x84 : Span) : (List (List Int) × Int) → Option (Flow (List (List Int)) (List (List Int) × Int)) := fun s101 =>
 ((idx x0 s29.2).bind fun x128 => (bif (decide (s101.2 ≤ x128.Hi)) then ((idx s29.1 s57.2).bind fun x142 => ((apnd ([] : List Int) x142).bind fun r154 => ((apnd r154 [s101.2]).bind fun r168 => ((apnd s101.1 [r168]).bind fun r186 => some (.next (r186, (W64 (s101.2 + 1)))))))) else some (.done (s101.1, s101.2))))
def ref06_All_L1 (N : Nat) (x0 : (List Span)) (s29 : (List (List Int) × Int)) : (List (List Int) × Int) → Option (Flow (List (List Int)) (List (List Int) × Int)) := fun s57 =>
 (bif (decide (s57.2 < (s29.1.length : Int))) then ((idx x0 s29.2).bind fun x84 => ((iter (ref06_All_L2 N x0 s29 s57 x84) N (s57.1, x84.Lo)).bind fun o => o.k (fun r => some (.ret r)) (fun s112 => some (.next (s112.1, (W64 (s57.2 + 1))))))) else some (.done (s57.1, s57.2)))
def ref06_All_L0 (N : Nat) (x0 : (List Span)) : (List (List Int) × Int) → Option (Flow (List (List Int)) (List (List Int) × Int)) := fun s29 =>
 (bif (decide (s29.2 < (x0.length : Int))) then ((iter (ref06_All_L1 N x0 s29) N (([] : List (List Int)), 0)).bind fun o => o.k (fun r => some (.ret r)) (fun s67 => some (.next (s67.1, (W64 (s29.2 + 1)))))) else some (.done (s29.1, s29.2)))
def ref06_All (N : Nat) (x0 : (List Span)) : Option (List (List Int)) :=
 ((iter (ref06_All_L0 N x0) N ([([] : List Int)], 0)).bind fun o => o.k (fun r => some r) (fun s37 => some s37.1))
theorem co_ref06_All : CallOk Tryz.prog 61 := fun _ _ => by kernel_rfl
theorem c_ref06_All (N : Nat) (w0 : World) (F0 : Mem) (hF : ∀ b o, F0 b = some o → w0.heap[b]? = some o) (x0 : (List Span)) (a0_0 : Option Addr) (n0_0 : Nat) (hb0_0 : LC x0.length n0_0) (hs0_0 : SlA tSpan F0 a0_0 x0) (r : (List (List Int))) (h : ref06_All N x0 = some r) :
  Calls Tryz.prog 61 ([(.slice a0_0 x0.length n0_0)] : List Value).toArray w0 (FRet w0 F0 fun F' v => ∃ (aq0_0 : Option Addr) (nq0_0 : Nat), v = (.slice aq0_0 r.length nq0_0) ∧ LC r.length nq0_0 ∧ SlA (tSl tInt) F' aq0_0 r) := by
 have hs0 := HS.start hF
 refine Go 49 Tryz.func61 ?_
 refine Sq (Rg [0] ?_)
 refine Vs 1 ?_
 refine Nss (Rg [0, 1] ?_)
 refine Bs 47 [(.slice none ([] : List Int).length 0)] hs0 (fun b21 w22 hs23 => ?_)
 have hr25 : RowR (tSl tInt) 47 F0 (some ⟨b21, 0, none⟩) 1 [([] : List Int)] (some b21, .cells ([(.slice none ([] : List Int).length 0)] : List Value).toArray 47 (0, 0)) := RowR.lit ⟨⟨none, 0, rfl, LC.nil, (.inl rfl)⟩, rfl⟩ (by simp)
 refine Vs 1 ?_
 refine Nss ?_
 refine Sq (Rg [0] ?_)
 refine Vs 1 ?_
 refine Nt ?_
 obtain ⟨o26, ho27, h28⟩ := bind_some h
 refine CWP.cut (fun f w => ∃ (s37 : (List (List Int) × Int)) (F2 : Mem) (as37_0 : Option Addr) (ns37_0 : Nat) (es37_0 : Option Nat × Obj), o26 = .done s37 ∧ HS w0 F0 w F2 [es37_0] ∧ Mem.le F0 F2 ∧ FI f [] [(3, (.slice as37_0 s37.1.length ns37_0))] ∧ RowR (tSl tInt) 47 F2 as37_0 ns37_0 s37.1 es37_0) ?_ ?_
 ·refine Bk ?_
  refine CWP.loop (by kernel_rfl) (fun m f w => ∃ (s29 : (List (List Int) × Int)) (F1 : Mem) (as29_0 : Option Addr) (ns29_0 : Nat) (es29_0 : Option Nat × Obj), iter (ref06_All_L0 N x0) m s29 = some o26 ∧ HS w0 F0 w F1 [es29_0] ∧ Mem.le F0 F1 ∧ FI f [] [(0, (.slice a0_0 x0.length n0_0)), (3, (.slice as29_0 s29.1.length ns29_0)), (4, (vi s29.2))] ∧ RowR (tSl tInt) 47 F1 as29_0 ns29_0 s29.1 es29_0) N ⟨([([] : List Int)], 0), F0, (some ⟨b21, 0, none⟩), 1, (some b21, .cells ([(.slice none ([] : List Int).length 0)] : List Value).toArray 47 (0, 0)), ho27, hs23, (Mem.le.refl _), fI, hr25⟩ ?_
  rintro m43 f w30 ⟨s29, F1, as29_0, ns29_0, es29_0, hit44, hs31, le32, ⟨_, rfl⟩, hrs29_0⟩
  obtain ⟨m45, fl46, rfl, hb47, hnx48⟩ := iter_step hit44
  refine Sq ?_
  refine Sq (Rg [0, 1, 2, 3] ?_)
  refine Vs 4 ?_
  refine Nt ?_
  refine Cd hb47 (fun hb49 h50 => ?_) (fun hb49 h51 => ?_)
  ·refine Sc ?_
   refine thenQ_nrm ?_
   refine Sq ?_
   refine Bk ?_
   refine Sq (Rg [0] ?_)
   refine Vs 1 ?_
   refine Nss ?_
   refine Sq (Rg [0] ?_)
   refine Vs 1 ?_
   refine Nt ?_
   have hs52 := hs31.dummy (oc #[] 0)
   obtain ⟨o54, ho55, h56⟩ := bind_some h50
   refine CWP.cut (fun f w => ∃ (s67 : (List (List Int) × Int)) (F4 : Mem) (as67_0 : Option Addr) (ns67_0 : Nat) (es67_0 : Option Nat × Obj), o54 = .done s67 ∧ HS w0 F0 w F4 [es67_0] ∧ Mem.le F1 F4 ∧ FI f [] [(0, (.slice a0_0 x0.length n0_0)), (4, (vi s29.2)), (5, (.slice as67_0 s67.1.length ns67_0))] ∧ RowR (tSl tInt) 47 F4 as67_0 ns67_0 s67.1 es67_0) ?_ ?_
   ·refine Bk ?_
    refine CWP.loop (by kernel_rfl) (fun m f w => ∃ (s57 : (List (List Int) × Int)) (F3 : Mem) (as57_0 : Option Addr) (ns57_0 : Nat) (es57_0 : Option Nat × Obj), iter (ref06_All_L1 N x0 s29) m s57 = some o54 ∧ HS w0 F0 w F3 [es57_0, es29_0] ∧ Mem.le F1 F3 ∧ FI f [] [(0, (.slice a0_0 x0.length n0_0)), (3, (.slice as29_0 s29.1.length ns29_0)), (4, (vi s29.2)), (5, (.slice as57_0 s57.1.length ns57_0)), (6, (vi s57.2))] ∧ RowR (tSl tInt) 47 F3 as57_0 ns57_0 s57.1 es57_0) N ⟨(([] : List (List Int)), 0), F1, none, 0, (none, .cells #[] 0 (0, 0)), ho55, hs52, (Mem.le.refl _), fI, (RowR.nil (tSl tInt) 47 F1 _)⟩ ?_
    rintro m75 f w58 ⟨s57, F3, as57_0, ns57_0, es57_0, hit76, hs59, le60, ⟨_, rfl⟩, hrs57_0⟩
    obtain ⟨m77, fl78, rfl, hb79, hnx80⟩ := iter_step hit76
    refine Sq ?_
    refine Sq (Rg [0, 1, 2, 3] ?_)
    refine Vs 4 ?_
    refine Nt ?_
    refine Cd hb79 (fun hb81 h82 => ?_) (fun hb81 h83 => ?_)
    ·refine Sc ?_
     refine thenQ_nrm ?_
     refine Sq ?_
     refine Bk ?_
     refine Sq (Rg [0, 1, 2, 3, 4, 5] ?_)
     refine Vs 2 ?_
     obtain ⟨x84, hx85, h87⟩ := bind_some h82
     obtain ⟨hi86, hx85'⟩ := idx_spec hx85
     obtain ⟨b88, o89, C90, E91, fz92, rfl, hF94, hE95⟩ := SlA.open (SlA.mono hs0_0 (le32.trans le60)) hx85'
     have hc97 := hE95 _ _ hx85'
     refine Ix hi86 ?_
     refine Vs 1 ?_
     refine Lx 0 (hs59.pers _ _ hF94) hc97 ?_
     refine Vs 1 ?_
     refine Nt ?_
     obtain ⟨o98, ho99, h100⟩ := bind_some h87
     refine CWP.cut (fun f w => ∃ (s112 : (List (List Int) × Int)) (F6 : Mem) (as112_0 : Option Addr) (ns112_0 : Nat) (es112_0 : Option Nat × Obj), o98 = .done s112 ∧ HS w0 F0 w F6 [es112_0, es29_0] ∧ Mem.le F3 F6 ∧ FI f [] [(0, (.slice (some ⟨b88, o89, none⟩) x0.length n0_0)), (3, (.slice as29_0 s29.1.length ns29_0)), (4, (vi s29.2)), (5, (.slice as112_0 s112.1.length ns112_0)), (6, (vi s57.2))] ∧ RowR (tSl tInt) 47 F6 as112_0 ns112_0 s112.1 es112_0) ?_ ?_
     ·refine Bk ?_
      refine CWP.loop (by kernel_rfl) (fun m f w => ∃ (s101 : (List (List Int) × Int)) (F5 : Mem) (as101_0 : Option Addr) (ns101_0 : Nat) (es101_0 : Option Nat × Obj), iter (ref06_All_L2 N x0 s29 s57 x84) m s101 = some o98 ∧ HS w0 F0 w F5 [es101_0, es29_0] ∧ Mem.le F3 F5 ∧ FI f [] [(0, (.slice (some ⟨b88, o89, none⟩) x0.length n0_0)), (3, (.slice as29_0 s29.1.length ns29_0)), (4, (vi s29.2)), (5, (.slice as101_0 s101.1.length ns101_0)), (6, (vi s57.2)), (7, (vi s101.2))] ∧ RowR (tSl tInt) 47 F5 as101_0 ns101_0 s101.1 es101_0) N ⟨(s57.1, x84.Lo), F3, as57_0, ns57_0, es57_0, ho99, hs59, (Mem.le.refl _), fI, hrs57_0⟩ ?_
      rintro m122 f w102 ⟨s101, F5, as101_0, ns101_0, es101_0, hit123, hs103, le104, ⟨_, rfl⟩, hrs101_0⟩
      obtain ⟨m124, fl125, rfl, hb126, hnx127⟩ := iter_step hit123
      refine Sq ?_
      refine Sq (Rg [0, 1, 2, 3, 4, 5, 6] ?_)
      refine Vs 3 ?_
      obtain ⟨x128, hx129, h131⟩ := bind_some hb126
      obtain ⟨hi130, hx129'⟩ := idx_spec hx129
      have hc133 := hE95 _ _ hx129'
      refine Ix hi130 ?_
      refine Vs 1 ?_
      refine Lx 1 (hs103.pers _ _ (le104 _ _ hF94)) hc133 ?_
      refine Vs 1 ?_
      refine Nt ?_
      refine Cd h131 (fun hb134 h135 => ?_) (fun hb134 h136 => ?_)
      ·refine Sc ?_
       refine thenQ_nrm ?_
       refine Sq ?_
       refine Bk ?_
       refine Rg [0, 1, 2, 3, 4, 5, 6, 7, 8, 9, 10, 11, 12] ?_
       refine Vs 1 ?_
       refine Bs 3 [] hs103 (fun b137 w138 hs139 => ?_)
       have hr141 : RowR tInt 3 F5 (some ⟨b137, 0, none⟩) 0 ([] : List Int) (some b137, .cells ([] : List Value).toArray 3 (0, 0)) := RowR.lit rfl (by simp)
       refine Vs 2 ?_
       obtain ⟨x142, hx143, h145⟩ := bind_some h135
       obtain ⟨hi144, hx143'⟩ := idx_spec hx143
       obtain ⟨b146, C147, rfl, rfl, hE150⟩ := RowR.open (hrs29_0.mono (le60.trans le104)) hx143'
       have hr151 := (hrs29_0.mono (le60.trans le104))
       obtain ⟨ae152_0, ne152_0, hc153, hbe152_0, hse152_0⟩ := hE150 _ _ hx143'
       refine Ix0 hi144 ?_
       refine Lx 0 hs139.at2 hc153 ?_
       obtain ⟨r154, hap155, h156⟩ := bind_some h145
       refine Ap0 oInt hs139 hr141 (SlA.rd hs139 hse152_0) hap155 (fun a157 n158 e159 w160 hs161 hr162 => ?_)
       refine Vs 1 ?_
       refine Bs 3 [(vi s101.2)] hs161 (fun b163 w164 hs165 => ?_)
       have hr167 : RowR tInt 3 F5 (some ⟨b163, 0, none⟩) 1 [s101.2] (some b163, .cells ([(vi s101.2)] : List Value).toArray 3 (0, 0)) := RowR.lit ⟨rfl, rfl⟩ (by simp)
       obtain ⟨r168, hap169, h170⟩ := bind_some h156
       refine Ap1 oInt hs165 hr162 (hs165.rd0 hr167) hap169 (fun a171 n172 e173 w174 hs175 hr176 => ?_)
       have hb180 := RowR.bound hr176
       obtain ⟨F7, hs177, le178, hs179⟩ := hs175.fr1 hr176
       refine Bs 47 [(.slice a171 r168.length n172)] hs177 (fun b181 w182 hs183 => ?_)
       have hr185 : RowR (tSl tInt) 47 F7 (some ⟨b181, 0, none⟩) 1 [r168] (some b181, .cells ([(.slice a171 r168.length n172)] : List Value).toArray 47 (0, 0)) := RowR.lit ⟨⟨a171, n172, rfl, hb180, hs179⟩, rfl⟩ (by simp)
       obtain ⟨r186, hap187, h188⟩ := bind_some h170
       refine Ap2 oSl hs183 (hrs101_0.mono le178) (hs183.rd0 hr185) hap187 (fun a189 n190 e191 w192 hs193 hr194 => ?_)
       refine Vs 1 ?_
       refine RWP.nil ?_
       refine blockQ_nrm ?_
       refine thenQ_nrm ?_
       refine Rg [0, 1, 2] ?_
       refine Vs 3 ?_
       refine RWP.nil ?_
       have hn195 := iter_next h188 hnx127
       exact ⟨m124, Nat.lt_succ_self _, (r186, (W64 (s101.2 + 1))), F7, a189, n190, e191, hn195, hs193.dr0.dr0, (le104.trans le178), fI, hr194⟩
      ·refine Ex ?_
       refine thenQ_ex ?_
       refine thenQ_ex ?_
       refine blockQ_hit rfl ?_
       have ho196 := iter_done h136 hnx127
       exact .inl ⟨rfl, (s101.1, s101.2), F5, as101_0, ns101_0, es101_0, ho196, hs103, le104, fI, hrs101_0⟩
     ·rintro f w113 ⟨s112, F6, as112_0, ns112_0, es112_0, rfl, hs114, le115, ⟨_, rfl⟩, hrs112_0⟩
      have h197 := k_done h100
      refine blockQ_nrm ?_
      refine thenQ_nrm ?_
      refine Rg [0, 1, 2] ?_
      refine Vs 3 ?_
      refine RWP.nil ?_
      have hn198 := iter_next h197 hnx80
      exact ⟨m77, Nat.lt_succ_self _, (s112.1, (W64 (s57.2 + 1))), F6, as112_0, ns112_0, es112_0, hn198, hs114, (le60.trans le115), fI, hrs112_0⟩
    ·refine Ex ?_
     refine thenQ_ex ?_
     refine thenQ_ex ?_
     refine blockQ_hit rfl ?_
     have ho199 := iter_done h83 hnx80
     exact .inl ⟨rfl, (s57.1, s57.2), F3, as57_0, ns57_0, es57_0, ho199, hs59.dr1, le60, fI, hrs57_0⟩
   ·rintro f w68 ⟨s67, F4, as67_0, ns67_0, es67_0, rfl, hs69, le70, ⟨_, rfl⟩, hrs67_0⟩
    have h200 := k_done h56
    refine thenQ_nrm ?_
    refine Rg [0, 1] ?_
    refine Vs 2 ?_
    refine RWP.nil ?_
    refine blockQ_nrm ?_
    refine thenQ_nrm ?_
    refine Rg [0, 1, 2] ?_
    refine Vs 3 ?_
    refine RWP.nil ?_
    have hn201 := iter_next h200 hnx48
    exact ⟨m45, Nat.lt_succ_self _, (s67.1, (W64 (s29.2 + 1))), F4, as67_0, ns67_0, es67_0, hn201, hs69, (le32.trans le70), fI, hrs67_0⟩
  ·refine Ex ?_
   refine thenQ_ex ?_
   refine thenQ_ex ?_
   refine blockQ_hit rfl ?_
   have ho202 := iter_done h51 hnx48
   exact .inl ⟨rfl, (s29.1, s29.2), F1, as29_0, ns29_0, es29_0, ho202, hs31, le32, fI, hrs29_0⟩
 ·rintro f w38 ⟨s37, F2, as37_0, ns37_0, es37_0, rfl, hs39, le40, ⟨_, rfl⟩, hrs37_0⟩
  have h203 := k_done h28
  refine thenQ_nrm ?_
  refine Sq (Rg [0, 1] ?_)
  refine Vs 2 ?_
  refine Nt ?_
  refine Rt ?_
  have hb207 := RowR.bound hrs37_0
  obtain ⟨F8, hs204, le205, hs206⟩ := hs39.fr0 hrs37_0
  obtain rfl := some_inj h203
  exact Re [(.slice as37_0 s37.1.length ns37_0)] hs204 ⟨as37_0, ns37_0, rfl, hb207, hs206⟩
end Go.Proofs.YtaihlcdkcampbaaGreatDoor
namespace Go.Proofs.YtaihlcdkcampbaaGreatDoor
open Go.Proofs
def law06_few_L0 (N : Nat) (x0 : (List Span)) (x1 : Int) (r24 : Bool) : (Int × Int) → Option (Flow Bool (Int × Int)) := fun s38 =>
 (bif (decide (s38.2 < (x0.length : Int))) then (((idx x0 s38.2).bind fun x76 => ((idx x0 s38.2).bind fun x90 => some (W64 (s38.1 * (W64 ((W64 (x76.Hi - x90.Lo)) + 1)))))).bind fun j68 => some (.next (j68, (W64 (s38.2 + 1))))) else some (.done (s38.1, s38.2)))
def law06_few (N : Nat) (x0 : (List Span)) (x1 : Int) : Option Bool :=
 (bif (decide ((x0.length : Int) > 30)) then some false else ((ref06_Domains N x0).bind fun r24 => (bif (!r24) then some true else ((iter (law06_few_L0 N x0 x1 r24) N (1, 0)).bind fun o => o.k (fun r => some r) (fun s47 => some (decide (s47.1 ≤ x1)))))))
theorem co_law06_few : CallOk Tryz.prog 55 := fun _ _ => by kernel_rfl
theorem c_law06_few (N : Nat) (w0 : World) (F0 : Mem) (hF : ∀ b o, F0 b = some o → w0.heap[b]? = some o) (x0 : (List Span)) (a0_0 : Option Addr) (n0_0 : Nat) (hb0_0 : LC x0.length n0_0) (hs0_0 : SlA tSpan F0 a0_0 x0) (x1 : Int) (r : Bool) (h : law06_few N x0 x1 = some r) :
  Calls Tryz.prog 55 ([(.slice a0_0 x0.length n0_0), (vi x1)] : List Value).toArray w0 (FRet w0 F0 fun F' v => v = (.bool r)) := by
 have hs0 := HS.start hF
 refine Go 36 Tryz.func55 ?_
 refine Sq (Rg [0] ?_)
 refine Vs 1 ?_
 refine Nss ?_
 refine Sq (Rg [0, 1, 2] ?_)
 refine Vs 3 ?_
 refine Nt ?_
 refine Cd h (fun hb21 h22 => ?_) (fun hb21 h23 => ?_)
 ·refine Sq (Rg [0] ?_)
  refine Vs 1 ?_
  refine Nt ?_
  refine Rt ?_
  refine thenQ_ret ?_
  obtain rfl := some_inj h22
  exact Re [(.bool false)] hs0 rfl
 ·refine Sc ?_
  refine thenQ_nrm ?_
  refine Sq ?_
  refine Sq (Rg [0, 1, 2] ?_)
  refine Vs 1 ?_
  obtain ⟨r24, hr25, h26⟩ := bind_some h23
  refine Cl' co_ref06_Domains hs0 (c_ref06_Domains N w0 F0 hs0.pers (x0) a0_0 n0_0 hb0_0 hs0_0 _ hr25) ?_
  rintro _ F1 w28 hs29 le30 rfl
  refine Vs 1 ?_
  refine Nt ?_
  refine Cd h26 (fun hb32 h33 => ?_) (fun hb32 h34 => ?_)
  ·refine Sq (Rg [0] ?_)
   refine Vs 1 ?_
   refine Nt ?_
   refine Rt ?_
   refine thenQ_ret ?_
   obtain rfl := some_inj h33
   exact Re [(.bool true)] hs29 rfl
  ·refine Sc ?_
   refine thenQ_nrm ?_
   refine Sq (Rg [0] ?_)
   refine Vs 1 ?_
   refine Nss ?_
   refine Sq (Rg [0] ?_)
   refine Vs 1 ?_
   refine Nt ?_
   obtain ⟨o35, ho36, h37⟩ := bind_some h34
   refine CWP.cut (fun f w => ∃ (s47 : (Int × Int)) (F3 : Mem), o35 = .done s47 ∧ HS w0 F0 w F3 [] ∧ Mem.le F1 F3 ∧ FI f [] [(1, (vi x1)), (5, (vi s47.1))]) ?_ ?_
   ·refine Bk ?_
    refine CWP.loop (by kernel_rfl) (fun m f w => ∃ (s38 : (Int × Int)) (F2 : Mem), iter (law06_few_L0 N x0 x1 r24) m s38 = some o35 ∧ HS w0 F0 w F2 [] ∧ Mem.le F1 F2 ∧ FI f [] [(0, (.slice a0_0 x0.length n0_0)), (1, (vi x1)), (5, (vi s38.1)), (6, (vi s38.2))]) N ⟨(1, 0), F1, ho36, hs29, (Mem.le.refl _), fI⟩ ?_
    rintro m54 f w39 ⟨s38, F2, hit55, hs40, le41, ⟨_, rfl⟩⟩
    obtain ⟨m56, fl57, rfl, hb58, hnx59⟩ := iter_step hit55
    refine Sq ?_
    refine Sq (Rg [0, 1, 2, 3] ?_)
    refine Vs 4 ?_
    refine Nt ?_
    refine Cd hb58 (fun hb60 h61 => ?_) (fun hb60 h62 => ?_)
    ·refine Sc ?_
     refine thenQ_nrm ?_
     refine Sq ?_
     refine Bk ?_
     obtain ⟨j68, hj74, h75⟩ := bind_some h61
     refine RD 15 15 [] [] hs40 (fun f w => ∃ (F4 : Mem), HS w0 F0 w F4 [] ∧ Mem.le F2 F4 ∧ FI f [] [(0, (.slice a0_0 x0.length n0_0)), (1, (vi x1)), (5, (vi j68)), (6, (vi s38.2))]) (fun wd63 hw64 => ?_) ?_
     ·refine Dv [0, 1, 2] ?_
      obtain ⟨x76, hx77, h79⟩ := bind_some hj74
      obtain ⟨hi78, hx77'⟩ := idx_spec hx77
      obtain ⟨b80, o81, C82, E83, fz84, rfl, hF86, hE87⟩ := SlA.open (SlA.mono hs0_0 (le30.trans le41)) hx77'
      have hc89 := hE87 _ _ hx77'
      refine Di 3 hi78 ?_
      refine Dv [4] ?_
      refine Dx 5 1 (fun _ hq => hq.1.1 _ _ hF86) hc89 ?_
      refine Dv [6, 7] ?_
      obtain ⟨x90, hx91, h93⟩ := bind_some h79
      obtain ⟨hi92, hx91'⟩ := idx_spec hx91
      have hc95 := hE87 _ _ hx91'
      refine Di 8 hi92 ?_
      refine Dv [9] ?_
      refine Dx 10 0 (fun _ hq => hq.1.1 _ _ hF86) hc95 ?_
      refine Dv [11, 12, 13, 14] ?_
      obtain rfl := some_inj h93
      exact DWP.done (by kernel_rfl) ⟨F2, hw64, (Mem.le.refl _), fI⟩
     ·rintro f w65 ⟨F4, hs66, le67, ⟨_, rfl⟩⟩
      refine blockQ_nrm ?_
      refine thenQ_nrm ?_
      refine Rg [0, 1, 2] ?_
      refine Vs 3 ?_
      refine RWP.nil ?_
      have hn96 := iter_next h75 hnx59
      exact ⟨m56, Nat.lt_succ_self _, (j68, (W64 (s38.2 + 1))), F4, hn96, hs66, (le41.trans le67), fI⟩
    ·refine Ex ?_
     refine thenQ_ex ?_
     refine thenQ_ex ?_
     refine blockQ_hit rfl ?_
     have ho97 := iter_done h62 hnx59
     exact .inl ⟨rfl, (s38.1, s38.2), F2, ho97, hs40, le41, fI⟩
   ·rintro f w48 ⟨s47, F3, rfl, hs49, le50, ⟨_, rfl⟩⟩
    have h98 := k_done h37
    refine thenQ_nrm ?_
    refine Sq (Rg [0, 1, 2, 3] ?_)
    refine Vs 4 ?_
    refine Nt ?_
    refine Rt ?_
    obtain rfl := some_inj h98
    exact Re [(.bool (decide (s47.1 ≤ x1)))] hs49 rfl
end Go.Proofs.YtaihlcdkcampbaaGreatDoor
namespace Go.Proofs.YtaihlcdkcampbaaGreatDoor
def domF : Int → List Span → Bool
 | _, [] => true
 | p, s :: d => (decide (0 ≤ s.Lo) && (decide (s.Lo ≤ s.Hi) && decide (s.Hi ≤ 1000000))) && (decide (p * (s.Hi - s.Lo + 1) ≤ 4096) && domF (p * (s.Hi - s.Lo + 1)) d)
def dom (d : List Span) : Bool := decide (d.length = 14) && domF 1 d
theorem domF_vol : ∀ {d : List Span} {p : Int}, domF p d = true → 0 ≤ p → p ≤ 4096 → p * (vol d : Int) ≤ 4096
 | [], p, _, _, h => by simpa [vol] using h
 | s :: d, p, h, h0, _ => by
  unfold domF at h
  simp only [Bool.and_eq_true, decide_eq_true_eq] at h
  obtain ⟨⟨h1, h2, h3⟩, h4, h5⟩ := h
  have := domF_vol h5 (Int.mul_nonneg h0 (by omega)) h4
  unfold vol
  rw [Int.natCast_mul, show (((s.Hi + 1 - s.Lo).toNat : Nat) : Int) = s.Hi - s.Lo + 1 by omega, ← Int.mul_assoc]
  exact this
theorem domF_ok : ∀ {d : List Span} {p : Int}, domF p d = true → ∀ s, s ∈ d → 0 ≤ s.Lo ∧ s.Lo ≤ s.Hi ∧ s.Hi ≤ 1000000
 | [], _, _, s, hs => by cases hs
 | a :: d, p, h, s, hs => by
  unfold domF at h
  simp only [Bool.and_eq_true, decide_eq_true_eq] at h
  rcases List.mem_cons.1 hs with rfl | hs
  ·exact h.1
  ·exact domF_ok h.2.2 s hs
theorem dom_len {d : List Span} (h : dom d = true) : d.length = 14 := by unfold dom at h; simp at h; exact h.1
theorem dom_ok {d : List Span} (h : dom d = true) : ∀ s, s ∈ d → 0 ≤ s.Lo ∧ s.Lo ≤ s.Hi ∧ s.Hi ≤ 1000000 := by unfold dom at h; simp only [Bool.and_eq_true] at h; exact domF_ok h.2
theorem dom_okD {d : List Span} (h : dom d = true) : okD d := fun s hs => (dom_ok h s hs).2.1
theorem dom_vol {d : List Span} (h : dom d = true) : vol d ≤ 4096 := by
 unfold dom at h; simp only [Bool.and_eq_true] at h
 have := domF_vol h.2 (by omega) (by omega); omega
theorem dom_fac {d : List Span} (h : dom d = true) {f : List Int} (hf : f ∈ allL d) : fac f = true := by
 have hb := mem_allL.1 hf
 have hl := box_len hb
 have hd := dom_len h
 unfold fac
 simp only [Bool.and_eq_true, decide_eq_true_eq, List.all_eq_true]
 refine ⟨by omega, fun n hn => ?_⟩
 obtain ⟨i, hi, rfl⟩ := List.getElem_of_mem hn
 have h1 := box_get hb i (by omega) hi
 have h2 := dom_ok h d[i] (List.getElem_mem (by omega))
 omega
section
variable {N : Nat}
theorem dom_step {p : Int} {s : Span} {d : List Span} (hp : 0 ≤ p) (hp' : p ≤ 4096) (h : 0 ≤ s.Lo ∧ s.Lo ≤ s.Hi ∧ s.Hi ≤ 1000000) : W64 (p * (W64 ((W64 (s.Hi - s.Lo)) + 1))) = p * (s.Hi - s.Lo + 1) ∧ 0 ≤ p * (s.Hi - s.Lo + 1) := by
 rw [W64_small (n := s.Hi - s.Lo) (by omega) (by omega), W64_small (n := s.Hi - s.Lo + 1) (by omega) (by omega)]
 have h1 : 0 ≤ p * (s.Hi - s.Lo + 1) := Int.mul_nonneg hp (by omega)
 have h2 : p * (s.Hi - s.Lo + 1) ≤ 4096 * 1000001 := Int.mul_le_mul hp' (by omega) (by omega) (by omega)
 exact ⟨W64_small (by omega) (by omega), h1⟩
theorem dom_iter {d : List Span} {body : Int × Int → Option (Flow Bool (Int × Int))} (hN : 100 < N) (hd : d.length = 14)
  (hb : ∀ (i : Nat) (p : Int) (h : i < d.length), 0 ≤ p → p ≤ 4096 → body (p, (i : Int)) = some (if (decide (0 ≤ d[i].Lo) && (decide (d[i].Lo ≤ d[i].Hi) && decide (d[i].Hi ≤ 1000000))) && decide (p * (d[i].Hi - d[i].Lo + 1) ≤ 4096) then .next (p * (d[i].Hi - d[i].Lo + 1), ((i + 1 : Nat) : Int)) else .ret false)) (he : ∀ p, body (p, (d.length : Int)) = some (.done (p, (d.length : Int)))) :
  ((iter body N (1, 0)).bind fun o => o.k (fun r => some r) (fun _ => some true)) = some (domF 1 d) := by
 obtain ⟨o, ho, hR⟩ := iter_ex (body := body) d.length (fun i s => s.2 = (i : Int) ∧ 0 ≤ s.1 ∧ s.1 ≤ 4096 ∧ domF 1 d = domF s.1 (d.drop i)) (fun o => o.k (fun r => some r) (fun _ => some true) = some (domF 1 d)) (by
  rintro i ⟨p, q⟩ hi ⟨h1, h2, h3, h4⟩
  simp only at h1 h2 h3 h4
  subst h1
  by_cases h : i < d.length
  ·have e := hb i p h h2 h3
   rw [List.drop_eq_getElem_cons h, domF] at h4
   cases hc : (decide (0 ≤ d[i].Lo) && (decide (d[i].Lo ≤ d[i].Hi) && decide (d[i].Hi ≤ 1000000))) && decide (p * (d[i].Hi - d[i].Lo + 1) ≤ 4096) with
   | true =>
    rw [hc, if_pos rfl] at e
    simp only [Bool.and_eq_true, decide_eq_true_eq] at hc
    refine .inl ⟨_, e, ⟨rfl, Int.mul_nonneg h2 (by omega), hc.2, ?_⟩, h⟩
    rw [h4]
    simp [hc.1.1, hc.1.2.1, hc.1.2.2, hc.2]
   | false =>
    rw [hc, if_neg (by simp)] at e
    refine .inr ⟨_, e, fun _ h => (by cases h), ?_⟩
    rw [h4, ← Bool.and_assoc, hc]; rfl
  ·have : i = d.length := by omega
   subst this
   refine .inr ⟨_, he p, fun _ h => (by cases h), ?_⟩
   rw [h4, List.drop_length]; rfl) d.length N 0 (1, 0) (by omega) ⟨rfl, by omega, by omega, by simp⟩ (by omega)
 rw [ho, Option.bind_some]; exact hR
theorem s_domains (hN : 100 < N) (d : List Span) : rules_domains N d = some (dom d) := by
 unfold rules_domains dom
 by_cases hd : d.length = 14
 ·rw [show ((d.length : Int) != 14) = false by rw [hd]; rfl, cond_false, decide_eq_true hd, Bool.true_and]
  refine dom_iter hN hd (fun i p h h2 h3 => ?_) fun p => ?_
  ·unfold rules_domains_L0
   simp only
   rw [lt_t h, cond_true, idx_nat h, Option.bind_some]
   by_cases hc : 0 ≤ d[i].Lo ∧ d[i].Lo ≤ d[i].Hi ∧ d[i].Hi ≤ 1000000
   ·rw [(dom_step h2 h3 hc (d := [])).1, W64_succ (by omega)]
    have e1 : (decide (d[i].Lo < 0) || (decide (d[i].Lo > d[i].Hi) || decide (d[i].Hi > 1000000))) = false := by simp; omega
    rw [e1, cond_false]
    by_cases hv : p * (d[i].Hi - d[i].Lo + 1) ≤ 4096
    ·rw [decide_eq_false (by omega), cond_false]; simp [hc.1, hc.2.1, hc.2.2, hv]
    ·rw [decide_eq_true (by omega), cond_true]; simp [hv]
   ·have e1 : (decide (d[i].Lo < 0) || (decide (d[i].Lo > d[i].Hi) || decide (d[i].Hi > 1000000))) = true := by simp; omega
    rw [e1, cond_true, if_neg]
    simp only [Bool.and_eq_true, decide_eq_true_eq]; exact fun h => hc h.1
  ·unfold rules_domains_L0
   simp only
   rw [lt_f, cond_false]
 ·rw [show ((d.length : Int) != 14) = true by simp; omega, cond_true, decide_eq_false hd]; rfl
theorem s_Domains (hN : 100 < N) (d : List Span) : ref06_Domains N d = some (dom d) := by
 unfold ref06_Domains dom
 by_cases hd : d.length = 14
 ·rw [show ((d.length : Int) != 14) = false by rw [hd]; rfl, cond_false, decide_eq_true hd, Bool.true_and]
  refine dom_iter hN hd (fun i p h h2 h3 => ?_) fun p => ?_
  ·unfold ref06_Domains_L0
   simp only
   rw [lt_t h, cond_true]
   simp only [idx_nat h, Option.bind_some]
   by_cases hc : 0 ≤ d[i].Lo ∧ d[i].Lo ≤ d[i].Hi ∧ d[i].Hi ≤ 1000000
   ·rw [(dom_step h2 h3 hc (d := [])).1, W64_succ (by omega)]
    rw [decide_eq_false (by omega : ¬ d[i].Lo < 0), cond_false, decide_eq_false (by omega : ¬ d[i].Hi < d[i].Lo), cond_false, decide_eq_false (by omega : ¬ d[i].Hi > 1000000), Option.bind_some, cond_false]
    by_cases hv : p * (d[i].Hi - d[i].Lo + 1) ≤ 4096
    ·rw [decide_eq_false (by omega), cond_false]; simp [hc.1, hc.2.1, hc.2.2, hv]
    ·rw [decide_eq_true (by omega), cond_true]; simp [hv]
   ·rw [if_neg (by simp only [Bool.and_eq_true, decide_eq_true_eq]; exact fun h => hc h.1)]
    by_cases h1 : d[i].Lo < 0
    ·rw [decide_eq_true h1, cond_true, Option.bind_some, cond_true]
    ·rw [decide_eq_false h1, cond_false]
     by_cases h2 : d[i].Hi < d[i].Lo
     ·rw [decide_eq_true h2, cond_true, Option.bind_some, cond_true]
     ·rw [decide_eq_false h2, cond_false, decide_eq_true (by omega), Option.bind_some, cond_true]
  ·unfold ref06_Domains_L0
   simp only
   rw [lt_f, cond_false]
 ·rw [show ((d.length : Int) != 14) = true by simp; omega, cond_true, decide_eq_false hd]; rfl
theorem s_few (hN : 100 < N) (d : List Span) (k : Int) : ∃ b, law06_few N d k = some b ∧ (dom d = false → d.length ≤ 30 → b = true) := by
 unfold law06_few
 by_cases hl : d.length > 30
 ·exact ⟨false, by rw [decide_eq_true (by omega), cond_true], fun _ h => by omega⟩
 ·rw [decide_eq_false (by omega), cond_false, s_Domains hN, Option.bind_some]
  cases hd : dom d with
  | false => exact ⟨true, rfl, fun _ _ => rfl⟩
  | true =>
   rw [show (!true) = false from rfl, cond_false]
   rw [iter_fold d (fun s => some (W64 (W64 (s.Hi - s.Lo) + 1))) (fun s => W64 (W64 (s.Hi - s.Lo) + 1)) (fun s r => W64 (s * r)) (fun _ _ => rfl) (fun s i => by
    unfold law06_few_L0
    simp only
    cases decide (i < (d.length : Int)) with
    | false => rfl
    | true =>
     rw [cond_true, cond_true]
     cases idx d i <;> rfl) (by omega) (by omega)]
   exact ⟨_, rfl, fun h => by cases h⟩
variable {σ : Type}
def foldY (y : σ → List Int → Option (Bool × σ)) : List (List Int) → σ → Option σ
 | [], s => some s
 | x :: l, s => (y s x).bind fun q => bif q.1 then foldY y l q.2 else some q.2
theorem los_get {d : List Span} {i : Nat} (h : i < (los d).length) : (los d)[i] = (d[i]'(by simpa [los] using h)).Lo := by simp [los]
theorem los_len (d : List Span) : (los d).length = d.length := by simp [los]
theorem set_take {α : Type} {l m : List α} {k : Nat} {x : α} (hk : k < l.length) (hm : m.length = l.length) (hx : m[k]'(by omega) = x) : (l.take (k + 1) ++ m.drop (k + 1)).set k x = l.take k ++ m.drop k := by
 subst hx
 apply List.ext_getElem
 ·simp; omega
 ·intro i h1 h2
  rw [List.getElem_set]
  split
  ·rename_i e; subst e
   rw [List.getElem_append_right (by simp; omega)]
   simp [Nat.min_eq_left (Nat.le_of_lt hk)]
  ·rename_i e
   by_cases hi : i < k
   ·rw [List.getElem_append_left (by simp; omega), List.getElem_append_left (by simp; omega)]
    simp
   ·rw [List.getElem_append_right (by simp; omega), List.getElem_append_right (by simp; omega)]
    simp only [List.length_take, List.getElem_drop]
    congr 1
    omega
theorem iter_nx {ρ τ : Type} {body : τ → Option (Flow ρ τ)} {m : Nat} {s s' : τ} (h : body s = some (.next s')) : iter body (m + 1) s = iter body m s' := by rw [iter, h]
theorem iter_dn {ρ τ : Type} {body : τ → Option (Flow ρ τ)} {m : Nat} {s x : τ} (h : body s = some (.done x)) : iter body (m + 1) s = some (.done x) := by rw [iter, h]
theorem back_iter {y : σ → List Int → Option (Bool × σ)} {d : List Span} {s : σ} {r1 : List Int} {s27 : Int × List Int × σ} {s87 : List Int × σ} {q : Bool × σ} {f : List Int} {t : σ} (hd : d.length = 14) (hb : box d f) :
  ∀ (k m : Nat), k ≤ 14 → k < m → (∀ (j : Nat) (h1 : j < d.length) (h2 : j < f.length), k ≤ j → f[j] = d[j].Hi) →
   ∃ o, iter (rules_all_1_L2 N y d s r1 s27 s87 q) m ((k : Int) - 1, f.take k ++ (los d).drop k, t) = some (.done o) ∧ o.2.2 = t ∧
    ((o.1 < 0 ∧ suc d f = none) ∨ ∃ (i : Nat) (h1 : i < d.length) (h2 : i < f.length), o.1 = (i : Int) ∧ o.2.1 = f.take (i + 1) ++ (los d).drop (i + 1) ∧ suc d f = some (f.take i ++ (f[i] + 1) :: los (d.drop (i + 1))) ∧ f[i] < d[i].Hi)
 | 0, m + 1, _, _, hall => by
  refine ⟨((0 : Nat) - 1, f.take 0 ++ (los d).drop 0, t), ?_, rfl, .inl ⟨by simp, suc_none (box_len hb) fun i h1 h2 => hall i h1 h2 (by omega)⟩⟩
  rw [iter]
  unfold rules_all_1_L2
  simp only
  rw [decide_eq_false (by omega), cond_false, Option.bind_some, cond_false]
 | k + 1, m + 1, hk, hm, hall => by
  have hl := box_len hb
  have hkl : k < d.length := by omega
  have hkf : k < f.length := by omega
  have hg : k < (f.take (k + 1) ++ (los d).drop (k + 1)).length := by simp [los]; omega
  have hge : (f.take (k + 1) ++ (los d).drop (k + 1))[k] = f[k] := by
   rw [List.getElem_append_left (by simp; omega)]; simp
  have hbk := box_get hb k hkl hkf
  rw [show (((k + 1 : Nat) : Int) - 1) = (k : Int) by omega]
  by_cases hh : f[k] = d[k].Hi
  ·obtain ⟨o, h1, h2, h3⟩ := back_iter (y := y) (s := s) (r1 := r1) (s27 := s27) (s87 := s87) (q := q) (t := t) hd hb k m (by omega) (by omega) fun j h1 h2 hj => by
    by_cases hjk : j = k
    ·subst hjk; exact hh
    ·exact hall j h1 h2 (by omega)
   refine ⟨o, ?_, h2, h3⟩
   rw [iter_nx (s' := ((k : Int) - 1, f.take k ++ (los d).drop k, t)), h1]
   unfold rules_all_1_L2
   simp only
   rw [decide_eq_true (by omega), cond_true, idx_nat hg, Option.bind_some, idx_nat hkl, Option.bind_some, Option.bind_some, hge, hh]
   rw [show (d[k].Hi == d[k].Hi) = true by simp, cond_true, Option.bind_some, Option.bind_some, Int.toNat_natCast, set_take hkf (by rw [los_len]; omega) (los_get _), W64_small (by omega) (by omega)]
  ·refine ⟨((k : Int), f.take (k + 1) ++ (los d).drop (k + 1), t), ?_, rfl, .inr ⟨k, hkl, hkf, rfl, rfl, suc_at hl hkl hkf (by omega) fun j h1 h2 hj => hall j h1 h2 (by omega), by omega⟩⟩
   rw [iter_dn (x := ((k : Int), f.take (k + 1) ++ (los d).drop (k + 1), t))]
   unfold rules_all_1_L2
   simp only
   rw [decide_eq_true (by omega), cond_true, idx_nat hg, Option.bind_some, idx_nat hkl, Option.bind_some, Option.bind_some, hge]
   rw [show (f[k] == d[k].Hi) = false by simpa using hh, cond_false]
theorem set_next {d : List Span} {f : List Int} {i : Nat} (hl : f.length = d.length) (hi : i < f.length) : (f.take (i + 1) ++ (los d).drop (i + 1)).set i (f[i] + 1) = f.take i ++ (f[i] + 1) :: los (d.drop (i + 1)) := by
 have e : los (d.drop (i + 1)) = (los d).drop (i + 1) := by simp [los]
 rw [e]
 have h2 : (los d).length = f.length := by rw [los_len]; omega
 apply List.ext_getElem
 ·simp [los]; omega
 ·intro j h1 h3
  rw [List.getElem_set]
  split
  ·rename_i e; subst e
   rw [List.getElem_append_right (by simp; omega)]
   simp [Nat.min_eq_left (Nat.le_of_lt hi)]
  ·rename_i e
   by_cases hj : j < i
   ·rw [List.getElem_append_left (by simp; omega), List.getElem_append_left (by simp; omega)]
    simp
   ·rw [List.getElem_append_right (by simp; omega), List.getElem_append_right (by simp; omega)]
    rw [List.getElem_cons]
    have h4 : ¬ (j - (f.take i).length = 0) := by simp; omega
    rw [dif_neg h4]
    simp only [List.length_take, List.getElem_drop]
    congr 1
    omega
theorem rounds {y : σ → List Int → Option (Bool × σ)} {d : List Span} {s : σ} {r1 : List Int} {s27 : Int × List Int × σ} (hd : dom d = true) (hN : 100 < N) :
  ∀ (k : Nat) (f : List Int) (t : σ) (m : Nat), box d f → (frm d f).length ≤ k → k < m →
   ((iter (rules_all_1_L1 N y d s r1 s27) m (f, t)).bind fun o => o.k (fun r => some r) (fun s97 => some s97.2)) = foldY y (frm d f) t
 | k, f, t, 0, _, _, hm => absurd hm (by omega)
 | k, f, t, m + 1, hb, hk, hm => by
  have hdl := dom_len hd
  have hl := box_len hb
  rw [frm_suc (dom_okD hd) hb] at hk ⊢
  rw [foldY, iter]
  unfold rules_all_1_L1
  simp only
  cases hy : y t f with
  | none => rfl
  | some q =>
   rw [Option.bind_some, Option.bind_some]
   cases hq : q.1 with
   | false => rfl
   | true =>
    rw [cond_true, cond_true]
    obtain ⟨o, h1, h2, h3⟩ := back_iter (N := N) (y := y) (s := s) (r1 := r1) (s27 := s27) (s87 := (f, t)) (q := q) (t := q.2) hdl hb 14 N (by omega) (by omega) fun j h4 h5 hj => by omega
    rw [show (((14 : Nat) : Int) - 1) = W64 ((d.length : Int) - 1) by rw [hdl]; rfl] at h1
    rw [List.take_of_length_le (by omega), List.drop_of_length_le (by rw [los_len]; omega), List.append_nil] at h1
    rw [h1, Option.bind_some]
    simp only [Flow.k]
    rcases h3 with ⟨h4, h5⟩ | ⟨i, h4, h5, h6, h7, h8, h9⟩
    ·rw [decide_eq_true h4, cond_true, h5, Option.elim_none, h2]
     rfl
    ·have hg : i < o.2.1.length := by rw [h7]; simp [los]; omega
     have hge : o.2.1[i] = f[i] := by
      simp only [h7]
      rw [List.getElem_append_left (by simp; omega)]; simp
     have hbi := box_get hb i h4 h5
     have hdi := dom_ok hd d[i] (List.getElem_mem h4)
     rw [h6, decide_eq_false (by omega), cond_false, idx_nat hg, Option.bind_some, Option.bind_some, hge, Int.toNat_natCast, W64_small (by omega) (by omega), h7, set_next hl h5, h2]
     simp only [← h7]
     rw [h8, Option.elim_some] at hk
     rw [h8, Option.elim_some]
     have hb' : box d (f.take i ++ (f[i] + 1) :: los (d.drop (i + 1))) := suc_box (dom_okD hd) hb h8
     simp only [List.length_cons] at hk
     obtain ⟨k', rfl⟩ : ∃ k', k = k' + 1 := ⟨k - 1, by omega⟩
     exact rounds hd hN k' _ q.2 m hb' (by omega) (by omega)
theorem first_iter {y : σ → List Int → Option (Bool × σ)} {d : List Span} {s : σ} {r1 : List Int} (hr : r1.length = d.length) (hd : d.length = 14) (hN : 100 < N) :
  iter (rules_all_1_L0 N y d s r1) N (0, r1, s) = some (.done ((d.length : Int), los d, s)) := by
 obtain ⟨o, ho, rfl⟩ := iter_ex (body := rules_all_1_L0 N y d s r1) d.length (fun i t => t = ((i : Int), (los d).take i ++ r1.drop i, s)) (fun o => o = .done ((d.length : Int), los d, s)) (by
  rintro i t hi rfl
  by_cases h : i < d.length
  ·refine .inl ⟨((i + 1 : Nat), (los d).take (i + 1) ++ r1.drop (i + 1), s), ?_, rfl, h⟩
   unfold rules_all_1_L0
   simp only
   have hg : i < ((los d).take i ++ r1.drop i).length := by simp [los]; omega
   rw [lt_t h, cond_true, idx_nat h, Option.bind_some, idx_nat hg, Option.bind_some, W64_succ (by omega), Int.toNat_natCast]
   have : ((los d).take i ++ r1.drop i).set i d[i].Lo = (los d).take (i + 1) ++ r1.drop (i + 1) := by
    rw [List.set_append_right _ _ (by simp; omega)]
    rw [show i - ((los d).take i).length = 0 by simp [los]; omega]
    rw [List.drop_eq_getElem_cons (by omega : i < r1.length), List.set_cons_zero, List.take_succ_eq_append_getElem (by rw [los_len]; exact h), los_get]
    simp
   rw [this]
  ·have : i = d.length := by omega
   subst this
   refine .inr ⟨.done ((d.length : Int), (los d).take d.length ++ r1.drop d.length, s), ?_, (fun _ h => by cases h), ?_⟩
   ·unfold rules_all_1_L0
    simp only
    rw [lt_f, cond_false]
   ·rw [List.take_of_length_le (by rw [los_len]; omega), List.drop_of_length_le (by omega), List.append_nil]) d.length N 0 (0, r1, s) (by omega) (by simp) (by omega)
 exact ho
theorem s_all1 (y : σ → List Int → Option (Bool × σ)) {d : List Span} (s : σ) (hd : dom d = true) (hN : 5000 < N) : rules_all_1 N y d s = foldY y (allL d) s := by
 unfold rules_all_1
 have hdl := dom_len hd
 have e : mk0 (0 : Int) (d.length : Int) = some (List.replicate 14 0) := by rw [hdl]; rfl
 rw [e, Option.bind_some, first_iter (by simp [hdl]) hdl (by omega), Option.bind_some]
 simp only [Flow.k]
 have hv := dom_vol hd
 have hf := frm_los (dom_okD hd)
 have := rounds (N := N) (y := y) (s := s) (r1 := List.replicate 14 0) (s27 := ((d.length : Int), los d, s)) hd (by omega) (vol d) (los d) s N (los_box (dom_okD hd)) (by rw [hf, allL_length]; omega) (by omega)
 rw [hf] at this
 exact this
theorem find_fold {p : List Int → Option Bool} {q : List Int → Bool} : ∀ {L : List (List Int)}, (∀ f, f ∈ L → p f = some (q f) ∧ f.length < 4294967296) → foldY (findY N p) L none = some (L.find? q)
 | [], _ => rfl
 | x :: L, h => by
  obtain ⟨h1, h2⟩ := h x (List.mem_cons_self ..)
  rw [foldY]
  unfold findY
  simp only
  rw [h1, Option.bind_some, List.find?_cons]
  cases hq : q x with
  | true =>
   rw [cond_true]
   unfold slices_Clone_int_int
   rw [apnd_ok (by simpa using h2)]; rfl
  | false =>
   rw [cond_false, Option.bind_some, cond_true]
   exact find_fold fun f hf => h f (List.mem_cons_of_mem _ hf)
def found (o : Option (List Int)) : List Int × Int := match o with | some c => (c, 0) | none => ([], 3)
theorem s_find {d : List Span} {p : List Int → Option Bool} {q : List Int → Bool} (hd : dom d = true) (hN : 5000 < N) (h : ∀ f, f ∈ allL d → p f = some (q f)) : rules_find N d p = some (found ((allL d).find? q)) := by
 unfold rules_find
 rw [s_all1 _ _ hd hN, find_fold fun f hf => ⟨h f hf, by have := box_len (mem_allL.1 hf); have := dom_len hd; omega⟩, Option.bind_some]
 cases (allL d).find? q <;> rfl
end
end Go.Proofs.YtaihlcdkcampbaaGreatDoor
namespace Go.Proofs.YtaihlcdkcampbaaGreatDoor
open Go.Proofs
def rules_asked (N : Nat) (x0 : (List Clause)) (x1 : (List Span)) : Option Int :=
 ((rules_clauses N x0).bind fun r21 => (bif (!r21) then some 61 else ((rules_domains N x1).bind fun r32 => (bif (!r32) then some 64 else some 0))))
theorem co_rules_asked : CallOk Tryz.prog 119 := fun _ _ => by kernel_rfl
theorem c_rules_asked (N : Nat) (w0 : World) (F0 : Mem) (hF : ∀ b o, F0 b = some o → w0.heap[b]? = some o) (x0 : (List Clause)) (a0_0 : Option Addr) (n0_0 : Nat) (hb0_0 : LC x0.length n0_0) (hs0_0 : SlA tClause F0 a0_0 x0) (x1 : (List Span)) (a1_0 : Option Addr) (n1_0 : Nat) (hb1_0 : LC x1.length n1_0) (hs1_0 : SlA tSpan F0 a1_0 x1) (r : Int) (h : rules_asked N x0 x1 = some r) :
  Calls Tryz.prog 119 ([(.slice a0_0 x0.length n0_0), (.slice a1_0 x1.length n1_0)] : List Value).toArray w0 (FRet w0 F0 fun F' v => v = (vi r)) := by
 have hs0 := HS.start hF
 refine Go 13 Tryz.func119 ?_
 refine Sq (Rg [0] ?_)
 refine Vs 1 ?_
 refine Nss ?_
 refine Bk ?_
 refine Sq (Rg [0, 1, 2, 3] ?_)
 refine Vs 1 ?_
 obtain ⟨r21, hr22, h23⟩ := bind_some h
 refine Cl' co_rules_clauses hs0 (c_rules_clauses N w0 F0 hs0.pers (x0) a0_0 n0_0 hb0_0 hs0_0 _ hr22) ?_
 rintro _ F1 w25 hs26 le27 rfl
 refine Vs 2 ?_
 refine Nt ?_
 refine Cd h23 (fun hb29 h30 => ?_) (fun hb29 h31 => ?_)
 ·refine Sq (Rg [0] ?_)
  refine Vs 1 ?_
  refine Nt ?_
  refine Rt ?_
  refine blockQ_ret ?_
  refine thenQ_ret ?_
  obtain rfl := some_inj h30
  exact Re [(vi 61)] hs26 rfl
 ·refine Sq (Rg [0, 1, 2, 3] ?_)
  refine Vs 1 ?_
  obtain ⟨r32, hr33, h34⟩ := bind_some h31
  refine Cl' co_rules_domains hs26 (c_rules_domains N w25 F1 hs26.pers (x1) a1_0 n1_0 hb1_0 (SlA.mono hs1_0 le27) _ hr33) ?_
  rintro _ F2 w36 hs37 le38 rfl
  refine Vs 2 ?_
  refine Nt ?_
  refine Cd h34 (fun hb40 h41 => ?_) (fun hb40 h42 => ?_)
  ·refine Sq (Rg [0] ?_)
   refine Vs 1 ?_
   refine Nt ?_
   refine Rt ?_
   refine blockQ_ret ?_
   refine thenQ_ret ?_
   obtain rfl := some_inj h41
   exact Re [(vi 64)] hs37 rfl
  ·refine Sc ?_
   refine blockQ_nrm ?_
   refine thenQ_nrm ?_
   refine Sq (Rg [0] ?_)
   refine Vs 1 ?_
   refine Nt ?_
   refine Rt ?_
   obtain rfl := some_inj h42
   exact Re [(vi 0)] hs37 rfl
end Go.Proofs.YtaihlcdkcampbaaGreatDoor
namespace Go.Proofs.YtaihlcdkcampbaaGreatDoor
open Go.Proofs
def rules_Gap_1 (N : Nat) (x0 : (List Int)) (z0 : (List Clause)) : Option Bool :=
 ((rules_first N z0 x0).bind fun r21 => some (decide (r21 < 0)))
theorem co_rules_Gap_1 : CallOk Tryz.prog 121 := fun _ _ => by kernel_rfl
theorem c_rules_Gap_1 (N : Nat) (w0 : World) (F0 : Mem) (hF : ∀ b o, F0 b = some o → w0.heap[b]? = some o) (x0 : (List Int)) (a0_0 : Option Addr) (n0_0 : Nat) (hb0_0 : LC x0.length n0_0) (hs0_0 : SlA tInt F0 a0_0 x0) (bz0 : Nat) (z0 : (List Clause)) (az0_0 : Option Addr) (nz0_0 : Nat) (hbz0_0 : LC z0.length nz0_0) (hsz0_0 : SlA tClause F0 az0_0 z0) (hz0 : F0 bz0 = some (oc #[(.slice az0_0 z0.length nz0_0)] 23)) (r : Bool) (h : rules_Gap_1 N x0 z0 = some r) :
  Calls Tryz.prog 121 ([(.slice a0_0 x0.length n0_0), (pt bz0 0)] : List Value).toArray w0 (FRet w0 F0 fun F' v => v = (.bool r)) := by
 have hs0 := HS.start hF
 refine Go 8 Tryz.func121 ?_
 refine Sq (Rg [0] ?_)
 refine Vs 1 ?_
 refine Nss (Rg [0, 1, 2, 3, 4] ?_)
 refine Ld (hs0.pers _ _ hz0) ?_
 refine Vs 1 ?_
 obtain ⟨r21, hr22, h23⟩ := bind_some h
 refine Cl' co_rules_first hs0 (c_rules_first N w0 F0 hs0.pers (z0) az0_0 nz0_0 hbz0_0 hsz0_0 (x0) a0_0 n0_0 hb0_0 hs0_0 _ hr22) ?_
 rintro _ F1 w25 hs26 le27 rfl
 refine Vs 2 ?_
 refine Nt ?_
 refine Rt ?_
 obtain rfl := some_inj h23
 exact Re [(.bool (decide (r21 < 0)))] hs26 rfl
end Go.Proofs.YtaihlcdkcampbaaGreatDoor
namespace Go.Proofs.YtaihlcdkcampbaaGreatDoor
open Go.Proofs
def rules_Gap (N : Nat) (x0 : (List Clause)) (x1 : (List Span)) : Option ((List Int) × Int) :=
 ((rules_asked N x0 x1).bind fun r24 => (bif (r24 != 0) then some (([] : List Int), r24) else ((rules_find N x1 (fun y0 => rules_Gap_1 N y0 x0)).bind fun r38 => some (r38.1, r38.2))))
theorem co_rules_Gap : CallOk Tryz.prog 65 := fun _ _ => by kernel_rfl
theorem c_rules_Gap (N : Nat) (w0 : World) (F0 : Mem) (hF : ∀ b o, F0 b = some o → w0.heap[b]? = some o) (x0 : (List Clause)) (a0_0 : Option Addr) (n0_0 : Nat) (hb0_0 : LC x0.length n0_0) (hs0_0 : SlA tClause F0 a0_0 x0) (x1 : (List Span)) (a1_0 : Option Addr) (n1_0 : Nat) (hb1_0 : LC x1.length n1_0) (hs1_0 : SlA tSpan F0 a1_0 x1) (r : ((List Int) × Int)) (h : rules_Gap N x0 x1 = some r) :
  Calls Tryz.prog 65 ([(.slice a0_0 x0.length n0_0), (.slice a1_0 x1.length n1_0)] : List Value).toArray w0 (FRet w0 F0 fun F' v => ∃ (aq0_0 : Option Addr) (nq0_0 : Nat), v = (.tuple #[(.slice aq0_0 r.1.length nq0_0), (vi r.2)]) ∧ LC r.1.length nq0_0 ∧ SlA tInt F' aq0_0 r.1) := by
 have hs0 := HS.start hF
 refine Go 18 Tryz.func65 ?_
 refine Sq (Rg [0, 1, 2] ?_)
 refine Bx' 23 #[(.slice a0_0 x0.length n0_0)] hs0 (fun b21 w22 hs23 => ?_)
 refine Vs 2 ?_
 refine Nss ?_
 refine Sq (Rg [0, 1, 2, 3] ?_)
 refine Ld hs23.at0 ?_
 refine Vs 1 ?_
 obtain ⟨r24, hr25, h26⟩ := bind_some h
 refine Cl' co_rules_asked hs23 (c_rules_asked N w22 F0 hs23.pers (x0) a0_0 n0_0 hb0_0 hs0_0 (x1) a1_0 n1_0 hb1_0 hs1_0 _ hr25) ?_
 rintro _ F1 w28 hs29 le30 rfl
 refine Vs 1 ?_
 refine Nss (Rg [0, 1] ?_)
 refine Vs 2 ?_
 refine Nt ?_
 refine Cd h26 (fun hb32 h33 => ?_) (fun hb32 h34 => ?_)
 ·refine Sq (Rg [0, 1, 2] ?_)
  refine Vs 3 ?_
  refine Nt ?_
  refine Rt ?_
  refine thenQ_ret ?_
  obtain rfl := some_inj h33
  exact Re [(.slice none ([] : List Int).length 0), (vi r24)] hs29 ⟨none, 0, rfl, LC.nil, (.inl rfl)⟩
 ·refine Sc ?_
  refine thenQ_nrm ?_
  refine Sq (Rg [0, 1, 2, 3, 4, 5, 6] ?_)
  refine Vs 2 ?_
  obtain ⟨F2, hs35, le36, hF37⟩ := hs29.fc0
  obtain ⟨r38, hr39, h40⟩ := bind_some h34
  refine Cl' co_rules_find hs35 (c_rules_find N w28 F2 hs35.pers (x1) a1_0 n1_0 hb1_0 (SlA.mono hs1_0 (le30.trans le36)) 121 [] [(pt b21 0)] (fun y0 => rules_Gap_1 N y0 x0) co_rules_Gap_1 (fun w1 F1 y0 ay0_0 ny0_0 hby0_0 hsy0_0 r le1 pe1 hr1 => c_rules_Gap_1 N w1 F1 pe1  y0 ay0_0 ny0_0 hby0_0 hsy0_0 b21 x0 a0_0 n0_0 hb0_0 (SlA.mono (SlA.mono hs0_0 (le30.trans le36)) le1) (le1 _ _ hF37) r hr1) _ hr39) ?_
  rintro _ F3 w42 hs43 le44 ⟨ar38_0_0, nr38_0_0, rfl, hbr38_0_0, hsr38_0_0⟩
  refine Vs 4 ?_
  refine Nt ?_
  refine Rt ?_
  obtain rfl := some_inj h40
  exact Re [(.slice ar38_0_0 r38.1.length nr38_0_0), (vi r38.2)] hs43 ⟨ar38_0_0, nr38_0_0, rfl, hbr38_0_0, hsr38_0_0⟩
end Go.Proofs.YtaihlcdkcampbaaGreatDoor
namespace Go.Proofs.YtaihlcdkcampbaaGreatDoor
open Go.Proofs
def ref06_Gap_L0 (N : Nat) (x0 : (List Clause)) (x1 : (List Span)) (r21 : Bool) (r32 : Bool) (r43 : (List (List Int))) : Int → Option (Flow ((List Int) × Int) Int) := fun s54 =>
 (bif (decide (s54 < (r43.length : Int))) then ((idx r43 s54).bind fun x76 => ((ref06_first N x0 x76).bind fun r90 => (bif (decide (r90 < 0)) then ((idx r43 s54).bind fun x101 => some (.ret (x101, 0))) else some (.next (W64 (s54 + 1)))))) else some (.done s54))
def ref06_Gap (N : Nat) (x0 : (List Clause)) (x1 : (List Span)) : Option ((List Int) × Int) :=
 ((ref06_listed N x0).bind fun r21 => (bif (!r21) then some (([] : List Int), 61) else ((ref06_Domains N x1).bind fun r32 => (bif (!r32) then some (([] : List Int), 64) else ((ref06_All N x1).bind fun r43 => ((iter (ref06_Gap_L0 N x0 x1 r21 r32 r43) N 0).bind fun o => o.k (fun r => some r) (fun s62 => some (([] : List Int), 3))))))))
theorem co_ref06_Gap : CallOk Tryz.prog 67 := fun _ _ => by kernel_rfl
theorem c_ref06_Gap (N : Nat) (w0 : World) (F0 : Mem) (hF : ∀ b o, F0 b = some o → w0.heap[b]? = some o) (x0 : (List Clause)) (a0_0 : Option Addr) (n0_0 : Nat) (hb0_0 : LC x0.length n0_0) (hs0_0 : SlA tClause F0 a0_0 x0) (x1 : (List Span)) (a1_0 : Option Addr) (n1_0 : Nat) (hb1_0 : LC x1.length n1_0) (hs1_0 : SlA tSpan F0 a1_0 x1) (r : ((List Int) × Int)) (h : ref06_Gap N x0 x1 = some r) :
  Calls Tryz.prog 67 ([(.slice a0_0 x0.length n0_0), (.slice a1_0 x1.length n1_0)] : List Value).toArray w0 (FRet w0 F0 fun F' v => ∃ (aq0_0 : Option Addr) (nq0_0 : Nat), v = (.tuple #[(.slice aq0_0 r.1.length nq0_0), (vi r.2)]) ∧ LC r.1.length nq0_0 ∧ SlA tInt F' aq0_0 r.1) := by
 have hs0 := HS.start hF
 refine Go 33 Tryz.func67 ?_
 refine Sq (Rg [0, 1] ?_)
 refine Vs 2 ?_
 refine Nss ?_
 refine Sq (Rg [0, 1, 2] ?_)
 refine Vs 1 ?_
 obtain ⟨r21, hr22, h23⟩ := bind_some h
 refine Cl' co_ref06_listed hs0 (c_ref06_listed N w0 F0 hs0.pers (x0) a0_0 n0_0 hb0_0 hs0_0 _ hr22) ?_
 rintro _ F1 w25 hs26 le27 rfl
 refine Vs 1 ?_
 refine Nt ?_
 refine Cd h23 (fun hb29 h30 => ?_) (fun hb29 h31 => ?_)
 ·refine Sq (Rg [0, 1] ?_)
  refine Vs 2 ?_
  refine Nt ?_
  refine Rt ?_
  refine thenQ_ret ?_
  obtain rfl := some_inj h30
  exact Re [(.slice none ([] : List Int).length 0), (vi 61)] hs26 ⟨none, 0, rfl, LC.nil, (.inl rfl)⟩
 ·refine Sc ?_
  refine thenQ_nrm ?_
  refine Sq ?_
  refine Sq (Rg [0, 1, 2] ?_)
  refine Vs 1 ?_
  obtain ⟨r32, hr33, h34⟩ := bind_some h31
  refine Cl' co_ref06_Domains hs26 (c_ref06_Domains N w25 F1 hs26.pers (x1) a1_0 n1_0 hb1_0 (SlA.mono hs1_0 le27) _ hr33) ?_
  rintro _ F2 w36 hs37 le38 rfl
  refine Vs 1 ?_
  refine Nt ?_
  refine Cd h34 (fun hb40 h41 => ?_) (fun hb40 h42 => ?_)
  ·refine Sq (Rg [0, 1] ?_)
   refine Vs 2 ?_
   refine Nt ?_
   refine Rt ?_
   refine thenQ_ret ?_
   obtain rfl := some_inj h41
   exact Re [(.slice none ([] : List Int).length 0), (vi 64)] hs37 ⟨none, 0, rfl, LC.nil, (.inl rfl)⟩
  ·refine Sc ?_
   refine thenQ_nrm ?_
   refine Sq (Rg [0, 1, 2] ?_)
   refine Vs 1 ?_
   obtain ⟨r43, hr44, h45⟩ := bind_some h42
   refine Cl' co_ref06_All hs37 (c_ref06_All N w36 F2 hs37.pers (x1) a1_0 n1_0 hb1_0 (SlA.mono hs1_0 (le27.trans le38)) _ hr44) ?_
   rintro _ F3 w47 hs48 le49 ⟨ar43_0_0, nr43_0_0, rfl, hbr43_0_0, hsr43_0_0⟩
   refine Vs 1 ?_
   refine Nss ?_
   refine Sq (Rg [0] ?_)
   refine Vs 1 ?_
   refine Nt ?_
   obtain ⟨o51, ho52, h53⟩ := bind_some h45
   refine CWP.cut (fun f w => ∃ (s62 : Int) (F5 : Mem), o51 = .done s62 ∧ HS w0 F0 w F5 [] ∧ Mem.le F3 F5 ∧ FI f [] []) ?_ ?_
   ·refine Bk ?_
    refine CWP.loop (by kernel_rfl) (fun m f w => ∃ (s54 : Int) (F4 : Mem), iter (ref06_Gap_L0 N x0 x1 r21 r32 r43) m s54 = some o51 ∧ HS w0 F0 w F4 [] ∧ Mem.le F3 F4 ∧ FI f [] [(0, (.slice a0_0 x0.length n0_0)), (6, (.slice ar43_0_0 r43.length nr43_0_0)), (7, (vi s54))]) N ⟨0, F3, ho52, hs48, (Mem.le.refl _), fI⟩ ?_
    rintro m67 f w55 ⟨s54, F4, hit68, hs56, le57, ⟨_, rfl⟩⟩
    obtain ⟨m69, fl70, rfl, hb71, hnx72⟩ := iter_step hit68
    refine Sq ?_
    refine Sq (Rg [0, 1, 2, 3] ?_)
    refine Vs 4 ?_
    refine Nt ?_
    refine Cd hb71 (fun hb73 h74 => ?_) (fun hb73 h75 => ?_)
    ·refine Sc ?_
     refine thenQ_nrm ?_
     refine Sq ?_
     refine Bk ?_
     refine Sq (Rg [0, 1, 2, 3, 4, 5, 6] ?_)
     refine Vs 3 ?_
     obtain ⟨x76, hx77, h79⟩ := bind_some h74
     obtain ⟨hi78, hx77'⟩ := idx_spec hx77
     obtain ⟨b80, o81, C82, E83, fz84, rfl, hF86, hE87⟩ := SlA.open (SlA.mono hsr43_0_0 le57) hx77'
     obtain ⟨ae88_0, ne88_0, hc89, hbe88_0, hse88_0⟩ := hE87 _ _ hx77'
     refine Ix hi78 ?_
     refine Lx 0 (hs56.pers _ _ hF86) hc89 ?_
     obtain ⟨r90, hr91, h92⟩ := bind_some h79
     refine Cl' co_ref06_first hs56 (c_ref06_first N w55 F4 hs56.pers (x0) a0_0 n0_0 hb0_0 (SlA.mono hs0_0 (((le27.trans le38).trans le49).trans le57)) (x76) ae88_0 ne88_0 hbe88_0 hse88_0 _ hr91) ?_
     rintro _ F6 w94 hs95 le96 rfl
     refine Vs 1 ?_
     refine Nt ?_
     refine Cd h92 (fun hb98 h99 => ?_) (fun hb98 h100 => ?_)
     ·refine Sq (Rg [0, 1, 2, 3, 4, 5] ?_)
      refine Vs 2 ?_
      obtain ⟨x101, hx102, h104⟩ := bind_some h99
      obtain ⟨hi103, hx102'⟩ := idx_spec hx102
      obtain ⟨ae105_0, ne105_0, hc106, hbe105_0, hse105_0⟩ := hE87 _ _ hx102'
      refine Ix hi103 ?_
      refine Lx 0 (hs95.pers _ _ (le96 _ _ hF86)) hc106 ?_
      refine Vs 2 ?_
      refine Nt ?_
      refine Rt ?_
      refine blockQ_ret ?_
      refine thenQ_ret ?_
      refine thenQ_ret ?_
      refine blockQ_ret ?_
      have hret := iter_ret h104 hnx72
      subst hret
      refine .inr ?_
      refine thenQ_ret ?_
      obtain rfl := some_inj h53
      exact Re [(.slice ae105_0 x101.length ne105_0), (vi 0)] hs95 ⟨ae105_0, ne105_0, rfl, hbe105_0, (SlA.mono hse105_0 le96)⟩
     ·refine Sc ?_
      refine blockQ_nrm ?_
      refine thenQ_nrm ?_
      refine Rg [0, 1, 2] ?_
      refine Vs 3 ?_
      refine RWP.nil ?_
      have hn107 := iter_next h100 hnx72
      exact ⟨m69, Nat.lt_succ_self _, (W64 (s54 + 1)), F6, hn107, hs95, (le57.trans le96), fI⟩
    ·refine Ex ?_
     refine thenQ_ex ?_
     refine thenQ_ex ?_
     refine blockQ_hit rfl ?_
     have ho108 := iter_done h75 hnx72
     exact .inl ⟨rfl, s54, F4, ho108, hs56, le57, fI⟩
   ·rintro f w63 ⟨s62, F5, rfl, hs64, le65, ⟨_, rfl⟩⟩
    have h109 := k_done h53
    refine thenQ_nrm ?_
    refine Sq (Rg [0, 1] ?_)
    refine Vs 2 ?_
    refine Nt ?_
    refine Rt ?_
    obtain rfl := some_inj h109
    exact Re [(.slice none ([] : List Int).length 0), (vi 3)] hs64 ⟨none, 0, rfl, LC.nil, (.inl rfl)⟩
end Go.Proofs.YtaihlcdkcampbaaGreatDoor
namespace Go.Proofs.YtaihlcdkcampbaaGreatDoor
open Go.Proofs
def rules_Clash_1 (N : Nat) (x0 : (List Int)) (z0 : (List Clause)) (z1 : Int) (z2 : Int) : Option Bool :=
 (((idx z0 z1).bind fun x29 => ((rules_value N x29.When x0).bind fun r43 => (bif (r43 == 1) then ((idx z0 z2).bind fun x54 => ((rules_value N x54.When x0).bind fun r60 => some (r60 == 1))) else some false))).bind fun j24 => some j24)
theorem co_rules_Clash_1 : CallOk Tryz.prog 120 := fun _ _ => by kernel_rfl
theorem c_rules_Clash_1 (N : Nat) (w0 : World) (F0 : Mem) (hF : ∀ b o, F0 b = some o → w0.heap[b]? = some o) (x0 : (List Int)) (a0_0 : Option Addr) (n0_0 : Nat) (hb0_0 : LC x0.length n0_0) (hs0_0 : SlA tInt F0 a0_0 x0) (bz0 : Nat) (z0 : (List Clause)) (az0_0 : Option Addr) (nz0_0 : Nat) (hbz0_0 : LC z0.length nz0_0) (hsz0_0 : SlA tClause F0 az0_0 z0) (hz0 : F0 bz0 = some (oc #[(.slice az0_0 z0.length nz0_0)] 23)) (bz1 : Nat) (z1 : Int) (hz1 : F0 bz1 = some (oc #[(vi z1)] 3)) (bz2 : Nat) (z2 : Int) (hz2 : F0 bz2 = some (oc #[(vi z2)] 3)) (r : Bool) (h : rules_Clash_1 N x0 z0 z1 z2 = some r) :
  Calls Tryz.prog 120 ([(.slice a0_0 x0.length n0_0), (pt bz0 0), (pt bz1 0), (pt bz2 0)] : List Value).toArray w0 (FRet w0 F0 fun F' v => v = (.bool r)) := by
 have hs0 := HS.start hF
 refine Go 24 Tryz.func120 ?_
 refine Sq (Rg [0] ?_)
 refine Vs 1 ?_
 refine Nss (Rg [0, 1, 2, 3, 4, 5, 6, 7, 8, 9, 10, 11, 12, 13, 14, 15, 16, 17, 18] ?_)
 obtain ⟨j24, hj27, h28⟩ := bind_some h
 refine RWP.cut (fun f w => ∃ (F1 : Mem), HS w0 F0 w F1 [] ∧ Mem.le F0 F1 ∧ FI f [] [(5, (.bool j24))]) ?_ ?_
 ·refine Ld (hs0.pers _ _ hz0) ?_
  refine Ld (hs0.pers _ _ hz1) ?_
  obtain ⟨x29, hx30, h32⟩ := bind_some hj27
  obtain ⟨hi31, hx30'⟩ := idx_spec hx30
  obtain ⟨b33, o34, C35, E36, fz37, rfl, hF39, hE40⟩ := SlA.open hsz0_0 hx30'
  obtain ⟨ae41_2, ne41_2, ae41_5, ne41_5, hc42, hbe41_2, hse41_2, hbe41_5, hse41_5⟩ := hE40 _ _ hx30'
  refine Ix hi31 ?_
  refine Vs 1 ?_
  refine Lx 0 (hs0.pers _ _ hF39) hc42 ?_
  refine Vs 1 ?_
  obtain ⟨r43, hr44, h45⟩ := bind_some h32
  refine Cl' co_rules_value hs0 (c_rules_value N w0 F0 hs0.pers (x29.When) ae41_2 ne41_2 hbe41_2 hse41_2 (x0) a0_0 n0_0 hb0_0 hs0_0 _ hr44) ?_
  rintro _ F2 w47 hs48 le49 rfl
  refine Vs 2 ?_
  refine Sp h45 (fun hb51 h52 => ?_) (fun hb51 h53 => ?_)
  ·refine Lg hb51 (hs48.pers _ _ (le49 _ _ hz0)) ?_
   refine Lg hb51 (hs48.pers _ _ (le49 _ _ hz2)) ?_
   obtain ⟨x54, hx55, h57⟩ := bind_some h52
   obtain ⟨hi56, hx55'⟩ := idx_spec hx55
   obtain ⟨ae58_2, ne58_2, ae58_5, ne58_5, hc59, hbe58_2, hse58_2, hbe58_5, hse58_5⟩ := hE40 _ _ hx55'
   refine Ixg hb51 hi56 ?_
   refine Vgs hb51 1 ?_
   refine Lxg hb51 0 (hs48.pers _ _ (le49 _ _ hF39)) hc59 ?_
   refine Vgs hb51 1 ?_
   obtain ⟨r60, hr61, h62⟩ := bind_some h57
   refine Cg hb51 co_rules_value hs48 (c_rules_value N w47 F2 hs48.pers (x54.When) ae58_2 ne58_2 hbe58_2 (SlA.mono hse58_2 le49) (x0) a0_0 n0_0 hb0_0 (SlA.mono hs0_0 le49) _ hr61) ?_
   rintro _ F3 w64 hs65 le66 rfl
   refine Vgs hb51 1 ?_
   refine Pk1 hb51 ?_
   refine Vs 1 ?_
   obtain rfl := some_inj h62
   exact RWP.nil ⟨rfl, F3, hs65, (le49.trans le66), fI⟩
  ·refine Ss hb51 8 ?_
   refine Pk0 hb51 ?_
   refine Vs 1 ?_
   obtain rfl := some_inj h53
   exact RWP.nil ⟨rfl, F2, hs48, le49, fI⟩
 ·rintro f w21 ⟨F1, hs22, le23, ⟨_, rfl⟩⟩
  refine thenQ_nrm ?_
  refine Rt ?_
  obtain rfl := some_inj h28
  exact Re [(.bool j24)] hs22 rfl
end Go.Proofs.YtaihlcdkcampbaaGreatDoor
namespace Go.Proofs.YtaihlcdkcampbaaGreatDoor
open Go.Proofs
def rules_Clash (N : Nat) (x0 : (List Clause)) (x1 : Int) (x2 : Int) (x3 : (List Span)) : Option ((List Int) × Int) :=
 ((rules_asked N x0 x3).bind fun r30 => (bif (r30 != 0) then some (([] : List Int), r30) else (bif ((decide (x1 < 0)) || ((decide (x1 ≥ (x0.length : Int))) || ((decide (x2 < 0)) || ((decide (x2 ≥ (x0.length : Int))) || (x1 == x2))))) then some (([] : List Int), 1) else ((rules_find N x3 (fun y0 => rules_Clash_1 N y0 x0 x1 x2)).bind fun r66 => some (r66.1, r66.2)))))
theorem co_rules_Clash : CallOk Tryz.prog 63 := fun _ _ => by kernel_rfl
theorem c_rules_Clash (N : Nat) (w0 : World) (F0 : Mem) (hF : ∀ b o, F0 b = some o → w0.heap[b]? = some o) (x0 : (List Clause)) (a0_0 : Option Addr) (n0_0 : Nat) (hb0_0 : LC x0.length n0_0) (hs0_0 : SlA tClause F0 a0_0 x0) (x1 : Int) (x2 : Int) (x3 : (List Span)) (a3_0 : Option Addr) (n3_0 : Nat) (hb3_0 : LC x3.length n3_0) (hs3_0 : SlA tSpan F0 a3_0 x3) (r : ((List Int) × Int)) (h : rules_Clash N x0 x1 x2 x3 = some r) :
  Calls Tryz.prog 63 ([(.slice a0_0 x0.length n0_0), (vi x1), (vi x2), (.slice a3_0 x3.length n3_0)] : List Value).toArray w0 (FRet w0 F0 fun F' v => ∃ (aq0_0 : Option Addr) (nq0_0 : Nat), v = (.tuple #[(.slice aq0_0 r.1.length nq0_0), (vi r.2)]) ∧ LC r.1.length nq0_0 ∧ SlA tInt F' aq0_0 r.1) := by
 have hs0 := HS.start hF
 refine Go 45 Tryz.func63 ?_
 refine Sq (Rg [0, 1, 2, 3, 4] ?_)
 refine Bx' 23 #[(.slice a0_0 x0.length n0_0)] hs0 (fun b21 w22 hs23 => ?_)
 refine Bx' 3 #[(vi x1)] hs23 (fun b24 w25 hs26 => ?_)
 refine Bx' 3 #[(vi x2)] hs26 (fun b27 w28 hs29 => ?_)
 refine Vs 2 ?_
 refine Nss ?_
 refine Sq (Rg [0, 1, 2, 3] ?_)
 refine Ld hs29.at2 ?_
 refine Vs 1 ?_
 obtain ⟨r30, hr31, h32⟩ := bind_some h
 refine Cl' co_rules_asked hs29 (c_rules_asked N w28 F0 hs29.pers (x0) a0_0 n0_0 hb0_0 hs0_0 (x3) a3_0 n3_0 hb3_0 hs3_0 _ hr31) ?_
 rintro _ F1 w34 hs35 le36 rfl
 refine Vs 1 ?_
 refine Nss (Rg [0, 1] ?_)
 refine Vs 2 ?_
 refine Nt ?_
 refine Cd h32 (fun hb38 h39 => ?_) (fun hb38 h40 => ?_)
 ·refine Sq (Rg [0, 1, 2] ?_)
  refine Vs 3 ?_
  refine Nt ?_
  refine Rt ?_
  refine thenQ_ret ?_
  obtain rfl := some_inj h39
  exact Re [(.slice none ([] : List Int).length 0), (vi r30)] hs35 ⟨none, 0, rfl, LC.nil, (.inl rfl)⟩
 ·refine Sc ?_
  refine thenQ_nrm ?_
  refine Sq ?_
  refine Sq (Rg [0, 1, 2, 3, 4, 5, 6, 7, 8, 9, 10, 11, 12, 13, 14, 15, 16, 17, 18, 19, 20, 21, 22] ?_)
  refine RWP.cut (fun f w => ∃ (F2 : Mem), HS w0 F0 w F2 [(sb b27 #[(vi x2)] 3), (sb b24 #[(vi x1)] 3), (sb b21 #[(.slice a0_0 x0.length n0_0)] 23)] ∧ Mem.le F1 F2 ∧ FI f [] [(3, (.slice a3_0 x3.length n3_0)), (4, (pt b21 0)), (5, (pt b24 0)), (6, (pt b27 0)), (39, (.bool ((decide (x1 < 0)) || ((decide (x1 ≥ (x0.length : Int))) || ((decide (x2 < 0)) || ((decide (x2 ≥ (x0.length : Int))) || (x1 == x2)))))))]) ?_ ?_
  ·refine Ld hs35.at1 ?_
   refine Vs 2 ?_
   refine RWP.split (decide (x1 < 0)) (fun hb50 => ?_) (fun hb50 => ?_)
   ·refine Ss hb50 4 ?_
    refine Pk1 hb50 ?_
    refine Vs 1 ?_
    refine Ss (rfl : true = true) 2 ?_
    refine Pk1 (rfl : true = true) ?_
    refine Vs 1 ?_
    refine Ss (rfl : true = true) 4 ?_
    refine Pk1 (rfl : true = true) ?_
    refine Vs 1 ?_
    refine Ss (rfl : true = true) 3 ?_
    refine Pk1 (rfl : true = true) ?_
    exact RWP.nil ⟨rfl, F1, hs35, (Mem.le.refl _), (fJ ⟨rfl, rfl, rfl, rfl, (congrArg Value.bool (or_t hb50 (rfl))), trivial⟩)⟩
   ·refine Lg hb50 hs35.at1 ?_
    refine Lg hb50 hs35.at2 ?_
    refine Vgs hb50 2 ?_
    refine Pk0 hb50 ?_
    refine Vs 1 ?_
    refine RWP.split (decide (x1 ≥ (x0.length : Int))) (fun hb51 => ?_) (fun hb51 => ?_)
    ·refine Ss hb51 2 ?_
     refine Pk1 hb51 ?_
     refine Vs 1 ?_
     refine Ss (rfl : true = true) 4 ?_
     refine Pk1 (rfl : true = true) ?_
     refine Vs 1 ?_
     refine Ss (rfl : true = true) 3 ?_
     refine Pk1 (rfl : true = true) ?_
     exact RWP.nil ⟨rfl, F1, hs35, (Mem.le.refl _), (fJ ⟨rfl, rfl, rfl, rfl, (congrArg Value.bool (or_f hb50 (or_t hb51 (rfl)))), trivial⟩)⟩
    ·refine Lg hb51 hs35.at0 ?_
     refine Vgs hb51 1 ?_
     refine Pk0 hb51 ?_
     refine Vs 1 ?_
     refine RWP.split (decide (x2 < 0)) (fun hb52 => ?_) (fun hb52 => ?_)
     ·refine Ss hb52 4 ?_
      refine Pk1 hb52 ?_
      refine Vs 1 ?_
      refine Ss (rfl : true = true) 3 ?_
      refine Pk1 (rfl : true = true) ?_
      exact RWP.nil ⟨rfl, F1, hs35, (Mem.le.refl _), (fJ ⟨rfl, rfl, rfl, rfl, (congrArg Value.bool (or_f hb50 (or_f hb51 (or_t hb52 (rfl))))), trivial⟩)⟩
     ·refine Lg hb52 hs35.at0 ?_
      refine Lg hb52 hs35.at2 ?_
      refine Vgs hb52 2 ?_
      refine Pk0 hb52 ?_
      refine Vs 1 ?_
      refine RWP.split (decide (x2 ≥ (x0.length : Int))) (fun hb53 => ?_) (fun hb53 => ?_)
      ·refine Ss hb53 3 ?_
       refine Pk1 hb53 ?_
       exact RWP.nil ⟨rfl, F1, hs35, (Mem.le.refl _), (fJ ⟨rfl, rfl, rfl, rfl, (congrArg Value.bool (or_f hb50 (or_f hb51 (or_f hb52 (or_t hb53 (rfl)))))), trivial⟩)⟩
      ·refine Lg hb53 hs35.at1 ?_
       refine Lg hb53 hs35.at0 ?_
       refine Vgs hb53 1 ?_
       refine Pk0 hb53 ?_
       exact RWP.nil ⟨rfl, F1, hs35, (Mem.le.refl _), (fJ ⟨rfl, rfl, rfl, rfl, (congrArg Value.bool (or_f hb50 (or_f hb51 (or_f hb52 (or_f hb53 (rfl)))))), trivial⟩)⟩
  ·rintro f w41 ⟨F2, hs42, le43, ⟨_, rfl⟩⟩
   refine thenQ_nrm ?_
   refine Cd h40 (fun hb54 h55 => ?_) (fun hb54 h56 => ?_)
   ·refine Sq (Rg [0, 1] ?_)
    refine Vs 2 ?_
    refine Nt ?_
    refine Rt ?_
    refine thenQ_ret ?_
    obtain rfl := some_inj h55
    exact Re [(.slice none ([] : List Int).length 0), (vi 1)] hs42 ⟨none, 0, rfl, LC.nil, (.inl rfl)⟩
   ·refine Sc ?_
    refine thenQ_nrm ?_
    refine Sq (Rg [0, 1, 2, 3, 4, 5, 6] ?_)
    refine Vs 2 ?_
    obtain ⟨F3, hs57, le58, hF59⟩ := hs42.fc2
    obtain ⟨F4, hs60, le61, hF62⟩ := hs57.fc1
    obtain ⟨F5, hs63, le64, hF65⟩ := hs60.fc0
    obtain ⟨r66, hr67, h68⟩ := bind_some h56
    refine Cl' co_rules_find hs63 (c_rules_find N w41 F5 hs63.pers (x3) a3_0 n3_0 hb3_0 (SlA.mono hs3_0 ((((le36.trans le43).trans le58).trans le61).trans le64)) 120 [] [(pt b21 0), (pt b24 0), (pt b27 0)] (fun y0 => rules_Clash_1 N y0 x0 x1 x2) co_rules_Clash_1 (fun w1 F1 y0 ay0_0 ny0_0 hby0_0 hsy0_0 r le1 pe1 hr1 => c_rules_Clash_1 N w1 F1 pe1  y0 ay0_0 ny0_0 hby0_0 hsy0_0 b21 x0 a0_0 n0_0 hb0_0 (SlA.mono (SlA.mono hs0_0 ((((le36.trans le43).trans le58).trans le61).trans le64)) le1) (le1 _ _ ((le61.trans le64) _ _ hF59)) b24 x1 (le1 _ _ (le64 _ _ hF62)) b27 x2 (le1 _ _ hF65) r hr1) _ hr67) ?_
    rintro _ F6 w70 hs71 le72 ⟨ar66_0_0, nr66_0_0, rfl, hbr66_0_0, hsr66_0_0⟩
    refine Vs 4 ?_
    refine Nt ?_
    refine Rt ?_
    obtain rfl := some_inj h68
    exact Re [(.slice ar66_0_0 r66.1.length nr66_0_0), (vi r66.2)] hs71 ⟨ar66_0_0, nr66_0_0, rfl, hbr66_0_0, hsr66_0_0⟩
end Go.Proofs.YtaihlcdkcampbaaGreatDoor
namespace Go.Proofs.YtaihlcdkcampbaaGreatDoor
open Go.Proofs
def ref06_Clash_L0 (N : Nat) (x0 : (List Clause)) (x1 : Int) (x2 : Int) (x3 : (List Span)) (r21 : Bool) (r32 : Bool) (r59 : (List (List Int))) : Int → Option (Flow ((List Int) × Int) Int) := fun s70 =>
 (bif (decide (s70 < (r59.length : Int))) then (((idx x0 x1).bind fun x109 => ((idx r59 s70).bind fun x123 => ((ref06_value N x109.When x123).bind fun r137 => (bif (r137 == 1) then ((idx x0 x2).bind fun x148 => ((idx r59 s70).bind fun x154 => ((ref06_value N x148.When x154).bind fun r160 => some (r160 == 1)))) else some false)))).bind fun j99 => (bif j99 then ((idx r59 s70).bind fun x171 => some (.ret (x171, 0))) else some (.next (W64 (s70 + 1))))) else some (.done s70))
def ref06_Clash (N : Nat) (x0 : (List Clause)) (x1 : Int) (x2 : Int) (x3 : (List Span)) : Option ((List Int) × Int) :=
 ((ref06_listed N x0).bind fun r21 => (bif (!r21) then some (([] : List Int), 61) else ((ref06_Domains N x3).bind fun r32 => (bif (!r32) then some (([] : List Int), 64) else (bif ((decide (x1 < 0)) || ((decide (x1 ≥ (x0.length : Int))) || ((decide (x2 < 0)) || ((decide (x2 ≥ (x0.length : Int))) || (x1 == x2))))) then some (([] : List Int), 1) else ((ref06_All N x3).bind fun r59 => ((iter (ref06_Clash_L0 N x0 x1 x2 x3 r21 r32 r59) N 0).bind fun o => o.k (fun r => some r) (fun s80 => some (([] : List Int), 3)))))))))
theorem co_ref06_Clash : CallOk Tryz.prog 68 := fun _ _ => by kernel_rfl
theorem c_ref06_Clash (N : Nat) (w0 : World) (F0 : Mem) (hF : ∀ b o, F0 b = some o → w0.heap[b]? = some o) (x0 : (List Clause)) (a0_0 : Option Addr) (n0_0 : Nat) (hb0_0 : LC x0.length n0_0) (hs0_0 : SlA tClause F0 a0_0 x0) (x1 : Int) (x2 : Int) (x3 : (List Span)) (a3_0 : Option Addr) (n3_0 : Nat) (hb3_0 : LC x3.length n3_0) (hs3_0 : SlA tSpan F0 a3_0 x3) (r : ((List Int) × Int)) (h : ref06_Clash N x0 x1 x2 x3 = some r) :
  Calls Tryz.prog 68 ([(.slice a0_0 x0.length n0_0), (vi x1), (vi x2), (.slice a3_0 x3.length n3_0)] : List Value).toArray w0 (FRet w0 F0 fun F' v => ∃ (aq0_0 : Option Addr) (nq0_0 : Nat), v = (.tuple #[(.slice aq0_0 r.1.length nq0_0), (vi r.2)]) ∧ LC r.1.length nq0_0 ∧ SlA tInt F' aq0_0 r.1) := by
 have hs0 := HS.start hF
 refine Go 77 Tryz.func68 ?_
 refine Sq (Rg [0, 1] ?_)
 refine Vs 2 ?_
 refine Nss ?_
 refine Sq (Rg [0, 1, 2] ?_)
 refine Vs 1 ?_
 obtain ⟨r21, hr22, h23⟩ := bind_some h
 refine Cl' co_ref06_listed hs0 (c_ref06_listed N w0 F0 hs0.pers (x0) a0_0 n0_0 hb0_0 hs0_0 _ hr22) ?_
 rintro _ F1 w25 hs26 le27 rfl
 refine Vs 1 ?_
 refine Nt ?_
 refine Cd h23 (fun hb29 h30 => ?_) (fun hb29 h31 => ?_)
 ·refine Sq (Rg [0, 1] ?_)
  refine Vs 2 ?_
  refine Nt ?_
  refine Rt ?_
  refine thenQ_ret ?_
  obtain rfl := some_inj h30
  exact Re [(.slice none ([] : List Int).length 0), (vi 61)] hs26 ⟨none, 0, rfl, LC.nil, (.inl rfl)⟩
 ·refine Sc ?_
  refine thenQ_nrm ?_
  refine Sq ?_
  refine Sq (Rg [0, 1, 2] ?_)
  refine Vs 1 ?_
  obtain ⟨r32, hr33, h34⟩ := bind_some h31
  refine Cl' co_ref06_Domains hs26 (c_ref06_Domains N w25 F1 hs26.pers (x3) a3_0 n3_0 hb3_0 (SlA.mono hs3_0 le27) _ hr33) ?_
  rintro _ F2 w36 hs37 le38 rfl
  refine Vs 1 ?_
  refine Nt ?_
  refine Cd h34 (fun hb40 h41 => ?_) (fun hb40 h42 => ?_)
  ·refine Sq (Rg [0, 1] ?_)
   refine Vs 2 ?_
   refine Nt ?_
   refine Rt ?_
   refine thenQ_ret ?_
   obtain rfl := some_inj h41
   exact Re [(.slice none ([] : List Int).length 0), (vi 64)] hs37 ⟨none, 0, rfl, LC.nil, (.inl rfl)⟩
  ·refine Sc ?_
   refine thenQ_nrm ?_
   refine Sq ?_
   refine Sq (Rg [0, 1, 2, 3, 4, 5, 6, 7, 8, 9, 10, 11, 12, 13, 14, 15, 16, 17, 18, 19, 20, 21, 22] ?_)
   refine RWP.cut (fun f w => ∃ (F3 : Mem), HS w0 F0 w F3 [] ∧ Mem.le F2 F3 ∧ FI f [] [(0, (.slice a0_0 x0.length n0_0)), (1, (vi x1)), (2, (vi x2)), (3, (.slice a3_0 x3.length n3_0)), (40, (.bool ((decide (x1 < 0)) || ((decide (x1 ≥ (x0.length : Int))) || ((decide (x2 < 0)) || ((decide (x2 ≥ (x0.length : Int))) || (x1 == x2)))))))]) ?_ ?_
   ·refine Vs 3 ?_
    refine RWP.split (decide (x1 < 0)) (fun hb52 => ?_) (fun hb52 => ?_)
    ·refine Ss hb52 4 ?_
     refine Pk1 hb52 ?_
     refine Vs 1 ?_
     refine Ss (rfl : true = true) 2 ?_
     refine Pk1 (rfl : true = true) ?_
     refine Vs 1 ?_
     refine Ss (rfl : true = true) 4 ?_
     refine Pk1 (rfl : true = true) ?_
     refine Vs 1 ?_
     refine Ss (rfl : true = true) 3 ?_
     refine Pk1 (rfl : true = true) ?_
     exact RWP.nil ⟨rfl, F2, hs37, (Mem.le.refl _), (fJ ⟨rfl, rfl, rfl, rfl, (congrArg Value.bool (or_t hb52 (rfl))), trivial⟩)⟩
    ·refine Vgs hb52 4 ?_
     refine Pk0 hb52 ?_
     refine Vs 1 ?_
     refine RWP.split (decide (x1 ≥ (x0.length : Int))) (fun hb53 => ?_) (fun hb53 => ?_)
     ·refine Ss hb53 2 ?_
      refine Pk1 hb53 ?_
      refine Vs 1 ?_
      refine Ss (rfl : true = true) 4 ?_
      refine Pk1 (rfl : true = true) ?_
      refine Vs 1 ?_
      refine Ss (rfl : true = true) 3 ?_
      refine Pk1 (rfl : true = true) ?_
      exact RWP.nil ⟨rfl, F2, hs37, (Mem.le.refl _), (fJ ⟨rfl, rfl, rfl, rfl, (congrArg Value.bool (or_f hb52 (or_t hb53 (rfl)))), trivial⟩)⟩
     ·refine Vgs hb53 2 ?_
      refine Pk0 hb53 ?_
      refine Vs 1 ?_
      refine RWP.split (decide (x2 < 0)) (fun hb54 => ?_) (fun hb54 => ?_)
      ·refine Ss hb54 4 ?_
       refine Pk1 hb54 ?_
       refine Vs 1 ?_
       refine Ss (rfl : true = true) 3 ?_
       refine Pk1 (rfl : true = true) ?_
       exact RWP.nil ⟨rfl, F2, hs37, (Mem.le.refl _), (fJ ⟨rfl, rfl, rfl, rfl, (congrArg Value.bool (or_f hb52 (or_f hb53 (or_t hb54 (rfl))))), trivial⟩)⟩
      ·refine Vgs hb54 4 ?_
       refine Pk0 hb54 ?_
       refine Vs 1 ?_
       refine RWP.split (decide (x2 ≥ (x0.length : Int))) (fun hb55 => ?_) (fun hb55 => ?_)
       ·refine Ss hb55 3 ?_
        refine Pk1 hb55 ?_
        exact RWP.nil ⟨rfl, F2, hs37, (Mem.le.refl _), (fJ ⟨rfl, rfl, rfl, rfl, (congrArg Value.bool (or_f hb52 (or_f hb53 (or_f hb54 (or_t hb55 (rfl)))))), trivial⟩)⟩
       ·refine Vgs hb55 3 ?_
        refine Pk0 hb55 ?_
        exact RWP.nil ⟨rfl, F2, hs37, (Mem.le.refl _), (fJ ⟨rfl, rfl, rfl, rfl, (congrArg Value.bool (or_f hb52 (or_f hb53 (or_f hb54 (or_f hb55 (rfl)))))), trivial⟩)⟩
   ·rintro f w43 ⟨F3, hs44, le45, ⟨_, rfl⟩⟩
    refine thenQ_nrm ?_
    refine Cd h42 (fun hb56 h57 => ?_) (fun hb56 h58 => ?_)
    ·refine Sq (Rg [0, 1] ?_)
     refine Vs 2 ?_
     refine Nt ?_
     refine Rt ?_
     refine thenQ_ret ?_
     obtain rfl := some_inj h57
     exact Re [(.slice none ([] : List Int).length 0), (vi 1)] hs44 ⟨none, 0, rfl, LC.nil, (.inl rfl)⟩
    ·refine Sc ?_
     refine thenQ_nrm ?_
     refine Sq (Rg [0, 1, 2] ?_)
     refine Vs 1 ?_
     obtain ⟨r59, hr60, h61⟩ := bind_some h58
     refine Cl' co_ref06_All hs44 (c_ref06_All N w43 F3 hs44.pers (x3) a3_0 n3_0 hb3_0 (SlA.mono hs3_0 ((le27.trans le38).trans le45)) _ hr60) ?_
     rintro _ F4 w63 hs64 le65 ⟨ar59_0_0, nr59_0_0, rfl, hbr59_0_0, hsr59_0_0⟩
     refine Vs 1 ?_
     refine Nss ?_
     refine Sq (Rg [0] ?_)
     refine Vs 1 ?_
     refine Nt ?_
     obtain ⟨o67, ho68, h69⟩ := bind_some h61
     refine CWP.cut (fun f w => ∃ (s80 : Int) (F6 : Mem), o67 = .done s80 ∧ HS w0 F0 w F6 [] ∧ Mem.le F4 F6 ∧ FI f [] []) ?_ ?_
     ·refine Bk ?_
      refine CWP.loop (by kernel_rfl) (fun m f w => ∃ (s70 : Int) (F5 : Mem), iter (ref06_Clash_L0 N x0 x1 x2 x3 r21 r32 r59) m s70 = some o67 ∧ HS w0 F0 w F5 [] ∧ Mem.le F4 F5 ∧ FI f [] [(0, (.slice a0_0 x0.length n0_0)), (1, (vi x1)), (2, (vi x2)), (10, (.slice ar59_0_0 r59.length nr59_0_0)), (11, (vi s70))]) N ⟨0, F4, ho68, hs64, (Mem.le.refl _), fI⟩ ?_
      rintro m85 f w71 ⟨s70, F5, hit86, hs72, le73, ⟨_, rfl⟩⟩
      obtain ⟨m87, fl88, rfl, hb89, hnx90⟩ := iter_step hit86
      refine Sq ?_
      refine Sq (Rg [0, 1, 2, 3] ?_)
      refine Vs 4 ?_
      refine Nt ?_
      refine Cd hb89 (fun hb91 h92 => ?_) (fun hb91 h93 => ?_)
      ·refine Sc ?_
       refine thenQ_nrm ?_
       refine Sq ?_
       refine Bk ?_
       refine Sq ?_
       obtain ⟨j99, hj107, h108⟩ := bind_some h92
       refine RD 24 24 [] [] hs72 (fun f w => ∃ (F7 : Mem), HS w0 F0 w F7 [] ∧ Mem.le F5 F7 ∧ FI f [] [(0, (.slice a0_0 x0.length n0_0)), (1, (vi x1)), (2, (vi x2)), (10, (.slice ar59_0_0 r59.length nr59_0_0)), (11, (vi s70)), (72, (.bool j99))]) (fun wd94 hw95 => ?_) ?_
       ·refine Dvl [0, 1] [tt, tt, ff, ff, ff, ff, ff, ff, ff, ff, ff, ff, ff, ff, ff, ff, ff, ff, ff, ff, ff, ff, ff, ff] ?_
        obtain ⟨x109, hx110, h112⟩ := bind_some hj107
        obtain ⟨hi111, hx110'⟩ := idx_spec hx110
        obtain ⟨b113, o114, C115, E116, fz117, rfl, hF119, hE120⟩ := SlA.open (SlA.mono hs0_0 ((((le27.trans le38).trans le45).trans le65).trans le73)) hx110'
        obtain ⟨ae121_2, ne121_2, ae121_5, ne121_5, hc122, hbe121_2, hse121_2, hbe121_5, hse121_5⟩ := hE120 _ _ hx110'
        refine Di 2 hi111 ?_
        refine Dvl [3] [tt, tt, tt, tt, ff, ff, ff, ff, ff, ff, ff, ff, ff, ff, ff, ff, ff, ff, ff, ff, ff, ff, ff, ff] ?_
        refine Dx 4 0 (fun _ hq => hq.1.1 _ _ hF119) hc122 ?_
        refine Dvl [5, 6] [tt, tt, tt, tt, tt, tt, tt, ff, ff, ff, ff, ff, ff, ff, ff, ff, ff, ff, ff, ff, ff, ff, ff, ff] ?_
        obtain ⟨x123, hx124, h126⟩ := bind_some h112
        obtain ⟨hi125, hx124'⟩ := idx_spec hx124
        obtain ⟨b127, o128, C129, E130, fz131, rfl, hF133, hE134⟩ := SlA.open (SlA.mono hsr59_0_0 le73) hx124'
        obtain ⟨ae135_0, ne135_0, hc136, hbe135_0, hse135_0⟩ := hE134 _ _ hx124'
        refine Di 7 hi125 ?_
        refine Dx 8 0 (fun _ hq => hq.1.1 _ _ hF133) hc136 ?_
        refine D1 9 ?_
        obtain ⟨r137, hr138, h139⟩ := bind_some h126
        refine DCl co_ref06_value hw95 (c_ref06_value N wd94 F5 hw95.pers (x109.When) ae121_2 ne121_2 hbe121_2 hse121_2 (x123) ae135_0 ne135_0 hbe135_0 hse135_0 _ hr138) ?_
        rintro _ F8 w141 hs142 le143 rfl
        refine Dvl [10, 11] [tt, tt, tt, tt, tt, tt, tt, tt, tt, tt, tt, tt, ff, ff, ff, ff, ff, ff, ff, ff, ff, ff, ff, ff] ?_
        refine Sd h139 (fun hb145 h146 => ?_) (fun hb145 h147 => ?_)
        ·refine Dgl 12 61 23 _ [tt, tt, tt, tt, tt, tt, tt, tt, tt, tt, tt, tt, tt, ff, ff, ff, ff, ff, ff, ff, ff, ff, ff, ff] 11 true 60 hb145 (fun _ hq => mv 0 (.slice (some ⟨b113, o114, none⟩) x0.length n0_0)) ?_
         refine Dgl 13 62 3 _ [tt, tt, tt, tt, tt, tt, tt, tt, tt, tt, tt, tt, tt, tt, ff, ff, ff, ff, ff, ff, ff, ff, ff, ff] 11 true 60 hb145 (fun _ hq => mv 2 (vi x2)) ?_
         obtain ⟨x148, hx149, h151⟩ := bind_some h146
         obtain ⟨hi150, hx149'⟩ := idx_spec hx149
         obtain ⟨ae152_2, ne152_2, ae152_5, ne152_5, hc153, hbe152_2, hse152_2, hbe152_5, hse152_5⟩ := hE120 _ _ hx149'
         refine Dgl 14 63 0 (.pointer (some ⟨b113, (o114 + (x2 : Int).toNat * 6), none⟩)) [tt, tt, tt, tt, tt, tt, tt, tt, tt, tt, tt, tt, tt, tt, tt, ff, ff, ff, ff, ff, ff, ff, ff, ff] 11 true 60 hb145 (fun _ hq => ix 23 61 62 b113 o114 56 6 80 hi150) ?_
         refine Dgl 15 64 0 (.pointer (some ⟨b113, (o114 + (x2 : Int).toNat * 6), none⟩)) [tt, tt, tt, tt, tt, tt, tt, tt, tt, tt, tt, tt, tt, tt, tt, tt, ff, ff, ff, ff, ff, ff, ff, ff] 11 true 60 hb145 (fun _ hq => fa 56 63 0 0 3 b113 (o114 + (x2 : Int).toNat * 6) (o114 + (x2 : Int).toNat * 6)) ?_
         refine Dgl 16 65 33 _ [tt, tt, tt, tt, tt, tt, tt, tt, tt, tt, tt, tt, tt, tt, tt, tt, tt, ff, ff, ff, ff, ff, ff, ff] 11 true 60 hb145 (fun _ hq => lx 33 64 0 6 true 3 (.agg (kExpr x148.When ae152_2 ne152_2)) (hq.1.1 _ _ hF119) hc153) ?_
         refine Dgl 17 66 77 _ [tt, tt, tt, tt, tt, tt, tt, tt, tt, tt, tt, tt, tt, tt, tt, tt, tt, tt, ff, ff, ff, ff, ff, ff] 11 true 60 hb145 (fun _ hq => mv 10 (.slice (some ⟨b127, o128, none⟩) r59.length nr59_0_0)) ?_
         refine Dgl 18 67 3 _ [tt, tt, tt, tt, tt, tt, tt, tt, tt, tt, tt, tt, tt, tt, tt, tt, tt, tt, tt, ff, ff, ff, ff, ff] 11 true 60 hb145 (fun _ hq => mv 11 (vi s70)) ?_
         obtain ⟨x154, hx155, h157⟩ := bind_some h151
         obtain ⟨hi156, hx155'⟩ := idx_spec hx155
         obtain ⟨ae158_0, ne158_0, hc159, hbe158_0, hse158_0⟩ := hE134 _ _ hx155'
         refine Dgl 19 68 0 (.pointer (some ⟨b127, (o128 + (s70 : Int).toNat * 1), none⟩)) [tt, tt, tt, tt, tt, tt, tt, tt, tt, tt, tt, tt, tt, tt, tt, tt, tt, tt, tt, tt, ff, ff, ff, ff] 11 true 60 hb145 (fun _ hq => ix 77 66 67 b127 o128 47 1 24 hi156) ?_
         refine Dgl 20 69 47 _ [tt, tt, tt, tt, tt, tt, tt, tt, tt, tt, tt, tt, tt, tt, tt, tt, tt, tt, tt, tt, tt, ff, ff, ff] 11 true 60 hb145 (fun _ hq => lx 47 68 0 1 false 1 (.slice ae158_0 x154.length ne158_0) (hq.1.1 _ _ hF133) hc159) ?_
         refine D1 21 ?_
         obtain ⟨r160, hr161, h162⟩ := bind_some h157
         refine DStep.call (l' := [true, true, true, true, true, true, true, true, true, true, true, true, true, true, true, true, true, true, true, true, true, true, false, false]) (zd := true) (by kernel_rfl) (by kernel_rfl) (by kernel_rfl) (dst := (some 70)) (ty := 3) (g := (some (11, true))) (by kernel_rfl) (gd_y (d := 60) (by kernel_rfl) rfl hb145) (f0 := (.func 101)) (aos := #[(.tmp 65), (.tmp 69)]) (ats := #[33, 47]) (fid := 101) (first := #[]) (cap := #[]) (args := [(.agg (kExpr x148.When ae152_2 ne152_2)), (.slice ae158_0 x154.length ne158_0)]) rfl co_ref06_value (rfl) hs142 (c_ref06_value N w141 F8 hs142.pers (x148.When) ae152_2 ne152_2 hbe152_2 (SlA.mono hse152_2 le143) (x154) ae158_0 ne158_0 hbe158_0 (SlA.mono hse158_0 le143) _ hr161) ?_
         rintro _ F9 w164 hs165 le166 rfl
         refine Dgl 22 71 4 (.bool (r160 == 1)) [tt, tt, tt, tt, tt, tt, tt, tt, tt, tt, tt, tt, tt, tt, tt, tt, tt, tt, tt, tt, tt, tt, tt, ff] 11 true 60 hb145 (fun _ hq => run_eql (t := 3) (t' := 3) (x := (.tmp 70)) (y := (.const (vi 1))) (k := .i64) (a := r160) (b := 1) rfl rfl) ?_
         refine Dtl 23 72 4 _ [tt, tt, tt, tt, tt, tt, tt, tt, tt, tt, tt, tt, tt, tt, tt, tt, tt, tt, tt, tt, tt, tt, tt, tt] (fun _ hq => p1 60 (.tmp 71) (.const (.bool false)) (.bool (r160 == 1)) hb145) ?_
         obtain rfl := some_inj h162
         exact DWP.done (by kernel_rfl) ⟨F9, hs165, (le143.trans le166), fI⟩
        ·refine Dkl [(12, 61), (13, 62), (14, 63), (15, 64), (16, 65), (17, 66)] 11 true 60 hb145 [tt, tt, tt, tt, tt, tt, tt, tt, tt, tt, tt, tt, tt, tt, tt, tt, tt, tt, ff, ff, ff, ff, ff, ff] ?_
         refine Dkl [(18, 67), (19, 68), (20, 69), (21, 70), (22, 71)] 11 true 60 hb145 [tt, tt, tt, tt, tt, tt, tt, tt, tt, tt, tt, tt, tt, tt, tt, tt, tt, tt, tt, tt, tt, tt, tt, ff] ?_
         refine Dtl 23 72 4 _ [tt, tt, tt, tt, tt, tt, tt, tt, tt, tt, tt, tt, tt, tt, tt, tt, tt, tt, tt, tt, tt, tt, tt, tt] (fun _ hq => p0 60 (.tmp 71) (.const (.bool false)) (.bool false) hb145) ?_
         obtain rfl := some_inj h147
         exact DWP.done (by kernel_rfl) ⟨F8, hs142, le143, fI⟩
       ·rintro f w96 ⟨F7, hs97, le98, ⟨_, rfl⟩⟩
        refine thenQ_nrm ?_
        refine Cd h108 (fun hb168 h169 => ?_) (fun hb168 h170 => ?_)
        ·refine Sq (Rg [0, 1, 2, 3, 4, 5] ?_)
         refine Vs 2 ?_
         obtain ⟨x171, hx172, h174⟩ := bind_some h169
         obtain ⟨hi173, hx172'⟩ := idx_spec hx172
         obtain ⟨b175, o176, C177, E178, fz179, rfl, hF181, hE182⟩ := SlA.open (SlA.mono hsr59_0_0 (le73.trans le98)) hx172'
         obtain ⟨ae183_0, ne183_0, hc184, hbe183_0, hse183_0⟩ := hE182 _ _ hx172'
         refine Ix hi173 ?_
         refine Lx 0 (hs97.pers _ _ hF181) hc184 ?_
         refine Vs 2 ?_
         refine Nt ?_
         refine Rt ?_
         refine blockQ_ret ?_
         refine thenQ_ret ?_
         refine thenQ_ret ?_
         refine blockQ_ret ?_
         have hret := iter_ret h174 hnx90
         subst hret
         refine .inr ?_
         refine thenQ_ret ?_
         obtain rfl := some_inj h69
         exact Re [(.slice ae183_0 x171.length ne183_0), (vi 0)] hs97 ⟨ae183_0, ne183_0, rfl, hbe183_0, hse183_0⟩
        ·refine Sc ?_
         refine blockQ_nrm ?_
         refine thenQ_nrm ?_
         refine Rg [0, 1, 2] ?_
         refine Vs 3 ?_
         refine RWP.nil ?_
         have hn185 := iter_next h170 hnx90
         exact ⟨m87, Nat.lt_succ_self _, (W64 (s70 + 1)), F7, hn185, hs97, (le73.trans le98), fI⟩
      ·refine Ex ?_
       refine thenQ_ex ?_
       refine thenQ_ex ?_
       refine blockQ_hit rfl ?_
       have ho186 := iter_done h93 hnx90
       exact .inl ⟨rfl, s70, F5, ho186, hs72, le73, fI⟩
     ·rintro f w81 ⟨s80, F6, rfl, hs82, le83, ⟨_, rfl⟩⟩
      have h187 := k_done h69
      refine thenQ_nrm ?_
      refine Sq (Rg [0, 1] ?_)
      refine Vs 2 ?_
      refine Nt ?_
      refine Rt ?_
      obtain rfl := some_inj h187
      exact Re [(.slice none ([] : List Int).length 0), (vi 3)] hs82 ⟨none, 0, rfl, LC.nil, (.inl rfl)⟩
end Go.Proofs.YtaihlcdkcampbaaGreatDoor
namespace Go.Proofs.YtaihlcdkcampbaaGreatDoor
open Go.Proofs
def rules_Shadowed_L0 (N : Nat) (x0 : (List Clause)) (x1 : (List Span)) (r24 : Int) : (List (Int × Bool)) → (List Int) → Option (List (Int × Bool)) := fun s51 y73 =>
 (((rules_first N x0 y73).bind fun r92 => some (mput s51 r92 true)).bind fun j85 => some j85)
def rules_Shadowed_L1 (N : Nat) (x0 : (List Clause)) (x1 : (List Span)) (r24 : Int) (r59 : (List (Int × Bool))) : (List Int × Int) → Option (Flow ((List Int) × Int) (List Int × Int)) := fun s115 =>
 (bif (decide (s115.2 < (x0.length : Int))) then ((bif (!(mgetD r59 s115.2 false)) then ((apnd s115.1 [s115.2]).bind fun r158 => some r158) else some s115.1).bind fun j142 => some (.next (j142, (W64 (s115.2 + 1))))) else some (.done (s115.1, s115.2)))
def rules_Shadowed (N : Nat) (x0 : (List Clause)) (x1 : (List Span)) : Option ((List Int) × Int) :=
 ((rules_asked N x0 x1).bind fun r24 => (bif (r24 != 0) then some (([] : List Int), r24) else ((rules_all_1 N (fun st x => ((rules_Shadowed_L0 N x0 x1 r24) st x).map fun t => (true, t)) x1 ([] : List (Int × Bool))).bind fun r59 => ((iter (rules_Shadowed_L1 N x0 x1 r24 r59) N (([] : List Int), 0)).bind fun o => o.k (fun r => some r) (fun s124 => some (s124.1, 0))))))
theorem co_rules_Shadowed : CallOk Tryz.prog 60 := fun _ _ => by kernel_rfl
theorem c_rules_Shadowed (N : Nat) (w0 : World) (F0 : Mem) (hF : ∀ b o, F0 b = some o → w0.heap[b]? = some o) (x0 : (List Clause)) (a0_0 : Option Addr) (n0_0 : Nat) (hb0_0 : LC x0.length n0_0) (hs0_0 : SlA tClause F0 a0_0 x0) (x1 : (List Span)) (a1_0 : Option Addr) (n1_0 : Nat) (hb1_0 : LC x1.length n1_0) (hs1_0 : SlA tSpan F0 a1_0 x1) (r : ((List Int) × Int)) (h : rules_Shadowed N x0 x1 = some r) :
  Calls Tryz.prog 60 ([(.slice a0_0 x0.length n0_0), (.slice a1_0 x1.length n1_0)] : List Value).toArray w0 (FRet w0 F0 fun F' v => ∃ (aq0_0 : Option Addr) (nq0_0 : Nat), v = (.tuple #[(.slice aq0_0 r.1.length nq0_0), (vi r.2)]) ∧ LC r.1.length nq0_0 ∧ SlA tInt F' aq0_0 r.1) := by
 have hs0 := HS.start hF
 refine calls_ofM (n := 40) (c := bodyOf Tryz.f60) Tryz.func60 (by kernel_rfl) (by kernel_rfl) (by kernel_rfl) ?_
 refine Sq (Rg [0, 1, 2] ?_)
 refine Bx' 23 #[(.slice a0_0 x0.length n0_0)] hs0 (fun b21 w22 hs23 => ?_)
 refine Vs 2 ?_
 refine Nss ?_
 refine Sq (Rg [0, 1, 2, 3] ?_)
 refine Ld hs23.at0 ?_
 refine Vs 1 ?_
 obtain ⟨r24, hr25, h26⟩ := bind_some h
 refine Cl' co_rules_asked hs23 (c_rules_asked N w22 F0 hs23.pers (x0) a0_0 n0_0 hb0_0 hs0_0 (x1) a1_0 n1_0 hb1_0 hs1_0 _ hr25) ?_
 rintro _ F1 w28 hs29 le30 rfl
 refine Vs 1 ?_
 refine Nss (Rg [0, 1] ?_)
 refine Vs 2 ?_
 refine Nt ?_
 refine Cd h26 (fun hb32 h33 => ?_) (fun hb32 h34 => ?_)
 ·refine Sq (Rg [0, 1, 2] ?_)
  refine Vs 3 ?_
  refine Nt ?_
  refine Rt ?_
  refine thenQ_ret ?_
  obtain rfl := some_inj h33
  exact .inl (Re [(.slice none ([] : List Int).length 0), (vi r24)] hs29 ⟨none, 0, rfl, LC.nil, (.inl rfl)⟩)
 ·refine Sc ?_
  refine thenQ_nrm ?_
  refine Sq (Rg [0, 1, 2] ?_)
  refine RWP.makeMap (t := 146) (K := tInt) (T := tBool) (dst := (some 17)) (ty := 146) (g := none) (by kernel_rfl) rfl hs29 (fun b36 e37 w38 (hs39 : HS w0 F0 w38 F1 [e37, (sb b21 #[(.slice a0_0 x0.length n0_0)] 23)]) hr40 => ?_)
  refine Al' 146 #[(.map none)] hs39 (fun b41 w42 hs43 => ?_)
  refine St0 #[(.map (some b36))] hs43 (fun w44 hs45 => ?_)
  refine Nss ?_
  refine Sq (Rg [0, 1] ?_)
  refine Vs 1 ?_
  refine RWP.callO (dst := (some 19)) (ty := 143) (g := none) (by kernel_rfl) rfl (f0 := (.func 118)) (aos := #[(.tmp 18)]) (ats := #[68]) (fid := 118) (first := #[]) (cap := #[]) (args := [(.slice a1_0 x1.length n1_0)]) rfl co_rules_all (rfl) hs45 (c_rules_all w44 F1 hs45.pers (x1) a1_0 n1_0 hb1_0 (SlA.mono hs1_0 le30)) ?_
  rintro _ F2 w47 _ hs48 le49 ⟨b46, rfl, rfl⟩
  have hs50 : HS w0 F0 w47 F2 [(sb b46 #[(.slice a1_0 x1.length n1_0)] 68), (sb b41 #[(.map (some b36))] 146), e37, (sb b21 #[(.slice a0_0 x0.length n0_0)] 23)] := hs48
  refine Nt ?_
  refine Bk ?_
  obtain ⟨r59, hr60, h61⟩ := bind_some h34
  refine CWP.rangeFuncI (enc := enc121) (ok := ok121) (px := px121) (m := fun {_} y s => rules_all_1 N y x1 s) (L := [(sb b41 #[(.map (some b36))] 146), e37, (sb b21 #[(.slice a0_0 x0.length n0_0)] 23)]) (B := [(sb b46 #[(.slice a1_0 x1.length n1_0)] 68)]) (ps := [20]) (by kernel_rfl) (gf := 172) (cap := [(pt b46 0)]) rfl co_rules_all_1 rfl (by kernel_rfl) (by kernel_rfl) (by rintro ⟨_, _, _⟩; rfl) hs50 (c_rules_all_1 N F2 x1 a1_0 n1_0 hb1_0 (SlA.mono hs1_0 (le30.trans le49)) b46) (fun st x => ((rules_Shadowed_L0 N x0 x1 r24) st x).map fun t => (true, t)) (fun (s51 : (List (Int × Bool))) (F3 : Mem) (Lq : Own) => ∃ (es51_0 : Option Nat × Obj), Lq = [(sb b41 #[(.map (some b36))] 146), es51_0, (sb b21 #[(.slice a0_0 x0.length n0_0)] 23)] ∧ MapR tInt tBool F3 b36 s51 es51_0) ?_ (s := ([] : List (Int × Bool))) (r := r59) ?_ hr60 (fun _ _ _ h => (map_true h).1) ?_ ?_
  ·rintro s F F' L ⟨es51_0, rfl, hrs51_0⟩
   exact ⟨es51_0, rfl, (MapR.ind (F := F) (F' := F') (fun _ _ h => h) (fun _ _ h => h) hrs51_0)⟩
  ·exact ⟨e37, rfl, (hr40.mono le49)⟩
  ·rintro l62 s51 ⟨y73, ay73_0, ny73_0⟩ w65 F3 _ Rf67 ⟨_, q68⟩ le69 ⟨hby73_0, hsy73_0⟩ ⟨es51_0, rfl, hrs51_0⟩ hs71 hy72
   have h74 := (map_true hy72).2
   have hs75 : HS w0 F0 w65 F3 ((sb b41 #[(.map (some b36))] 146) :: es51_0 :: (sb b21 #[(.slice a0_0 x0.length n0_0)] 23) :: Rf67) := hs71
   refine Rg [0] ?_
   refine Vs 1 ?_
   refine RWP.nil ?_
   refine ⟨rfl, F3, [(sb b41 #[(.map (some b36))] 146), es51_0, (sb b21 #[(.slice a0_0 x0.length n0_0)] 23)], hs75, fun w76 Rf77 hs78 => ?_⟩
   have hs79 : HS w0 F0 w76 F3 ((sb b41 #[(.map (some b36))] 146) :: es51_0 :: (sb b21 #[(.slice a0_0 x0.length n0_0)] 23) :: Rf77) := hs78
   refine Bk ?_
   obtain ⟨j85, hj90, h91⟩ := bind_some h74
   refine RD 5 5 [(sb b41 #[(.map (some b36))] 146), (sb b21 #[(.slice a0_0 x0.length n0_0)] 23)] [] hs79 (fun f w => ∃ (F5 : Mem) (ej85_0 : Option Nat × Obj), HS w0 F0 w F5 ((sb b41 #[(.map (some b36))] 146) :: ej85_0 :: (sb b21 #[(.slice a0_0 x0.length n0_0)] 23) :: Rf77) ∧ Mem.le F3 F5 ∧ FI f [] [(2, (pt b21 0)), (7, (pt b41 0)), (17, (.map (some b36)))] ∧ MapR tInt tBool F5 b36 j85 ej85_0) (fun wd80 hw81 => ?_) ?_
   ·refine Dl 0 (fun _ hq => (hq.1.2 0 _ _ rfl)) ?_
    refine Dl 1 (fun _ hq => (hq.1.2 1 _ _ rfl)) ?_
    refine Dv [2] ?_
    refine D1 3 ?_
    obtain ⟨r92, hr93, h94⟩ := bind_some hj90
    refine DCl co_rules_first hw81 (c_rules_first N wd80 F3 hw81.pers (x0) a0_0 n0_0 hb0_0 (SlA.mono hs0_0 ((le30.trans le49).trans le69)) (y73) ay73_0 ny73_0 hby73_0 hsy73_0 _ hr93) ?_
    rintro _ F6 w96 hs97 le98 rfl
    refine D1 4 ?_
    refine DStep.mapPut (l' := [true, true, true, true, true]) (zd := true) (by kernel_rfl) (by kernel_rfl) kl3 (ty := 0) (g := none) (mt := 146) (k := 3) (vt := 4) (m := (.tmp 21)) (x := (.tmp 24)) (y := (.const (.bool true))) (b := b36) (kx := r92) (u := true) (kv := (vi r92)) (v := (.bool true)) (K := tInt) (T := tBool) (by kernel_rfl) rfl rfl rfl rfl ⟨_, rfl, rfl⟩ ⟨_, rfl, rfl⟩ (by kernel_rfl) hs97 (q := 1) rfl (hrs51_0.mono le98) le98 (fun _ => by simp) (fun e => by cases e) (fun e100 w101 (hs102 : HS w0 F0 w101 F6 ((sb b41 #[(.map (some b36))] 146) :: e100 :: (sb b21 #[(.slice a0_0 x0.length n0_0)] 23) :: Rf77)) hr103 => ?_)
    obtain rfl := some_inj h94
    exact DWP.done (by kernel_rfl) ⟨F6, e100, hs102, le98, fI, hr103⟩
   ·rintro f w82 ⟨F5, ej85_0, hs83, le84, ⟨_, rfl⟩, hrj85_0⟩
    refine blockQ_nrm ?_
    obtain rfl := some_inj h91
    exact ⟨rfl, F5, [(sb b41 #[(.map (some b36))] 146), ej85_0, (sb b21 #[(.slice a0_0 x0.length n0_0)] 23)], hs83, le84, ⟨ej85_0, rfl, hrj85_0⟩⟩
  ·rintro D105 w106 F4 _ hs107 le108 ⟨es55_0, rfl, hrs55_0⟩
   have hs109 : HS w0 F0 w106 F4 [(some D105, (.deferred (some []))), (sb b41 #[(.map (some b36))] 146), es55_0, (sb b21 #[(.slice a0_0 x0.length n0_0)] 23)] := hs107
   refine blockQ_nrm ?_
   refine thenQ_nrm ?_
   refine Sq (Rg [0] ?_)
   refine Vs 1 ?_
   refine Nss ?_
   refine Sq (Rg [0, 1, 2] ?_)
   refine Ld hs109.at3 ?_
   refine Vs 2 ?_
   refine Nt ?_
   have hs110 := hs109.dr3.dummy (oc #[] 0)
   obtain ⟨o112, ho113, h114⟩ := bind_some h61
   refine CWP.cut (fun f w => ∃ (s124 : (List Int × Int)) (F8 : Mem) (as124_0 : Option Addr) (ns124_0 : Nat) (es124_0 : Option Nat × Obj), o112 = .done s124 ∧ HS w0 F0 w F8 [es124_0, (some D105, (.deferred (some [])))] ∧ Mem.le F4 F8 ∧ FI f [{ target := .collected D105, args := #[] }] [(9, (.slice as124_0 s124.1.length ns124_0))] ∧ RowR tInt 3 F8 as124_0 ns124_0 s124.1 es124_0) ?_ ?_
   ·refine Bk ?_
    refine CWP.loop (by kernel_rfl) (fun m f w => ∃ (s115 : (List Int × Int)) (F7 : Mem) (as115_0 : Option Addr) (ns115_0 : Nat) (es115_0 : Option Nat × Obj), iter (rules_Shadowed_L1 N x0 x1 r24 r59) m s115 = some o112 ∧ HS w0 F0 w F7 [es115_0, (some D105, (.deferred (some []))), (sb b41 #[(.map (some b36))] 146), es55_0] ∧ Mem.le F4 F7 ∧ FI f [{ target := .collected D105, args := #[] }] [(7, (pt b41 0)), (9, (.slice as115_0 s115.1.length ns115_0)), (26, (vi (x0.length : Int))), (27, (vi s115.2))] ∧ RowR tInt 3 F7 as115_0 ns115_0 s115.1 es115_0) N ⟨(([] : List Int), 0), F4, none, 0, (none, .cells #[] 0 (0, 0)), ho113, hs110, (Mem.le.refl _), fI, (RowR.nil tInt 3 F4 _)⟩ ?_
    rintro m130 f w116 ⟨s115, F7, as115_0, ns115_0, es115_0, hit131, hs117, le118, ⟨_, rfl⟩, hrs115_0⟩
    obtain ⟨m132, fl133, rfl, hb134, hnx135⟩ := iter_step hit131
    refine Sq (Rg [0] ?_)
    refine Vs 1 ?_
    refine Nss ?_
    refine Cd hb134 (fun hb136 h137 => ?_) (fun hb136 h138 => ?_)
    ·refine Sc ?_
     refine thenQ_nrm ?_
     refine Sq ?_
     refine Bk ?_
     refine Sq (Rg [0, 1] ?_)
     refine Vs 2 ?_
     refine Nss (Rg [0, 1, 2, 3] ?_)
     refine Ld hs117.at2 ?_
     refine Vs 1 ?_
     refine V 32 4 (run_lookV1 (mt := 146) (k := 3) (vt := 4) (m := (.tmp 30)) (x := (.tmp 31)) (kv := (vi s115.2)) (kx := s115.2) (z := (.bool false)) (zx := false) (K := tInt) (T := tBool) kl3 rfl rfl ⟨_, rfl, rfl⟩ (by kernel_rfl) (by kernel_rfl) ⟨_, rfl, rfl⟩ (MapR.mpw hs117 (i := 3) rfl (hrs55_0.mono le118)) (fun h => by obtain ⟨_, rfl, rfl⟩ := h; rfl)) ?_
     refine Vs 1 ?_
     refine Nt ?_
     obtain ⟨j142, hj148, h149⟩ := bind_some h137
     refine CWP.cut (fun f w => ∃ (F9 : Mem) (aj142_0 : Option Addr) (nj142_0 : Nat) (ej142_0 : Option Nat × Obj), HS w0 F0 w F9 [ej142_0, (some D105, (.deferred (some []))), (sb b41 #[(.map (some b36))] 146), es55_0] ∧ Mem.le F7 F9 ∧ FI f [{ target := .collected D105, args := #[] }] [(7, (pt b41 0)), (9, (.slice aj142_0 j142.length nj142_0)), (26, (vi (x0.length : Int))), (27, (vi s115.2))] ∧ RowR tInt 3 F9 aj142_0 nj142_0 j142 ej142_0) ?_ ?_
     ·refine Cd hj148 (fun hb150 h151 => ?_) (fun hb150 h152 => ?_)
      ·refine Rg [0, 1, 2, 3, 4] ?_
       refine Vs 2 ?_
       refine Bs 3 [(vi s115.2)] hs117 (fun b153 w154 hs155 => ?_)
       have hr157 : RowR tInt 3 F7 (some ⟨b153, 0, none⟩) 1 [s115.2] (some b153, .cells ([(vi s115.2)] : List Value).toArray 3 (0, 0)) := RowR.lit ⟨rfl, rfl⟩ (by simp)
       obtain ⟨r158, hap159, h160⟩ := bind_some h151
       refine Ap1 oInt hs155 hrs115_0 (hs155.rd0 hr157) hap159 (fun a161 n162 e163 w164 hs165 hr166 => ?_)
       refine Vs 1 ?_
       refine RWP.nil ?_
       obtain rfl := some_inj h160
       exact .inl ⟨rfl, F7, a161, n162, e163, hs165.dr0, (Mem.le.refl _), fI, hr166⟩
      ·refine Sc ?_
       obtain rfl := some_inj h152
       exact .inl ⟨rfl, F7, as115_0, ns115_0, es115_0, hs117, (Mem.le.refl _), fI, hrs115_0⟩
     ·rintro f w139 ⟨F9, aj142_0, nj142_0, ej142_0, hs140, le141, ⟨_, rfl⟩, hrj142_0⟩
      refine blockQ_nrm ?_
      refine thenQ_nrm ?_
      refine Rg [0, 1] ?_
      refine Vs 2 ?_
      refine RWP.nil ?_
      have hn167 := iter_next h149 hnx135
      exact ⟨m132, Nat.lt_succ_self _, (j142, (W64 (s115.2 + 1))), F9, aj142_0, nj142_0, ej142_0, hn167, hs140, (le118.trans le141), fI, hrj142_0⟩
    ·refine Ex ?_
     refine thenQ_ex ?_
     refine thenQ_ex ?_
     refine blockQ_hit rfl ?_
     have ho168 := iter_done h138 hnx135
     exact .inl ⟨rfl, (s115.1, s115.2), F7, as115_0, ns115_0, es115_0, ho168, hs117.dr2.dr2, le118, fI, hrs115_0⟩
   ·rintro f w125 ⟨s124, F8, as124_0, ns124_0, es124_0, rfl, hs126, le127, ⟨_, rfl⟩, hrs124_0⟩
    have h169 := k_done h114
    refine thenQ_nrm ?_
    refine Sq (Rg [0, 1, 2] ?_)
    refine Vs 3 ?_
    refine Nt ?_
    refine Rt ?_
    have hb173 := RowR.bound hrs124_0
    obtain ⟨F10, hs170, le171, hs172⟩ := hs126.fr0 hrs124_0
    have hs174 := hs170.put (k := 0) rfl (.deferred none)
    have hs175 : HS w0 F0 (putB w125 D105 (.deferred none)) F10 [] := hs174.drop 0
    obtain rfl := some_inj h169
    exact .inr ⟨D105, rfl, hs170.ownAt (k := 0) rfl, (.tuple #[(.slice as124_0 s124.1.length ns124_0), (vi 0)]), res_of (l := [.tmp 4, .tmp 5]) (by kernel_rfl) (vs := [(.slice as124_0 s124.1.length ns124_0), (vi 0)]) ⟨rfl, ⟨rfl, trivial⟩⟩, (.tuple #[(.slice as124_0 s124.1.length ns124_0), (vi 0)]), F10, rfl, hs175.clear, ⟨as124_0, ns124_0, rfl, hb173, hs172⟩⟩
end Go.Proofs.YtaihlcdkcampbaaGreatDoor
