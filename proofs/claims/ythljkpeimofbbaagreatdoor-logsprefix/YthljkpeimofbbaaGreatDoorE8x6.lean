/- LogsPrefix: for every input the law returns true, and each argument reads afterwards as it read before. No condition. -/
import Derived.Test.YthljkpeimofbbaaGreatDoorE8x5
set_option linter.unusedVariables false
set_option linter.unusedSimpArgs false
set_option linter.unusedSectionVars false
set_option maxHeartbeats 4000000
set_option maxRecDepth 100000
namespace Go.Proofs.YthljkpeimofbbaaGreatDoor
section
open Go.ChangeShapes Go.WideShapes Go.ChangeAt Go.RowKit
set_option maxRecDepth 100000 in
theorem Ji (os : Os) (started : os.Started) (H : Type) (enc : TypeId × Value -> H) :
  ReturnsInHanded {} Tryz.checked os 8 .any (fun w args => (Rows.logsPrefixSpec.pre enc Tryz.prog Tryz.f8 Rows.logsPrefixRow.domain false w args /\ laidMetH Tryz.prog Rows.logsPrefixRow.laid w) /\ sizedMet enc Tryz.prog Tryz.f8 (OpenSpec.ofChange Rows.logsPrefixSpec) false w args) (Rows.logsPrefixSpec.post enc Tryz.prog Tryz.f8 false true false false) := by
 refine OB (C := Tryz.checked) (X := fun w _ => laidMetH Tryz.prog LY w) (fun _ _ _ hh h => h.of_heap hh) QY started (by kernel_rfl) Tryz.func8
  (ChangeSpec.witness_shaped (enc := enc) (C := Tryz.checked) (os := os) (X := fun w _ => laidMetH Tryz.prog LY w) false (World.laidAll Tryz.prog os LY) #[.agg #[.bool false, .bool false, .bool false], .string ByteArray.empty, .string ByteArray.empty] 8 (World.laidAll_os _ _ _)
   (World.shaped_of_ZipB (by kernel_rfl) (by kernel_rfl)) (by kernel_rfl) (by kernel_rfl) (by kernel_rfl) (Qx os _)) ?_
 intro W base args ds gs before hval0 hW hsz hL hsh
 have hval : ∀ (j : Nat) t v, Tryz.f8.params[j]? = some t -> args[j]? = some v -> Value.okWide Tryz.prog W .any base t v := hval0
 have hW' := hW
 obtain ⟨p, q, hA0, hV, rfl, hfz, hnd⟩ := hW
 have hA : DataW.TrodAll enc Tryz.prog W 0 (fun _ => true) true Tryz.f8.params.toList args.toList ds p := hA0
 rw [Tryz.params8] at hA hval
 obtain ⟨v0, vs0, d0, ds0, p0, q0, hargs, rfl, rfl, h0, r0⟩ := trodAll_cons hA
 obtain ⟨v1, vs1, d1, ds1, p1, q1, rfl, rfl, rfl, h1, r1⟩ := trodAll_cons r0
 obtain ⟨v2, vs2, d2, ds2, p2, q2, rfl, rfl, rfl, h2, r2⟩ := trodAll_cons r1
 obtain ⟨rfl, rfl, rfl⟩ := trodAll_nil r2
 obtain rfl : args = #[v0, v1, v2] := by cases args; simp_all
 have z0 : SzW Tryz.prog 23 d0 := SzW.each hsz (j := 0) (by kernel_rfl) rfl
 obtain ⟨cs0, x0, rfl, R0, Q0⟩ := DM.agg KS (by kernel_rfl) (hval 0 23 v0 rfl rfl) h0 z0
 have e0 := R0
 obtain rfl : cs0 = #[.bool x0.Report, .bool x0.Serial, .bool x0.Zone] := Array.ext' (by exact e0)
 have z1 : SzW Tryz.prog 9 d1 := SzW.each hsz (j := 1) (by kernel_rfl) rfl
 obtain ⟨x1, R1, Q1⟩ := DM.one (M2 (t := 9) (by kernel_rfl) (by kernel_rfl) : DM Tryz.prog 9 AF rS) (by kernel_rfl) (hval 1 9 v1 rfl rfl) h1 z1
 have e1 : [v1] = [.string ⟨x1.toArray⟩] := R1
 cases e1
 have z2 : SzW Tryz.prog 9 d2 := SzW.each hsz (j := 2) (by kernel_rfl) rfl
 obtain ⟨x2, R2, Q2⟩ := DM.one (M2 (t := 9) (by kernel_rfl) (by kernel_rfl) : DM Tryz.prog 9 AF rS) (by kernel_rfl) (hval 2 9 v2 rfl rfl) h2 z2
 have e2 : [v2] = [.string ⟨x2.toArray⟩] := R2
 cases e2
 refine (IW 9223372036854775808 W (KC W) (fun _ _ h => h) (SK hL hsh) x0 x1 x2 true (Pe x0 x1 x2 Q0 Q1 Q2)).mono fun e W' he => ?_
 obtain ⟨r, F', rfl, hs, rfl⟩ := he
 refine ⟨_, rfl, Pf (by kernel_rfl) (tb := 4) ?_ rfl hW' (by kernel_rfl) (by kernel_rfl) ?_ hs⟩
 ·intro t ht
  rw [Tryz.params8] at ht
  simp only [List.mem_cons, List.not_mem_nil, or_false] at ht
  rcases ht with rfl | rfl | rfl <;> exact ⟨by kernel_rfl, by decide +kernel⟩
 ·intro _; rfl
set_option maxRecDepth 100000 in
theorem K1 : (Rows.logsPrefixRow.wf (OpenSpec.ofChange Rows.logsPrefixSpec)) = true := by kernel_rfl
set_option maxRecDepth 100000 in
theorem K0 : (Tryz.f8.params.all (Tryz.pinned.checked.prog.readableRec ·)) = true := by kernel_rfl
set_option maxRecDepth 100000 in
theorem KZ : (namedTie Tryz.pinned.checked.prog Rows.logsPrefixRow.named Rows.logsPrefixSpec.vars) = true := by kernel_rfl
set_option maxRecDepth 100000 in
theorem KY : ((Rows.logsPrefixRow.stops == [])) = true := by kernel_rfl
set_option maxRecDepth 100000 in
theorem KX : ((Rows.logsPrefixRow.knobs == [])) = true := by kernel_rfl
set_option maxRecDepth 100000 in
theorem KW : ((Rows.logsPrefixRow.inPlace == Tryz.pinned.checked.prog.inPlace 8)) = true := by kernel_rfl
set_option maxRecDepth 100000 in
theorem Kd : ((Rows.logsPrefixRow.unfollowed == Tryz.pinned.checked.prog.unfollowed 8)) = true := by kernel_rfl
set_option maxRecDepth 100000 in
theorem Kc : ((Rows.logsPrefixRow.recurses == Tryz.pinned.checked.prog.recurses 8)) = true := by kernel_rfl
set_option maxRecDepth 100000 in
theorem Kb : ((Rows.logsPrefixRow.named == Tryz.pinned.checked.prog.varsNamed 8)) = true := by kernel_rfl
set_option maxRecDepth 100000 in
theorem Ka : ((Rows.logsPrefixRow.maps == (Tryz.f8.params.toList ++ Rows.logsPrefixSpec.plain.varTypes Tryz.pinned.checked.prog).any (Tryz.pinned.checked.prog.mapsRec ·))) = true := by kernel_rfl
set_option maxRecDepth 100000 in
theorem J9 : ((Rows.logsPrefixRow.ifaces == (Tryz.f8.params.toList ++ Rows.logsPrefixSpec.plain.varTypes Tryz.pinned.checked.prog).any (Tryz.pinned.checked.prog.ifacesRec ·))) = true := by kernel_rfl
set_option maxRecDepth 100000 in
theorem J8 : ((Rows.logsPrefixRow.mapsOut == Tryz.pinned.checked.prog.mapsAmong Tryz.f8.resultTypes.toList)) = true := by kernel_rfl
set_option maxRecDepth 100000 in
theorem J7 : ((Rows.logsPrefixRow.loops == (Tryz.f8.params.toList ++ Rows.logsPrefixSpec.plain.varTypes Tryz.pinned.checked.prog).any (Tryz.pinned.checked.prog.loopsFrom ·))) = true := by kernel_rfl
set_option maxRecDepth 100000 in
theorem J6 : ((Rows.logsPrefixRow.wideKeys == (Tryz.f8.params.toList ++ Rows.logsPrefixSpec.plain.varTypes Tryz.pinned.checked.prog ++ Tryz.f8.resultTypes.toList).any (Tryz.pinned.checked.prog.wideKeysFrom ·))) = true := by kernel_rfl
set_option maxRecDepth 100000 in
theorem J5 : (Rows.logsPrefixSpec.vars.all (Tryz.pinned.checked.prog.varReadable ·)) = true := by kernel_rfl
set_option maxRecDepth 100000 in
theorem J4 : (Tryz.f8.resultTypes.all (fun t => Tryz.pinned.checked.prog.readableRec t && decide (t < Tryz.pinned.checked.prog.types.size))) = true := by kernel_rfl
set_option maxRecDepth 100000 in
theorem J3 : ((Rows.logsPrefixRow.ifacesOut == Tryz.f8.resultTypes.toList.any (Tryz.pinned.checked.prog.ifacesRec ·))) = true := by kernel_rfl
set_option maxRecDepth 100000 in
theorem J2 : ((Rows.logsPrefixRow.loopsOut == Tryz.f8.resultTypes.toList.any (Tryz.pinned.checked.prog.loopsFrom ·))) = true := by kernel_rfl
theorem J1 : ((Rows.logsPrefixRow.plainKeys == Tryz.pinned.checked.prog.plainKeys)) = true := by rw [<- eq_of_beq T8]; kernel_rfl
set_option maxRecDepth 100000 in
theorem J0 : Rows.logsPrefixRow.shortTexts.isNone = true := by kernel_rfl
theorem JZ : ((Rows.logsPrefixRow.lifted == Tryz.pinned.checked.prog.liftsFinal)) = true := by rw [<- eq_of_beq T5]; kernel_rfl
theorem JY : ((Tryz.pinned.checked.prog.make == some Rows.logsPrefixRow.make)) = true := by rw [eq_of_beq T4]; kernel_rfl
set_option maxRecDepth 100000 in
theorem JX : ((Rows.logsPrefixRow.pinned == Rows.logsPrefixRow.pinnedBy)) = true := by kernel_rfl
set_option maxRecDepth 100000 in
theorem JW : ((Rows.logsPrefixRow.veiled == (Tryz.f8.params.toList ++ Rows.logsPrefixSpec.plain.varTypes Tryz.pinned.checked.prog ++ Tryz.f8.resultTypes.toList).any (Tryz.pinned.checked.prog.veiledRec ·))) = true := by kernel_rfl
set_option maxRecDepth 100000 in
theorem JV : (Rows.logsPrefixRow.veiledFits Tryz.pinned.checked.prog Tryz.f8.params.toList (Tryz.f8.params.toList ++ Rows.logsPrefixSpec.plain.varTypes Tryz.pinned.checked.prog ++ Tryz.f8.resultTypes.toList)) = true := by kernel_rfl
theorem Mz : joinedFacts Tryz.pinned.checked.prog 8 Tryz.f8 Rows.logsPrefixSpec Rows.logsPrefixRow = true := Bp (Bp (Bp (Bp (Bp (Bp (Bp (Bp (Bp (Bp (Bp (Bp (Bp (Bp (Bp (Bp (Bp (Bp (Bp (Bp (Bp (Bp (Bp (Bp (Bp (Bp (Bp (Bp (Bp (Bp (Bp K1 Un) Um) K0) KZ) KY) Ul) KX) Uk) KW) Kd) Kc) Kb) Ka) J9) J8) J7) J6) J5) J4) J3) J2) J1) J0) T7) T6) JZ) JY) (by kernel_rfl)) JX) JW) JV
theorem Ip : Tryz.pinned.checked.prog.funcNamed Rows.logsPrefixRow.func = some 8 := by kernel_rfl
theorem Mx : Tryz.f8.isInstance Tryz.pinned.checked.prog Rows.logsPrefixRow.origin Rows.logsPrefixRow.targs := of_decide_eq_true (by kernel_rfl)
theorem Mv : Tryz.f8.isWrapper Tryz.pinned.checked.prog Rows.logsPrefixRow.wrapper Rows.logsPrefixRow.mainSum := by unfold Func.isWrapper; first | (rw [if_pos (by decide +kernel)]; kernel_rfl) | (rw [if_neg (by decide +kernel)]; exact ⟨rfl, rfl⟩)
theorem Hh : Rows.LogsPrefixSaid :=
 OpenClaim.holds_of_wide 8 Tryz.f8 rfl rfl rfl rfl rfl rfl rfl ⟨rfl, rfl, rfl, rfl, rfl⟩ rfl rfl rfl rfl rfl Ip Tryz.func8 Mz Mx Mv
  (fun os started H enc _ => Ji os started H enc)
theorem MA : Rows.logsPrefixRow.wfByText (OpenSpec.ofChange Rows.logsPrefixSpec) = true := by kernel_rfl
theorem Mw : ([23, 9, 9].all fun u => !Tryz.prog.wantsStandIn u) = true := by kernel_rfl
theorem My : false = Rows.logsPrefixRow.goesBy Tryz.pinned.checked.prog := by kernel_rfl
theorem logsPrefix_proved : Rows.LogsPrefixCardSaid :=
 Claim7.holds_tied_plain_at .later [] [.data, .data, .data, .data, .sentinel, .sentinel, .pinned] true (true, "8c4ab1a80a7e2c52077e9b3380faa1f8d4c3b8948d98da10affddce30d58f5b7") true Hh (fun _ h => by cases h) MA (fun _ h => by cases h) logsPrefix_row_tie rfl ⟨rfl, rfl⟩ SL rfl
  (fun f fn hf hfn => by
   obtain rfl : f = 8 := (Option.some.inj (Ip.symm.trans hf)).symm
   obtain rfl : fn = Tryz.f8 := (Option.some.inj (Tryz.func8.symm.trans hfn)).symm
   exact ⟨Rz, fun j t ht => by
    rw [Tryz.params8] at ht
    have hm : t ∈ [23, 9, 9] := by simpa using Array.mem_of_getElem? ht
    exact (show Tryz.prog.wantsStandIn t = false by simpa using List.all_eq_true.1 Mw t hm)⟩)
  My
end
end Go.Proofs.YthljkpeimofbbaaGreatDoor
