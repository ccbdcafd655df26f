/- RulesSimple: for every input the law returns true, and each argument reads afterwards as it read before. No condition. -/
import Derived.Test.YtaihlcdkcampbaaGreatDoorA5
set_option linter.unusedVariables false
set_option linter.unusedSimpArgs false
set_option linter.unusedSectionVars false
set_option maxHeartbeats 4000000
set_option maxRecDepth 100000
namespace Go.Proofs.YtaihlcdkcampbaaGreatDoor
open Go.ChangeShapes Go.WideShapes Go.ChangeAt Go.RowKit
set_option maxRecDepth 100000 in
theorem lifted_rulesSimple (os : Os) (started : os.Started) (H : Type) (enc : TypeId × Value → H) :
  ReturnsInHanded {} Tryz.checked os 5 .any (fun w args => (Rows.rulesSimpleSpec.pre enc Tryz.prog Tryz.f5 Rows.rulesSimpleRow.domain false w args ∧ laidMetH Tryz.prog Rows.rulesSimpleRow.laid w) ∧ sizedMet enc Tryz.prog Tryz.f5 (OpenSpec.ofChange Rows.rulesSimpleSpec) false w args) (Rows.rulesSimpleSpec.post enc Tryz.prog Tryz.f5 false true false false) := by
 refine handed_laid (C := Tryz.checked) (X := fun w _ => laidMetH Tryz.prog laid7 w) (fun _ _ _ hh h => h.of_heap hh) own_knob started (by kernel_rfl) Tryz.func5
  (ChangeSpec.witness_shaped (enc := enc) (C := Tryz.checked) (os := os) (X := fun w _ => laidMetH Tryz.prog laid7 w) false (World.laidAll Tryz.prog os laid7) #[.agg #[.int .i64 0, .int .i64 0, .slice none 0 0]] 8 (World.laidAll_os _ _ _)
   (World.shaped_of_ZipB (by kernel_rfl) (by kernel_rfl)) (by kernel_rfl) (by kernel_rfl) (by kernel_rfl) (door_met7 os _)) ?_
 intro W base args ds gs before hval0 hW hsz hL hsh
 have hval : ∀ (j : Nat) t v, Tryz.f5.params[j]? = some t → args[j]? = some v → Value.okWide Tryz.prog W .any base t v := hval0
 have hW' := hW
 obtain ⟨p, q, hA0, hV, rfl, hfz, hnd⟩ := hW
 have hA : DataW.TrodAll enc Tryz.prog W 0 (fun _ => true) true Tryz.f5.params.toList args.toList ds p := hA0
 rw [Tryz.params5] at hA hval
 obtain ⟨v0, vs0, d0, ds0, p0, q0, hargs, rfl, rfl, h0, r0⟩ := trodAll_cons hA
 obtain ⟨rfl, rfl, rfl⟩ := trodAll_nil r0
 obtain rfl : args = #[v0] := by cases args; simp_all
 have z0 : SzW Tryz.prog 33 d0 := SzW.each hsz (j := 0) (by kernel_rfl) rfl
 obtain ⟨cs0, x0, rfl, R0, Q0⟩ := Opens.agg opens_Expr_33 (by kernel_rfl) (hval 0 33 v0 rfl rfl) h0 z0
 obtain ⟨a0_2, n0_2, e0, hb0_2, hs0_2⟩ := tExpr_open R0
 obtain rfl : cs0 = #[.int .i64 x0.Op, .int .i64 x0.Value, .slice a0_2 x0.Kids.length n0_2] := Array.ext' (by exact e0)
 obtain ⟨N, hN⟩ := simple_row x0 Q0
 refine (c_law06_RulesSimple N W (memOf W) (fun _ _ h => h) (glob_of hL hsh) x0 a0_2 n0_2 hb0_2 hs0_2 true hN).mono fun e W' he => ?_
 obtain ⟨r, F', rfl, hs, rfl⟩ := he
 refine ⟨_, rfl, post_grown (by kernel_rfl) (tb := 4) ?_ rfl hW' (by kernel_rfl) (by kernel_rfl) ?_ hs⟩
 ·intro t ht
  rw [Tryz.params5] at ht
  simp only [List.mem_cons, List.not_mem_nil, or_false] at ht
  subst ht; exact ⟨by kernel_rfl, by decide +kernel⟩
 ·intro _; rfl
set_option maxRecDepth 100000 in
theorem jf_rulesSimple_0 : (Rows.rulesSimpleRow.wf (OpenSpec.ofChange Rows.rulesSimpleSpec)) = true := by kernel_rfl
set_option maxRecDepth 100000 in
theorem jf_rulesSimple_3 : (Tryz.f5.params.all (Tryz.pinned.checked.prog.readableRec ·)) = true := by kernel_rfl
set_option maxRecDepth 100000 in
theorem jf_rulesSimple_4 : (namedTie Tryz.pinned.checked.prog Rows.rulesSimpleRow.named Rows.rulesSimpleSpec.vars) = true := by kernel_rfl
set_option maxRecDepth 100000 in
theorem jf_rulesSimple_5 : ((Rows.rulesSimpleRow.stops == [])) = true := by kernel_rfl
set_option maxRecDepth 100000 in
theorem jf_rulesSimple_7 : ((Rows.rulesSimpleRow.knobs == [])) = true := by kernel_rfl
set_option maxRecDepth 100000 in
theorem jf_rulesSimple_9 : ((Rows.rulesSimpleRow.inPlace == Tryz.pinned.checked.prog.inPlace 5)) = true := by kernel_rfl
set_option maxRecDepth 100000 in
theorem jf_rulesSimple_10 : ((Rows.rulesSimpleRow.unfollowed == Tryz.pinned.checked.prog.unfollowed 5)) = true := by kernel_rfl
set_option maxRecDepth 100000 in
theorem jf_rulesSimple_11 : ((Rows.rulesSimpleRow.recurses == Tryz.pinned.checked.prog.recurses 5)) = true := by kernel_rfl
set_option maxRecDepth 100000 in
theorem jf_rulesSimple_12 : ((Rows.rulesSimpleRow.named == Tryz.pinned.checked.prog.varsNamed 5)) = true := by kernel_rfl
set_option maxRecDepth 100000 in
theorem jf_rulesSimple_13 : ((Rows.rulesSimpleRow.maps == (Tryz.f5.params.toList ++ Rows.rulesSimpleSpec.plain.varTypes Tryz.pinned.checked.prog).any (Tryz.pinned.checked.prog.mapsRec ·))) = true := by kernel_rfl
set_option maxRecDepth 100000 in
theorem jf_rulesSimple_14 : ((Rows.rulesSimpleRow.ifaces == (Tryz.f5.params.toList ++ Rows.rulesSimpleSpec.plain.varTypes Tryz.pinned.checked.prog).any (Tryz.pinned.checked.prog.ifacesRec ·))) = true := by kernel_rfl
set_option maxRecDepth 100000 in
theorem jf_rulesSimple_15 : ((Rows.rulesSimpleRow.mapsOut == Tryz.pinned.checked.prog.mapsAmong Tryz.f5.resultTypes.toList)) = true := by kernel_rfl
set_option maxRecDepth 100000 in
theorem jf_rulesSimple_16 : ((Rows.rulesSimpleRow.loops == (Tryz.f5.params.toList ++ Rows.rulesSimpleSpec.plain.varTypes Tryz.pinned.checked.prog).any (Tryz.pinned.checked.prog.loopsFrom ·))) = true := by kernel_rfl
set_option maxRecDepth 100000 in
theorem jf_rulesSimple_17 : ((Rows.rulesSimpleRow.wideKeys == (Tryz.f5.params.toList ++ Rows.rulesSimpleSpec.plain.varTypes Tryz.pinned.checked.prog ++ Tryz.f5.resultTypes.toList).any (Tryz.pinned.checked.prog.wideKeysFrom ·))) = true := by kernel_rfl
set_option maxRecDepth 100000 in
theorem jf_rulesSimple_18 : (Rows.rulesSimpleSpec.vars.all (Tryz.pinned.checked.prog.varReadable ·)) = true := by kernel_rfl
set_option maxRecDepth 100000 in
theorem jf_rulesSimple_19 : (Tryz.f5.resultTypes.all (fun t => Tryz.pinned.checked.prog.readableRec t && decide (t < Tryz.pinned.checked.prog.types.size))) = true := by kernel_rfl
set_option maxRecDepth 100000 in
theorem jf_rulesSimple_20 : ((Rows.rulesSimpleRow.ifacesOut == Tryz.f5.resultTypes.toList.any (Tryz.pinned.checked.prog.ifacesRec ·))) = true := by kernel_rfl
set_option maxRecDepth 100000 in
theorem jf_rulesSimple_21 : ((Rows.rulesSimpleRow.loopsOut == Tryz.f5.resultTypes.toList.any (Tryz.pinned.checked.prog.loopsFrom ·))) = true := by kernel_rfl
theorem jf_rulesSimple_22 : ((Rows.rulesSimpleRow.plainKeys == Tryz.pinned.checked.prog.plainKeys)) = true := by rw [← eq_of_beq fx_22]; kernel_rfl
set_option maxRecDepth 100000 in
theorem jf_rulesSimple_23 : (Rows.rulesSimpleRow.shortTexts.isNone) = true := by kernel_rfl
theorem jf_rulesSimple_26 : ((Rows.rulesSimpleRow.lifted == Tryz.pinned.checked.prog.liftsFinal)) = true := by rw [← eq_of_beq fx_26]; kernel_rfl
theorem jf_rulesSimple_27 : ((Tryz.pinned.checked.prog.make == some Rows.rulesSimpleRow.make)) = true := by rw [eq_of_beq fx_27]; kernel_rfl
set_option maxRecDepth 100000 in
theorem jf_rulesSimple_29 : ((Rows.rulesSimpleRow.pinned == Rows.rulesSimpleRow.pinnedBy)) = true := by kernel_rfl
set_option maxRecDepth 100000 in
theorem jf_rulesSimple_30 : ((Rows.rulesSimpleRow.veiled == (Tryz.f5.params.toList ++ Rows.rulesSimpleSpec.plain.varTypes Tryz.pinned.checked.prog ++ Tryz.f5.resultTypes.toList).any (Tryz.pinned.checked.prog.veiledRec ·))) = true := by kernel_rfl
set_option maxRecDepth 100000 in
theorem jf_rulesSimple_31 : (Rows.rulesSimpleRow.veiledFits Tryz.pinned.checked.prog Tryz.f5.params.toList (Tryz.f5.params.toList ++ Rows.rulesSimpleSpec.plain.varTypes Tryz.pinned.checked.prog ++ Tryz.f5.resultTypes.toList)) = true := by kernel_rfl
theorem jf_rulesSimple : joinedFacts Tryz.pinned.checked.prog 5 Tryz.f5 Rows.rulesSimpleSpec Rows.rulesSimpleRow = true := and_tt (and_tt (and_tt (and_tt (and_tt (and_tt (and_tt (and_tt (and_tt (and_tt (and_tt (and_tt (and_tt (and_tt (and_tt (and_tt (and_tt (and_tt (and_tt (and_tt (and_tt (and_tt (and_tt (and_tt (and_tt (and_tt (and_tt (and_tt (and_tt (and_tt (and_tt (jf_rulesSimple_0) (fx_1)) (fx_2)) (jf_rulesSimple_3)) (jf_rulesSimple_4)) (jf_rulesSimple_5)) (fx_6)) (jf_rulesSimple_7)) (fx_8)) (jf_rulesSimple_9)) (jf_rulesSimple_10)) (jf_rulesSimple_11)) (jf_rulesSimple_12)) (jf_rulesSimple_13)) (jf_rulesSimple_14)) (jf_rulesSimple_15)) (jf_rulesSimple_16)) (jf_rulesSimple_17)) (jf_rulesSimple_18)) (jf_rulesSimple_19)) (jf_rulesSimple_20)) (jf_rulesSimple_21)) (jf_rulesSimple_22)) (jf_rulesSimple_23)) (fx_24)) (fx_25)) (jf_rulesSimple_26)) (jf_rulesSimple_27)) (by kernel_rfl)) (jf_rulesSimple_29)) (jf_rulesSimple_30)) (jf_rulesSimple_31)
theorem jn_rulesSimple : Tryz.pinned.checked.prog.funcNamed Rows.rulesSimpleRow.func = some 5 := by kernel_rfl
theorem ji_rulesSimple : Tryz.f5.isInstance Tryz.pinned.checked.prog Rows.rulesSimpleRow.origin Rows.rulesSimpleRow.targs := of_decide_eq_true (by kernel_rfl)
theorem jw_rulesSimple : Tryz.f5.isWrapper Tryz.pinned.checked.prog Rows.rulesSimpleRow.wrapper Rows.rulesSimpleRow.mainSum := by unfold Func.isWrapper; first | (rw [if_pos (by decide +kernel)]; kernel_rfl) | (rw [if_neg (by decide +kernel)]; exact ⟨rfl, rfl⟩)
theorem rulesSimple_row_holds : Rows.RulesSimpleSaid :=
 OpenClaim.holds_of_wide 5 Tryz.f5 rfl rfl rfl rfl rfl rfl rfl ⟨rfl, rfl, rfl, rfl, rfl⟩ rfl rfl rfl rfl rfl jn_rulesSimple Tryz.func5 jf_rulesSimple ji_rulesSimple jw_rulesSimple
  (fun os started H enc _ => lifted_rulesSimple os started H enc)
theorem jb_rulesSimple : Rows.rulesSimpleRow.wfByText (OpenSpec.ofChange Rows.rulesSimpleSpec) = true := by kernel_rfl
theorem js_rulesSimple : ([33].all fun u => !Tryz.prog.wantsStandIn u) = true := by kernel_rfl
theorem jg_rulesSimple : false = Rows.rulesSimpleRow.goesBy Tryz.pinned.checked.prog := by kernel_rfl
theorem rulesSimple_proved : Rows.RulesSimpleCardSaid :=
 Claim7.holds_tied_plain_at .later [] [.data, .data, .data, .sentinel, .sentinel] true (true, "9ef67a4cb07571d798ed60e513598468ebe5a66f3455e0900720288bced703b8") true rulesSimple_row_holds (fun _ h => by cases h) jb_rulesSimple (fun _ h => by cases h) rulesSimple_row_tie rfl ⟨rfl, rfl⟩ fx_main rfl
  (fun f fn hf hfn => by
   obtain rfl : f = 5 := (Option.some.inj (jn_rulesSimple.symm.trans hf)).symm
   obtain rfl : fn = Tryz.f5 := (Option.some.inj (Tryz.func5.symm.trans hfn)).symm
   exact ⟨fx_looks, fun j t ht => by
    rw [Tryz.params5] at ht
    have hm : t ∈ [33] := by simpa using Array.mem_of_getElem? ht
    exact (show Tryz.prog.wantsStandIn t = false by simpa using List.all_eq_true.1 js_rulesSimple t hm)⟩)
  jg_rulesSimple
end Go.Proofs.YtaihlcdkcampbaaGreatDoor
