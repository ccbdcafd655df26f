/- RulesShadows: for every input the law returns true, and each argument reads afterwards as it read before. No condition. -/
import Derived.Test.YtaihlcdkcampbaaGreatDoorE13x5
set_option linter.unusedVariables false
set_option linter.unusedSimpArgs false
set_option linter.unusedSectionVars false
set_option maxHeartbeats 4000000
set_option maxRecDepth 100000
namespace Go.Proofs.YtaihlcdkcampbaaGreatDoor
open Go.ChangeShapes Go.WideShapes Go.ChangeAt Go.RowKit
set_option maxRecDepth 100000 in
theorem lifted_rulesShadows (os : Os) (started : os.Started) (H : Type) (enc : TypeId × Value → H) :
  ReturnsInHanded {} Tryz.checked os 13 .any (fun w args => (Rows.rulesShadowsSpec.pre enc Tryz.prog Tryz.f13 Rows.rulesShadowsRow.domain false w args ∧ laidMetH Tryz.prog Rows.rulesShadowsRow.laid w) ∧ sizedMet enc Tryz.prog Tryz.f13 (OpenSpec.ofChange Rows.rulesShadowsSpec) false w args) (Rows.rulesShadowsSpec.post enc Tryz.prog Tryz.f13 false true false false) := by
 refine handed_laid (C := Tryz.checked) (X := fun w _ => laidMetH Tryz.prog laid7 w) (fun _ _ _ hh h => h.of_heap hh) own_knob started (by kernel_rfl) Tryz.func13
  (ChangeSpec.witness_shaped (enc := enc) (C := Tryz.checked) (os := os) (X := fun w _ => laidMetH Tryz.prog laid7 w) false (World.laidAll Tryz.prog os laid7) #[.slice none 0 0, .slice none 0 0] 8 (World.laidAll_os _ _ _)
   (World.shaped_of_ZipB (by kernel_rfl) (by kernel_rfl)) (by kernel_rfl) (by kernel_rfl) (by kernel_rfl) (door_met7 os _)) ?_
 intro W base args ds gs before hval0 hW hsz hL hsh
 have hval : ∀ (j : Nat) t v, Tryz.f13.params[j]? = some t → args[j]? = some v → Value.okWide Tryz.prog W .any base t v := hval0
 have hW' := hW
 obtain ⟨p, q, hA0, hV, rfl, hfz, hnd⟩ := hW
 have hA : DataW.TrodAll enc Tryz.prog W 0 (fun _ => true) true Tryz.f13.params.toList args.toList ds p := hA0
 rw [Tryz.params13] at hA hval
 obtain ⟨v0, vs0, d0, ds0, p0, q0, hargs, rfl, rfl, h0, r0⟩ := trodAll_cons hA
 obtain ⟨v1, vs1, d1, ds1, p1, q1, rfl, rfl, rfl, h1, r1⟩ := trodAll_cons r0
 obtain ⟨rfl, rfl, rfl⟩ := trodAll_nil r1
 obtain rfl : args = #[v0, v1] := by cases args; simp_all
 have z0 : SzW Tryz.prog 23 d0 := SzW.each hsz (j := 0) (by kernel_rfl) rfl
 obtain ⟨x0, R0, Q0⟩ := Opens.one (opens_slice (t := 23) opens_Clause_56 (by decide) (by kernel_rfl) (by kernel_rfl) : Opens Tryz.prog 23 (tSl tClause) _) (by kernel_rfl) (hval 0 23 v0 rfl rfl) h0 z0
 obtain ⟨a0_0, n0_0, e0, hb0_0, hs0_0⟩ := R0
 obtain rfl : v0 = .slice a0_0 x0.length n0_0 := by cases e0; rfl
 have z1 : SzW Tryz.prog 68 d1 := SzW.each hsz (j := 1) (by kernel_rfl) rfl
 obtain ⟨x1, R1, Q1⟩ := Opens.one (opens_slice (t := 68) opens_Span_72 (by decide) (by kernel_rfl) (by kernel_rfl) : Opens Tryz.prog 68 (tSl tSpan) _) (by kernel_rfl) (hval 1 68 v1 rfl rfl) h1 z1
 obtain ⟨a1_0, n1_0, e1, hb1_0, hs1_0⟩ := R1
 obtain rfl : v1 = .slice a1_0 x1.length n1_0 := by cases e1; rfl
 obtain ⟨N, hN⟩ := shadows_row x0 x1 Q0 Q1
 refine (c_law06_RulesShadows N W (memOf W) (fun _ _ h => h) (glob_of hL hsh) x0 a0_0 n0_0 hb0_0 hs0_0 x1 a1_0 n1_0 hb1_0 hs1_0 true hN).mono fun e W' he => ?_
 obtain ⟨r, F', rfl, hs, rfl⟩ := he
 refine ⟨_, rfl, post_grown (by kernel_rfl) (tb := 4) ?_ rfl hW' (by kernel_rfl) (by kernel_rfl) ?_ hs⟩
 ·intro t ht
  rw [Tryz.params13] at ht
  simp only [List.mem_cons, List.not_mem_nil, or_false] at ht
  rcases ht with rfl | rfl <;> exact ⟨by kernel_rfl, by decide +kernel⟩
 ·intro _; rfl
set_option maxRecDepth 100000 in
theorem jf_rulesShadows_0 : (Rows.rulesShadowsRow.wf (OpenSpec.ofChange Rows.rulesShadowsSpec)) = true := by kernel_rfl
set_option maxRecDepth 100000 in
theorem jf_rulesShadows_3 : (Tryz.f13.params.all (Tryz.pinned.checked.prog.readableRec ·)) = true := by kernel_rfl
set_option maxRecDepth 100000 in
theorem jf_rulesShadows_4 : (namedTie Tryz.pinned.checked.prog Rows.rulesShadowsRow.named Rows.rulesShadowsSpec.vars) = true := by kernel_rfl
set_option maxRecDepth 100000 in
theorem jf_rulesShadows_5 : ((Rows.rulesShadowsRow.stops == [])) = true := by kernel_rfl
set_option maxRecDepth 100000 in
theorem jf_rulesShadows_7 : ((Rows.rulesShadowsRow.knobs == [])) = true := by kernel_rfl
set_option maxRecDepth 100000 in
theorem jf_rulesShadows_9 : ((Rows.rulesShadowsRow.inPlace == Tryz.pinned.checked.prog.inPlace 13)) = true := by kernel_rfl
set_option maxRecDepth 100000 in
theorem jf_rulesShadows_10 : ((Rows.rulesShadowsRow.unfollowed == Tryz.pinned.checked.prog.unfollowed 13)) = true := by kernel_rfl
set_option maxRecDepth 100000 in
theorem jf_rulesShadows_11 : ((Rows.rulesShadowsRow.recurses == Tryz.pinned.checked.prog.recurses 13)) = true := by kernel_rfl
set_option maxRecDepth 100000 in
theorem jf_rulesShadows_12 : ((Rows.rulesShadowsRow.named == Tryz.pinned.checked.prog.varsNamed 13)) = true := by kernel_rfl
set_option maxRecDepth 100000 in
theorem jf_rulesShadows_13 : ((Rows.rulesShadowsRow.maps == (Tryz.f13.params.toList ++ Rows.rulesShadowsSpec.plain.varTypes Tryz.pinned.checked.prog).any (Tryz.pinned.checked.prog.mapsRec ·))) = true := by kernel_rfl
set_option maxRecDepth 100000 in
theorem jf_rulesShadows_14 : ((Rows.rulesShadowsRow.ifaces == (Tryz.f13.params.toList ++ Rows.rulesShadowsSpec.plain.varTypes Tryz.pinned.checked.prog).any (Tryz.pinned.checked.prog.ifacesRec ·))) = true := by kernel_rfl
set_option maxRecDepth 100000 in
theorem jf_rulesShadows_15 : ((Rows.rulesShadowsRow.mapsOut == Tryz.pinned.checked.prog.mapsAmong Tryz.f13.resultTypes.toList)) = true := by kernel_rfl
set_option maxRecDepth 100000 in
theorem jf_rulesShadows_16 : ((Rows.rulesShadowsRow.loops == (Tryz.f13.params.toList ++ Rows.rulesShadowsSpec.plain.varTypes Tryz.pinned.checked.prog).any (Tryz.pinned.checked.prog.loopsFrom ·))) = true := by kernel_rfl
set_option maxRecDepth 100000 in
theorem jf_rulesShadows_17 : ((Rows.rulesShadowsRow.wideKeys == (Tryz.f13.params.toList ++ Rows.rulesShadowsSpec.plain.varTypes Tryz.pinned.checked.prog ++ Tryz.f13.resultTypes.toList).any (Tryz.pinned.checked.prog.wideKeysFrom ·))) = true := by kernel_rfl
set_option maxRecDepth 100000 in
theorem jf_rulesShadows_18 : (Rows.rulesShadowsSpec.vars.all (Tryz.pinned.checked.prog.varReadable ·)) = true := by kernel_rfl
set_option maxRecDepth 100000 in
theorem jf_rulesShadows_19 : (Tryz.f13.resultTypes.all (fun t => Tryz.pinned.checked.prog.readableRec t && decide (t < Tryz.pinned.checked.prog.types.size))) = true := by kernel_rfl
set_option maxRecDepth 100000 in
theorem jf_rulesShadows_20 : ((Rows.rulesShadowsRow.ifacesOut == Tryz.f13.resultTypes.toList.any (Tryz.pinned.checked.prog.ifacesRec ·))) = true := by kernel_rfl
set_option maxRecDepth 100000 in
theorem jf_rulesShadows_21 : ((Rows.rulesShadowsRow.loopsOut == Tryz.f13.resultTypes.toList.any (Tryz.pinned.checked.prog.loopsFrom ·))) = true := by kernel_rfl
theorem jf_rulesShadows_22 : ((Rows.rulesShadowsRow.plainKeys == Tryz.pinned.checked.prog.plainKeys)) = true := by rw [← eq_of_beq fx_22]; kernel_rfl
set_option maxRecDepth 100000 in
theorem jf_rulesShadows_23 : (Rows.rulesShadowsRow.shortTexts.isNone) = true := by kernel_rfl
theorem jf_rulesShadows_26 : ((Rows.rulesShadowsRow.lifted == Tryz.pinned.checked.prog.liftsFinal)) = true := by rw [← eq_of_beq fx_26]; kernel_rfl
theorem jf_rulesShadows_27 : ((Tryz.pinned.checked.prog.make == some Rows.rulesShadowsRow.make)) = true := by rw [eq_of_beq fx_27]; kernel_rfl
set_option maxRecDepth 100000 in
theorem jf_rulesShadows_29 : ((Rows.rulesShadowsRow.pinned == Rows.rulesShadowsRow.pinnedBy)) = true := by kernel_rfl
set_option maxRecDepth 100000 in
theorem jf_rulesShadows_30 : ((Rows.rulesShadowsRow.veiled == (Tryz.f13.params.toList ++ Rows.rulesShadowsSpec.plain.varTypes Tryz.pinned.checked.prog ++ Tryz.f13.resultTypes.toList).any (Tryz.pinned.checked.prog.veiledRec ·))) = true := by kernel_rfl
set_option maxRecDepth 100000 in
theorem jf_rulesShadows_31 : (Rows.rulesShadowsRow.veiledFits Tryz.pinned.checked.prog Tryz.f13.params.toList (Tryz.f13.params.toList ++ Rows.rulesShadowsSpec.plain.varTypes Tryz.pinned.checked.prog ++ Tryz.f13.resultTypes.toList)) = true := by kernel_rfl
theorem jf_rulesShadows : joinedFacts Tryz.pinned.checked.prog 13 Tryz.f13 Rows.rulesShadowsSpec Rows.rulesShadowsRow = true := and_tt (and_tt (and_tt (and_tt (and_tt (and_tt (and_tt (and_tt (and_tt (and_tt (and_tt (and_tt (and_tt (and_tt (and_tt (and_tt (and_tt (and_tt (and_tt (and_tt (and_tt (and_tt (and_tt (and_tt (and_tt (and_tt (and_tt (and_tt (and_tt (and_tt (and_tt (jf_rulesShadows_0) (fx_1)) (fx_2)) (jf_rulesShadows_3)) (jf_rulesShadows_4)) (jf_rulesShadows_5)) (fx_6)) (jf_rulesShadows_7)) (fx_8)) (jf_rulesShadows_9)) (jf_rulesShadows_10)) (jf_rulesShadows_11)) (jf_rulesShadows_12)) (jf_rulesShadows_13)) (jf_rulesShadows_14)) (jf_rulesShadows_15)) (jf_rulesShadows_16)) (jf_rulesShadows_17)) (jf_rulesShadows_18)) (jf_rulesShadows_19)) (jf_rulesShadows_20)) (jf_rulesShadows_21)) (jf_rulesShadows_22)) (jf_rulesShadows_23)) (fx_24)) (fx_25)) (jf_rulesShadows_26)) (jf_rulesShadows_27)) (by kernel_rfl)) (jf_rulesShadows_29)) (jf_rulesShadows_30)) (jf_rulesShadows_31)
theorem jn_rulesShadows : Tryz.pinned.checked.prog.funcNamed Rows.rulesShadowsRow.func = some 13 := by kernel_rfl
theorem ji_rulesShadows : Tryz.f13.isInstance Tryz.pinned.checked.prog Rows.rulesShadowsRow.origin Rows.rulesShadowsRow.targs := of_decide_eq_true (by kernel_rfl)
theorem jw_rulesShadows : Tryz.f13.isWrapper Tryz.pinned.checked.prog Rows.rulesShadowsRow.wrapper Rows.rulesShadowsRow.mainSum := by unfold Func.isWrapper; first | (rw [if_pos (by decide +kernel)]; kernel_rfl) | (rw [if_neg (by decide +kernel)]; exact ⟨rfl, rfl⟩)
theorem rulesShadows_row_holds : Rows.RulesShadowsSaid :=
 OpenClaim.holds_of_wide 13 Tryz.f13 rfl rfl rfl rfl rfl rfl rfl ⟨rfl, rfl, rfl, rfl, rfl⟩ rfl rfl rfl rfl rfl jn_rulesShadows Tryz.func13 jf_rulesShadows ji_rulesShadows jw_rulesShadows
  (fun os started H enc _ => lifted_rulesShadows os started H enc)
theorem jb_rulesShadows : Rows.rulesShadowsRow.wfByText (OpenSpec.ofChange Rows.rulesShadowsSpec) = true := by kernel_rfl
theorem js_rulesShadows : ([23, 68].all fun u => !Tryz.prog.wantsStandIn u) = true := by kernel_rfl
theorem jg_rulesShadows : false = Rows.rulesShadowsRow.goesBy Tryz.pinned.checked.prog := by kernel_rfl
theorem rulesShadows_proved : Rows.RulesShadowsCardSaid :=
 Claim7.holds_tied_plain_at .later [] [.data, .data, .data, .sentinel, .sentinel] true (true, "9ef67a4cb07571d798ed60e513598468ebe5a66f3455e0900720288bced703b8") true rulesShadows_row_holds (fun _ h => by cases h) jb_rulesShadows (fun _ h => by cases h) rulesShadows_row_tie rfl ⟨rfl, rfl⟩ fx_main rfl
  (fun f fn hf hfn => by
   obtain rfl : f = 13 := (Option.some.inj (jn_rulesShadows.symm.trans hf)).symm
   obtain rfl : fn = Tryz.f13 := (Option.some.inj (Tryz.func13.symm.trans hfn)).symm
   exact ⟨fx_looks, fun j t ht => by
    rw [Tryz.params13] at ht
    have hm : t ∈ [23, 68] := by simpa using Array.mem_of_getElem? ht
    exact (show Tryz.prog.wantsStandIn t = false by simpa using List.all_eq_true.1 js_rulesShadows t hm)⟩)
  jg_rulesShadows
end Go.Proofs.YtaihlcdkcampbaaGreatDoor
