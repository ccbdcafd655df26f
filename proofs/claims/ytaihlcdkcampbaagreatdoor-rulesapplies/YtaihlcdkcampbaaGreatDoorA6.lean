/- RulesApplies: for every input the law returns true, and each argument reads afterwards as it read before. No condition. -/
import Derived.Test.YtaihlcdkcampbaaGreatDoorA5
set_option linter.unusedVariables false
set_option linter.unusedSimpArgs false
set_option linter.unusedSectionVars false
set_option maxHeartbeats 4000000
set_option maxRecDepth 100000
namespace Go.Proofs.YtaihlcdkcampbaaGreatDoor
open Go.ChangeShapes Go.WideShapes Go.ChangeAt Go.RowKit
set_option maxRecDepth 100000 in
theorem lifted_rulesApplies (os : Os) (started : os.Started) (H : Type) (enc : TypeId × Value → H) :
  ReturnsInHanded {} Tryz.checked os 9 .any (fun w args => (Rows.rulesAppliesSpec.pre enc Tryz.prog Tryz.f9 Rows.rulesAppliesRow.domain false w args ∧ laidMetH Tryz.prog Rows.rulesAppliesRow.laid w) ∧ sizedMet enc Tryz.prog Tryz.f9 (OpenSpec.ofChange Rows.rulesAppliesSpec) false w args) (Rows.rulesAppliesSpec.post enc Tryz.prog Tryz.f9 false true false false) := by
 refine handed_laid (C := Tryz.checked) (X := fun w _ => laidMetH Tryz.prog laid7 w) (fun _ _ _ hh h => h.of_heap hh) own_knob started (by kernel_rfl) Tryz.func9
  (ChangeSpec.witness_shaped (enc := enc) (C := Tryz.checked) (os := os) (X := fun w _ => laidMetH Tryz.prog laid7 w) false (World.laidAll Tryz.prog os laid7) #[.agg #[.slice none 0 0, .slice none 0 0, .slice none 0 0, .slice none 0 0], .slice none 0 0] 8 (World.laidAll_os _ _ _)
   (World.shaped_of_ZipB (by kernel_rfl) (by kernel_rfl)) (by kernel_rfl) (by kernel_rfl) (by kernel_rfl) (door_met7 os _)) ?_
 intro W base args ds gs before hval0 hW hsz hL hsh
 have hval : ∀ (j : Nat) t v, Tryz.f9.params[j]? = some t → args[j]? = some v → Value.okWide Tryz.prog W .any base t v := hval0
 have hW' := hW
 obtain ⟨p, q, hA0, hV, rfl, hfz, hnd⟩ := hW
 have hA : DataW.TrodAll enc Tryz.prog W 0 (fun _ => true) true Tryz.f9.params.toList args.toList ds p := hA0
 rw [Tryz.params9] at hA hval
 obtain ⟨v0, vs0, d0, ds0, p0, q0, hargs, rfl, rfl, h0, r0⟩ := trodAll_cons hA
 obtain ⟨v1, vs1, d1, ds1, p1, q1, rfl, rfl, rfl, h1, r1⟩ := trodAll_cons r0
 obtain ⟨rfl, rfl, rfl⟩ := trodAll_nil r1
 obtain rfl : args = #[v0, v1] := by cases args; simp_all
 have z0 : SzW Tryz.prog 26 d0 := SzW.each hsz (j := 0) (by kernel_rfl) rfl
 obtain ⟨cs0, x0, rfl, R0, Q0⟩ := Opens.agg opens_Book_26 (by kernel_rfl) (hval 0 26 v0 rfl rfl) h0 z0
 obtain ⟨a0_0, n0_0, a0_1, n0_1, a0_2, n0_2, a0_3, n0_3, e0, hb0_0, hs0_0, hb0_1, hs0_1, hb0_2, hs0_2, hb0_3, hs0_3⟩ := R0
 obtain rfl : cs0 = #[.slice a0_0 x0.Points.length n0_0, .slice a0_1 x0.Multipliers.length n0_1, .slice a0_2 x0.Penalties.length n0_2, .slice a0_3 x0.Repeats.length n0_3] := Array.ext' (by exact e0)
 have z1 : SzW Tryz.prog 47 d1 := SzW.each hsz (j := 1) (by kernel_rfl) rfl
 obtain ⟨x1, R1, Q1⟩ := Opens.one (opens_slice (t := 47) (opens_int (t := 3) (by kernel_rfl) (by kernel_rfl) : Opens Tryz.prog 3 tInt rI) (by decide) (by kernel_rfl) (by kernel_rfl) : Opens Tryz.prog 47 (tSl tInt) _) (by kernel_rfl) (hval 1 47 v1 rfl rfl) h1 z1
 obtain ⟨a1_0, n1_0, e1, hb1_0, hs1_0⟩ := R1
 obtain rfl : v1 = .slice a1_0 x1.length n1_0 := by cases e1; rfl
 obtain ⟨N, hN⟩ := applies_row x0 x1 Q0 Q1
 refine (c_law06_RulesApplies N W (memOf W) (fun _ _ h => h) (glob_of hL hsh) x0 a0_0 n0_0 hb0_0 hs0_0 a0_1 n0_1 hb0_1 hs0_1 a0_2 n0_2 hb0_2 hs0_2 a0_3 n0_3 hb0_3 hs0_3 x1 a1_0 n1_0 hb1_0 hs1_0 true hN).mono fun e W' he => ?_
 obtain ⟨r, F', rfl, hs, rfl⟩ := he
 refine ⟨_, rfl, post_grown (by kernel_rfl) (tb := 4) ?_ rfl hW' (by kernel_rfl) (by kernel_rfl) ?_ hs⟩
 ·intro t ht
  rw [Tryz.params9] at ht
  simp only [List.mem_cons, List.not_mem_nil, or_false] at ht
  rcases ht with rfl | rfl <;> exact ⟨by kernel_rfl, by decide +kernel⟩
 ·intro _; rfl
set_option maxRecDepth 100000 in
theorem jf_rulesApplies_0 : (Rows.rulesAppliesRow.wf (OpenSpec.ofChange Rows.rulesAppliesSpec)) = true := by kernel_rfl
set_option maxRecDepth 100000 in
theorem jf_rulesApplies_3 : (Tryz.f9.params.all (Tryz.pinned.checked.prog.readableRec ·)) = true := by kernel_rfl
set_option maxRecDepth 100000 in
theorem jf_rulesApplies_4 : (namedTie Tryz.pinned.checked.prog Rows.rulesAppliesRow.named Rows.rulesAppliesSpec.vars) = true := by kernel_rfl
set_option maxRecDepth 100000 in
theorem jf_rulesApplies_5 : ((Rows.rulesAppliesRow.stops == [])) = true := by kernel_rfl
set_option maxRecDepth 100000 in
theorem jf_rulesApplies_7 : ((Rows.rulesAppliesRow.knobs == [])) = true := by kernel_rfl
set_option maxRecDepth 100000 in
theorem jf_rulesApplies_9 : ((Rows.rulesAppliesRow.inPlace == Tryz.pinned.checked.prog.inPlace 9)) = true := by kernel_rfl
set_option maxRecDepth 100000 in
theorem jf_rulesApplies_10 : ((Rows.rulesAppliesRow.unfollowed == Tryz.pinned.checked.prog.unfollowed 9)) = true := by kernel_rfl
set_option maxRecDepth 100000 in
theorem jf_rulesApplies_11 : ((Rows.rulesAppliesRow.recurses == Tryz.pinned.checked.prog.recurses 9)) = true := by kernel_rfl
set_option maxRecDepth 100000 in
theorem jf_rulesApplies_12 : ((Rows.rulesAppliesRow.named == Tryz.pinned.checked.prog.varsNamed 9)) = true := by kernel_rfl
set_option maxRecDepth 100000 in
theorem jf_rulesApplies_13 : ((Rows.rulesAppliesRow.maps == (Tryz.f9.params.toList ++ Rows.rulesAppliesSpec.plain.varTypes Tryz.pinned.checked.prog).any (Tryz.pinned.checked.prog.mapsRec ·))) = true := by kernel_rfl
set_option maxRecDepth 100000 in
theorem jf_rulesApplies_14 : ((Rows.rulesAppliesRow.ifaces == (Tryz.f9.params.toList ++ Rows.rulesAppliesSpec.plain.varTypes Tryz.pinned.checked.prog).any (Tryz.pinned.checked.prog.ifacesRec ·))) = true := by kernel_rfl
set_option maxRecDepth 100000 in
theorem jf_rulesApplies_15 : ((Rows.rulesAppliesRow.mapsOut == Tryz.pinned.checked.prog.mapsAmong Tryz.f9.resultTypes.toList)) = true := by kernel_rfl
set_option maxRecDepth 100000 in
theorem jf_rulesApplies_16 : ((Rows.rulesAppliesRow.loops == (Tryz.f9.params.toList ++ Rows.rulesAppliesSpec.plain.varTypes Tryz.pinned.checked.prog).any (Tryz.pinned.checked.prog.loopsFrom ·))) = true := by kernel_rfl
set_option maxRecDepth 100000 in
theorem jf_rulesApplies_17 : ((Rows.rulesAppliesRow.wideKeys == (Tryz.f9.params.toList ++ Rows.rulesAppliesSpec.plain.varTypes Tryz.pinned.checked.prog ++ Tryz.f9.resultTypes.toList).any (Tryz.pinned.checked.prog.wideKeysFrom ·))) = true := by kernel_rfl
set_option maxRecDepth 100000 in
theorem jf_rulesApplies_18 : (Rows.rulesAppliesSpec.vars.all (Tryz.pinned.checked.prog.varReadable ·)) = true := by kernel_rfl
set_option maxRecDepth 100000 in
theorem jf_rulesApplies_19 : (Tryz.f9.resultTypes.all (fun t => Tryz.pinned.checked.prog.readableRec t && decide (t < Tryz.pinned.checked.prog.types.size))) = true := by kernel_rfl
set_option maxRecDepth 100000 in
theorem jf_rulesApplies_20 : ((Rows.rulesAppliesRow.ifacesOut == Tryz.f9.resultTypes.toList.any (Tryz.pinned.checked.prog.ifacesRec ·))) = true := by kernel_rfl
set_option maxRecDepth 100000 in
theorem jf_rulesApplies_21 : ((Rows.rulesAppliesRow.loopsOut == Tryz.f9.resultTypes.toList.any (Tryz.pinned.checked.prog.loopsFrom ·))) = true := by kernel_rfl
theorem jf_rulesApplies_22 : ((Rows.rulesAppliesRow.plainKeys == Tryz.pinned.checked.prog.plainKeys)) = true := by rw [← eq_of_beq fx_22]; kernel_rfl
set_option maxRecDepth 100000 in
theorem jf_rulesApplies_23 : (Rows.rulesAppliesRow.shortTexts.isNone) = true := by kernel_rfl
theorem jf_rulesApplies_26 : ((Rows.rulesAppliesRow.lifted == Tryz.pinned.checked.prog.liftsFinal)) = true := by rw [← eq_of_beq fx_26]; kernel_rfl
theorem jf_rulesApplies_27 : ((Tryz.pinned.checked.prog.make == some Rows.rulesAppliesRow.make)) = true := by rw [eq_of_beq fx_27]; kernel_rfl
set_option maxRecDepth 100000 in
theorem jf_rulesApplies_29 : ((Rows.rulesAppliesRow.pinned == Rows.rulesAppliesRow.pinnedBy)) = true := by kernel_rfl
set_option maxRecDepth 100000 in
theorem jf_rulesApplies_30 : ((Rows.rulesAppliesRow.veiled == (Tryz.f9.params.toList ++ Rows.rulesAppliesSpec.plain.varTypes Tryz.pinned.checked.prog ++ Tryz.f9.resultTypes.toList).any (Tryz.pinned.checked.prog.veiledRec ·))) = true := by kernel_rfl
set_option maxRecDepth 100000 in
theorem jf_rulesApplies_31 : (Rows.rulesAppliesRow.veiledFits Tryz.pinned.checked.prog Tryz.f9.params.toList (Tryz.f9.params.toList ++ Rows.rulesAppliesSpec.plain.varTypes Tryz.pinned.checked.prog ++ Tryz.f9.resultTypes.toList)) = true := by kernel_rfl
theorem jf_rulesApplies : joinedFacts Tryz.pinned.checked.prog 9 Tryz.f9 Rows.rulesAppliesSpec Rows.rulesAppliesRow = true := and_tt (and_tt (and_tt (and_tt (and_tt (and_tt (and_tt (and_tt (and_tt (and_tt (and_tt (and_tt (and_tt (and_tt (and_tt (and_tt (and_tt (and_tt (and_tt (and_tt (and_tt (and_tt (and_tt (and_tt (and_tt (and_tt (and_tt (and_tt (and_tt (and_tt (and_tt (jf_rulesApplies_0) (fx_1)) (fx_2)) (jf_rulesApplies_3)) (jf_rulesApplies_4)) (jf_rulesApplies_5)) (fx_6)) (jf_rulesApplies_7)) (fx_8)) (jf_rulesApplies_9)) (jf_rulesApplies_10)) (jf_rulesApplies_11)) (jf_rulesApplies_12)) (jf_rulesApplies_13)) (jf_rulesApplies_14)) (jf_rulesApplies_15)) (jf_rulesApplies_16)) (jf_rulesApplies_17)) (jf_rulesApplies_18)) (jf_rulesApplies_19)) (jf_rulesApplies_20)) (jf_rulesApplies_21)) (jf_rulesApplies_22)) (jf_rulesApplies_23)) (fx_24)) (fx_25)) (jf_rulesApplies_26)) (jf_rulesApplies_27)) (by kernel_rfl)) (jf_rulesApplies_29)) (jf_rulesApplies_30)) (jf_rulesApplies_31)
theorem jn_rulesApplies : Tryz.pinned.checked.prog.funcNamed Rows.rulesAppliesRow.func = some 9 := by kernel_rfl
theorem ji_rulesApplies : Tryz.f9.isInstance Tryz.pinned.checked.prog Rows.rulesAppliesRow.origin Rows.rulesAppliesRow.targs := of_decide_eq_true (by kernel_rfl)
theorem jw_rulesApplies : Tryz.f9.isWrapper Tryz.pinned.checked.prog Rows.rulesAppliesRow.wrapper Rows.rulesAppliesRow.mainSum := by unfold Func.isWrapper; first | (rw [if_pos (by decide +kernel)]; kernel_rfl) | (rw [if_neg (by decide +kernel)]; exact ⟨rfl, rfl⟩)
theorem rulesApplies_row_holds : Rows.RulesAppliesSaid :=
 OpenClaim.holds_of_wide 9 Tryz.f9 rfl rfl rfl rfl rfl rfl rfl ⟨rfl, rfl, rfl, rfl, rfl⟩ rfl rfl rfl rfl rfl jn_rulesApplies Tryz.func9 jf_rulesApplies ji_rulesApplies jw_rulesApplies
  (fun os started H enc _ => lifted_rulesApplies os started H enc)
theorem jb_rulesApplies : Rows.rulesAppliesRow.wfByText (OpenSpec.ofChange Rows.rulesAppliesSpec) = true := by kernel_rfl
theorem js_rulesApplies : ([26, 47].all fun u => !Tryz.prog.wantsStandIn u) = true := by kernel_rfl
theorem jg_rulesApplies : false = Rows.rulesAppliesRow.goesBy Tryz.pinned.checked.prog := by kernel_rfl
theorem rulesApplies_proved : Rows.RulesAppliesCardSaid :=
 Claim7.holds_tied_plain_at .later [] [.data, .data, .data, .sentinel, .sentinel] true (true, "9ef67a4cb07571d798ed60e513598468ebe5a66f3455e0900720288bced703b8") true rulesApplies_row_holds (fun _ h => by cases h) jb_rulesApplies (fun _ h => by cases h) rulesApplies_row_tie rfl ⟨rfl, rfl⟩ fx_main rfl
  (fun f fn hf hfn => by
   obtain rfl : f = 9 := (Option.some.inj (jn_rulesApplies.symm.trans hf)).symm
   obtain rfl : fn = Tryz.f9 := (Option.some.inj (Tryz.func9.symm.trans hfn)).symm
   exact ⟨fx_looks, fun j t ht => by
    rw [Tryz.params9] at ht
    have hm : t ∈ [26, 47] := by simpa using Array.mem_of_getElem? ht
    exact (show Tryz.prog.wantsStandIn t = false by simpa using List.all_eq_true.1 js_rulesApplies t hm)⟩)
  jg_rulesApplies
end Go.Proofs.YtaihlcdkcampbaaGreatDoor
