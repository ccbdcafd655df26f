/- RulesReads: for every input the law returns true, and each argument reads afterwards as it read before. No condition. -/
import Derived.Test.YtaihlcdkcampbaaGreatDoorA5
set_option linter.unusedVariables false
set_option linter.unusedSimpArgs false
set_option linter.unusedSectionVars false
set_option maxHeartbeats 4000000
set_option maxRecDepth 100000
namespace Go.Proofs.YtaihlcdkcampbaaGreatDoor
open Go.ChangeShapes Go.WideShapes Go.ChangeAt Go.RowKit
set_option maxRecDepth 100000 in
theorem lifted_rulesReads (os : Os) (started : os.Started) (H : Type) (enc : TypeId × Value → H) :
  ReturnsInHanded {} Tryz.checked os 4 .any (fun w args => (Rows.rulesReadsSpec.pre enc Tryz.prog Tryz.f4 Rows.rulesReadsRow.domain false w args ∧ laidMetH Tryz.prog Rows.rulesReadsRow.laid w) ∧ sizedMet enc Tryz.prog Tryz.f4 (OpenSpec.ofChange Rows.rulesReadsSpec) false w args) (Rows.rulesReadsSpec.post enc Tryz.prog Tryz.f4 false true false false) := by
 refine handed_laid (C := Tryz.checked) (X := fun w _ => laidMetH Tryz.prog laid7 w) (fun _ _ _ hh h => h.of_heap hh) own_knob started (by kernel_rfl) Tryz.func4
  (ChangeSpec.witness_shaped (enc := enc) (C := Tryz.checked) (os := os) (X := fun w _ => laidMetH Tryz.prog laid7 w) false (World.laidAll Tryz.prog os laid7) #[.string ByteArray.empty] 8 (World.laidAll_os _ _ _)
   (World.shaped_of_ZipB (by kernel_rfl) (by kernel_rfl)) (by kernel_rfl) (by kernel_rfl) (by kernel_rfl) (door_met7 os _)) ?_
 intro W base args ds gs before hval0 hW hsz hL hsh
 have hval : ∀ (j : Nat) t v, Tryz.f4.params[j]? = some t → args[j]? = some v → Value.okWide Tryz.prog W .any base t v := hval0
 have hW' := hW
 obtain ⟨p, q, hA0, hV, rfl, hfz, hnd⟩ := hW
 have hA : DataW.TrodAll enc Tryz.prog W 0 (fun _ => true) true Tryz.f4.params.toList args.toList ds p := hA0
 rw [Tryz.params4] at hA hval
 obtain ⟨v0, vs0, d0, ds0, p0, q0, hargs, rfl, rfl, h0, r0⟩ := trodAll_cons hA
 obtain ⟨rfl, rfl, rfl⟩ := trodAll_nil r0
 obtain rfl : args = #[v0] := by cases args; simp_all
 have z0 : SzW Tryz.prog 9 d0 := SzW.each hsz (j := 0) (by kernel_rfl) rfl
 obtain ⟨x0, R0, Q0⟩ := Opens.one (opens_str (t := 9) (by kernel_rfl) (by kernel_rfl) : Opens Tryz.prog 9 tStr rS) (by kernel_rfl) (hval 0 9 v0 rfl rfl) h0 z0
 have e0 : [v0] = [.string ⟨x0.toArray⟩] := R0
 cases e0
 obtain ⟨N, hN⟩ := reads_row x0 Q0
 refine (c_law06_RulesReads N W (memOf W) (fun _ _ h => h) (glob_of hL hsh) x0 true hN).mono fun e W' he => ?_
 obtain ⟨r, F', rfl, hs, rfl⟩ := he
 refine ⟨_, rfl, post_grown (by kernel_rfl) (tb := 4) ?_ rfl hW' (by kernel_rfl) (by kernel_rfl) ?_ hs⟩
 ·intro t ht
  rw [Tryz.params4] at ht
  simp only [List.mem_cons, List.not_mem_nil, or_false] at ht
  subst ht; exact ⟨by kernel_rfl, by decide +kernel⟩
 ·intro _; rfl
set_option maxRecDepth 100000 in
theorem jf_rulesReads_0 : (Rows.rulesReadsRow.wf (OpenSpec.ofChange Rows.rulesReadsSpec)) = true := by kernel_rfl
set_option maxRecDepth 100000 in
theorem jf_rulesReads_3 : (Tryz.f4.params.all (Tryz.pinned.checked.prog.readableRec ·)) = true := by kernel_rfl
set_option maxRecDepth 100000 in
theorem jf_rulesReads_4 : (namedTie Tryz.pinned.checked.prog Rows.rulesReadsRow.named Rows.rulesReadsSpec.vars) = true := by kernel_rfl
set_option maxRecDepth 100000 in
theorem jf_rulesReads_5 : ((Rows.rulesReadsRow.stops == [])) = true := by kernel_rfl
set_option maxRecDepth 100000 in
theorem jf_rulesReads_7 : ((Rows.rulesReadsRow.knobs == [])) = true := by kernel_rfl
set_option maxRecDepth 100000 in
theorem jf_rulesReads_9 : ((Rows.rulesReadsRow.inPlace == Tryz.pinned.checked.prog.inPlace 4)) = true := by kernel_rfl
set_option maxRecDepth 100000 in
theorem jf_rulesReads_10 : ((Rows.rulesReadsRow.unfollowed == Tryz.pinned.checked.prog.unfollowed 4)) = true := by kernel_rfl
set_option maxRecDepth 100000 in
theorem jf_rulesReads_11 : ((Rows.rulesReadsRow.recurses == Tryz.pinned.checked.prog.recurses 4)) = true := by kernel_rfl
set_option maxRecDepth 100000 in
theorem jf_rulesReads_12 : ((Rows.rulesReadsRow.named == Tryz.pinned.checked.prog.varsNamed 4)) = true := by kernel_rfl
set_option maxRecDepth 100000 in
theorem jf_rulesReads_13 : ((Rows.rulesReadsRow.maps == (Tryz.f4.params.toList ++ Rows.rulesReadsSpec.plain.varTypes Tryz.pinned.checked.prog).any (Tryz.pinned.checked.prog.mapsRec ·))) = true := by kernel_rfl
set_option maxRecDepth 100000 in
theorem jf_rulesReads_14 : ((Rows.rulesReadsRow.ifaces == (Tryz.f4.params.toList ++ Rows.rulesReadsSpec.plain.varTypes Tryz.pinned.checked.prog).any (Tryz.pinned.checked.prog.ifacesRec ·))) = true := by kernel_rfl
set_option maxRecDepth 100000 in
theorem jf_rulesReads_15 : ((Rows.rulesReadsRow.mapsOut == Tryz.pinned.checked.prog.mapsAmong Tryz.f4.resultTypes.toList)) = true := by kernel_rfl
set_option maxRecDepth 100000 in
theorem jf_rulesReads_16 : ((Rows.rulesReadsRow.loops == (Tryz.f4.params.toList ++ Rows.rulesReadsSpec.plain.varTypes Tryz.pinned.checked.prog).any (Tryz.pinned.checked.prog.loopsFrom ·))) = true := by kernel_rfl
set_option maxRecDepth 100000 in
theorem jf_rulesReads_17 : ((Rows.rulesReadsRow.wideKeys == (Tryz.f4.params.toList ++ Rows.rulesReadsSpec.plain.varTypes Tryz.pinned.checked.prog ++ Tryz.f4.resultTypes.toList).any (Tryz.pinned.checked.prog.wideKeysFrom ·))) = true := by kernel_rfl
set_option maxRecDepth 100000 in
theorem jf_rulesReads_18 : (Rows.rulesReadsSpec.vars.all (Tryz.pinned.checked.prog.varReadable ·)) = true := by kernel_rfl
set_option maxRecDepth 100000 in
theorem jf_rulesReads_19 : (Tryz.f4.resultTypes.all (fun t => Tryz.pinned.checked.prog.readableRec t && decide (t < Tryz.pinned.checked.prog.types.size))) = true := by kernel_rfl
set_option maxRecDepth 100000 in
theorem jf_rulesReads_20 : ((Rows.rulesReadsRow.ifacesOut == Tryz.f4.resultTypes.toList.any (Tryz.pinned.checked.prog.ifacesRec ·))) = true := by kernel_rfl
set_option maxRecDepth 100000 in
theorem jf_rulesReads_21 : ((Rows.rulesReadsRow.loopsOut == Tryz.f4.resultTypes.toList.any (Tryz.pinned.checked.prog.loopsFrom ·))) = true := by kernel_rfl
theorem jf_rulesReads_22 : ((Rows.rulesReadsRow.plainKeys == Tryz.pinned.checked.prog.plainKeys)) = true := by rw [← eq_of_beq fx_22]; kernel_rfl
set_option maxRecDepth 100000 in
theorem jf_rulesReads_23 : (Rows.rulesReadsRow.shortTexts.isNone) = true := by kernel_rfl
theorem jf_rulesReads_26 : ((Rows.rulesReadsRow.lifted == Tryz.pinned.checked.prog.liftsFinal)) = true := by rw [← eq_of_beq fx_26]; kernel_rfl
theorem jf_rulesReads_27 : ((Tryz.pinned.checked.prog.make == some Rows.rulesReadsRow.make)) = true := by rw [eq_of_beq fx_27]; kernel_rfl
set_option maxRecDepth 100000 in
theorem jf_rulesReads_29 : ((Rows.rulesReadsRow.pinned == Rows.rulesReadsRow.pinnedBy)) = true := by kernel_rfl
set_option maxRecDepth 100000 in
theorem jf_rulesReads_30 : ((Rows.rulesReadsRow.veiled == (Tryz.f4.params.toList ++ Rows.rulesReadsSpec.plain.varTypes Tryz.pinned.checked.prog ++ Tryz.f4.resultTypes.toList).any (Tryz.pinned.checked.prog.veiledRec ·))) = true := by kernel_rfl
set_option maxRecDepth 100000 in
theorem jf_rulesReads_31 : (Rows.rulesReadsRow.veiledFits Tryz.pinned.checked.prog Tryz.f4.params.toList (Tryz.f4.params.toList ++ Rows.rulesReadsSpec.plain.varTypes Tryz.pinned.checked.prog ++ Tryz.f4.resultTypes.toList)) = true := by kernel_rfl
theorem jf_rulesReads : joinedFacts Tryz.pinned.checked.prog 4 Tryz.f4 Rows.rulesReadsSpec Rows.rulesReadsRow = true := and_tt (and_tt (and_tt (and_tt (and_tt (and_tt (and_tt (and_tt (and_tt (and_tt (and_tt (and_tt (and_tt (and_tt (and_tt (and_tt (and_tt (and_tt (and_tt (and_tt (and_tt (and_tt (and_tt (and_tt (and_tt (and_tt (and_tt (and_tt (and_tt (and_tt (and_tt (jf_rulesReads_0) (fx_1)) (fx_2)) (jf_rulesReads_3)) (jf_rulesReads_4)) (jf_rulesReads_5)) (fx_6)) (jf_rulesReads_7)) (fx_8)) (jf_rulesReads_9)) (jf_rulesReads_10)) (jf_rulesReads_11)) (jf_rulesReads_12)) (jf_rulesReads_13)) (jf_rulesReads_14)) (jf_rulesReads_15)) (jf_rulesReads_16)) (jf_rulesReads_17)) (jf_rulesReads_18)) (jf_rulesReads_19)) (jf_rulesReads_20)) (jf_rulesReads_21)) (jf_rulesReads_22)) (jf_rulesReads_23)) (fx_24)) (fx_25)) (jf_rulesReads_26)) (jf_rulesReads_27)) (by kernel_rfl)) (jf_rulesReads_29)) (jf_rulesReads_30)) (jf_rulesReads_31)
theorem jn_rulesReads : Tryz.pinned.checked.prog.funcNamed Rows.rulesReadsRow.func = some 4 := by kernel_rfl
theorem ji_rulesReads : Tryz.f4.isInstance Tryz.pinned.checked.prog Rows.rulesReadsRow.origin Rows.rulesReadsRow.targs := of_decide_eq_true (by kernel_rfl)
theorem jw_rulesReads : Tryz.f4.isWrapper Tryz.pinned.checked.prog Rows.rulesReadsRow.wrapper Rows.rulesReadsRow.mainSum := by unfold Func.isWrapper; first | (rw [if_pos (by decide +kernel)]; kernel_rfl) | (rw [if_neg (by decide +kernel)]; exact ⟨rfl, rfl⟩)
theorem rulesReads_row_holds : Rows.RulesReadsSaid :=
 OpenClaim.holds_of_wide 4 Tryz.f4 rfl rfl rfl rfl rfl rfl rfl ⟨rfl, rfl, rfl, rfl, rfl⟩ rfl rfl rfl rfl rfl jn_rulesReads Tryz.func4 jf_rulesReads ji_rulesReads jw_rulesReads
  (fun os started H enc _ => lifted_rulesReads os started H enc)
theorem jb_rulesReads : Rows.rulesReadsRow.wfByText (OpenSpec.ofChange Rows.rulesReadsSpec) = true := by kernel_rfl
theorem js_rulesReads : ([9].all fun u => !Tryz.prog.wantsStandIn u) = true := by kernel_rfl
theorem jg_rulesReads : false = Rows.rulesReadsRow.goesBy Tryz.pinned.checked.prog := by kernel_rfl
theorem rulesReads_proved : Rows.RulesReadsCardSaid :=
 Claim7.holds_tied_plain_at .later [] [.data, .data, .data, .sentinel, .sentinel] true (true, "9ef67a4cb07571d798ed60e513598468ebe5a66f3455e0900720288bced703b8") true rulesReads_row_holds (fun _ h => by cases h) jb_rulesReads (fun _ h => by cases h) rulesReads_row_tie rfl ⟨rfl, rfl⟩ fx_main rfl
  (fun f fn hf hfn => by
   obtain rfl : f = 4 := (Option.some.inj (jn_rulesReads.symm.trans hf)).symm
   obtain rfl : fn = Tryz.f4 := (Option.some.inj (Tryz.func4.symm.trans hfn)).symm
   exact ⟨fx_looks, fun j t ht => by
    rw [Tryz.params4] at ht
    have hm : t ∈ [9] := by simpa using Array.mem_of_getElem? ht
    exact (show Tryz.prog.wantsStandIn t = false by simpa using List.all_eq_true.1 js_rulesReads t hm)⟩)
  jg_rulesReads
end Go.Proofs.YtaihlcdkcampbaaGreatDoor
