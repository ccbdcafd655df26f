/- RulesGaps: for every input the law returns true, and each argument reads afterwards as it read before. No condition. -/
import Derived.Test.YtaihlcdkcampbaaGreatDoorA5
set_option linter.unusedVariables false
set_option linter.unusedSimpArgs false
set_option linter.unusedSectionVars false
set_option maxHeartbeats 4000000
set_option maxRecDepth 100000
namespace Go.Proofs.YtaihlcdkcampbaaGreatDoor
open Go.ChangeShapes Go.WideShapes Go.ChangeAt Go.RowKit
set_option maxRecDepth 100000 in
theorem lifted_rulesGaps (os : Os) (started : os.Started) (H : Type) (enc : TypeId × Value → H) :
  ReturnsInHanded {} Tryz.checked os 17 .any (fun w args => (Rows.rulesGapsSpec.pre enc Tryz.prog Tryz.f17 Rows.rulesGapsRow.domain false w args ∧ laidMetH Tryz.prog Rows.rulesGapsRow.laid w) ∧ sizedMet enc Tryz.prog Tryz.f17 (OpenSpec.ofChange Rows.rulesGapsSpec) false w args) (Rows.rulesGapsSpec.post enc Tryz.prog Tryz.f17 false true false false) := by
 refine handed_laid (C := Tryz.checked) (X := fun w _ => laidMetH Tryz.prog laid7 w) (fun _ _ _ hh h => h.of_heap hh) own_knob started (by kernel_rfl) Tryz.func17
  (ChangeSpec.witness_shaped (enc := enc) (C := Tryz.checked) (os := os) (X := fun w _ => laidMetH Tryz.prog laid7 w) false (World.laidAll Tryz.prog os laid7) #[.slice none 0 0, .slice none 0 0, .agg #[.int .i64 0, .int .i64 0]] 8 (World.laidAll_os _ _ _)
   (World.shaped_of_ZipB (by kernel_rfl) (by kernel_rfl)) (by kernel_rfl) (by kernel_rfl) (by kernel_rfl) (door_met7 os _)) ?_
 intro W base args ds gs before hval0 hW hsz hL hsh
 have hval : ∀ (j : Nat) t v, Tryz.f17.params[j]? = some t → args[j]? = some v → Value.okWide Tryz.prog W .any base t v := hval0
 have hW' := hW
 obtain ⟨p, q, hA0, hV, rfl, hfz, hnd⟩ := hW
 have hA : DataW.TrodAll enc Tryz.prog W 0 (fun _ => true) true Tryz.f17.params.toList args.toList ds p := hA0
 rw [Tryz.params17] at hA hval
 obtain ⟨v0, vs0, d0, ds0, p0, q0, hargs, rfl, rfl, h0, r0⟩ := trodAll_cons hA
 obtain ⟨v1, vs1, d1, ds1, p1, q1, rfl, rfl, rfl, h1, r1⟩ := trodAll_cons r0
 obtain ⟨v2, vs2, d2, ds2, p2, q2, rfl, rfl, rfl, h2, r2⟩ := trodAll_cons r1
 obtain ⟨rfl, rfl, rfl⟩ := trodAll_nil r2
 obtain rfl : args = #[v0, v1, v2] := by cases args; simp_all
 have z0 : SzW Tryz.prog 23 d0 := SzW.each hsz (j := 0) (by kernel_rfl) rfl
 obtain ⟨x0, R0, Q0⟩ := Opens.one (opens_slice (t := 23) opens_Clause_56 (by decide) (by kernel_rfl) (by kernel_rfl) : Opens Tryz.prog 23 (tSl tClause) _) (by kernel_rfl) (hval 0 23 v0 rfl rfl) h0 z0
 obtain ⟨a0_0, n0_0, e0, hb0_0, hs0_0⟩ := R0
 obtain rfl : v0 = .slice a0_0 x0.length n0_0 := by cases e0; rfl
 have z1 : SzW Tryz.prog 68 d1 := SzW.each hsz (j := 1) (by kernel_rfl) rfl
 obtain ⟨x1, R1, Q1⟩ := Opens.one (opens_slice (t := 68) opens_Span_72 (by decide) (by kernel_rfl) (by kernel_rfl) : Opens Tryz.prog 68 (tSl tSpan) _) (by kernel_rfl) (hval 1 68 v1 rfl rfl) h1 z1
 obtain ⟨a1_0, n1_0, e1, hb1_0, hs1_0⟩ := R1
 obtain rfl : v1 = .slice a1_0 x1.length n1_0 := by cases e1; rfl
 have z2 : SzW Tryz.prog 83 d2 := SzW.each hsz (j := 2) (by kernel_rfl) rfl
 obtain ⟨cs2, x2, rfl, R2, Q2⟩ := Opens.agg opens_pileuplaw06_Which_83 (by kernel_rfl) (hval 2 83 v2 rfl rfl) h2 z2
 have e2 := R2
 obtain rfl : cs2 = #[.int .i64 x2.I, .int .i64 x2.K] := Array.ext' (by exact e2)
 obtain ⟨N, hN⟩ := gaps_row x0 x1 x2 Q0 Q1 Q2
 refine (c_law06_RulesGaps N W (memOf W) (fun _ _ h => h) (glob_of hL hsh) x0 a0_0 n0_0 hb0_0 hs0_0 x1 a1_0 n1_0 hb1_0 hs1_0 x2 true hN).mono fun e W' he => ?_
 obtain ⟨r, F', rfl, hs, rfl⟩ := he
 refine ⟨_, rfl, post_grown (by kernel_rfl) (tb := 4) ?_ rfl hW' (by kernel_rfl) (by kernel_rfl) ?_ hs⟩
 ·intro t ht
  rw [Tryz.params17] at ht
  simp only [List.mem_cons, List.not_mem_nil, or_false] at ht
  rcases ht with rfl | rfl | rfl <;> exact ⟨by kernel_rfl, by decide +kernel⟩
 ·intro _; rfl
set_option maxRecDepth 100000 in
theorem jf_rulesGaps_0 : (Rows.rulesGapsRow.wf (OpenSpec.ofChange Rows.rulesGapsSpec)) = true := by kernel_rfl
set_option maxRecDepth 100000 in
theorem jf_rulesGaps_3 : (Tryz.f17.params.all (Tryz.pinned.checked.prog.readableRec ·)) = true := by kernel_rfl
set_option maxRecDepth 100000 in
theorem jf_rulesGaps_4 : (namedTie Tryz.pinned.checked.prog Rows.rulesGapsRow.named Rows.rulesGapsSpec.vars) = true := by kernel_rfl
set_option maxRecDepth 100000 in
theorem jf_rulesGaps_5 : ((Rows.rulesGapsRow.stops == [])) = true := by kernel_rfl
set_option maxRecDepth 100000 in
theorem jf_rulesGaps_7 : ((Rows.rulesGapsRow.knobs == [])) = true := by kernel_rfl
set_option maxRecDepth 100000 in
theorem jf_rulesGaps_9 : ((Rows.rulesGapsRow.inPlace == Tryz.pinned.checked.prog.inPlace 17)) = true := by kernel_rfl
set_option maxRecDepth 100000 in
theorem jf_rulesGaps_10 : ((Rows.rulesGapsRow.unfollowed == Tryz.pinned.checked.prog.unfollowed 17)) = true := by kernel_rfl
set_option maxRecDepth 100000 in
theorem jf_rulesGaps_11 : ((Rows.rulesGapsRow.recurses == Tryz.pinned.checked.prog.recurses 17)) = true := by kernel_rfl
set_option maxRecDepth 100000 in
theorem jf_rulesGaps_12 : ((Rows.rulesGapsRow.named == Tryz.pinned.checked.prog.varsNamed 17)) = true := by kernel_rfl
set_option maxRecDepth 100000 in
theorem jf_rulesGaps_13 : ((Rows.rulesGapsRow.maps == (Tryz.f17.params.toList ++ Rows.rulesGapsSpec.plain.varTypes Tryz.pinned.checked.prog).any (Tryz.pinned.checked.prog.mapsRec ·))) = true := by kernel_rfl
set_option maxRecDepth 100000 in
theorem jf_rulesGaps_14 : ((Rows.rulesGapsRow.ifaces == (Tryz.f17.params.toList ++ Rows.rulesGapsSpec.plain.varTypes Tryz.pinned.checked.prog).any (Tryz.pinned.checked.prog.ifacesRec ·))) = true := by kernel_rfl
set_option maxRecDepth 100000 in
theorem jf_rulesGaps_15 : ((Rows.rulesGapsRow.mapsOut == Tryz.pinned.checked.prog.mapsAmong Tryz.f17.resultTypes.toList)) = true := by kernel_rfl
set_option maxRecDepth 100000 in
theorem jf_rulesGaps_16 : ((Rows.rulesGapsRow.loops == (Tryz.f17.params.toList ++ Rows.rulesGapsSpec.plain.varTypes Tryz.pinned.checked.prog).any (Tryz.pinned.checked.prog.loopsFrom ·))) = true := by kernel_rfl
set_option maxRecDepth 100000 in
theorem jf_rulesGaps_17 : ((Rows.rulesGapsRow.wideKeys == (Tryz.f17.params.toList ++ Rows.rulesGapsSpec.plain.varTypes Tryz.pinned.checked.prog ++ Tryz.f17.resultTypes.toList).any (Tryz.pinned.checked.prog.wideKeysFrom ·))) = true := by kernel_rfl
set_option maxRecDepth 100000 in
theorem jf_rulesGaps_18 : (Rows.rulesGapsSpec.vars.all (Tryz.pinned.checked.prog.varReadable ·)) = true := by kernel_rfl
set_option maxRecDepth 100000 in
theorem jf_rulesGaps_19 : (Tryz.f17.resultTypes.all (fun t => Tryz.pinned.checked.prog.readableRec t && decide (t < Tryz.pinned.checked.prog.types.size))) = true := by kernel_rfl
set_option maxRecDepth 100000 in
theorem jf_rulesGaps_20 : ((Rows.rulesGapsRow.ifacesOut == Tryz.f17.resultTypes.toList.any (Tryz.pinned.checked.prog.ifacesRec ·))) = true := by kernel_rfl
set_option maxRecDepth 100000 in
theorem jf_rulesGaps_21 : ((Rows.rulesGapsRow.loopsOut == Tryz.f17.resultTypes.toList.any (Tryz.pinned.checked.prog.loopsFrom ·))) = true := by kernel_rfl
theorem jf_rulesGaps_22 : ((Rows.rulesGapsRow.plainKeys == Tryz.pinned.checked.prog.plainKeys)) = true := by rw [← eq_of_beq fx_22]; kernel_rfl
set_option maxRecDepth 100000 in
theorem jf_rulesGaps_23 : (Rows.rulesGapsRow.shortTexts.isNone) = true := by kernel_rfl
theorem jf_rulesGaps_26 : ((Rows.rulesGapsRow.lifted == Tryz.pinned.checked.prog.liftsFinal)) = true := by rw [← eq_of_beq fx_26]; kernel_rfl
theorem jf_rulesGaps_27 : ((Tryz.pinned.checked.prog.make == some Rows.rulesGapsRow.make)) = true := by rw [eq_of_beq fx_27]; kernel_rfl
set_option maxRecDepth 100000 in
theorem jf_rulesGaps_29 : ((Rows.rulesGapsRow.pinned == Rows.rulesGapsRow.pinnedBy)) = true := by kernel_rfl
set_option maxRecDepth 100000 in
theorem jf_rulesGaps_30 : ((Rows.rulesGapsRow.veiled == (Tryz.f17.params.toList ++ Rows.rulesGapsSpec.plain.varTypes Tryz.pinned.checked.prog ++ Tryz.f17.resultTypes.toList).any (Tryz.pinned.checked.prog.veiledRec ·))) = true := by kernel_rfl
set_option maxRecDepth 100000 in
theorem jf_rulesGaps_31 : (Rows.rulesGapsRow.veiledFits Tryz.pinned.checked.prog Tryz.f17.params.toList (Tryz.f17.params.toList ++ Rows.rulesGapsSpec.plain.varTypes Tryz.pinned.checked.prog ++ Tryz.f17.resultTypes.toList)) = true := by kernel_rfl
theorem jf_rulesGaps : joinedFacts Tryz.pinned.checked.prog 17 Tryz.f17 Rows.rulesGapsSpec Rows.rulesGapsRow = true := and_tt (and_tt (and_tt (and_tt (and_tt (and_tt (and_tt (and_tt (and_tt (and_tt (and_tt (and_tt (and_tt (and_tt (and_tt (and_tt (and_tt (and_tt (and_tt (and_tt (and_tt (and_tt (and_tt (and_tt (and_tt (and_tt (and_tt (and_tt (and_tt (and_tt (and_tt (jf_rulesGaps_0) (fx_1)) (fx_2)) (jf_rulesGaps_3)) (jf_rulesGaps_4)) (jf_rulesGaps_5)) (fx_6)) (jf_rulesGaps_7)) (fx_8)) (jf_rulesGaps_9)) (jf_rulesGaps_10)) (jf_rulesGaps_11)) (jf_rulesGaps_12)) (jf_rulesGaps_13)) (jf_rulesGaps_14)) (jf_rulesGaps_15)) (jf_rulesGaps_16)) (jf_rulesGaps_17)) (jf_rulesGaps_18)) (jf_rulesGaps_19)) (jf_rulesGaps_20)) (jf_rulesGaps_21)) (jf_rulesGaps_22)) (jf_rulesGaps_23)) (fx_24)) (fx_25)) (jf_rulesGaps_26)) (jf_rulesGaps_27)) (by kernel_rfl)) (jf_rulesGaps_29)) (jf_rulesGaps_30)) (jf_rulesGaps_31)
theorem jn_rulesGaps : Tryz.pinned.checked.prog.funcNamed Rows.rulesGapsRow.func = some 17 := by kernel_rfl
theorem ji_rulesGaps : Tryz.f17.isInstance Tryz.pinned.checked.prog Rows.rulesGapsRow.origin Rows.rulesGapsRow.targs := of_decide_eq_true (by kernel_rfl)
theorem jw_rulesGaps : Tryz.f17.isWrapper Tryz.pinned.checked.prog Rows.rulesGapsRow.wrapper Rows.rulesGapsRow.mainSum := by unfold Func.isWrapper; first | (rw [if_pos (by decide +kernel)]; kernel_rfl) | (rw [if_neg (by decide +kernel)]; exact ⟨rfl, rfl⟩)
theorem rulesGaps_row_holds : Rows.RulesGapsSaid :=
 OpenClaim.holds_of_wide 17 Tryz.f17 rfl rfl rfl rfl rfl rfl rfl ⟨rfl, rfl, rfl, rfl, rfl⟩ rfl rfl rfl rfl rfl jn_rulesGaps Tryz.func17 jf_rulesGaps ji_rulesGaps jw_rulesGaps
  (fun os started H enc _ => lifted_rulesGaps os started H enc)
theorem jb_rulesGaps : Rows.rulesGapsRow.wfByText (OpenSpec.ofChange Rows.rulesGapsSpec) = true := by kernel_rfl
theorem js_rulesGaps : ([23, 68, 83].all fun u => !Tryz.prog.wantsStandIn u) = true := by kernel_rfl
theorem jg_rulesGaps : false = Rows.rulesGapsRow.goesBy Tryz.pinned.checked.prog := by kernel_rfl
theorem rulesGaps_proved : Rows.RulesGapsCardSaid :=
 Claim7.holds_tied_plain_at .later [] [.data, .data, .data, .sentinel, .sentinel] true (true, "9ef67a4cb07571d798ed60e513598468ebe5a66f3455e0900720288bced703b8") true rulesGaps_row_holds (fun _ h => by cases h) jb_rulesGaps (fun _ h => by cases h) rulesGaps_row_tie rfl ⟨rfl, rfl⟩ fx_main rfl
  (fun f fn hf hfn => by
   obtain rfl : f = 17 := (Option.some.inj (jn_rulesGaps.symm.trans hf)).symm
   obtain rfl : fn = Tryz.f17 := (Option.some.inj (Tryz.func17.symm.trans hfn)).symm
   exact ⟨fx_looks, fun j t ht => by
    rw [Tryz.params17] at ht
    have hm : t ∈ [23, 68, 83] := by simpa using Array.mem_of_getElem? ht
    exact (show Tryz.prog.wantsStandIn t = false by simpa using List.all_eq_true.1 js_rulesGaps t hm)⟩)
  jg_rulesGaps
end Go.Proofs.YtaihlcdkcampbaaGreatDoor
