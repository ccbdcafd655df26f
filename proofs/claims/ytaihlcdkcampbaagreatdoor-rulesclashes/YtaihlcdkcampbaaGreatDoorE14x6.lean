/- RulesClashes: for every input the law returns true, and each argument reads afterwards as it read before. No condition. -/
import Derived.Test.YtaihlcdkcampbaaGreatDoorE14x5
set_option linter.unusedVariables false
set_option linter.unusedSimpArgs false
set_option linter.unusedSectionVars false
set_option maxHeartbeats 4000000
set_option maxRecDepth 100000
namespace Go.Proofs.YtaihlcdkcampbaaGreatDoor
open Go.ChangeShapes Go.WideShapes Go.ChangeAt Go.RowKit
set_option maxRecDepth 100000 in
theorem lifted_rulesClashes (os : Os) (started : os.Started) (H : Type) (enc : TypeId × Value → H) :
  ReturnsInHanded {} Tryz.checked os 14 .any (fun w args => (Rows.rulesClashesSpec.pre enc Tryz.prog Tryz.f14 Rows.rulesClashesRow.domain false w args ∧ laidMetH Tryz.prog Rows.rulesClashesRow.laid w) ∧ sizedMet enc Tryz.prog Tryz.f14 (OpenSpec.ofChange Rows.rulesClashesSpec) false w args) (Rows.rulesClashesSpec.post enc Tryz.prog Tryz.f14 false true false false) := by
 refine handed_laid (C := Tryz.checked) (X := fun w _ => laidMetH Tryz.prog laid7 w) (fun _ _ _ hh h => h.of_heap hh) own_knob started (by kernel_rfl) Tryz.func14
  (ChangeSpec.witness_shaped (enc := enc) (C := Tryz.checked) (os := os) (X := fun w _ => laidMetH Tryz.prog laid7 w) false (World.laidAll Tryz.prog os laid7) #[.slice none 0 0, .slice none 0 0, .agg #[.int .i64 0, .int .i64 0]] 8 (World.laidAll_os _ _ _)
   (World.shaped_of_ZipB (by kernel_rfl) (by kernel_rfl)) (by kernel_rfl) (by kernel_rfl) (by kernel_rfl) (door_met7 os _)) ?_
 intro W base args ds gs before hval0 hW hsz hL hsh
 have hval : ∀ (j : Nat) t v, Tryz.f14.params[j]? = some t → args[j]? = some v → Value.okWide Tryz.prog W .any base t v := hval0
 have hW' := hW
 obtain ⟨p, q, hA0, hV, rfl, hfz, hnd⟩ := hW
 have hA : DataW.TrodAll enc Tryz.prog W 0 (fun _ => true) true Tryz.f14.params.toList args.toList ds p := hA0
 rw [Tryz.params14] at hA hval
 obtain ⟨v0, vs0, d0, ds0, p0, q0, hargs, rfl, rfl, h0, r0⟩ := trodAll_cons hA
 obtain ⟨v1, vs1, d1, ds1, p1, q1, rfl, rfl, rfl, h1, r1⟩ := trodAll_cons r0
 obtain ⟨v2, vs2, d2, ds2, p2, q2, rfl, rfl, rfl, h2, r2⟩ := trodAll_cons r1
 obtain ⟨rfl, rfl, rfl⟩ := trodAll_nil r2
 obtain rfl : args = #[v0, v1, v2] := by cases args; simp_all
 have z0 : SzW Tryz.prog 23 d0 := SzW.each hsz (j := 0) (by kernel_rfl) rfl
 obtain ⟨x0, R0, Q0⟩ := Opens.one (opens_slice (t := 23) opens_Clause_56 (by decide) (by kernel_rfl) (by kernel_rfl) : Opens Tryz.prog 23 (tSl tClause) _) (by kernel_rfl) (hval 0 23 v0 rfl rfl) h0 z0
 obtain ⟨a0_0, n0_0, e0, hb0_0, hs0_0⟩ := R0
 obtain rfl : v0 = .slice a0_0 x0.length n0_0 := by cases e0; rfl
 have z1 : SzW Tryz.prog 68 d1 := SzW.each hsz (j := 1) (by kernel_rfl) rfl
 obtain ⟨x1, R1, Q1⟩ := Opens.one (opens_slice (t := 68) opens_Span_72 (by decide) (by kernel_rfl) (by kernel_rfl) : Opens Tryz.prog 68 (tSl tSpan) _) (by kernel_rfl) (hval 1 68 v1 rfl rfl) h1 z1
 obtain ⟨a1_0, n1_0, e1, hb1_0, hs1_0⟩ := R1
 obtain rfl : v1 = .slice a1_0 x1.length n1_0 := by cases e1; rfl
 have z2 : SzW Tryz.prog 83 d2 := SzW.each hsz (j := 2) (by kernel_rfl) rfl
 obtain ⟨cs2, x2, rfl, R2, Q2⟩ := Opens.agg opens_pileuplaw06_Which_83 (by kernel_rfl) (hval 2 83 v2 rfl rfl) h2 z2
 have e2 := R2
 obtain rfl : cs2 = #[.int .i64 x2.I, .int .i64 x2.K] := Array.ext' (by exact e2)
 obtain ⟨N, hN⟩ := clashes_row x0 x1 x2 Q0 Q1 Q2
 refine (c_law06_RulesClashes N W (memOf W) (fun _ _ h => h) (glob_of hL hsh) x0 a0_0 n0_0 hb0_0 hs0_0 x1 a1_0 n1_0 hb1_0 hs1_0 x2 true hN).mono fun e W' he => ?_
 obtain ⟨r, F', rfl, hs, rfl⟩ := he
 refine ⟨_, rfl, post_grown (by kernel_rfl) (tb := 4) ?_ rfl hW' (by kernel_rfl) (by kernel_rfl) ?_ hs⟩
 ·intro t ht
  rw [Tryz.params14] at ht
  simp only [List.mem_cons, List.not_mem_nil, or_false] at ht
  rcases ht with rfl | rfl | rfl <;> exact ⟨by kernel_rfl, by decide +kernel⟩
 ·intro _; rfl
set_option maxRecDepth 100000 in
theorem jf_rulesClashes_0 : (Rows.rulesClashesRow.wf (OpenSpec.ofChange Rows.rulesClashesSpec)) = true := by kernel_rfl
set_option maxRecDepth 100000 in
theorem jf_rulesClashes_3 : (Tryz.f14.params.all (Tryz.pinned.checked.prog.readableRec ·)) = true := by kernel_rfl
set_option maxRecDepth 100000 in
theorem jf_rulesClashes_4 : (namedTie Tryz.pinned.checked.prog Rows.rulesClashesRow.named Rows.rulesClashesSpec.vars) = true := by kernel_rfl
set_option maxRecDepth 100000 in
theorem jf_rulesClashes_5 : ((Rows.rulesClashesRow.stops == [])) = true := by kernel_rfl
set_option maxRecDepth 100000 in
theorem jf_rulesClashes_7 : ((Rows.rulesClashesRow.knobs == [])) = true := by kernel_rfl
set_option maxRecDepth 100000 in
theorem jf_rulesClashes_9 : ((Rows.rulesClashesRow.inPlace == Tryz.pinned.checked.prog.inPlace 14)) = true := by kernel_rfl
set_option maxRecDepth 100000 in
theorem jf_rulesClashes_10 : ((Rows.rulesClashesRow.unfollowed == Tryz.pinned.checked.prog.unfollowed 14)) = true := by kernel_rfl
set_option maxRecDepth 100000 in
theorem jf_rulesClashes_11 : ((Rows.rulesClashesRow.recurses == Tryz.pinned.checked.prog.recurses 14)) = true := by kernel_rfl
set_option maxRecDepth 100000 in
theorem jf_rulesClashes_12 : ((Rows.rulesClashesRow.named == Tryz.pinned.checked.prog.varsNamed 14)) = true := by kernel_rfl
set_option maxRecDepth 100000 in
theorem jf_rulesClashes_13 : ((Rows.rulesClashesRow.maps == (Tryz.f14.params.toList ++ Rows.rulesClashesSpec.plain.varTypes Tryz.pinned.checked.prog).any (Tryz.pinned.checked.prog.mapsRec ·))) = true := by kernel_rfl
set_option maxRecDepth 100000 in
theorem jf_rulesClashes_14 : ((Rows.rulesClashesRow.ifaces == (Tryz.f14.params.toList ++ Rows.rulesClashesSpec.plain.varTypes Tryz.pinned.checked.prog).any (Tryz.pinned.checked.prog.ifacesRec ·))) = true := by kernel_rfl
set_option maxRecDepth 100000 in
theorem jf_rulesClashes_15 : ((Rows.rulesClashesRow.mapsOut == Tryz.pinned.checked.prog.mapsAmong Tryz.f14.resultTypes.toList)) = true := by kernel_rfl
set_option maxRecDepth 100000 in
theorem jf_rulesClashes_16 : ((Rows.rulesClashesRow.loops == (Tryz.f14.params.toList ++ Rows.rulesClashesSpec.plain.varTypes Tryz.pinned.checked.prog).any (Tryz.pinned.checked.prog.loopsFrom ·))) = true := by kernel_rfl
set_option maxRecDepth 100000 in
theorem jf_rulesClashes_17 : ((Rows.rulesClashesRow.wideKeys == (Tryz.f14.params.toList ++ Rows.rulesClashesSpec.plain.varTypes Tryz.pinned.checked.prog ++ Tryz.f14.resultTypes.toList).any (Tryz.pinned.checked.prog.wideKeysFrom ·))) = true := by kernel_rfl
set_option maxRecDepth 100000 in
theorem jf_rulesClashes_18 : (Rows.rulesClashesSpec.vars.all (Tryz.pinned.checked.prog.varReadable ·)) = true := by kernel_rfl
set_option maxRecDepth 100000 in
theorem jf_rulesClashes_19 : (Tryz.f14.resultTypes.all (fun t => Tryz.pinned.checked.prog.readableRec t && decide (t < Tryz.pinned.checked.prog.types.size))) = true := by kernel_rfl
set_option maxRecDepth 100000 in
theorem jf_rulesClashes_20 : ((Rows.rulesClashesRow.ifacesOut == Tryz.f14.resultTypes.toList.any (Tryz.pinned.checked.prog.ifacesRec ·))) = true := by kernel_rfl
set_option maxRecDepth 100000 in
theorem jf_rulesClashes_21 : ((Rows.rulesClashesRow.loopsOut == Tryz.f14.resultTypes.toList.any (Tryz.pinned.checked.prog.loopsFrom ·))) = true := by kernel_rfl
theorem jf_rulesClashes_22 : ((Rows.rulesClashesRow.plainKeys == Tryz.pinned.checked.prog.plainKeys)) = true := by rw [← eq_of_beq fx_22]; kernel_rfl
set_option maxRecDepth 100000 in
theorem jf_rulesClashes_23 : (Rows.rulesClashesRow.shortTexts.isNone) = true := by kernel_rfl
theorem jf_rulesClashes_26 : ((Rows.rulesClashesRow.lifted == Tryz.pinned.checked.prog.liftsFinal)) = true := by rw [← eq_of_beq fx_26]; kernel_rfl
theorem jf_rulesClashes_27 : ((Tryz.pinned.checked.prog.make == some Rows.rulesClashesRow.make)) = true := by rw [eq_of_beq fx_27]; kernel_rfl
set_option maxRecDepth 100000 in
theorem jf_rulesClashes_29 : ((Rows.rulesClashesRow.pinned == Rows.rulesClashesRow.pinnedBy)) = true := by kernel_rfl
set_option maxRecDepth 100000 in
theorem jf_rulesClashes_30 : ((Rows.rulesClashesRow.veiled == (Tryz.f14.params.toList ++ Rows.rulesClashesSpec.plain.varTypes Tryz.pinned.checked.prog ++ Tryz.f14.resultTypes.toList).any (Tryz.pinned.checked.prog.veiledRec ·))) = true := by kernel_rfl
set_option maxRecDepth 100000 in
theorem jf_rulesClashes_31 : (Rows.rulesClashesRow.veiledFits Tryz.pinned.checked.prog Tryz.f14.params.toList (Tryz.f14.params.toList ++ Rows.rulesClashesSpec.plain.varTypes Tryz.pinned.checked.prog ++ Tryz.f14.resultTypes.toList)) = true := by kernel_rfl
theorem jf_rulesClashes : joinedFacts Tryz.pinned.checked.prog 14 Tryz.f14 Rows.rulesClashesSpec Rows.rulesClashesRow = true := and_tt (and_tt (and_tt (and_tt (and_tt (and_tt (and_tt (and_tt (and_tt (and_tt (and_tt (and_tt (and_tt (and_tt (and_tt (and_tt (and_tt (and_tt (and_tt (and_tt (and_tt (and_tt (and_tt (and_tt (and_tt (and_tt (and_tt (and_tt (and_tt (and_tt (and_tt (jf_rulesClashes_0) (fx_1)) (fx_2)) (jf_rulesClashes_3)) (jf_rulesClashes_4)) (jf_rulesClashes_5)) (fx_6)) (jf_rulesClashes_7)) (fx_8)) (jf_rulesClashes_9)) (jf_rulesClashes_10)) (jf_rulesClashes_11)) (jf_rulesClashes_12)) (jf_rulesClashes_13)) (jf_rulesClashes_14)) (jf_rulesClashes_15)) (jf_rulesClashes_16)) (jf_rulesClashes_17)) (jf_rulesClashes_18)) (jf_rulesClashes_19)) (jf_rulesClashes_20)) (jf_rulesClashes_21)) (jf_rulesClashes_22)) (jf_rulesClashes_23)) (fx_24)) (fx_25)) (jf_rulesClashes_26)) (jf_rulesClashes_27)) (by kernel_rfl)) (jf_rulesClashes_29)) (jf_rulesClashes_30)) (jf_rulesClashes_31)
theorem jn_rulesClashes : Tryz.pinned.checked.prog.funcNamed Rows.rulesClashesRow.func = some 14 := by kernel_rfl
theorem ji_rulesClashes : Tryz.f14.isInstance Tryz.pinned.checked.prog Rows.rulesClashesRow.origin Rows.rulesClashesRow.targs := of_decide_eq_true (by kernel_rfl)
theorem jw_rulesClashes : Tryz.f14.isWrapper Tryz.pinned.checked.prog Rows.rulesClashesRow.wrapper Rows.rulesClashesRow.mainSum := by unfold Func.isWrapper; first | (rw [if_pos (by decide +kernel)]; kernel_rfl) | (rw [if_neg (by decide +kernel)]; exact ⟨rfl, rfl⟩)
theorem rulesClashes_row_holds : Rows.RulesClashesSaid :=
 OpenClaim.holds_of_wide 14 Tryz.f14 rfl rfl rfl rfl rfl rfl rfl ⟨rfl, rfl, rfl, rfl, rfl⟩ rfl rfl rfl rfl rfl jn_rulesClashes Tryz.func14 jf_rulesClashes ji_rulesClashes jw_rulesClashes
  (fun os started H enc _ => lifted_rulesClashes os started H enc)
theorem jb_rulesClashes : Rows.rulesClashesRow.wfByText (OpenSpec.ofChange Rows.rulesClashesSpec) = true := by kernel_rfl
theorem js_rulesClashes : ([23, 68, 83].all fun u => !Tryz.prog.wantsStandIn u) = true := by kernel_rfl
theorem jg_rulesClashes : false = Rows.rulesClashesRow.goesBy Tryz.pinned.checked.prog := by kernel_rfl
theorem rulesClashes_proved : Rows.RulesClashesCardSaid :=
 Claim7.holds_tied_plain_at .later [] [.data, .data, .data, .sentinel, .sentinel] true (true, "9ef67a4cb07571d798ed60e513598468ebe5a66f3455e0900720288bced703b8") true rulesClashes_row_holds (fun _ h => by cases h) jb_rulesClashes (fun _ h => by cases h) rulesClashes_row_tie rfl ⟨rfl, rfl⟩ fx_main rfl
  (fun f fn hf hfn => by
   obtain rfl : f = 14 := (Option.some.inj (jn_rulesClashes.symm.trans hf)).symm
   obtain rfl : fn = Tryz.f14 := (Option.some.inj (Tryz.func14.symm.trans hfn)).symm
   exact ⟨fx_looks, fun j t ht => by
    rw [Tryz.params14] at ht
    have hm : t ∈ [23, 68, 83] := by simpa using Array.mem_of_getElem? ht
    exact (show Tryz.prog.wantsStandIn t = false by simpa using List.all_eq_true.1 js_rulesClashes t hm)⟩)
  jg_rulesClashes
end Go.Proofs.YtaihlcdkcampbaaGreatDoor
