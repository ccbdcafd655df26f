/- RulesDiffers: for every input the law returns true, and each argument reads afterwards as it read before. No condition. -/
import Derived.Test.YtaihlcdkcampbaaGreatDoorA5
set_option linter.unusedVariables false
set_option linter.unusedSimpArgs false
set_option linter.unusedSectionVars false
set_option maxHeartbeats 4000000
set_option maxRecDepth 100000
namespace Go.Proofs.YtaihlcdkcampbaaGreatDoor
open Go.ChangeShapes Go.WideShapes Go.ChangeAt Go.RowKit
set_option maxRecDepth 100000 in
theorem lifted_rulesDiffers (os : Os) (started : os.Started) (H : Type) (enc : TypeId × Value → H) :
  ReturnsInHanded {} Tryz.checked os 12 .any (fun w args => (Rows.rulesDiffersSpec.pre enc Tryz.prog Tryz.f12 Rows.rulesDiffersRow.domain false w args ∧ laidMetH Tryz.prog Rows.rulesDiffersRow.laid w) ∧ sizedMet enc Tryz.prog Tryz.f12 (OpenSpec.ofChange Rows.rulesDiffersSpec) false w args) (Rows.rulesDiffersSpec.post enc Tryz.prog Tryz.f12 false true false false) := by
 refine handed_laid (C := Tryz.checked) (X := fun w _ => laidMetH Tryz.prog laid7 w) (fun _ _ _ hh h => h.of_heap hh) own_knob started (by kernel_rfl) Tryz.func12
  (ChangeSpec.witness_shaped (enc := enc) (C := Tryz.checked) (os := os) (X := fun w _ => laidMetH Tryz.prog laid7 w) false (World.laidAll Tryz.prog os laid7) #[.agg #[.int .i64 0, .int .i64 0, .slice none 0 0], .agg #[.int .i64 0, .int .i64 0, .slice none 0 0], .slice none 0 0] 8 (World.laidAll_os _ _ _)
   (World.shaped_of_ZipB (by kernel_rfl) (by kernel_rfl)) (by kernel_rfl) (by kernel_rfl) (by kernel_rfl) (door_met7 os _)) ?_
 intro W base args ds gs before hval0 hW hsz hL hsh
 have hval : ∀ (j : Nat) t v, Tryz.f12.params[j]? = some t → args[j]? = some v → Value.okWide Tryz.prog W .any base t v := hval0
 have hW' := hW
 obtain ⟨p, q, hA0, hV, rfl, hfz, hnd⟩ := hW
 have hA : DataW.TrodAll enc Tryz.prog W 0 (fun _ => true) true Tryz.f12.params.toList args.toList ds p := hA0
 rw [Tryz.params12] at hA hval
 obtain ⟨v0, vs0, d0, ds0, p0, q0, hargs, rfl, rfl, h0, r0⟩ := trodAll_cons hA
 obtain ⟨v1, vs1, d1, ds1, p1, q1, rfl, rfl, rfl, h1, r1⟩ := trodAll_cons r0
 obtain ⟨v2, vs2, d2, ds2, p2, q2, rfl, rfl, rfl, h2, r2⟩ := trodAll_cons r1
 obtain ⟨rfl, rfl, rfl⟩ := trodAll_nil r2
 obtain rfl : args = #[v0, v1, v2] := by cases args; simp_all
 have z0 : SzW Tryz.prog 33 d0 := SzW.each hsz (j := 0) (by kernel_rfl) rfl
 obtain ⟨cs0, x0, rfl, R0, Q0⟩ := Opens.agg opens_Expr_33 (by kernel_rfl) (hval 0 33 v0 rfl rfl) h0 z0
 obtain ⟨a0_2, n0_2, e0, hb0_2, hs0_2⟩ := tExpr_open R0
 obtain rfl : cs0 = #[.int .i64 x0.Op, .int .i64 x0.Value, .slice a0_2 x0.Kids.length n0_2] := Array.ext' (by exact e0)
 have z1 : SzW Tryz.prog 33 d1 := SzW.each hsz (j := 1) (by kernel_rfl) rfl
 obtain ⟨cs1, x1, rfl, R1, Q1⟩ := Opens.agg opens_Expr_33 (by kernel_rfl) (hval 1 33 v1 rfl rfl) h1 z1
 obtain ⟨a1_2, n1_2, e1, hb1_2, hs1_2⟩ := tExpr_open R1
 obtain rfl : cs1 = #[.int .i64 x1.Op, .int .i64 x1.Value, .slice a1_2 x1.Kids.length n1_2] := Array.ext' (by exact e1)
 have z2 : SzW Tryz.prog 68 d2 := SzW.each hsz (j := 2) (by kernel_rfl) rfl
 obtain ⟨x2, R2, Q2⟩ := Opens.one (opens_slice (t := 68) opens_Span_72 (by decide) (by kernel_rfl) (by kernel_rfl) : Opens Tryz.prog 68 (tSl tSpan) _) (by kernel_rfl) (hval 2 68 v2 rfl rfl) h2 z2
 obtain ⟨a2_0, n2_0, e2, hb2_0, hs2_0⟩ := R2
 obtain rfl : v2 = .slice a2_0 x2.length n2_0 := by cases e2; rfl
 obtain ⟨N, hN⟩ := differs_row x0 x1 x2 Q0 Q1 Q2
 refine (c_law06_RulesDiffers N W (memOf W) (fun _ _ h => h) (glob_of hL hsh) x0 a0_2 n0_2 hb0_2 hs0_2 x1 a1_2 n1_2 hb1_2 hs1_2 x2 a2_0 n2_0 hb2_0 hs2_0 true hN).mono fun e W' he => ?_
 obtain ⟨r, F', rfl, hs, rfl⟩ := he
 refine ⟨_, rfl, post_grown (by kernel_rfl) (tb := 4) ?_ rfl hW' (by kernel_rfl) (by kernel_rfl) ?_ hs⟩
 ·intro t ht
  rw [Tryz.params12] at ht
  simp only [List.mem_cons, List.not_mem_nil, or_false] at ht
  rcases ht with rfl | rfl | rfl <;> exact ⟨by kernel_rfl, by decide +kernel⟩
 ·intro _; rfl
set_option maxRecDepth 100000 in
theorem jf_rulesDiffers_0 : (Rows.rulesDiffersRow.wf (OpenSpec.ofChange Rows.rulesDiffersSpec)) = true := by kernel_rfl
set_option maxRecDepth 100000 in
theorem jf_rulesDiffers_3 : (Tryz.f12.params.all (Tryz.pinned.checked.prog.readableRec ·)) = true := by kernel_rfl
set_option maxRecDepth 100000 in
theorem jf_rulesDiffers_4 : (namedTie Tryz.pinned.checked.prog Rows.rulesDiffersRow.named Rows.rulesDiffersSpec.vars) = true := by kernel_rfl
set_option maxRecDepth 100000 in
theorem jf_rulesDiffers_5 : ((Rows.rulesDiffersRow.stops == [])) = true := by kernel_rfl
set_option maxRecDepth 100000 in
theorem jf_rulesDiffers_7 : ((Rows.rulesDiffersRow.knobs == [])) = true := by kernel_rfl
set_option maxRecDepth 100000 in
theorem jf_rulesDiffers_9 : ((Rows.rulesDiffersRow.inPlace == Tryz.pinned.checked.prog.inPlace 12)) = true := by kernel_rfl
set_option maxRecDepth 100000 in
theorem jf_rulesDiffers_10 : ((Rows.rulesDiffersRow.unfollowed == Tryz.pinned.checked.prog.unfollowed 12)) = true := by kernel_rfl
set_option maxRecDepth 100000 in
theorem jf_rulesDiffers_11 : ((Rows.rulesDiffersRow.recurses == Tryz.pinned.checked.prog.recurses 12)) = true := by kernel_rfl
set_option maxRecDepth 100000 in
theorem jf_rulesDiffers_12 : ((Rows.rulesDiffersRow.named == Tryz.pinned.checked.prog.varsNamed 12)) = true := by kernel_rfl
set_option maxRecDepth 100000 in
theorem jf_rulesDiffers_13 : ((Rows.rulesDiffersRow.maps == (Tryz.f12.params.toList ++ Rows.rulesDiffersSpec.plain.varTypes Tryz.pinned.checked.prog).any (Tryz.pinned.checked.prog.mapsRec ·))) = true := by kernel_rfl
set_option maxRecDepth 100000 in
theorem jf_rulesDiffers_14 : ((Rows.rulesDiffersRow.ifaces == (Tryz.f12.params.toList ++ Rows.rulesDiffersSpec.plain.varTypes Tryz.pinned.checked.prog).any (Tryz.pinned.checked.prog.ifacesRec ·))) = true := by kernel_rfl
set_option maxRecDepth 100000 in
theorem jf_rulesDiffers_15 : ((Rows.rulesDiffersRow.mapsOut == Tryz.pinned.checked.prog.mapsAmong Tryz.f12.resultTypes.toList)) = true := by kernel_rfl
set_option maxRecDepth 100000 in
theorem jf_rulesDiffers_16 : ((Rows.rulesDiffersRow.loops == (Tryz.f12.params.toList ++ Rows.rulesDiffersSpec.plain.varTypes Tryz.pinned.checked.prog).any (Tryz.pinned.checked.prog.loopsFrom ·))) = true := by kernel_rfl
set_option maxRecDepth 100000 in
theorem jf_rulesDiffers_17 : ((Rows.rulesDiffersRow.wideKeys == (Tryz.f12.params.toList ++ Rows.rulesDiffersSpec.plain.varTypes Tryz.pinned.checked.prog ++ Tryz.f12.resultTypes.toList).any (Tryz.pinned.checked.prog.wideKeysFrom ·))) = true := by kernel_rfl
set_option maxRecDepth 100000 in
theorem jf_rulesDiffers_18 : (Rows.rulesDiffersSpec.vars.all (Tryz.pinned.checked.prog.varReadable ·)) = true := by kernel_rfl
set_option maxRecDepth 100000 in
theorem jf_rulesDiffers_19 : (Tryz.f12.resultTypes.all (fun t => Tryz.pinned.checked.prog.readableRec t && decide (t < Tryz.pinned.checked.prog.types.size))) = true := by kernel_rfl
set_option maxRecDepth 100000 in
theorem jf_rulesDiffers_20 : ((Rows.rulesDiffersRow.ifacesOut == Tryz.f12.resultTypes.toList.any (Tryz.pinned.checked.prog.ifacesRec ·))) = true := by kernel_rfl
set_option maxRecDepth 100000 in
theorem jf_rulesDiffers_21 : ((Rows.rulesDiffersRow.loopsOut == Tryz.f12.resultTypes.toList.any (Tryz.pinned.checked.prog.loopsFrom ·))) = true := by kernel_rfl
theorem jf_rulesDiffers_22 : ((Rows.rulesDiffersRow.plainKeys == Tryz.pinned.checked.prog.plainKeys)) = true := by rw [← eq_of_beq fx_22]; kernel_rfl
set_option maxRecDepth 100000 in
theorem jf_rulesDiffers_23 : (Rows.rulesDiffersRow.shortTexts.isNone) = true := by kernel_rfl
theorem jf_rulesDiffers_26 : ((Rows.rulesDiffersRow.lifted == Tryz.pinned.checked.prog.liftsFinal)) = true := by rw [← eq_of_beq fx_26]; kernel_rfl
theorem jf_rulesDiffers_27 : ((Tryz.pinned.checked.prog.make == some Rows.rulesDiffersRow.make)) = true := by rw [eq_of_beq fx_27]; kernel_rfl
set_option maxRecDepth 100000 in
theorem jf_rulesDiffers_29 : ((Rows.rulesDiffersRow.pinned == Rows.rulesDiffersRow.pinnedBy)) = true := by kernel_rfl
set_option maxRecDepth 100000 in
theorem jf_rulesDiffers_30 : ((Rows.rulesDiffersRow.veiled == (Tryz.f12.params.toList ++ Rows.rulesDiffersSpec.plain.varTypes Tryz.pinned.checked.prog ++ Tryz.f12.resultTypes.toList).any (Tryz.pinned.checked.prog.veiledRec ·))) = true := by kernel_rfl
set_option maxRecDepth 100000 in
theorem jf_rulesDiffers_31 : (Rows.rulesDiffersRow.veiledFits Tryz.pinned.checked.prog Tryz.f12.params.toList (Tryz.f12.params.toList ++ Rows.rulesDiffersSpec.plain.varTypes Tryz.pinned.checked.prog ++ Tryz.f12.resultTypes.toList)) = true := by kernel_rfl
theorem jf_rulesDiffers : joinedFacts Tryz.pinned.checked.prog 12 Tryz.f12 Rows.rulesDiffersSpec Rows.rulesDiffersRow = true := and_tt (and_tt (and_tt (and_tt (and_tt (and_tt (and_tt (and_tt (and_tt (and_tt (and_tt (and_tt (and_tt (and_tt (and_tt (and_tt (and_tt (and_tt (and_tt (and_tt (and_tt (and_tt (and_tt (and_tt (and_tt (and_tt (and_tt (and_tt (and_tt (and_tt (and_tt (jf_rulesDiffers_0) (fx_1)) (fx_2)) (jf_rulesDiffers_3)) (jf_rulesDiffers_4)) (jf_rulesDiffers_5)) (fx_6)) (jf_rulesDiffers_7)) (fx_8)) (jf_rulesDiffers_9)) (jf_rulesDiffers_10)) (jf_rulesDiffers_11)) (jf_rulesDiffers_12)) (jf_rulesDiffers_13)) (jf_rulesDiffers_14)) (jf_rulesDiffers_15)) (jf_rulesDiffers_16)) (jf_rulesDiffers_17)) (jf_rulesDiffers_18)) (jf_rulesDiffers_19)) (jf_rulesDiffers_20)) (jf_rulesDiffers_21)) (jf_rulesDiffers_22)) (jf_rulesDiffers_23)) (fx_24)) (fx_25)) (jf_rulesDiffers_26)) (jf_rulesDiffers_27)) (by kernel_rfl)) (jf_rulesDiffers_29)) (jf_rulesDiffers_30)) (jf_rulesDiffers_31)
theorem jn_rulesDiffers : Tryz.pinned.checked.prog.funcNamed Rows.rulesDiffersRow.func = some 12 := by kernel_rfl
theorem ji_rulesDiffers : Tryz.f12.isInstance Tryz.pinned.checked.prog Rows.rulesDiffersRow.origin Rows.rulesDiffersRow.targs := of_decide_eq_true (by kernel_rfl)
theorem jw_rulesDiffers : Tryz.f12.isWrapper Tryz.pinned.checked.prog Rows.rulesDiffersRow.wrapper Rows.rulesDiffersRow.mainSum := by unfold Func.isWrapper; first | (rw [if_pos (by decide +kernel)]; kernel_rfl) | (rw [if_neg (by decide +kernel)]; exact ⟨rfl, rfl⟩)
theorem rulesDiffers_row_holds : Rows.RulesDiffersSaid :=
 OpenClaim.holds_of_wide 12 Tryz.f12 rfl rfl rfl rfl rfl rfl rfl ⟨rfl, rfl, rfl, rfl, rfl⟩ rfl rfl rfl rfl rfl jn_rulesDiffers Tryz.func12 jf_rulesDiffers ji_rulesDiffers jw_rulesDiffers
  (fun os started H enc _ => lifted_rulesDiffers os started H enc)
theorem jb_rulesDiffers : Rows.rulesDiffersRow.wfByText (OpenSpec.ofChange Rows.rulesDiffersSpec) = true := by kernel_rfl
theorem js_rulesDiffers : ([33, 33, 68].all fun u => !Tryz.prog.wantsStandIn u) = true := by kernel_rfl
theorem jg_rulesDiffers : false = Rows.rulesDiffersRow.goesBy Tryz.pinned.checked.prog := by kernel_rfl
theorem rulesDiffers_proved : Rows.RulesDiffersCardSaid :=
 Claim7.holds_tied_plain_at .later [] [.data, .data, .data, .sentinel, .sentinel] true (true, "9ef67a4cb07571d798ed60e513598468ebe5a66f3455e0900720288bced703b8") true rulesDiffers_row_holds (fun _ h => by cases h) jb_rulesDiffers (fun _ h => by cases h) rulesDiffers_row_tie rfl ⟨rfl, rfl⟩ fx_main rfl
  (fun f fn hf hfn => by
   obtain rfl : f = 12 := (Option.some.inj (jn_rulesDiffers.symm.trans hf)).symm
   obtain rfl : fn = Tryz.f12 := (Option.some.inj (Tryz.func12.symm.trans hfn)).symm
   exact ⟨fx_looks, fun j t ht => by
    rw [Tryz.params12] at ht
    have hm : t ∈ [33, 33, 68] := by simpa using Array.mem_of_getElem? ht
    exact (show Tryz.prog.wantsStandIn t = false by simpa using List.all_eq_true.1 js_rulesDiffers t hm)⟩)
  jg_rulesDiffers
end Go.Proofs.YtaihlcdkcampbaaGreatDoor
