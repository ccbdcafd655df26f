/- RulesEqual: for every input the law returns true, and each argument reads afterwards as it read before. No condition. -/
import Derived.Test.YtaihlcdkcampbaaGreatDoorE16x5
set_option linter.unusedVariables false
set_option linter.unusedSimpArgs false
set_option linter.unusedSectionVars false
set_option maxHeartbeats 4000000
set_option maxRecDepth 100000
namespace Go.Proofs.YtaihlcdkcampbaaGreatDoor
open Go.ChangeShapes Go.WideShapes Go.ChangeAt Go.RowKit
set_option maxRecDepth 100000 in
theorem lifted_rulesEqual (os : Os) (started : os.Started) (H : Type) (enc : TypeId × Value → H) :
  ReturnsInHanded {} Tryz.checked os 16 .any (fun w args => (Rows.rulesEqualSpec.pre enc Tryz.prog Tryz.f16 Rows.rulesEqualRow.domain false w args ∧ laidMetH Tryz.prog Rows.rulesEqualRow.laid w) ∧ sizedMet enc Tryz.prog Tryz.f16 (OpenSpec.ofChange Rows.rulesEqualSpec) false w args) (Rows.rulesEqualSpec.post enc Tryz.prog Tryz.f16 false true false false) := by
 refine handed_laid (C := Tryz.checked) (X := fun w _ => laidMetH Tryz.prog laid7 w) (fun _ _ _ hh h => h.of_heap hh) own_knob started (by kernel_rfl) Tryz.func16
  (ChangeSpec.witness_shaped (enc := enc) (C := Tryz.checked) (os := os) (X := fun w _ => laidMetH Tryz.prog laid7 w) false (World.laidAll Tryz.prog os laid7) #[.agg #[.int .i64 0, .int .i64 0, .slice none 0 0], .agg #[.int .i64 0, .int .i64 0, .slice none 0 0], .slice none 0 0] 8 (World.laidAll_os _ _ _)
   (World.shaped_of_ZipB (by kernel_rfl) (by kernel_rfl)) (by kernel_rfl) (by kernel_rfl) (by kernel_rfl) (door_met7 os _)) ?_
 intro W base args ds gs before hval0 hW hsz hL hsh
 have hval : ∀ (j : Nat) t v, Tryz.f16.params[j]? = some t → args[j]? = some v → Value.okWide Tryz.prog W .any base t v := hval0
 have hW' := hW
 obtain ⟨p, q, hA0, hV, rfl, hfz, hnd⟩ := hW
 have hA : DataW.TrodAll enc Tryz.prog W 0 (fun _ => true) true Tryz.f16.params.toList args.toList ds p := hA0
 rw [Tryz.params16] at hA hval
 obtain ⟨v0, vs0, d0, ds0, p0, q0, hargs, rfl, rfl, h0, r0⟩ := trodAll_cons hA
 obtain ⟨v1, vs1, d1, ds1, p1, q1, rfl, rfl, rfl, h1, r1⟩ := trodAll_cons r0
 obtain ⟨v2, vs2, d2, ds2, p2, q2, rfl, rfl, rfl, h2, r2⟩ := trodAll_cons r1
 obtain ⟨rfl, rfl, rfl⟩ := trodAll_nil r2
 obtain rfl : args = #[v0, v1, v2] := by cases args; simp_all
 have z0 : SzW Tryz.prog 33 d0 := SzW.each hsz (j := 0) (by kernel_rfl) rfl
 obtain ⟨cs0, x0, rfl, R0, Q0⟩ := Opens.agg opens_Expr_33 (by kernel_rfl) (hval 0 33 v0 rfl rfl) h0 z0
 obtain ⟨a0_2, n0_2, e0, hb0_2, hs0_2⟩ := tExpr_open R0
 obtain rfl : cs0 = #[.int .i64 x0.Op, .int .i64 x0.Value, .slice a0_2 x0.Kids.length n0_2] := Array.ext' (by exact e0)
 have z1 : SzW Tryz.prog 33 d1 := SzW.each hsz (j := 1) (by kernel_rfl) rfl
 obtain ⟨cs1, x1, rfl, R1, Q1⟩ := Opens.agg opens_Expr_33 (by kernel_rfl) (hval 1 33 v1 rfl rfl) h1 z1
 obtain ⟨a1_2, n1_2, e1, hb1_2, hs1_2⟩ := tExpr_open R1
 obtain rfl : cs1 = #[.int .i64 x1.Op, .int .i64 x1.Value, .slice a1_2 x1.Kids.length n1_2] := Array.ext' (by exact e1)
 have z2 : SzW Tryz.prog 68 d2 := SzW.each hsz (j := 2) (by kernel_rfl) rfl
 obtain ⟨x2, R2, Q2⟩ := Opens.one (opens_slice (t := 68) opens_Span_72 (by decide) (by kernel_rfl) (by kernel_rfl) : Opens Tryz.prog 68 (tSl tSpan) _) (by kernel_rfl) (hval 2 68 v2 rfl rfl) h2 z2
 obtain ⟨a2_0, n2_0, e2, hb2_0, hs2_0⟩ := R2
 obtain rfl : v2 = .slice a2_0 x2.length n2_0 := by cases e2; rfl
 obtain ⟨N, hN⟩ := equal_row x0 x1 x2 Q0 Q1 Q2
 refine (c_law06_RulesEqual N W (memOf W) (fun _ _ h => h) (glob_of hL hsh) x0 a0_2 n0_2 hb0_2 hs0_2 x1 a1_2 n1_2 hb1_2 hs1_2 x2 a2_0 n2_0 hb2_0 hs2_0 true hN).mono fun e W' he => ?_
 obtain ⟨r, F', rfl, hs, rfl⟩ := he
 refine ⟨_, rfl, post_grown (by kernel_rfl) (tb := 4) ?_ rfl hW' (by kernel_rfl) (by kernel_rfl) ?_ hs⟩
 ·intro t ht
  rw [Tryz.params16] at ht
  simp only [List.mem_cons, List.not_mem_nil, or_false] at ht
  rcases ht with rfl | rfl | rfl <;> exact ⟨by kernel_rfl, by decide +kernel⟩
 ·intro _; rfl
set_option maxRecDepth 100000 in
theorem jf_rulesEqual_0 : (Rows.rulesEqualRow.wf (OpenSpec.ofChange Rows.rulesEqualSpec)) = true := by kernel_rfl
set_option maxRecDepth 100000 in
theorem jf_rulesEqual_3 : (Tryz.f16.params.all (Tryz.pinned.checked.prog.readableRec ·)) = true := by kernel_rfl
set_option maxRecDepth 100000 in
theorem jf_rulesEqual_4 : (namedTie Tryz.pinned.checked.prog Rows.rulesEqualRow.named Rows.rulesEqualSpec.vars) = true := by kernel_rfl
set_option maxRecDepth 100000 in
theorem jf_rulesEqual_5 : ((Rows.rulesEqualRow.stops == [])) = true := by kernel_rfl
set_option maxRecDepth 100000 in
theorem jf_rulesEqual_7 : ((Rows.rulesEqualRow.knobs == [])) = true := by kernel_rfl
set_option maxRecDepth 100000 in
theorem jf_rulesEqual_9 : ((Rows.rulesEqualRow.inPlace == Tryz.pinned.checked.prog.inPlace 16)) = true := by kernel_rfl
set_option maxRecDepth 100000 in
theorem jf_rulesEqual_10 : ((Rows.rulesEqualRow.unfollowed == Tryz.pinned.checked.prog.unfollowed 16)) = true := by kernel_rfl
set_option maxRecDepth 100000 in
theorem jf_rulesEqual_11 : ((Rows.rulesEqualRow.recurses == Tryz.pinned.checked.prog.recurses 16)) = true := by kernel_rfl
set_option maxRecDepth 100000 in
theorem jf_rulesEqual_12 : ((Rows.rulesEqualRow.named == Tryz.pinned.checked.prog.varsNamed 16)) = true := by kernel_rfl
set_option maxRecDepth 100000 in
theorem jf_rulesEqual_13 : ((Rows.rulesEqualRow.maps == (Tryz.f16.params.toList ++ Rows.rulesEqualSpec.plain.varTypes Tryz.pinned.checked.prog).any (Tryz.pinned.checked.prog.mapsRec ·))) = true := by kernel_rfl
set_option maxRecDepth 100000 in
theorem jf_rulesEqual_14 : ((Rows.rulesEqualRow.ifaces == (Tryz.f16.params.toList ++ Rows.rulesEqualSpec.plain.varTypes Tryz.pinned.checked.prog).any (Tryz.pinned.checked.prog.ifacesRec ·))) = true := by kernel_rfl
set_option maxRecDepth 100000 in
theorem jf_rulesEqual_15 : ((Rows.rulesEqualRow.mapsOut == Tryz.pinned.checked.prog.mapsAmong Tryz.f16.resultTypes.toList)) = true := by kernel_rfl
set_option maxRecDepth 100000 in
theorem jf_rulesEqual_16 : ((Rows.rulesEqualRow.loops == (Tryz.f16.params.toList ++ Rows.rulesEqualSpec.plain.varTypes Tryz.pinned.checked.prog).any (Tryz.pinned.checked.prog.loopsFrom ·))) = true := by kernel_rfl
set_option maxRecDepth 100000 in
theorem jf_rulesEqual_17 : ((Rows.rulesEqualRow.wideKeys == (Tryz.f16.params.toList ++ Rows.rulesEqualSpec.plain.varTypes Tryz.pinned.checked.prog ++ Tryz.f16.resultTypes.toList).any (Tryz.pinned.checked.prog.wideKeysFrom ·))) = true := by kernel_rfl
set_option maxRecDepth 100000 in
theorem jf_rulesEqual_18 : (Rows.rulesEqualSpec.vars.all (Tryz.pinned.checked.prog.varReadable ·)) = true := by kernel_rfl
set_option maxRecDepth 100000 in
theorem jf_rulesEqual_19 : (Tryz.f16.resultTypes.all (fun t => Tryz.pinned.checked.prog.readableRec t && decide (t < Tryz.pinned.checked.prog.types.size))) = true := by kernel_rfl
set_option maxRecDepth 100000 in
theorem jf_rulesEqual_20 : ((Rows.rulesEqualRow.ifacesOut == Tryz.f16.resultTypes.toList.any (Tryz.pinned.checked.prog.ifacesRec ·))) = true := by kernel_rfl
set_option maxRecDepth 100000 in
theorem jf_rulesEqual_21 : ((Rows.rulesEqualRow.loopsOut == Tryz.f16.resultTypes.toList.any (Tryz.pinned.checked.prog.loopsFrom ·))) = true := by kernel_rfl
theorem jf_rulesEqual_22 : ((Rows.rulesEqualRow.plainKeys == Tryz.pinned.checked.prog.plainKeys)) = true := by rw [← eq_of_beq fx_22]; kernel_rfl
set_option maxRecDepth 100000 in
theorem jf_rulesEqual_23 : (Rows.rulesEqualRow.shortTexts.isNone) = true := by kernel_rfl
theorem jf_rulesEqual_26 : ((Rows.rulesEqualRow.lifted == Tryz.pinned.checked.prog.liftsFinal)) = true := by rw [← eq_of_beq fx_26]; kernel_rfl
theorem jf_rulesEqual_27 : ((Tryz.pinned.checked.prog.make == some Rows.rulesEqualRow.make)) = true := by rw [eq_of_beq fx_27]; kernel_rfl
set_option maxRecDepth 100000 in
theorem jf_rulesEqual_29 : ((Rows.rulesEqualRow.pinned == Rows.rulesEqualRow.pinnedBy)) = true := by kernel_rfl
set_option maxRecDepth 100000 in
theorem jf_rulesEqual_30 : ((Rows.rulesEqualRow.veiled == (Tryz.f16.params.toList ++ Rows.rulesEqualSpec.plain.varTypes Tryz.pinned.checked.prog ++ Tryz.f16.resultTypes.toList).any (Tryz.pinned.checked.prog.veiledRec ·))) = true := by kernel_rfl
set_option maxRecDepth 100000 in
theorem jf_rulesEqual_31 : (Rows.rulesEqualRow.veiledFits Tryz.pinned.checked.prog Tryz.f16.params.toList (Tryz.f16.params.toList ++ Rows.rulesEqualSpec.plain.varTypes Tryz.pinned.checked.prog ++ Tryz.f16.resultTypes.toList)) = true := by kernel_rfl
theorem jf_rulesEqual : joinedFacts Tryz.pinned.checked.prog 16 Tryz.f16 Rows.rulesEqualSpec Rows.rulesEqualRow = true := and_tt (and_tt (and_tt (and_tt (and_tt (and_tt (and_tt (and_tt (and_tt (and_tt (and_tt (and_tt (and_tt (and_tt (and_tt (and_tt (and_tt (and_tt (and_tt (and_tt (and_tt (and_tt (and_tt (and_tt (and_tt (and_tt (and_tt (and_tt (and_tt (and_tt (and_tt (jf_rulesEqual_0) (fx_1)) (fx_2)) (jf_rulesEqual_3)) (jf_rulesEqual_4)) (jf_rulesEqual_5)) (fx_6)) (jf_rulesEqual_7)) (fx_8)) (jf_rulesEqual_9)) (jf_rulesEqual_10)) (jf_rulesEqual_11)) (jf_rulesEqual_12)) (jf_rulesEqual_13)) (jf_rulesEqual_14)) (jf_rulesEqual_15)) (jf_rulesEqual_16)) (jf_rulesEqual_17)) (jf_rulesEqual_18)) (jf_rulesEqual_19)) (jf_rulesEqual_20)) (jf_rulesEqual_21)) (jf_rulesEqual_22)) (jf_rulesEqual_23)) (fx_24)) (fx_25)) (jf_rulesEqual_26)) (jf_rulesEqual_27)) (by kernel_rfl)) (jf_rulesEqual_29)) (jf_rulesEqual_30)) (jf_rulesEqual_31)
theorem jn_rulesEqual : Tryz.pinned.checked.prog.funcNamed Rows.rulesEqualRow.func = some 16 := by kernel_rfl
theorem ji_rulesEqual : Tryz.f16.isInstance Tryz.pinned.checked.prog Rows.rulesEqualRow.origin Rows.rulesEqualRow.targs := of_decide_eq_true (by kernel_rfl)
theorem jw_rulesEqual : Tryz.f16.isWrapper Tryz.pinned.checked.prog Rows.rulesEqualRow.wrapper Rows.rulesEqualRow.mainSum := by unfold Func.isWrapper; first | (rw [if_pos (by decide +kernel)]; kernel_rfl) | (rw [if_neg (by decide +kernel)]; exact ⟨rfl, rfl⟩)
theorem rulesEqual_row_holds : Rows.RulesEqualSaid :=
 OpenClaim.holds_of_wide 16 Tryz.f16 rfl rfl rfl rfl rfl rfl rfl ⟨rfl, rfl, rfl, rfl, rfl⟩ rfl rfl rfl rfl rfl jn_rulesEqual Tryz.func16 jf_rulesEqual ji_rulesEqual jw_rulesEqual
  (fun os started H enc _ => lifted_rulesEqual os started H enc)
theorem jb_rulesEqual : Rows.rulesEqualRow.wfByText (OpenSpec.ofChange Rows.rulesEqualSpec) = true := by kernel_rfl
theorem js_rulesEqual : ([33, 33, 68].all fun u => !Tryz.prog.wantsStandIn u) = true := by kernel_rfl
theorem jg_rulesEqual : false = Rows.rulesEqualRow.goesBy Tryz.pinned.checked.prog := by kernel_rfl
theorem rulesEqual_proved : Rows.RulesEqualCardSaid :=
 Claim7.holds_tied_plain_at .later [] [.data, .data, .data, .sentinel, .sentinel] true (true, "9ef67a4cb07571d798ed60e513598468ebe5a66f3455e0900720288bced703b8") true rulesEqual_row_holds (fun _ h => by cases h) jb_rulesEqual (fun _ h => by cases h) rulesEqual_row_tie rfl ⟨rfl, rfl⟩ fx_main rfl
  (fun f fn hf hfn => by
   obtain rfl : f = 16 := (Option.some.inj (jn_rulesEqual.symm.trans hf)).symm
   obtain rfl : fn = Tryz.f16 := (Option.some.inj (Tryz.func16.symm.trans hfn)).symm
   exact ⟨fx_looks, fun j t ht => by
    rw [Tryz.params16] at ht
    have hm : t ∈ [33, 33, 68] := by simpa using Array.mem_of_getElem? ht
    exact (show Tryz.prog.wantsStandIn t = false by simpa using List.all_eq_true.1 js_rulesEqual t hm)⟩)
  jg_rulesEqual
end Go.Proofs.YtaihlcdkcampbaaGreatDoor
