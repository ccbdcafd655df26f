/- RulesEvals: for every input the law returns true, and each argument reads afterwards as it read before. No condition. -/
import Derived.Test.YtaihlcdkcampbaaGreatDoorA5
set_option linter.unusedVariables false
set_option linter.unusedSimpArgs false
set_option linter.unusedSectionVars false
set_option maxHeartbeats 4000000
set_option maxRecDepth 100000
namespace Go.Proofs.YtaihlcdkcampbaaGreatDoor
open Go.ChangeShapes Go.WideShapes Go.ChangeAt Go.RowKit
set_option maxRecDepth 100000 in
theorem lifted_rulesEvals (os : Os) (started : os.Started) (H : Type) (enc : TypeId × Value → H) :
  ReturnsInHanded {} Tryz.checked os 7 .any (fun w args => (Rows.rulesEvalsSpec.pre enc Tryz.prog Tryz.f7 Rows.rulesEvalsRow.domain false w args ∧ laidMetH Tryz.prog Rows.rulesEvalsRow.laid w) ∧ sizedMet enc Tryz.prog Tryz.f7 (OpenSpec.ofChange Rows.rulesEvalsSpec) false w args) (Rows.rulesEvalsSpec.post enc Tryz.prog Tryz.f7 false true false false) := by
 refine handed_laid (C := Tryz.checked) (X := fun w _ => laidMetH Tryz.prog laid7 w) (fun _ _ _ hh h => h.of_heap hh) own_knob started (by kernel_rfl) Tryz.func7
  (ChangeSpec.witness_shaped (enc := enc) (C := Tryz.checked) (os := os) (X := fun w _ => laidMetH Tryz.prog laid7 w) false (World.laidAll Tryz.prog os laid7) #[.agg #[.int .i64 0, .int .i64 0, .slice none 0 0], .slice none 0 0, .slice none 0 0] 8 (World.laidAll_os _ _ _)
   (World.shaped_of_ZipB (by kernel_rfl) (by kernel_rfl)) (by kernel_rfl) (by kernel_rfl) (by kernel_rfl) (door_met7 os _)) ?_
 intro W base args ds gs before hval0 hW hsz hL hsh
 have hval : ∀ (j : Nat) t v, Tryz.f7.params[j]? = some t → args[j]? = some v → Value.okWide Tryz.prog W .any base t v := hval0
 have hW' := hW
 obtain ⟨p, q, hA0, hV, rfl, hfz, hnd⟩ := hW
 have hA : DataW.TrodAll enc Tryz.prog W 0 (fun _ => true) true Tryz.f7.params.toList args.toList ds p := hA0
 rw [Tryz.params7] at hA hval
 obtain ⟨v0, vs0, d0, ds0, p0, q0, hargs, rfl, rfl, h0, r0⟩ := trodAll_cons hA
 obtain ⟨v1, vs1, d1, ds1, p1, q1, rfl, rfl, rfl, h1, r1⟩ := trodAll_cons r0
 obtain ⟨v2, vs2, d2, ds2, p2, q2, rfl, rfl, rfl, h2, r2⟩ := trodAll_cons r1
 obtain ⟨rfl, rfl, rfl⟩ := trodAll_nil r2
 obtain rfl : args = #[v0, v1, v2] := by cases args; simp_all
 have z0 : SzW Tryz.prog 33 d0 := SzW.each hsz (j := 0) (by kernel_rfl) rfl
 obtain ⟨cs0, x0, rfl, R0, Q0⟩ := Opens.agg opens_Expr_33 (by kernel_rfl) (hval 0 33 v0 rfl rfl) h0 z0
 obtain ⟨a0_2, n0_2, e0, hb0_2, hs0_2⟩ := tExpr_open R0
 obtain rfl : cs0 = #[.int .i64 x0.Op, .int .i64 x0.Value, .slice a0_2 x0.Kids.length n0_2] := Array.ext' (by exact e0)
 have z1 : SzW Tryz.prog 23 d1 := SzW.each hsz (j := 1) (by kernel_rfl) rfl
 obtain ⟨x1, R1, Q1⟩ := Opens.one (opens_slice (t := 23) opens_Clause_56 (by decide) (by kernel_rfl) (by kernel_rfl) : Opens Tryz.prog 23 (tSl tClause) _) (by kernel_rfl) (hval 1 23 v1 rfl rfl) h1 z1
 obtain ⟨a1_0, n1_0, e1, hb1_0, hs1_0⟩ := R1
 obtain rfl : v1 = .slice a1_0 x1.length n1_0 := by cases e1; rfl
 have z2 : SzW Tryz.prog 47 d2 := SzW.each hsz (j := 2) (by kernel_rfl) rfl
 obtain ⟨x2, R2, Q2⟩ := Opens.one (opens_slice (t := 47) (opens_int (t := 3) (by kernel_rfl) (by kernel_rfl) : Opens Tryz.prog 3 tInt rI) (by decide) (by kernel_rfl) (by kernel_rfl) : Opens Tryz.prog 47 (tSl tInt) _) (by kernel_rfl) (hval 2 47 v2 rfl rfl) h2 z2
 obtain ⟨a2_0, n2_0, e2, hb2_0, hs2_0⟩ := R2
 obtain rfl : v2 = .slice a2_0 x2.length n2_0 := by cases e2; rfl
 obtain ⟨N, hN⟩ := evals_row x0 x1 x2 Q0 Q1 Q2
 refine (c_law06_RulesEvals N W (memOf W) (fun _ _ h => h) (glob_of hL hsh) x0 a0_2 n0_2 hb0_2 hs0_2 x1 a1_0 n1_0 hb1_0 hs1_0 x2 a2_0 n2_0 hb2_0 hs2_0 true hN).mono fun e W' he => ?_
 obtain ⟨r, F', rfl, hs, rfl⟩ := he
 refine ⟨_, rfl, post_grown (by kernel_rfl) (tb := 4) ?_ rfl hW' (by kernel_rfl) (by kernel_rfl) ?_ hs⟩
 ·intro t ht
  rw [Tryz.params7] at ht
  simp only [List.mem_cons, List.not_mem_nil, or_false] at ht
  rcases ht with rfl | rfl | rfl <;> exact ⟨by kernel_rfl, by decide +kernel⟩
 ·intro _; rfl
set_option maxRecDepth 100000 in
theorem jf_rulesEvals_0 : (Rows.rulesEvalsRow.wf (OpenSpec.ofChange Rows.rulesEvalsSpec)) = true := by kernel_rfl
set_option maxRecDepth 100000 in
theorem jf_rulesEvals_3 : (Tryz.f7.params.all (Tryz.pinned.checked.prog.readableRec ·)) = true := by kernel_rfl
set_option maxRecDepth 100000 in
theorem jf_rulesEvals_4 : (namedTie Tryz.pinned.checked.prog Rows.rulesEvalsRow.named Rows.rulesEvalsSpec.vars) = true := by kernel_rfl
set_option maxRecDepth 100000 in
theorem jf_rulesEvals_5 : ((Rows.rulesEvalsRow.stops == [])) = true := by kernel_rfl
set_option maxRecDepth 100000 in
theorem jf_rulesEvals_7 : ((Rows.rulesEvalsRow.knobs == [])) = true := by kernel_rfl
set_option maxRecDepth 100000 in
theorem jf_rulesEvals_9 : ((Rows.rulesEvalsRow.inPlace == Tryz.pinned.checked.prog.inPlace 7)) = true := by kernel_rfl
set_option maxRecDepth 100000 in
theorem jf_rulesEvals_10 : ((Rows.rulesEvalsRow.unfollowed == Tryz.pinned.checked.prog.unfollowed 7)) = true := by kernel_rfl
set_option maxRecDepth 100000 in
theorem jf_rulesEvals_11 : ((Rows.rulesEvalsRow.recurses == Tryz.pinned.checked.prog.recurses 7)) = true := by kernel_rfl
set_option maxRecDepth 100000 in
theorem jf_rulesEvals_12 : ((Rows.rulesEvalsRow.named == Tryz.pinned.checked.prog.varsNamed 7)) = true := by kernel_rfl
set_option maxRecDepth 100000 in
theorem jf_rulesEvals_13 : ((Rows.rulesEvalsRow.maps == (Tryz.f7.params.toList ++ Rows.rulesEvalsSpec.plain.varTypes Tryz.pinned.checked.prog).any (Tryz.pinned.checked.prog.mapsRec ·))) = true := by kernel_rfl
set_option maxRecDepth 100000 in
theorem jf_rulesEvals_14 : ((Rows.rulesEvalsRow.ifaces == (Tryz.f7.params.toList ++ Rows.rulesEvalsSpec.plain.varTypes Tryz.pinned.checked.prog).any (Tryz.pinned.checked.prog.ifacesRec ·))) = true := by kernel_rfl
set_option maxRecDepth 100000 in
theorem jf_rulesEvals_15 : ((Rows.rulesEvalsRow.mapsOut == Tryz.pinned.checked.prog.mapsAmong Tryz.f7.resultTypes.toList)) = true := by kernel_rfl
set_option maxRecDepth 100000 in
theorem jf_rulesEvals_16 : ((Rows.rulesEvalsRow.loops == (Tryz.f7.params.toList ++ Rows.rulesEvalsSpec.plain.varTypes Tryz.pinned.checked.prog).any (Tryz.pinned.checked.prog.loopsFrom ·))) = true := by kernel_rfl
set_option maxRecDepth 100000 in
theorem jf_rulesEvals_17 : ((Rows.rulesEvalsRow.wideKeys == (Tryz.f7.params.toList ++ Rows.rulesEvalsSpec.plain.varTypes Tryz.pinned.checked.prog ++ Tryz.f7.resultTypes.toList).any (Tryz.pinned.checked.prog.wideKeysFrom ·))) = true := by kernel_rfl
set_option maxRecDepth 100000 in
theorem jf_rulesEvals_18 : (Rows.rulesEvalsSpec.vars.all (Tryz.pinned.checked.prog.varReadable ·)) = true := by kernel_rfl
set_option maxRecDepth 100000 in
theorem jf_rulesEvals_19 : (Tryz.f7.resultTypes.all (fun t => Tryz.pinned.checked.prog.readableRec t && decide (t < Tryz.pinned.checked.prog.types.size))) = true := by kernel_rfl
set_option maxRecDepth 100000 in
theorem jf_rulesEvals_20 : ((Rows.rulesEvalsRow.ifacesOut == Tryz.f7.resultTypes.toList.any (Tryz.pinned.checked.prog.ifacesRec ·))) = true := by kernel_rfl
set_option maxRecDepth 100000 in
theorem jf_rulesEvals_21 : ((Rows.rulesEvalsRow.loopsOut == Tryz.f7.resultTypes.toList.any (Tryz.pinned.checked.prog.loopsFrom ·))) = true := by kernel_rfl
theorem jf_rulesEvals_22 : ((Rows.rulesEvalsRow.plainKeys == Tryz.pinned.checked.prog.plainKeys)) = true := by rw [← eq_of_beq fx_22]; kernel_rfl
set_option maxRecDepth 100000 in
theorem jf_rulesEvals_23 : (Rows.rulesEvalsRow.shortTexts.isNone) = true := by kernel_rfl
theorem jf_rulesEvals_26 : ((Rows.rulesEvalsRow.lifted == Tryz.pinned.checked.prog.liftsFinal)) = true := by rw [← eq_of_beq fx_26]; kernel_rfl
theorem jf_rulesEvals_27 : ((Tryz.pinned.checked.prog.make == some Rows.rulesEvalsRow.make)) = true := by rw [eq_of_beq fx_27]; kernel_rfl
set_option maxRecDepth 100000 in
theorem jf_rulesEvals_29 : ((Rows.rulesEvalsRow.pinned == Rows.rulesEvalsRow.pinnedBy)) = true := by kernel_rfl
set_option maxRecDepth 100000 in
theorem jf_rulesEvals_30 : ((Rows.rulesEvalsRow.veiled == (Tryz.f7.params.toList ++ Rows.rulesEvalsSpec.plain.varTypes Tryz.pinned.checked.prog ++ Tryz.f7.resultTypes.toList).any (Tryz.pinned.checked.prog.veiledRec ·))) = true := by kernel_rfl
set_option maxRecDepth 100000 in
theorem jf_rulesEvals_31 : (Rows.rulesEvalsRow.veiledFits Tryz.pinned.checked.prog Tryz.f7.params.toList (Tryz.f7.params.toList ++ Rows.rulesEvalsSpec.plain.varTypes Tryz.pinned.checked.prog ++ Tryz.f7.resultTypes.toList)) = true := by kernel_rfl
theorem jf_rulesEvals : joinedFacts Tryz.pinned.checked.prog 7 Tryz.f7 Rows.rulesEvalsSpec Rows.rulesEvalsRow = true := and_tt (and_tt (and_tt (and_tt (and_tt (and_tt (and_tt (and_tt (and_tt (and_tt (and_tt (and_tt (and_tt (and_tt (and_tt (and_tt (and_tt (and_tt (and_tt (and_tt (and_tt (and_tt (and_tt (and_tt (and_tt (and_tt (and_tt (and_tt (and_tt (and_tt (and_tt (jf_rulesEvals_0) (fx_1)) (fx_2)) (jf_rulesEvals_3)) (jf_rulesEvals_4)) (jf_rulesEvals_5)) (fx_6)) (jf_rulesEvals_7)) (fx_8)) (jf_rulesEvals_9)) (jf_rulesEvals_10)) (jf_rulesEvals_11)) (jf_rulesEvals_12)) (jf_rulesEvals_13)) (jf_rulesEvals_14)) (jf_rulesEvals_15)) (jf_rulesEvals_16)) (jf_rulesEvals_17)) (jf_rulesEvals_18)) (jf_rulesEvals_19)) (jf_rulesEvals_20)) (jf_rulesEvals_21)) (jf_rulesEvals_22)) (jf_rulesEvals_23)) (fx_24)) (fx_25)) (jf_rulesEvals_26)) (jf_rulesEvals_27)) (by kernel_rfl)) (jf_rulesEvals_29)) (jf_rulesEvals_30)) (jf_rulesEvals_31)
theorem jn_rulesEvals : Tryz.pinned.checked.prog.funcNamed Rows.rulesEvalsRow.func = some 7 := by kernel_rfl
theorem ji_rulesEvals : Tryz.f7.isInstance Tryz.pinned.checked.prog Rows.rulesEvalsRow.origin Rows.rulesEvalsRow.targs := of_decide_eq_true (by kernel_rfl)
theorem jw_rulesEvals : Tryz.f7.isWrapper Tryz.pinned.checked.prog Rows.rulesEvalsRow.wrapper Rows.rulesEvalsRow.mainSum := by unfold Func.isWrapper; first | (rw [if_pos (by decide +kernel)]; kernel_rfl) | (rw [if_neg (by decide +kernel)]; exact ⟨rfl, rfl⟩)
theorem rulesEvals_row_holds : Rows.RulesEvalsSaid :=
 OpenClaim.holds_of_wide 7 Tryz.f7 rfl rfl rfl rfl rfl rfl rfl ⟨rfl, rfl, rfl, rfl, rfl⟩ rfl rfl rfl rfl rfl jn_rulesEvals Tryz.func7 jf_rulesEvals ji_rulesEvals jw_rulesEvals
  (fun os started H enc _ => lifted_rulesEvals os started H enc)
theorem jb_rulesEvals : Rows.rulesEvalsRow.wfByText (OpenSpec.ofChange Rows.rulesEvalsSpec) = true := by kernel_rfl
theorem js_rulesEvals : ([33, 23, 47].all fun u => !Tryz.prog.wantsStandIn u) = true := by kernel_rfl
theorem jg_rulesEvals : false = Rows.rulesEvalsRow.goesBy Tryz.pinned.checked.prog := by kernel_rfl
theorem rulesEvals_proved : Rows.RulesEvalsCardSaid :=
 Claim7.holds_tied_plain_at .later [] [.data, .data, .data, .sentinel, .sentinel] true (true, "9ef67a4cb07571d798ed60e513598468ebe5a66f3455e0900720288bced703b8") true rulesEvals_row_holds (fun _ h => by cases h) jb_rulesEvals (fun _ h => by cases h) rulesEvals_row_tie rfl ⟨rfl, rfl⟩ fx_main rfl
  (fun f fn hf hfn => by
   obtain rfl : f = 7 := (Option.some.inj (jn_rulesEvals.symm.trans hf)).symm
   obtain rfl : fn = Tryz.f7 := (Option.some.inj (Tryz.func7.symm.trans hfn)).symm
   exact ⟨fx_looks, fun j t ht => by
    rw [Tryz.params7] at ht
    have hm : t ∈ [33, 23, 47] := by simpa using Array.mem_of_getElem? ht
    exact (show Tryz.prog.wantsStandIn t = false by simpa using List.all_eq_true.1 js_rulesEvals t hm)⟩)
  jg_rulesEvals
end Go.Proofs.YtaihlcdkcampbaaGreatDoor
