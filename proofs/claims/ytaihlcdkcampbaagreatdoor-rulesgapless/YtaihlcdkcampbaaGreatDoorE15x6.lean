/- RulesGapless: for every input the law returns true, and each argument reads afterwards as it read before. No condition. -/
import Derived.Test.YtaihlcdkcampbaaGreatDoorE15x5
set_option linter.unusedVariables false
set_option linter.unusedSimpArgs false
set_option linter.unusedSectionVars false
set_option maxHeartbeats 4000000
set_option maxRecDepth 100000
namespace Go.Proofs.YtaihlcdkcampbaaGreatDoor
open Go.ChangeShapes Go.WideShapes Go.ChangeAt Go.RowKit
set_option maxRecDepth 100000 in
theorem lifted_rulesGapless (os : Os) (started : os.Started) (H : Type) (enc : TypeId × Value → H) :
  ReturnsInHanded {} Tryz.checked os 15 .any (fun w args => (Rows.rulesGaplessSpec.pre enc Tryz.prog Tryz.f15 Rows.rulesGaplessRow.domain false w args ∧ laidMetH Tryz.prog Rows.rulesGaplessRow.laid w) ∧ sizedMet enc Tryz.prog Tryz.f15 (OpenSpec.ofChange Rows.rulesGaplessSpec) false w args) (Rows.rulesGaplessSpec.post enc Tryz.prog Tryz.f15 false true false false) := by
 refine handed_laid (C := Tryz.checked) (X := fun w _ => laidMetH Tryz.prog laid7 w) (fun _ _ _ hh h => h.of_heap hh) own_knob started (by kernel_rfl) Tryz.func15
  (ChangeSpec.witness_shaped (enc := enc) (C := Tryz.checked) (os := os) (X := fun w _ => laidMetH Tryz.prog laid7 w) false (World.laidAll Tryz.prog os laid7) #[.slice none 0 0, .slice none 0 0, .slice none 0 0] 8 (World.laidAll_os _ _ _)
   (World.shaped_of_ZipB (by kernel_rfl) (by kernel_rfl)) (by kernel_rfl) (by kernel_rfl) (by kernel_rfl) (door_met7 os _)) ?_
 intro W base args ds gs before hval0 hW hsz hL hsh
 have hval : ∀ (j : Nat) t v, Tryz.f15.params[j]? = some t → args[j]? = some v → Value.okWide Tryz.prog W .any base t v := hval0
 have hW' := hW
 obtain ⟨p, q, hA0, hV, rfl, hfz, hnd⟩ := hW
 have hA : DataW.TrodAll enc Tryz.prog W 0 (fun _ => true) true Tryz.f15.params.toList args.toList ds p := hA0
 rw [Tryz.params15] at hA hval
 obtain ⟨v0, vs0, d0, ds0, p0, q0, hargs, rfl, rfl, h0, r0⟩ := trodAll_cons hA
 obtain ⟨v1, vs1, d1, ds1, p1, q1, rfl, rfl, rfl, h1, r1⟩ := trodAll_cons r0
 obtain ⟨v2, vs2, d2, ds2, p2, q2, rfl, rfl, rfl, h2, r2⟩ := trodAll_cons r1
 obtain ⟨rfl, rfl, rfl⟩ := trodAll_nil r2
 obtain rfl : args = #[v0, v1, v2] := by cases args; simp_all
 have z0 : SzW Tryz.prog 23 d0 := SzW.each hsz (j := 0) (by kernel_rfl) rfl
 obtain ⟨x0, R0, Q0⟩ := Opens.one (opens_slice (t := 23) opens_Clause_56 (by decide) (by kernel_rfl) (by kernel_rfl) : Opens Tryz.prog 23 (tSl tClause) _) (by kernel_rfl) (hval 0 23 v0 rfl rfl) h0 z0
 obtain ⟨a0_0, n0_0, e0, hb0_0, hs0_0⟩ := R0
 obtain rfl : v0 = .slice a0_0 x0.length n0_0 := by cases e0; rfl
 have z1 : SzW Tryz.prog 68 d1 := SzW.each hsz (j := 1) (by kernel_rfl) rfl
 obtain ⟨x1, R1, Q1⟩ := Opens.one (opens_slice (t := 68) opens_Span_72 (by decide) (by kernel_rfl) (by kernel_rfl) : Opens Tryz.prog 68 (tSl tSpan) _) (by kernel_rfl) (hval 1 68 v1 rfl rfl) h1 z1
 obtain ⟨a1_0, n1_0, e1, hb1_0, hs1_0⟩ := R1
 obtain rfl : v1 = .slice a1_0 x1.length n1_0 := by cases e1; rfl
 have z2 : SzW Tryz.prog 68 d2 := SzW.each hsz (j := 2) (by kernel_rfl) rfl
 obtain ⟨x2, R2, Q2⟩ := Opens.one (opens_slice (t := 68) opens_Span_72 (by decide) (by kernel_rfl) (by kernel_rfl) : Opens Tryz.prog 68 (tSl tSpan) _) (by kernel_rfl) (hval 2 68 v2 rfl rfl) h2 z2
 obtain ⟨a2_0, n2_0, e2, hb2_0, hs2_0⟩ := R2
 obtain rfl : v2 = .slice a2_0 x2.length n2_0 := by cases e2; rfl
 obtain ⟨N, hN⟩ := gapless_row x0 x1 x2 Q0 Q1 Q2
 refine (c_law06_RulesGapless N W (memOf W) (fun _ _ h => h) (glob_of hL hsh) x0 a0_0 n0_0 hb0_0 hs0_0 x1 a1_0 n1_0 hb1_0 hs1_0 x2 a2_0 n2_0 hb2_0 hs2_0 true hN).mono fun e W' he => ?_
 obtain ⟨r, F', rfl, hs, rfl⟩ := he
 refine ⟨_, rfl, post_grown (by kernel_rfl) (tb := 4) ?_ rfl hW' (by kernel_rfl) (by kernel_rfl) ?_ hs⟩
 ·intro t ht
  rw [Tryz.params15] at ht
  simp only [List.mem_cons, List.not_mem_nil, or_false] at ht
  rcases ht with rfl | rfl | rfl <;> exact ⟨by kernel_rfl, by decide +kernel⟩
 ·intro _; rfl
set_option maxRecDepth 100000 in
theorem jf_rulesGapless_0 : (Rows.rulesGaplessRow.wf (OpenSpec.ofChange Rows.rulesGaplessSpec)) = true := by kernel_rfl
set_option maxRecDepth 100000 in
theorem jf_rulesGapless_3 : (Tryz.f15.params.all (Tryz.pinned.checked.prog.readableRec ·)) = true := by kernel_rfl
set_option maxRecDepth 100000 in
theorem jf_rulesGapless_4 : (namedTie Tryz.pinned.checked.prog Rows.rulesGaplessRow.named Rows.rulesGaplessSpec.vars) = true := by kernel_rfl
set_option maxRecDepth 100000 in
theorem jf_rulesGapless_5 : ((Rows.rulesGaplessRow.stops == [])) = true := by kernel_rfl
set_option maxRecDepth 100000 in
theorem jf_rulesGapless_7 : ((Rows.rulesGaplessRow.knobs == [])) = true := by kernel_rfl
set_option maxRecDepth 100000 in
theorem jf_rulesGapless_9 : ((Rows.rulesGaplessRow.inPlace == Tryz.pinned.checked.prog.inPlace 15)) = true := by kernel_rfl
set_option maxRecDepth 100000 in
theorem jf_rulesGapless_10 : ((Rows.rulesGaplessRow.unfollowed == Tryz.pinned.checked.prog.unfollowed 15)) = true := by kernel_rfl
set_option maxRecDepth 100000 in
theorem jf_rulesGapless_11 : ((Rows.rulesGaplessRow.recurses == Tryz.pinned.checked.prog.recurses 15)) = true := by kernel_rfl
set_option maxRecDepth 100000 in
theorem jf_rulesGapless_12 : ((Rows.rulesGaplessRow.named == Tryz.pinned.checked.prog.varsNamed 15)) = true := by kernel_rfl
set_option maxRecDepth 100000 in
theorem jf_rulesGapless_13 : ((Rows.rulesGaplessRow.maps == (Tryz.f15.params.toList ++ Rows.rulesGaplessSpec.plain.varTypes Tryz.pinned.checked.prog).any (Tryz.pinned.checked.prog.mapsRec ·))) = true := by kernel_rfl
set_option maxRecDepth 100000 in
theorem jf_rulesGapless_14 : ((Rows.rulesGaplessRow.ifaces == (Tryz.f15.params.toList ++ Rows.rulesGaplessSpec.plain.varTypes Tryz.pinned.checked.prog).any (Tryz.pinned.checked.prog.ifacesRec ·))) = true := by kernel_rfl
set_option maxRecDepth 100000 in
theorem jf_rulesGapless_15 : ((Rows.rulesGaplessRow.mapsOut == Tryz.pinned.checked.prog.mapsAmong Tryz.f15.resultTypes.toList)) = true := by kernel_rfl
set_option maxRecDepth 100000 in
theorem jf_rulesGapless_16 : ((Rows.rulesGaplessRow.loops == (Tryz.f15.params.toList ++ Rows.rulesGaplessSpec.plain.varTypes Tryz.pinned.checked.prog).any (Tryz.pinned.checked.prog.loopsFrom ·))) = true := by kernel_rfl
set_option maxRecDepth 100000 in
theorem jf_rulesGapless_17 : ((Rows.rulesGaplessRow.wideKeys == (Tryz.f15.params.toList ++ Rows.rulesGaplessSpec.plain.varTypes Tryz.pinned.checked.prog ++ Tryz.f15.resultTypes.toList).any (Tryz.pinned.checked.prog.wideKeysFrom ·))) = true := by kernel_rfl
set_option maxRecDepth 100000 in
theorem jf_rulesGapless_18 : (Rows.rulesGaplessSpec.vars.all (Tryz.pinned.checked.prog.varReadable ·)) = true := by kernel_rfl
set_option maxRecDepth 100000 in
theorem jf_rulesGapless_19 : (Tryz.f15.resultTypes.all (fun t => Tryz.pinned.checked.prog.readableRec t && decide (t < Tryz.pinned.checked.prog.types.size))) = true := by kernel_rfl
set_option maxRecDepth 100000 in
theorem jf_rulesGapless_20 : ((Rows.rulesGaplessRow.ifacesOut == Tryz.f15.resultTypes.toList.any (Tryz.pinned.checked.prog.ifacesRec ·))) = true := by kernel_rfl
set_option maxRecDepth 100000 in
theorem jf_rulesGapless_21 : ((Rows.rulesGaplessRow.loopsOut == Tryz.f15.resultTypes.toList.any (Tryz.pinned.checked.prog.loopsFrom ·))) = true := by kernel_rfl
theorem jf_rulesGapless_22 : ((Rows.rulesGaplessRow.plainKeys == Tryz.pinned.checked.prog.plainKeys)) = true := by rw [← eq_of_beq fx_22]; kernel_rfl
set_option maxRecDepth 100000 in
theorem jf_rulesGapless_23 : (Rows.rulesGaplessRow.shortTexts.isNone) = true := by kernel_rfl
theorem jf_rulesGapless_26 : ((Rows.rulesGaplessRow.lifted == Tryz.pinned.checked.prog.liftsFinal)) = true := by rw [← eq_of_beq fx_26]; kernel_rfl
theorem jf_rulesGapless_27 : ((Tryz.pinned.checked.prog.make == some Rows.rulesGaplessRow.make)) = true := by rw [eq_of_beq fx_27]; kernel_rfl
set_option maxRecDepth 100000 in
theorem jf_rulesGapless_29 : ((Rows.rulesGaplessRow.pinned == Rows.rulesGaplessRow.pinnedBy)) = true := by kernel_rfl
set_option maxRecDepth 100000 in
theorem jf_rulesGapless_30 : ((Rows.rulesGaplessRow.veiled == (Tryz.f15.params.toList ++ Rows.rulesGaplessSpec.plain.varTypes Tryz.pinned.checked.prog ++ Tryz.f15.resultTypes.toList).any (Tryz.pinned.checked.prog.veiledRec ·))) = true := by kernel_rfl
set_option maxRecDepth 100000 in
theorem jf_rulesGapless_31 : (Rows.rulesGaplessRow.veiledFits Tryz.pinned.checked.prog Tryz.f15.params.toList (Tryz.f15.params.toList ++ Rows.rulesGaplessSpec.plain.varTypes Tryz.pinned.checked.prog ++ Tryz.f15.resultTypes.toList)) = true := by kernel_rfl
theorem jf_rulesGapless : joinedFacts Tryz.pinned.checked.prog 15 Tryz.f15 Rows.rulesGaplessSpec Rows.rulesGaplessRow = true := and_tt (and_tt (and_tt (and_tt (and_tt (and_tt (and_tt (and_tt (and_tt (and_tt (and_tt (and_tt (and_tt (and_tt (and_tt (and_tt (and_tt (and_tt (and_tt (and_tt (and_tt (and_tt (and_tt (and_tt (and_tt (and_tt (and_tt (and_tt (and_tt (and_tt (and_tt (jf_rulesGapless_0) (fx_1)) (fx_2)) (jf_rulesGapless_3)) (jf_rulesGapless_4)) (jf_rulesGapless_5)) (fx_6)) (jf_rulesGapless_7)) (fx_8)) (jf_rulesGapless_9)) (jf_rulesGapless_10)) (jf_rulesGapless_11)) (jf_rulesGapless_12)) (jf_rulesGapless_13)) (jf_rulesGapless_14)) (jf_rulesGapless_15)) (jf_rulesGapless_16)) (jf_rulesGapless_17)) (jf_rulesGapless_18)) (jf_rulesGapless_19)) (jf_rulesGapless_20)) (jf_rulesGapless_21)) (jf_rulesGapless_22)) (jf_rulesGapless_23)) (fx_24)) (fx_25)) (jf_rulesGapless_26)) (jf_rulesGapless_27)) (by kernel_rfl)) (jf_rulesGapless_29)) (jf_rulesGapless_30)) (jf_rulesGapless_31)
theorem jn_rulesGapless : Tryz.pinned.checked.prog.funcNamed Rows.rulesGaplessRow.func = some 15 := by kernel_rfl
theorem ji_rulesGapless : Tryz.f15.isInstance Tryz.pinned.checked.prog Rows.rulesGaplessRow.origin Rows.rulesGaplessRow.targs := of_decide_eq_true (by kernel_rfl)
theorem jw_rulesGapless : Tryz.f15.isWrapper Tryz.pinned.checked.prog Rows.rulesGaplessRow.wrapper Rows.rulesGaplessRow.mainSum := by unfold Func.isWrapper; first | (rw [if_pos (by decide +kernel)]; kernel_rfl) | (rw [if_neg (by decide +kernel)]; exact ⟨rfl, rfl⟩)
theorem rulesGapless_row_holds : Rows.RulesGaplessSaid :=
 OpenClaim.holds_of_wide 15 Tryz.f15 rfl rfl rfl rfl rfl rfl rfl ⟨rfl, rfl, rfl, rfl, rfl⟩ rfl rfl rfl rfl rfl jn_rulesGapless Tryz.func15 jf_rulesGapless ji_rulesGapless jw_rulesGapless
  (fun os started H enc _ => lifted_rulesGapless os started H enc)
theorem jb_rulesGapless : Rows.rulesGaplessRow.wfByText (OpenSpec.ofChange Rows.rulesGaplessSpec) = true := by kernel_rfl
theorem js_rulesGapless : ([23, 68, 68].all fun u => !Tryz.prog.wantsStandIn u) = true := by kernel_rfl
theorem jg_rulesGapless : false = Rows.rulesGaplessRow.goesBy Tryz.pinned.checked.prog := by kernel_rfl
theorem rulesGapless_proved : Rows.RulesGaplessCardSaid :=
 Claim7.holds_tied_plain_at .later [] [.data, .data, .data, .sentinel, .sentinel] true (true, "9ef67a4cb07571d798ed60e513598468ebe5a66f3455e0900720288bced703b8") true rulesGapless_row_holds (fun _ h => by cases h) jb_rulesGapless (fun _ h => by cases h) rulesGapless_row_tie rfl ⟨rfl, rfl⟩ fx_main rfl
  (fun f fn hf hfn => by
   obtain rfl : f = 15 := (Option.some.inj (jn_rulesGapless.symm.trans hf)).symm
   obtain rfl : fn = Tryz.f15 := (Option.some.inj (Tryz.func15.symm.trans hfn)).symm
   exact ⟨fx_looks, fun j t ht => by
    rw [Tryz.params15] at ht
    have hm : t ∈ [23, 68, 68] := by simpa using Array.mem_of_getElem? ht
    exact (show Tryz.prog.wantsStandIn t = false by simpa using List.all_eq_true.1 js_rulesGapless t hm)⟩)
  jg_rulesGapless
end Go.Proofs.YtaihlcdkcampbaaGreatDoor
