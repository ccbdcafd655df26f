/- RulesParses: for every input the law returns true, and each argument reads afterwards as it read before. No condition. -/
import Derived.Test.YtaihlcdkcampbaaGreatDoorE3x6
set_option linter.unusedVariables false
set_option linter.unusedSimpArgs false
set_option linter.unusedSectionVars false
set_option maxHeartbeats 4000000
set_option maxRecDepth 100000
namespace Go.Proofs.YtaihlcdkcampbaaGreatDoor
section
open Go.ChangeShapes Go.WideShapes Go.ChangeAt Go.RowKit
set_option maxRecDepth 100000 in
theorem I8 (os : Os) (started : os.Started) (H : Type) (enc : TypeId × Value -> H) :
  ReturnsInHanded {} Tryz.checked os 3 .any (fun w args => (Rows.rulesParsesSpec.pre enc Tryz.prog Tryz.f3 Rows.rulesParsesRow.domain false w args /\ laidMetH Tryz.prog Rows.rulesParsesRow.laid w) /\ sizedMet enc Tryz.prog Tryz.f3 (OpenSpec.ofChange Rows.rulesParsesSpec) false w args) (Rows.rulesParsesSpec.post enc Tryz.prog Tryz.f3 false true false false) := by
 refine Ol (C := Tryz.checked) (X := fun w _ => laidMetH Tryz.prog JA w) (fun _ _ _ hh h => h.of_heap hh) Qx started (by kernel_rfl) Tryz.func3
  (ChangeSpec.witness_shaped (enc := enc) (C := Tryz.checked) (os := os) (X := fun w _ => laidMetH Tryz.prog JA w) false (World.laidAll Tryz.prog os JA) #[.string ByteArray.empty] 8 (World.laidAll_os _ _ _)
   (World.shaped_of_ZipB (by kernel_rfl) (by kernel_rfl)) (by kernel_rfl) (by kernel_rfl) (by kernel_rfl) (PX os _)) ?_
 intro W base args ds gs before hval0 hW hsz hL hsh
 have hval : ∀ (j : Nat) t v, Tryz.f3.params[j]? = some t -> args[j]? = some v -> Value.okWide Tryz.prog W .any base t v := hval0
 have hW' := hW
 obtain ⟨p, q, hA0, hV, rfl, hfz, hnd⟩ := hW
 have hA : DataW.TrodAll enc Tryz.prog W 0 (fun _ => true) true Tryz.f3.params.toList args.toList ds p := hA0
 rw [Tryz.params3] at hA hval
 obtain ⟨v0, vs0, d0, ds0, p0, q0, hargs, rfl, rfl, h0, r0⟩ := trodAll_cons hA
 obtain ⟨rfl, rfl, rfl⟩ := trodAll_nil r0
 obtain rfl : args = #[v0] := by cases args; simp_all
 have z0 : SzW Tryz.prog 9 d0 := SzW.each hsz (j := 0) (by kernel_rfl) rfl
 obtain ⟨x0, R0, Q0⟩ := Ou.one (PL (t := 9) (by kernel_rfl) (by kernel_rfl) : Ou Tryz.prog 9 Fe rS) (by kernel_rfl) (hval 0 9 v0 rfl rfl) h0 z0
 have e0 : [v0] = [.string ⟨x0.toArray⟩] := R0
 cases e0
 obtain ⟨N, hN⟩ := OO x0 Q0
 refine (Iv N W (Od W) (fun _ _ h => h) (RI hL hsh) x0 true hN).mono fun e W' he => ?_
 obtain ⟨r, F', rfl, hs, rfl⟩ := he
 refine ⟨_, rfl, OK (by kernel_rfl) (tb := 4) ?_ rfl hW' (by kernel_rfl) (by kernel_rfl) ?_ hs⟩
 ·intro t ht
  rw [Tryz.params3] at ht
  simp only [List.mem_cons, List.not_mem_nil, or_false] at ht
  subst ht; exact ⟨by kernel_rfl, by decide +kernel⟩
 ·intro _; rfl
set_option maxRecDepth 100000 in
theorem Kv : (Rows.rulesParsesRow.wf (OpenSpec.ofChange Rows.rulesParsesSpec)) = true := by kernel_rfl
set_option maxRecDepth 100000 in
theorem Ku : (Tryz.f3.params.all (Tryz.pinned.checked.prog.readableRec ·)) = true := by kernel_rfl
set_option maxRecDepth 100000 in
theorem Kt : (namedTie Tryz.pinned.checked.prog Rows.rulesParsesRow.named Rows.rulesParsesSpec.vars) = true := by kernel_rfl
set_option maxRecDepth 100000 in
theorem Ks : ((Rows.rulesParsesRow.stops == [])) = true := by kernel_rfl
set_option maxRecDepth 100000 in
theorem Kr : ((Rows.rulesParsesRow.knobs == [])) = true := by kernel_rfl
set_option maxRecDepth 100000 in
theorem Kq : ((Rows.rulesParsesRow.inPlace == Tryz.pinned.checked.prog.inPlace 3)) = true := by kernel_rfl
set_option maxRecDepth 100000 in
theorem JU : ((Rows.rulesParsesRow.unfollowed == Tryz.pinned.checked.prog.unfollowed 3)) = true := by kernel_rfl
set_option maxRecDepth 100000 in
theorem JT : ((Rows.rulesParsesRow.recurses == Tryz.pinned.checked.prog.recurses 3)) = true := by kernel_rfl
set_option maxRecDepth 100000 in
theorem JS : ((Rows.rulesParsesRow.named == Tryz.pinned.checked.prog.varsNamed 3)) = true := by kernel_rfl
set_option maxRecDepth 100000 in
theorem JR : ((Rows.rulesParsesRow.maps == (Tryz.f3.params.toList ++ Rows.rulesParsesSpec.plain.varTypes Tryz.pinned.checked.prog).any (Tryz.pinned.checked.prog.mapsRec ·))) = true := by kernel_rfl
set_option maxRecDepth 100000 in
theorem JQ : ((Rows.rulesParsesRow.ifaces == (Tryz.f3.params.toList ++ Rows.rulesParsesSpec.plain.varTypes Tryz.pinned.checked.prog).any (Tryz.pinned.checked.prog.ifacesRec ·))) = true := by kernel_rfl
set_option maxRecDepth 100000 in
theorem JP : ((Rows.rulesParsesRow.mapsOut == Tryz.pinned.checked.prog.mapsAmong Tryz.f3.resultTypes.toList)) = true := by kernel_rfl
set_option maxRecDepth 100000 in
theorem JO : ((Rows.rulesParsesRow.loops == (Tryz.f3.params.toList ++ Rows.rulesParsesSpec.plain.varTypes Tryz.pinned.checked.prog).any (Tryz.pinned.checked.prog.loopsFrom ·))) = true := by kernel_rfl
set_option maxRecDepth 100000 in
theorem JN : ((Rows.rulesParsesRow.wideKeys == (Tryz.f3.params.toList ++ Rows.rulesParsesSpec.plain.varTypes Tryz.pinned.checked.prog ++ Tryz.f3.resultTypes.toList).any (Tryz.pinned.checked.prog.wideKeysFrom ·))) = true := by kernel_rfl
set_option maxRecDepth 100000 in
theorem JM : (Rows.rulesParsesSpec.vars.all (Tryz.pinned.checked.prog.varReadable ·)) = true := by kernel_rfl
set_option maxRecDepth 100000 in
theorem JL : (Tryz.f3.resultTypes.all (fun t => Tryz.pinned.checked.prog.readableRec t && decide (t < Tryz.pinned.checked.prog.types.size))) = true := by kernel_rfl
set_option maxRecDepth 100000 in
theorem JK : ((Rows.rulesParsesRow.ifacesOut == Tryz.f3.resultTypes.toList.any (Tryz.pinned.checked.prog.ifacesRec ·))) = true := by kernel_rfl
set_option maxRecDepth 100000 in
theorem JJ : ((Rows.rulesParsesRow.loopsOut == Tryz.f3.resultTypes.toList.any (Tryz.pinned.checked.prog.loopsFrom ·))) = true := by kernel_rfl
theorem JI : ((Rows.rulesParsesRow.plainKeys == Tryz.pinned.checked.prog.plainKeys)) = true := by rw [<- eq_of_beq SR]; kernel_rfl
set_option maxRecDepth 100000 in
theorem JH : Rows.rulesParsesRow.shortTexts.isNone = true := by kernel_rfl
theorem JG : ((Rows.rulesParsesRow.lifted == Tryz.pinned.checked.prog.liftsFinal)) = true := by rw [<- eq_of_beq SO]; kernel_rfl
theorem JF : ((Tryz.pinned.checked.prog.make == some Rows.rulesParsesRow.make)) = true := by rw [eq_of_beq SN]; kernel_rfl
set_option maxRecDepth 100000 in
theorem JE : ((Rows.rulesParsesRow.pinned == Rows.rulesParsesRow.pinnedBy)) = true := by kernel_rfl
set_option maxRecDepth 100000 in
theorem JD : ((Rows.rulesParsesRow.veiled == (Tryz.f3.params.toList ++ Rows.rulesParsesSpec.plain.varTypes Tryz.pinned.checked.prog ++ Tryz.f3.resultTypes.toList).any (Tryz.pinned.checked.prog.veiledRec ·))) = true := by kernel_rfl
set_option maxRecDepth 100000 in
theorem JC : (Rows.rulesParsesRow.veiledFits Tryz.pinned.checked.prog Tryz.f3.params.toList (Tryz.f3.params.toList ++ Rows.rulesParsesSpec.plain.varTypes Tryz.pinned.checked.prog ++ Tryz.f3.resultTypes.toList)) = true := by kernel_rfl
theorem LS : joinedFacts Tryz.pinned.checked.prog 3 Tryz.f3 Rows.rulesParsesSpec Rows.rulesParsesRow = true := BZ (BZ (BZ (BZ (BZ (BZ (BZ (BZ (BZ (BZ (BZ (BZ (BZ (BZ (BZ (BZ (BZ (BZ (BZ (BZ (BZ (BZ (BZ (BZ (BZ (BZ (BZ (BZ (BZ (BZ (BZ Kv Td) Tc) Ku) Kt) Ks) Tb) Kr) Ta) Kq) JU) JT) JS) JR) JQ) JP) JO) JN) JM) JL) JK) JJ) JI) JH) SQ) SP) JG) JF) (by kernel_rfl)) JE) JD) JC
theorem Hs : Tryz.pinned.checked.prog.funcNamed Rows.rulesParsesRow.func = some 3 := by kernel_rfl
theorem LQ : Tryz.f3.isInstance Tryz.pinned.checked.prog Rows.rulesParsesRow.origin Rows.rulesParsesRow.targs := of_decide_eq_true (by kernel_rfl)
theorem LO : Tryz.f3.isWrapper Tryz.pinned.checked.prog Rows.rulesParsesRow.wrapper Rows.rulesParsesRow.mainSum := by unfold Func.isWrapper; first | (rw [if_pos (by decide +kernel)]; kernel_rfl) | (rw [if_neg (by decide +kernel)]; exact ⟨rfl, rfl⟩)
theorem Ha : Rows.RulesParsesSaid :=
 OpenClaim.holds_of_wide 3 Tryz.f3 rfl rfl rfl rfl rfl rfl rfl ⟨rfl, rfl, rfl, rfl, rfl⟩ rfl rfl rfl rfl rfl Hs Tryz.func3 LS LQ LO
  (fun os started H enc _ => I8 os started H enc)
theorem LT : Rows.rulesParsesRow.wfByText (OpenSpec.ofChange Rows.rulesParsesSpec) = true := by kernel_rfl
theorem LP : ([9].all fun u => !Tryz.prog.wantsStandIn u) = true := by kernel_rfl
theorem LR : false = Rows.rulesParsesRow.goesBy Tryz.pinned.checked.prog := by kernel_rfl
theorem rulesParses_proved : Rows.RulesParsesCardSaid :=
 Claim7.holds_tied_plain_at .later [] [.data, .data, .data, .sentinel, .sentinel] true (true, "9ef67a4cb07571d798ed60e513598468ebe5a66f3455e0900720288bced703b8") true Ha (fun _ h => by cases h) LT (fun _ h => by cases h) rulesParses_row_tie rfl ⟨rfl, rfl⟩ RJ rfl
  (fun f fn hf hfn => by
   obtain rfl : f = 3 := (Option.some.inj (Hs.symm.trans hf)).symm
   obtain rfl : fn = Tryz.f3 := (Option.some.inj (Tryz.func3.symm.trans hfn)).symm
   exact ⟨QJ, fun j t ht => by
    rw [Tryz.params3] at ht
    have hm : t ∈ [9] := by simpa using Array.mem_of_getElem? ht
    exact (show Tryz.prog.wantsStandIn t = false by simpa using List.all_eq_true.1 LP t hm)⟩)
  LR
end
end Go.Proofs.YtaihlcdkcampbaaGreatDoor
