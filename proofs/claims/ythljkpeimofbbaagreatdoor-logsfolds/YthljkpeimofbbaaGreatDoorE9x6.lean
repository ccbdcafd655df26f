/- LogsFolds: for every input the law returns true, and each argument reads afterwards as it read before. No condition. -/
import Derived.Test.YthljkpeimofbbaaGreatDoorE9x5
set_option linter.unusedVariables false
set_option linter.unusedSimpArgs false
set_option linter.unusedSectionVars false
set_option maxHeartbeats 4000000
set_option maxRecDepth 100000
namespace Go.Proofs.YthljkpeimofbbaaGreatDoor
section
open Go.ChangeShapes Go.WideShapes Go.ChangeAt Go.RowKit
set_option maxRecDepth 100000 in
theorem IZ (os : Os) (started : os.Started) (H : Type) (enc : TypeId × Value -> H) :
  ReturnsInHanded {} Tryz.checked os 9 .any (fun w args => (Rows.logsFoldsSpec.pre enc Tryz.prog Tryz.f9 Rows.logsFoldsRow.domain false w args /\ laidMetH Tryz.prog Rows.logsFoldsRow.laid w) /\ sizedMet enc Tryz.prog Tryz.f9 (OpenSpec.ofChange Rows.logsFoldsSpec) false w args) (Rows.logsFoldsSpec.post enc Tryz.prog Tryz.f9 false true false false) := by
 refine MV (C := Tryz.checked) (X := fun w _ => laidMetH Tryz.prog Kw w) (fun _ _ _ hh h => h.of_heap hh) Pb started (by kernel_rfl) Tryz.func9
  (ChangeSpec.witness_shaped (enc := enc) (C := Tryz.checked) (os := os) (X := fun w _ => laidMetH Tryz.prog Kw w) false (World.laidAll Tryz.prog os Kw) #[.string ByteArray.empty] 8 (World.laidAll_os _ _ _)
   (World.shaped_of_ZipB (by kernel_rfl) (by kernel_rfl)) (by kernel_rfl) (by kernel_rfl) (by kernel_rfl) (OH os _)) ?_
 intro W base args ds gs before hval0 hW hsz hL hsh
 have hval : ∀ (j : Nat) t v, Tryz.f9.params[j]? = some t -> args[j]? = some v -> Value.okWide Tryz.prog W .any base t v := hval0
 have hW' := hW
 obtain ⟨p, q, hA0, hV, rfl, hfz, hnd⟩ := hW
 have hA : DataW.TrodAll enc Tryz.prog W 0 (fun _ => true) true Tryz.f9.params.toList args.toList ds p := hA0
 rw [Tryz.params9] at hA hval
 obtain ⟨v0, vs0, d0, ds0, p0, q0, hargs, rfl, rfl, h0, r0⟩ := trodAll_cons hA
 obtain ⟨rfl, rfl, rfl⟩ := trodAll_nil r0
 obtain rfl : args = #[v0] := by cases args; simp_all
 have z0 : SzW Tryz.prog 9 d0 := SzW.each hsz (j := 0) (by kernel_rfl) rfl
 obtain ⟨x0, R0, Q0⟩ := Nd.one (Ow (t := 9) (by kernel_rfl) (by kernel_rfl) : Nd Tryz.prog 9 AH rS) (by kernel_rfl) (hval 0 9 v0 rfl rfl) h0 z0
 have e0 : [v0] = [.string ⟨x0.toArray⟩] := R0
 cases e0
 refine (IH 9223372036854775808 W (LH W) (fun _ _ h => h) (Qr hL hsh) x0 true (OE x0 Q0)).mono fun e W' he => ?_
 obtain ⟨r, F', rfl, hs, rfl⟩ := he
 refine ⟨_, rfl, NC (by kernel_rfl) (tb := 4) ?_ rfl hW' (by kernel_rfl) (by kernel_rfl) ?_ hs⟩
 ·intro t ht
  rw [Tryz.params9] at ht
  simp only [List.mem_cons, List.not_mem_nil, or_false] at ht
  subst ht; exact ⟨by kernel_rfl, by decide +kernel⟩
 ·intro _; rfl
set_option maxRecDepth 100000 in
theorem KC : (Rows.logsFoldsRow.wf (OpenSpec.ofChange Rows.logsFoldsSpec)) = true := by kernel_rfl
set_option maxRecDepth 100000 in
theorem KB : (Tryz.f9.params.all (Tryz.pinned.checked.prog.readableRec ·)) = true := by kernel_rfl
set_option maxRecDepth 100000 in
theorem KA : (namedTie Tryz.pinned.checked.prog Rows.logsFoldsRow.named Rows.logsFoldsSpec.vars) = true := by kernel_rfl
set_option maxRecDepth 100000 in
theorem Kz : ((Rows.logsFoldsRow.stops == [])) = true := by kernel_rfl
set_option maxRecDepth 100000 in
theorem Ky : ((Rows.logsFoldsRow.knobs == [])) = true := by kernel_rfl
set_option maxRecDepth 100000 in
theorem Kx : ((Rows.logsFoldsRow.inPlace == Tryz.pinned.checked.prog.inPlace 9)) = true := by kernel_rfl
set_option maxRecDepth 100000 in
theorem JP : ((Rows.logsFoldsRow.unfollowed == Tryz.pinned.checked.prog.unfollowed 9)) = true := by kernel_rfl
set_option maxRecDepth 100000 in
theorem JO : ((Rows.logsFoldsRow.recurses == Tryz.pinned.checked.prog.recurses 9)) = true := by kernel_rfl
set_option maxRecDepth 100000 in
theorem JN : ((Rows.logsFoldsRow.named == Tryz.pinned.checked.prog.varsNamed 9)) = true := by kernel_rfl
set_option maxRecDepth 100000 in
theorem JM : ((Rows.logsFoldsRow.maps == (Tryz.f9.params.toList ++ Rows.logsFoldsSpec.plain.varTypes Tryz.pinned.checked.prog).any (Tryz.pinned.checked.prog.mapsRec ·))) = true := by kernel_rfl
set_option maxRecDepth 100000 in
theorem JL : ((Rows.logsFoldsRow.ifaces == (Tryz.f9.params.toList ++ Rows.logsFoldsSpec.plain.varTypes Tryz.pinned.checked.prog).any (Tryz.pinned.checked.prog.ifacesRec ·))) = true := by kernel_rfl
set_option maxRecDepth 100000 in
theorem JK : ((Rows.logsFoldsRow.mapsOut == Tryz.pinned.checked.prog.mapsAmong Tryz.f9.resultTypes.toList)) = true := by kernel_rfl
set_option maxRecDepth 100000 in
theorem JJ : ((Rows.logsFoldsRow.loops == (Tryz.f9.params.toList ++ Rows.logsFoldsSpec.plain.varTypes Tryz.pinned.checked.prog).any (Tryz.pinned.checked.prog.loopsFrom ·))) = true := by kernel_rfl
set_option maxRecDepth 100000 in
theorem JI : ((Rows.logsFoldsRow.wideKeys == (Tryz.f9.params.toList ++ Rows.logsFoldsSpec.plain.varTypes Tryz.pinned.checked.prog ++ Tryz.f9.resultTypes.toList).any (Tryz.pinned.checked.prog.wideKeysFrom ·))) = true := by kernel_rfl
set_option maxRecDepth 100000 in
theorem JH : (Rows.logsFoldsSpec.vars.all (Tryz.pinned.checked.prog.varReadable ·)) = true := by kernel_rfl
set_option maxRecDepth 100000 in
theorem JG : (Tryz.f9.resultTypes.all (fun t => Tryz.pinned.checked.prog.readableRec t && decide (t < Tryz.pinned.checked.prog.types.size))) = true := by kernel_rfl
set_option maxRecDepth 100000 in
theorem JF : ((Rows.logsFoldsRow.ifacesOut == Tryz.f9.resultTypes.toList.any (Tryz.pinned.checked.prog.ifacesRec ·))) = true := by kernel_rfl
set_option maxRecDepth 100000 in
theorem JE : ((Rows.logsFoldsRow.loopsOut == Tryz.f9.resultTypes.toList.any (Tryz.pinned.checked.prog.loopsFrom ·))) = true := by kernel_rfl
theorem JD : ((Rows.logsFoldsRow.plainKeys == Tryz.pinned.checked.prog.plainKeys)) = true := by rw [<- eq_of_beq RB]; kernel_rfl
set_option maxRecDepth 100000 in
theorem JC : Rows.logsFoldsRow.shortTexts.isNone = true := by kernel_rfl
theorem JB : ((Rows.logsFoldsRow.lifted == Tryz.pinned.checked.prog.liftsFinal)) = true := by rw [<- eq_of_beq Ry]; kernel_rfl
theorem JA : ((Tryz.pinned.checked.prog.make == some Rows.logsFoldsRow.make)) = true := by rw [eq_of_beq Rx]; kernel_rfl
set_option maxRecDepth 100000 in
theorem Jz : ((Rows.logsFoldsRow.pinned == Rows.logsFoldsRow.pinnedBy)) = true := by kernel_rfl
set_option maxRecDepth 100000 in
theorem Jy : ((Rows.logsFoldsRow.veiled == (Tryz.f9.params.toList ++ Rows.logsFoldsSpec.plain.varTypes Tryz.pinned.checked.prog ++ Tryz.f9.resultTypes.toList).any (Tryz.pinned.checked.prog.veiledRec ·))) = true := by kernel_rfl
set_option maxRecDepth 100000 in
theorem Jx : (Rows.logsFoldsRow.veiledFits Tryz.pinned.checked.prog Tryz.f9.params.toList (Tryz.f9.params.toList ++ Rows.logsFoldsSpec.plain.varTypes Tryz.pinned.checked.prog ++ Tryz.f9.resultTypes.toList)) = true := by kernel_rfl
theorem Mb : joinedFacts Tryz.pinned.checked.prog 9 Tryz.f9 Rows.logsFoldsSpec Rows.logsFoldsRow = true := Be (Be (Be (Be (Be (Be (Be (Be (Be (Be (Be (Be (Be (Be (Be (Be (Be (Be (Be (Be (Be (Be (Be (Be (Be (Be (Be (Be (Be (Be (Be KC RP) RO) KB) KA) Kz) RN) Ky) RM) Kx) JP) JO) JN) JM) JL) JK) JJ) JI) JH) JG) JF) JE) JD) JC) RA) Rz) JB) JA) (by kernel_rfl)) Jz) Jy) Jx
theorem Ij : Tryz.pinned.checked.prog.funcNamed Rows.logsFoldsRow.func = some 9 := by kernel_rfl
theorem L9 : Tryz.f9.isInstance Tryz.pinned.checked.prog Rows.logsFoldsRow.origin Rows.logsFoldsRow.targs := of_decide_eq_true (by kernel_rfl)
theorem L7 : Tryz.f9.isWrapper Tryz.pinned.checked.prog Rows.logsFoldsRow.wrapper Rows.logsFoldsRow.mainSum := by unfold Func.isWrapper; first | (rw [if_pos (by decide +kernel)]; kernel_rfl) | (rw [if_neg (by decide +kernel)]; exact ⟨rfl, rfl⟩)
theorem G8 : Rows.LogsFoldsSaid :=
 OpenClaim.holds_of_wide 9 Tryz.f9 rfl rfl rfl rfl rfl rfl rfl ⟨rfl, rfl, rfl, rfl, rfl⟩ rfl rfl rfl rfl rfl Ij Tryz.func9 Mb L9 L7
  (fun os started H enc _ => IZ os started H enc)
theorem Mc : Rows.logsFoldsRow.wfByText (OpenSpec.ofChange Rows.logsFoldsSpec) = true := by kernel_rfl
theorem L8 : ([9].all fun u => !Tryz.prog.wantsStandIn u) = true := by kernel_rfl
theorem Ma : false = Rows.logsFoldsRow.goesBy Tryz.pinned.checked.prog := by kernel_rfl
theorem logsFolds_proved : Rows.LogsFoldsCardSaid :=
 Claim7.holds_tied_plain_at .later [] [.data, .data, .data, .data, .sentinel, .sentinel, .pinned] true (true, "8c4ab1a80a7e2c52077e9b3380faa1f8d4c3b8948d98da10affddce30d58f5b7") true G8 (fun _ h => by cases h) Mc (fun _ h => by cases h) logsFolds_row_tie rfl ⟨rfl, rfl⟩ Qs rfl
  (fun f fn hf hfn => by
   obtain rfl : f = 9 := (Option.some.inj (Ij.symm.trans hf)).symm
   obtain rfl : fn = Tryz.f9 := (Option.some.inj (Tryz.func9.symm.trans hfn)).symm
   exact ⟨Ps, fun j t ht => by
    rw [Tryz.params9] at ht
    have hm : t ∈ [9] := by simpa using Array.mem_of_getElem? ht
    exact (show Tryz.prog.wantsStandIn t = false by simpa using List.all_eq_true.1 L8 t hm)⟩)
  Ma
end
end Go.Proofs.YthljkpeimofbbaaGreatDoor
