/- LogsChecks: for every input the law returns true, and each argument reads afterwards as it read before. No condition. -/
import Derived.Test.YthljkpeimofbbaaGreatDoorE3x5
set_option linter.unusedVariables false
set_option linter.unusedSimpArgs false
set_option linter.unusedSectionVars false
set_option maxHeartbeats 4000000
set_option maxRecDepth 100000
namespace Go.Proofs.YthljkpeimofbbaaGreatDoor
section
open Go.ChangeShapes Go.WideShapes Go.ChangeAt Go.RowKit
set_option maxRecDepth 100000 in
theorem JR (os : Os) (started : os.Started) (H : Type) (enc : TypeId × Value -> H) :
  ReturnsInHanded {} Tryz.checked os 3 .any (fun w args => (Rows.logsChecksSpec.pre enc Tryz.prog Tryz.f3 Rows.logsChecksRow.domain false w args /\ laidMetH Tryz.prog Rows.logsChecksRow.laid w) /\ sizedMet enc Tryz.prog Tryz.f3 (OpenSpec.ofChange Rows.logsChecksSpec) false w args) (Rows.logsChecksSpec.post enc Tryz.prog Tryz.f3 false true false false) := by
 refine O7 (C := Tryz.checked) (X := fun w _ => laidMetH Tryz.prog MB w) (fun _ _ _ hh h => h.of_heap hh) Rr started (by kernel_rfl) Tryz.func3
  (ChangeSpec.witness_shaped (enc := enc) (C := Tryz.checked) (os := os) (X := fun w _ => laidMetH Tryz.prog MB w) false (World.laidAll Tryz.prog os MB) #[.agg #[.bool false, .bool false, .bool false], .agg #[.string ByteArray.empty, .int .i64 0, .int .i64 0, .int .i64 0, .slice none 0 0, .slice none 0 0]] 8 (World.laidAll_os _ _ _)
   (World.shaped_of_ZipB (by kernel_rfl) (by kernel_rfl)) (by kernel_rfl) (by kernel_rfl) (by kernel_rfl) (QS os _)) ?_
 intro W base args ds gs before hval0 hW hsz hL hsh
 have hval : ∀ (j : Nat) t v, Tryz.f3.params[j]? = some t -> args[j]? = some v -> Value.okWide Tryz.prog W .any base t v := hval0
 have hW' := hW
 obtain ⟨p, q, hA0, hV, rfl, hfz, hnd⟩ := hW
 have hA : DataW.TrodAll enc Tryz.prog W 0 (fun _ => true) true Tryz.f3.params.toList args.toList ds p := hA0
 rw [Tryz.params3] at hA hval
 obtain ⟨v0, vs0, d0, ds0, p0, q0, hargs, rfl, rfl, h0, r0⟩ := trodAll_cons hA
 obtain ⟨v1, vs1, d1, ds1, p1, q1, rfl, rfl, rfl, h1, r1⟩ := trodAll_cons r0
 obtain ⟨rfl, rfl, rfl⟩ := trodAll_nil r1
 obtain rfl : args = #[v0, v1] := by cases args; simp_all
 have z0 : SzW Tryz.prog 23 d0 := SzW.each hsz (j := 0) (by kernel_rfl) rfl
 obtain ⟨cs0, x0, rfl, R0, Q0⟩ := AY.agg LG (by kernel_rfl) (hval 0 23 v0 rfl rfl) h0 z0
 have e0 := R0
 obtain rfl : cs0 = #[.bool x0.Report, .bool x0.Serial, .bool x0.Zone] := Array.ext' (by exact e0)
 have z1 : SzW Tryz.prog 27 d1 := SzW.each hsz (j := 1) (by kernel_rfl) rfl
 obtain ⟨cs1, x1, rfl, R1, Q1⟩ := AY.agg Oe (by kernel_rfl) (hval 1 27 v1 rfl rfl) h1 z1
 obtain ⟨a1_4, n1_4, a1_5, n1_5, e1, hb1_4, hs1_4, hb1_5, hs1_5⟩ := R1
 obtain rfl : cs1 = #[.string ⟨(x1.Call).toArray⟩, .int .i64 x1.Category, .int .i64 x1.Power, .int .i64 x1.Claimed, .slice a1_4 x1.Jumps.length n1_4, .slice a1_5 x1.Lines.length n1_5] := Array.ext' (by exact e1)
 refine (Jw 9223372036854775808 W (Lm W) (fun _ _ h => h) (SZ hL hsh) x0 x1 a1_4 n1_4 hb1_4 hs1_4 a1_5 n1_5 hb1_5 hs1_5 true (PT x0 x1 Q0 Q1)).mono fun e W' he => ?_
 obtain ⟨r, F', rfl, hs, rfl⟩ := he
 refine ⟨_, rfl, PE (by kernel_rfl) (tb := 4) ?_ rfl hW' (by kernel_rfl) (by kernel_rfl) ?_ hs⟩
 ·intro t ht
  rw [Tryz.params3] at ht
  simp only [List.mem_cons, List.not_mem_nil, or_false] at ht
  rcases ht with rfl | rfl <;> exact ⟨by kernel_rfl, by decide +kernel⟩
 ·intro _; rfl
set_option maxRecDepth 100000 in
theorem LO : (Rows.logsChecksRow.wf (OpenSpec.ofChange Rows.logsChecksSpec)) = true := by kernel_rfl
set_option maxRecDepth 100000 in
theorem LN : (Tryz.f3.params.all (Tryz.pinned.checked.prog.readableRec ·)) = true := by kernel_rfl
set_option maxRecDepth 100000 in
theorem LM : (namedTie Tryz.pinned.checked.prog Rows.logsChecksRow.named Rows.logsChecksSpec.vars) = true := by kernel_rfl
set_option maxRecDepth 100000 in
theorem LL : ((Rows.logsChecksRow.stops == [])) = true := by kernel_rfl
set_option maxRecDepth 100000 in
theorem LK : ((Rows.logsChecksRow.knobs == [])) = true := by kernel_rfl
set_option maxRecDepth 100000 in
theorem LJ : ((Rows.logsChecksRow.inPlace == Tryz.pinned.checked.prog.inPlace 3)) = true := by kernel_rfl
set_option maxRecDepth 100000 in
theorem KS : ((Rows.logsChecksRow.unfollowed == Tryz.pinned.checked.prog.unfollowed 3)) = true := by kernel_rfl
set_option maxRecDepth 100000 in
theorem KR : ((Rows.logsChecksRow.recurses == Tryz.pinned.checked.prog.recurses 3)) = true := by kernel_rfl
set_option maxRecDepth 100000 in
theorem KQ : ((Rows.logsChecksRow.named == Tryz.pinned.checked.prog.varsNamed 3)) = true := by kernel_rfl
set_option maxRecDepth 100000 in
theorem KP : ((Rows.logsChecksRow.maps == (Tryz.f3.params.toList ++ Rows.logsChecksSpec.plain.varTypes Tryz.pinned.checked.prog).any (Tryz.pinned.checked.prog.mapsRec ·))) = true := by kernel_rfl
set_option maxRecDepth 100000 in
theorem KO : ((Rows.logsChecksRow.ifaces == (Tryz.f3.params.toList ++ Rows.logsChecksSpec.plain.varTypes Tryz.pinned.checked.prog).any (Tryz.pinned.checked.prog.ifacesRec ·))) = true := by kernel_rfl
set_option maxRecDepth 100000 in
theorem KN : ((Rows.logsChecksRow.mapsOut == Tryz.pinned.checked.prog.mapsAmong Tryz.f3.resultTypes.toList)) = true := by kernel_rfl
set_option maxRecDepth 100000 in
theorem KM : ((Rows.logsChecksRow.loops == (Tryz.f3.params.toList ++ Rows.logsChecksSpec.plain.varTypes Tryz.pinned.checked.prog).any (Tryz.pinned.checked.prog.loopsFrom ·))) = true := by kernel_rfl
set_option maxRecDepth 100000 in
theorem KK : ((Rows.logsChecksRow.wideKeys == (Tryz.f3.params.toList ++ Rows.logsChecksSpec.plain.varTypes Tryz.pinned.checked.prog ++ Tryz.f3.resultTypes.toList).any (Tryz.pinned.checked.prog.wideKeysFrom ·))) = true := by kernel_rfl
set_option maxRecDepth 100000 in
theorem KJ : (Rows.logsChecksSpec.vars.all (Tryz.pinned.checked.prog.varReadable ·)) = true := by kernel_rfl
set_option maxRecDepth 100000 in
theorem KI : (Tryz.f3.resultTypes.all (fun t => Tryz.pinned.checked.prog.readableRec t && decide (t < Tryz.pinned.checked.prog.types.size))) = true := by kernel_rfl
set_option maxRecDepth 100000 in
theorem KH : ((Rows.logsChecksRow.ifacesOut == Tryz.f3.resultTypes.toList.any (Tryz.pinned.checked.prog.ifacesRec ·))) = true := by kernel_rfl
set_option maxRecDepth 100000 in
theorem KG : ((Rows.logsChecksRow.loopsOut == Tryz.f3.resultTypes.toList.any (Tryz.pinned.checked.prog.loopsFrom ·))) = true := by kernel_rfl
theorem KF : ((Rows.logsChecksRow.plainKeys == Tryz.pinned.checked.prog.plainKeys)) = true := by rw [<- eq_of_beq T5]; kernel_rfl
set_option maxRecDepth 100000 in
theorem KE : Rows.logsChecksRow.shortTexts.isNone = true := by kernel_rfl
theorem KD : ((Rows.logsChecksRow.lifted == Tryz.pinned.checked.prog.liftsFinal)) = true := by rw [<- eq_of_beq T2]; kernel_rfl
theorem KC : ((Tryz.pinned.checked.prog.make == some Rows.logsChecksRow.make)) = true := by rw [eq_of_beq T1]; kernel_rfl
set_option maxRecDepth 100000 in
theorem KB : ((Rows.logsChecksRow.pinned == Rows.logsChecksRow.pinnedBy)) = true := by kernel_rfl
set_option maxRecDepth 100000 in
theorem KA : ((Rows.logsChecksRow.veiled == (Tryz.f3.params.toList ++ Rows.logsChecksSpec.plain.varTypes Tryz.pinned.checked.prog ++ Tryz.f3.resultTypes.toList).any (Tryz.pinned.checked.prog.veiledRec ·))) = true := by kernel_rfl
set_option maxRecDepth 100000 in
theorem Kz : (Rows.logsChecksRow.veiledFits Tryz.pinned.checked.prog Tryz.f3.params.toList (Tryz.f3.params.toList ++ Rows.logsChecksSpec.plain.varTypes Tryz.pinned.checked.prog ++ Tryz.f3.resultTypes.toList)) = true := by kernel_rfl
theorem Nc : joinedFacts Tryz.pinned.checked.prog 3 Tryz.f3 Rows.logsChecksSpec Rows.logsChecksRow = true := Bj (Bj (Bj (Bj (Bj (Bj (Bj (Bj (Bj (Bj (Bj (Bj (Bj (Bj (Bj (Bj (Bj (Bj (Bj (Bj (Bj (Bj (Bj (Bj (Bj (Bj (Bj (Bj (Bj (Bj (Bj LO Uk) Uj) LN) LM) LL) Ui) LK) Uh) LJ) KS) KR) KQ) KP) KO) KN) KM) KK) KJ) KI) KH) KG) KF) KE) T4) T3) KD) KC) (by kernel_rfl)) KB) KA) Kz
theorem IZ : Tryz.pinned.checked.prog.funcNamed Rows.logsChecksRow.func = some 3 := by kernel_rfl
theorem Na : Tryz.f3.isInstance Tryz.pinned.checked.prog Rows.logsChecksRow.origin Rows.logsChecksRow.targs := of_decide_eq_true (by kernel_rfl)
theorem M8 : Tryz.f3.isWrapper Tryz.pinned.checked.prog Rows.logsChecksRow.wrapper Rows.logsChecksRow.mainSum := by unfold Func.isWrapper; first | (rw [if_pos (by decide +kernel)]; kernel_rfl) | (rw [if_neg (by decide +kernel)]; exact ⟨rfl, rfl⟩)
theorem HM : Rows.LogsChecksSaid :=
 OpenClaim.holds_of_wide 3 Tryz.f3 rfl rfl rfl rfl rfl rfl rfl ⟨rfl, rfl, rfl, rfl, rfl⟩ rfl rfl rfl rfl rfl IZ Tryz.func3 Nc Na M8
  (fun os started H enc _ => JR os started H enc)
theorem Nd : Rows.logsChecksRow.wfByText (OpenSpec.ofChange Rows.logsChecksSpec) = true := by kernel_rfl
theorem M9 : ([23, 27].all fun u => !Tryz.prog.wantsStandIn u) = true := by kernel_rfl
theorem Nb : false = Rows.logsChecksRow.goesBy Tryz.pinned.checked.prog := by kernel_rfl
theorem logsChecks_proved : Rows.LogsChecksCardSaid :=
 Claim7.holds_tied_plain_at .later [] [.data, .data, .data, .data, .sentinel, .sentinel, .pinned] true (true, "8c4ab1a80a7e2c52077e9b3380faa1f8d4c3b8948d98da10affddce30d58f5b7") true HM (fun _ h => by cases h) Nd (fun _ h => by cases h) logsChecks_row_tie rfl ⟨rfl, rfl⟩ S0 rfl
  (fun f fn hf hfn => by
   obtain rfl : f = 3 := (Option.some.inj (IZ.symm.trans hf)).symm
   obtain rfl : fn = Tryz.f3 := (Option.some.inj (Tryz.func3.symm.trans hfn)).symm
   exact ⟨RK, fun j t ht => by
    rw [Tryz.params3] at ht
    have hm : t ∈ [23, 27] := by simpa using Array.mem_of_getElem? ht
    exact (show Tryz.prog.wantsStandIn t = false by simpa using List.all_eq_true.1 M9 t hm)⟩)
  Nb
end
end Go.Proofs.YthljkpeimofbbaaGreatDoor
