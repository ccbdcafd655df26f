/- LogsFinds: for every input the law returns true, and each argument reads afterwards as it read before. No condition. -/
import Derived.Test.YthljkpeimofbbaaGreatDoorE17x5
set_option linter.unusedVariables false
set_option linter.unusedSimpArgs false
set_option linter.unusedSectionVars false
set_option maxHeartbeats 4000000
set_option maxRecDepth 100000
namespace Go.Proofs.YthljkpeimofbbaaGreatDoor
section
open Go.ChangeShapes Go.WideShapes Go.ChangeAt Go.RowKit
set_option maxRecDepth 100000 in
theorem JZ (os : Os) (started : os.Started) (H : Type) (enc : TypeId × Value -> H) :
  ReturnsInHanded {} Tryz.checked os 17 .any (fun w args => (Rows.logsFindsSpec.pre enc Tryz.prog Tryz.f17 Rows.logsFindsRow.domain false w args /\ laidMetH Tryz.prog Rows.logsFindsRow.laid w) /\ sizedMet enc Tryz.prog Tryz.f17 (OpenSpec.ofChange Rows.logsFindsSpec) false w args) (Rows.logsFindsSpec.post enc Tryz.prog Tryz.f17 false true false false) := by
 refine Ow (C := Tryz.checked) (X := fun w _ => laidMetH Tryz.prog LY w) (fun _ _ _ hh h => h.of_heap hh) Q6 started (by kernel_rfl) Tryz.func17
  (ChangeSpec.witness_shaped (enc := enc) (C := Tryz.checked) (os := os) (X := fun w _ => laidMetH Tryz.prog LY w) false (World.laidAll Tryz.prog os LY) #[.agg #[.bool false, .bool false, .bool false], .agg #[.string ByteArray.empty, .int .i64 0, .int .i64 0, .int .i64 0, .slice none 0 0, .slice none 0 0], .agg #[.int .i64 0, .string ByteArray.empty, .int .i64 0, .int .i64 0]] 8 (World.laidAll_os _ _ _)
   (World.shaped_of_ZipB (by kernel_rfl) (by kernel_rfl)) (by kernel_rfl) (by kernel_rfl) (by kernel_rfl) (Qz os _)) ?_
 intro W base args ds gs before hval0 hW hsz hL hsh
 have hval : ∀ (j : Nat) t v, Tryz.f17.params[j]? = some t -> args[j]? = some v -> Value.okWide Tryz.prog W .any base t v := hval0
 have hW' := hW
 obtain ⟨p, q, hA0, hV, rfl, hfz, hnd⟩ := hW
 have hA : DataW.TrodAll enc Tryz.prog W 0 (fun _ => true) true Tryz.f17.params.toList args.toList ds p := hA0
 rw [Tryz.params17] at hA hval
 obtain ⟨v0, vs0, d0, ds0, p0, q0, hargs, rfl, rfl, h0, r0⟩ := trodAll_cons hA
 obtain ⟨v1, vs1, d1, ds1, p1, q1, rfl, rfl, rfl, h1, r1⟩ := trodAll_cons r0
 obtain ⟨v2, vs2, d2, ds2, p2, q2, rfl, rfl, rfl, h2, r2⟩ := trodAll_cons r1
 obtain ⟨rfl, rfl, rfl⟩ := trodAll_nil r2
 obtain rfl : args = #[v0, v1, v2] := by cases args; simp_all
 have z0 : SzW Tryz.prog 23 d0 := SzW.each hsz (j := 0) (by kernel_rfl) rfl
 obtain ⟨cs0, x0, rfl, R0, Q0⟩ := AU.agg KD (by kernel_rfl) (hval 0 23 v0 rfl rfl) h0 z0
 have e0 := R0
 obtain rfl : cs0 = #[.bool x0.Report, .bool x0.Serial, .bool x0.Zone] := Array.ext' (by exact e0)
 have z1 : SzW Tryz.prog 27 d1 := SzW.each hsz (j := 1) (by kernel_rfl) rfl
 obtain ⟨cs1, x1, rfl, R1, Q1⟩ := AU.agg Ns (by kernel_rfl) (hval 1 27 v1 rfl rfl) h1 z1
 obtain ⟨a1_4, n1_4, a1_5, n1_5, e1, hb1_4, hs1_4, hb1_5, hs1_5⟩ := R1
 obtain rfl : cs1 = #[.string ⟨(x1.Call).toArray⟩, .int .i64 x1.Category, .int .i64 x1.Power, .int .i64 x1.Claimed, .slice a1_4 x1.Jumps.length n1_4, .slice a1_5 x1.Lines.length n1_5] := Array.ext' (by exact e1)
 have z2 : SzW Tryz.prog 82 d2 := SzW.each hsz (j := 2) (by kernel_rfl) rfl
 obtain ⟨cs2, x2, rfl, R2, Q2⟩ := AU.agg Fv (by kernel_rfl) (hval 2 82 v2 rfl rfl) h2 z2
 have e2 := R2
 obtain rfl : cs2 = #[.int .i64 x2.Num, .string ⟨(x2.Call).toArray⟩, .int .i64 x2.Span.Lo, .int .i64 x2.Span.Hi] := Array.ext' (by exact e2)
 refine (JG 9223372036854775808 W (Kq W) (fun _ _ h => h) (SX hL hsh) x0 x1 a1_4 n1_4 hb1_4 hs1_4 a1_5 n1_5 hb1_5 hs1_5 x2 true (Qw x0 x1 x2 Q0 Q1 Q2)).mono fun e W' he => ?_
 obtain ⟨r, F', rfl, hs, rfl⟩ := he
 refine ⟨_, rfl, Pi (by kernel_rfl) (tb := 4) ?_ rfl hW' (by kernel_rfl) (by kernel_rfl) ?_ hs⟩
 ·intro t ht
  rw [Tryz.params17] at ht
  simp only [List.mem_cons, List.not_mem_nil, or_false] at ht
  rcases ht with rfl | rfl | rfl <;> exact ⟨by kernel_rfl, by decide +kernel⟩
 ·intro _; rfl
set_option maxRecDepth 100000 in
theorem L4 : (Rows.logsFindsRow.wf (OpenSpec.ofChange Rows.logsFindsSpec)) = true := by kernel_rfl
set_option maxRecDepth 100000 in
theorem L3 : (Tryz.f17.params.all (Tryz.pinned.checked.prog.readableRec ·)) = true := by kernel_rfl
set_option maxRecDepth 100000 in
theorem L2 : (namedTie Tryz.pinned.checked.prog Rows.logsFindsRow.named Rows.logsFindsSpec.vars) = true := by kernel_rfl
set_option maxRecDepth 100000 in
theorem L1 : ((Rows.logsFindsRow.stops == [])) = true := by kernel_rfl
set_option maxRecDepth 100000 in
theorem L0 : ((Rows.logsFindsRow.knobs == [])) = true := by kernel_rfl
set_option maxRecDepth 100000 in
theorem LZ : ((Rows.logsFindsRow.inPlace == Tryz.pinned.checked.prog.inPlace 17)) = true := by kernel_rfl
set_option maxRecDepth 100000 in
theorem KZ : ((Rows.logsFindsRow.unfollowed == Tryz.pinned.checked.prog.unfollowed 17)) = true := by kernel_rfl
set_option maxRecDepth 100000 in
theorem KY : ((Rows.logsFindsRow.recurses == Tryz.pinned.checked.prog.recurses 17)) = true := by kernel_rfl
set_option maxRecDepth 100000 in
theorem KX : ((Rows.logsFindsRow.named == Tryz.pinned.checked.prog.varsNamed 17)) = true := by kernel_rfl
set_option maxRecDepth 100000 in
theorem KW : ((Rows.logsFindsRow.maps == (Tryz.f17.params.toList ++ Rows.logsFindsSpec.plain.varTypes Tryz.pinned.checked.prog).any (Tryz.pinned.checked.prog.mapsRec ·))) = true := by kernel_rfl
set_option maxRecDepth 100000 in
theorem KV : ((Rows.logsFindsRow.ifaces == (Tryz.f17.params.toList ++ Rows.logsFindsSpec.plain.varTypes Tryz.pinned.checked.prog).any (Tryz.pinned.checked.prog.ifacesRec ·))) = true := by kernel_rfl
set_option maxRecDepth 100000 in
theorem KU : ((Rows.logsFindsRow.mapsOut == Tryz.pinned.checked.prog.mapsAmong Tryz.f17.resultTypes.toList)) = true := by kernel_rfl
set_option maxRecDepth 100000 in
theorem KT : ((Rows.logsFindsRow.loops == (Tryz.f17.params.toList ++ Rows.logsFindsSpec.plain.varTypes Tryz.pinned.checked.prog).any (Tryz.pinned.checked.prog.loopsFrom ·))) = true := by kernel_rfl
set_option maxRecDepth 100000 in
theorem KS : ((Rows.logsFindsRow.wideKeys == (Tryz.f17.params.toList ++ Rows.logsFindsSpec.plain.varTypes Tryz.pinned.checked.prog ++ Tryz.f17.resultTypes.toList).any (Tryz.pinned.checked.prog.wideKeysFrom ·))) = true := by kernel_rfl
set_option maxRecDepth 100000 in
theorem KR : (Rows.logsFindsSpec.vars.all (Tryz.pinned.checked.prog.varReadable ·)) = true := by kernel_rfl
set_option maxRecDepth 100000 in
theorem KQ : (Tryz.f17.resultTypes.all (fun t => Tryz.pinned.checked.prog.readableRec t && decide (t < Tryz.pinned.checked.prog.types.size))) = true := by kernel_rfl
set_option maxRecDepth 100000 in
theorem KP : ((Rows.logsFindsRow.ifacesOut == Tryz.f17.resultTypes.toList.any (Tryz.pinned.checked.prog.ifacesRec ·))) = true := by kernel_rfl
set_option maxRecDepth 100000 in
theorem KO : ((Rows.logsFindsRow.loopsOut == Tryz.f17.resultTypes.toList.any (Tryz.pinned.checked.prog.loopsFrom ·))) = true := by kernel_rfl
theorem KN : ((Rows.logsFindsRow.plainKeys == Tryz.pinned.checked.prog.plainKeys)) = true := by rw [<- eq_of_beq Uc]; kernel_rfl
set_option maxRecDepth 100000 in
theorem KM : Rows.logsFindsRow.shortTexts.isNone = true := by kernel_rfl
theorem KK : ((Rows.logsFindsRow.lifted == Tryz.pinned.checked.prog.liftsFinal)) = true := by rw [<- eq_of_beq T9]; kernel_rfl
theorem KJ : ((Tryz.pinned.checked.prog.make == some Rows.logsFindsRow.make)) = true := by rw [eq_of_beq T8]; kernel_rfl
set_option maxRecDepth 100000 in
theorem KI : ((Rows.logsFindsRow.pinned == Rows.logsFindsRow.pinnedBy)) = true := by kernel_rfl
set_option maxRecDepth 100000 in
theorem KH : ((Rows.logsFindsRow.veiled == (Tryz.f17.params.toList ++ Rows.logsFindsSpec.plain.varTypes Tryz.pinned.checked.prog ++ Tryz.f17.resultTypes.toList).any (Tryz.pinned.checked.prog.veiledRec ·))) = true := by kernel_rfl
set_option maxRecDepth 100000 in
theorem KG : (Rows.logsFindsRow.veiledFits Tryz.pinned.checked.prog Tryz.f17.params.toList (Tryz.f17.params.toList ++ Rows.logsFindsSpec.plain.varTypes Tryz.pinned.checked.prog ++ Tryz.f17.resultTypes.toList)) = true := by kernel_rfl
theorem NA : joinedFacts Tryz.pinned.checked.prog 17 Tryz.f17 Rows.logsFindsSpec Rows.logsFindsRow = true := Bo (Bo (Bo (Bo (Bo (Bo (Bo (Bo (Bo (Bo (Bo (Bo (Bo (Bo (Bo (Bo (Bo (Bo (Bo (Bo (Bo (Bo (Bo (Bo (Bo (Bo (Bo (Bo (Bo (Bo (Bo L4 Ut) Us) L3) L2) L1) Ur) L0) Uq) LZ) KZ) KY) KX) KW) KV) KU) KT) KS) KR) KQ) KP) KO) KN) KM) Ub) Ua) KK) KJ) (by kernel_rfl)) KI) KH) KG
theorem Jj : Tryz.pinned.checked.prog.funcNamed Rows.logsFindsRow.func = some 17 := by kernel_rfl
theorem Ny : Tryz.f17.isInstance Tryz.pinned.checked.prog Rows.logsFindsRow.origin Rows.logsFindsRow.targs := of_decide_eq_true (by kernel_rfl)
theorem Nw : Tryz.f17.isWrapper Tryz.pinned.checked.prog Rows.logsFindsRow.wrapper Rows.logsFindsRow.mainSum := by unfold Func.isWrapper; first | (rw [if_pos (by decide +kernel)]; kernel_rfl) | (rw [if_neg (by decide +kernel)]; exact ⟨rfl, rfl⟩)
theorem H0 : Rows.LogsFindsSaid :=
 OpenClaim.holds_of_wide 17 Tryz.f17 rfl rfl rfl rfl rfl rfl rfl ⟨rfl, rfl, rfl, rfl, rfl⟩ rfl rfl rfl rfl rfl Jj Tryz.func17 NA Ny Nw
  (fun os started H enc _ => JZ os started H enc)
theorem NB : Rows.logsFindsRow.wfByText (OpenSpec.ofChange Rows.logsFindsSpec) = true := by kernel_rfl
theorem Nx : ([23, 27, 82].all fun u => !Tryz.prog.wantsStandIn u) = true := by kernel_rfl
theorem Nz : false = Rows.logsFindsRow.goesBy Tryz.pinned.checked.prog := by kernel_rfl
theorem logsFinds_proved : Rows.LogsFindsCardSaid :=
 Claim7.holds_tied_plain_at .later [] [.data, .data, .data, .data, .sentinel, .sentinel, .pinned] true (true, "8c4ab1a80a7e2c52077e9b3380faa1f8d4c3b8948d98da10affddce30d58f5b7") true H0 (fun _ h => by cases h) NB (fun _ h => by cases h) logsFinds_row_tie rfl ⟨rfl, rfl⟩ SY rfl
  (fun f fn hf hfn => by
   obtain rfl : f = 17 := (Option.some.inj (Jj.symm.trans hf)).symm
   obtain rfl : fn = Tryz.f17 := (Option.some.inj (Tryz.func17.symm.trans hfn)).symm
   exact ⟨Rz, fun j t ht => by
    rw [Tryz.params17] at ht
    have hm : t ∈ [23, 27, 82] := by simpa using Array.mem_of_getElem? ht
    exact (show Tryz.prog.wantsStandIn t = false by simpa using List.all_eq_true.1 Nx t hm)⟩)
  Nz
end
end Go.Proofs.YthljkpeimofbbaaGreatDoor
