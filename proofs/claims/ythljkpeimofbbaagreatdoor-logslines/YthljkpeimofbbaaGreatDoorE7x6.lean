/- LogsLines: for every input the law returns true, and each argument reads afterwards as it read before. No condition. -/
import Derived.Test.YthljkpeimofbbaaGreatDoorE7x5
set_option linter.unusedVariables false
set_option linter.unusedSimpArgs false
set_option linter.unusedSectionVars false
set_option maxHeartbeats 4000000
set_option maxRecDepth 100000
namespace Go.Proofs.YthljkpeimofbbaaGreatDoor
section
open Go.ChangeShapes Go.WideShapes Go.ChangeAt Go.RowKit
set_option maxRecDepth 100000 in
theorem JG (os : Os) (started : os.Started) (H : Type) (enc : TypeId × Value -> H) :
  ReturnsInHanded {} Tryz.checked os 7 .any (fun w args => (Rows.logsLinesSpec.pre enc Tryz.prog Tryz.f7 Rows.logsLinesRow.domain false w args /\ laidMetH Tryz.prog Rows.logsLinesRow.laid w) /\ sizedMet enc Tryz.prog Tryz.f7 (OpenSpec.ofChange Rows.logsLinesSpec) false w args) (Rows.logsLinesSpec.post enc Tryz.prog Tryz.f7 false true false false) := by
 refine N9 (C := Tryz.checked) (X := fun w _ => laidMetH Tryz.prog Lt w) (fun _ _ _ hh h => h.of_heap hh) Qr started (by kernel_rfl) Tryz.func7
  (ChangeSpec.witness_shaped (enc := enc) (C := Tryz.checked) (os := os) (X := fun w _ => laidMetH Tryz.prog Lt w) false (World.laidAll Tryz.prog os Lt) #[.agg #[.bool false, .bool false, .bool false], .agg #[.int .i64 0, .int .i64 0, .int .i64 0, .int .i64 0, .string ByteArray.empty, .int .i64 0, .int .i64 0, .int .i64 0, .int .i64 0, .int .i64 0, .int .i64 0], .string ByteArray.empty] 8 (World.laidAll_os _ _ _)
   (World.shaped_of_ZipB (by kernel_rfl) (by kernel_rfl)) (by kernel_rfl) (by kernel_rfl) (by kernel_rfl) (PW os _)) ?_
 intro W base args ds gs before hval0 hW hsz hL hsh
 have hval : ∀ (j : Nat) t v, Tryz.f7.params[j]? = some t -> args[j]? = some v -> Value.okWide Tryz.prog W .any base t v := hval0
 have hW' := hW
 obtain ⟨p, q, hA0, hV, rfl, hfz, hnd⟩ := hW
 have hA : DataW.TrodAll enc Tryz.prog W 0 (fun _ => true) true Tryz.f7.params.toList args.toList ds p := hA0
 rw [Tryz.params7] at hA hval
 obtain ⟨v0, vs0, d0, ds0, p0, q0, hargs, rfl, rfl, h0, r0⟩ := trodAll_cons hA
 obtain ⟨v1, vs1, d1, ds1, p1, q1, rfl, rfl, rfl, h1, r1⟩ := trodAll_cons r0
 obtain ⟨v2, vs2, d2, ds2, p2, q2, rfl, rfl, rfl, h2, r2⟩ := trodAll_cons r1
 obtain ⟨rfl, rfl, rfl⟩ := trodAll_nil r2
 obtain rfl : args = #[v0, v1, v2] := by cases args; simp_all
 have z0 : SzW Tryz.prog 23 d0 := SzW.each hsz (j := 0) (by kernel_rfl) rfl
 obtain ⟨cs0, x0, rfl, R0, Q0⟩ := Bo.agg Kh (by kernel_rfl) (hval 0 23 v0 rfl rfl) h0 z0
 have e0 := R0
 obtain rfl : cs0 = #[.bool x0.Report, .bool x0.Serial, .bool x0.Zone] := Array.ext' (by exact e0)
 have z1 : SzW Tryz.prog 34 d1 := SzW.each hsz (j := 1) (by kernel_rfl) rfl
 obtain ⟨cs1, x1, rfl, R1, Q1⟩ := Bo.agg L6 (by kernel_rfl) (hval 1 34 v1 rfl rfl) h1 z1
 have e1 := R1
 obtain rfl : cs1 = #[.int .i64 x1.Num, .int .i64 x1.Khz, .int .i64 x1.Mode, .int .i64 x1.Minute, .string ⟨(x1.Call).toArray⟩, .int .i64 x1.Sent.Report, .int .i64 x1.Sent.Serial, .int .i64 x1.Sent.Zone, .int .i64 x1.Got.Report, .int .i64 x1.Got.Serial, .int .i64 x1.Got.Zone] := Array.ext' (by exact e1)
 have z2 : SzW Tryz.prog 9 d2 := SzW.each hsz (j := 2) (by kernel_rfl) rfl
 obtain ⟨x2, R2, Q2⟩ := Bo.one (Mz (t := 9) (by kernel_rfl) (by kernel_rfl) : Bo Tryz.prog 9 AH rS) (by kernel_rfl) (hval 2 9 v2 rfl rfl) h2 z2
 have e2 : [v2] = [.string ⟨x2.toArray⟩] := R2
 cases e2
 refine (Jr 9223372036854775808 W (J5 W) (fun _ _ h => h) (RX hL hsh) x0 x1 x2 true (PO x0 x1 x2 Q0 Q1 Q2)).mono fun e W' he => ?_
 obtain ⟨r, F', rfl, hs, rfl⟩ := he
 refine ⟨_, rfl, OL (by kernel_rfl) (tb := 4) ?_ rfl hW' (by kernel_rfl) (by kernel_rfl) ?_ hs⟩
 ·intro t ht
  rw [Tryz.params7] at ht
  simp only [List.mem_cons, List.not_mem_nil, or_false] at ht
  rcases ht with rfl | rfl | rfl <;> exact ⟨by kernel_rfl, by decide +kernel⟩
 ·intro _; rfl
set_option maxRecDepth 100000 in
theorem LG : (Rows.logsLinesRow.wf (OpenSpec.ofChange Rows.logsLinesSpec)) = true := by kernel_rfl
set_option maxRecDepth 100000 in
theorem LF : (Tryz.f7.params.all (Tryz.pinned.checked.prog.readableRec ·)) = true := by kernel_rfl
set_option maxRecDepth 100000 in
theorem LE : (namedTie Tryz.pinned.checked.prog Rows.logsLinesRow.named Rows.logsLinesSpec.vars) = true := by kernel_rfl
set_option maxRecDepth 100000 in
theorem LD : ((Rows.logsLinesRow.stops == [])) = true := by kernel_rfl
set_option maxRecDepth 100000 in
theorem LB : ((Rows.logsLinesRow.knobs == [])) = true := by kernel_rfl
set_option maxRecDepth 100000 in
theorem LA : ((Rows.logsLinesRow.inPlace == Tryz.pinned.checked.prog.inPlace 7)) = true := by kernel_rfl
set_option maxRecDepth 100000 in
theorem KC : ((Rows.logsLinesRow.unfollowed == Tryz.pinned.checked.prog.unfollowed 7)) = true := by kernel_rfl
set_option maxRecDepth 100000 in
theorem KB : ((Rows.logsLinesRow.recurses == Tryz.pinned.checked.prog.recurses 7)) = true := by kernel_rfl
set_option maxRecDepth 100000 in
theorem KA : ((Rows.logsLinesRow.named == Tryz.pinned.checked.prog.varsNamed 7)) = true := by kernel_rfl
set_option maxRecDepth 100000 in
theorem Kz : ((Rows.logsLinesRow.maps == (Tryz.f7.params.toList ++ Rows.logsLinesSpec.plain.varTypes Tryz.pinned.checked.prog).any (Tryz.pinned.checked.prog.mapsRec ·))) = true := by kernel_rfl
set_option maxRecDepth 100000 in
theorem Ky : ((Rows.logsLinesRow.ifaces == (Tryz.f7.params.toList ++ Rows.logsLinesSpec.plain.varTypes Tryz.pinned.checked.prog).any (Tryz.pinned.checked.prog.ifacesRec ·))) = true := by kernel_rfl
set_option maxRecDepth 100000 in
theorem Kx : ((Rows.logsLinesRow.mapsOut == Tryz.pinned.checked.prog.mapsAmong Tryz.f7.resultTypes.toList)) = true := by kernel_rfl
set_option maxRecDepth 100000 in
theorem Kw : ((Rows.logsLinesRow.loops == (Tryz.f7.params.toList ++ Rows.logsLinesSpec.plain.varTypes Tryz.pinned.checked.prog).any (Tryz.pinned.checked.prog.loopsFrom ·))) = true := by kernel_rfl
set_option maxRecDepth 100000 in
theorem Kv : ((Rows.logsLinesRow.wideKeys == (Tryz.f7.params.toList ++ Rows.logsLinesSpec.plain.varTypes Tryz.pinned.checked.prog ++ Tryz.f7.resultTypes.toList).any (Tryz.pinned.checked.prog.wideKeysFrom ·))) = true := by kernel_rfl
set_option maxRecDepth 100000 in
theorem Ku : (Rows.logsLinesSpec.vars.all (Tryz.pinned.checked.prog.varReadable ·)) = true := by kernel_rfl
set_option maxRecDepth 100000 in
theorem Kt : (Tryz.f7.resultTypes.all (fun t => Tryz.pinned.checked.prog.readableRec t && decide (t < Tryz.pinned.checked.prog.types.size))) = true := by kernel_rfl
set_option maxRecDepth 100000 in
theorem Ks : ((Rows.logsLinesRow.ifacesOut == Tryz.f7.resultTypes.toList.any (Tryz.pinned.checked.prog.ifacesRec ·))) = true := by kernel_rfl
set_option maxRecDepth 100000 in
theorem Kr : ((Rows.logsLinesRow.loopsOut == Tryz.f7.resultTypes.toList.any (Tryz.pinned.checked.prog.loopsFrom ·))) = true := by kernel_rfl
theorem Kq : ((Rows.logsLinesRow.plainKeys == Tryz.pinned.checked.prog.plainKeys)) = true := by rw [<- eq_of_beq Th]; kernel_rfl
set_option maxRecDepth 100000 in
theorem Kp : Rows.logsLinesRow.shortTexts.isNone = true := by kernel_rfl
theorem Ko : ((Rows.logsLinesRow.lifted == Tryz.pinned.checked.prog.liftsFinal)) = true := by rw [<- eq_of_beq Te]; kernel_rfl
theorem Kn : ((Tryz.pinned.checked.prog.make == some Rows.logsLinesRow.make)) = true := by rw [eq_of_beq Td]; kernel_rfl
set_option maxRecDepth 100000 in
theorem Km : ((Rows.logsLinesRow.pinned == Rows.logsLinesRow.pinnedBy)) = true := by kernel_rfl
set_option maxRecDepth 100000 in
theorem Kl : ((Rows.logsLinesRow.veiled == (Tryz.f7.params.toList ++ Rows.logsLinesSpec.plain.varTypes Tryz.pinned.checked.prog ++ Tryz.f7.resultTypes.toList).any (Tryz.pinned.checked.prog.veiledRec ·))) = true := by kernel_rfl
set_option maxRecDepth 100000 in
theorem Kk : (Rows.logsLinesRow.veiledFits Tryz.pinned.checked.prog Tryz.f7.params.toList (Tryz.f7.params.toList ++ Rows.logsLinesSpec.plain.varTypes Tryz.pinned.checked.prog ++ Tryz.f7.resultTypes.toList)) = true := by kernel_rfl
theorem Nb : joinedFacts Tryz.pinned.checked.prog 7 Tryz.f7 Rows.logsLinesSpec Rows.logsLinesRow = true := Bi (Bi (Bi (Bi (Bi (Bi (Bi (Bi (Bi (Bi (Bi (Bi (Bi (Bi (Bi (Bi (Bi (Bi (Bi (Bi (Bi (Bi (Bi (Bi (Bi (Bi (Bi (Bi (Bi (Bi (Bi LG Tx) Tw) LF) LE) LD) Tv) LB) Tu) LA) KC) KB) KA) Kz) Ky) Kx) Kw) Kv) Ku) Kt) Ks) Kr) Kq) Kp) Tg) Tf) Ko) Kn) (by kernel_rfl)) Km) Kl) Kk
theorem I6 : Tryz.pinned.checked.prog.funcNamed Rows.logsLinesRow.func = some 7 := by kernel_rfl
theorem M9 : Tryz.f7.isInstance Tryz.pinned.checked.prog Rows.logsLinesRow.origin Rows.logsLinesRow.targs := of_decide_eq_true (by kernel_rfl)
theorem M7 : Tryz.f7.isWrapper Tryz.pinned.checked.prog Rows.logsLinesRow.wrapper Rows.logsLinesRow.mainSum := by unfold Func.isWrapper; first | (rw [if_pos (by decide +kernel)]; kernel_rfl) | (rw [if_neg (by decide +kernel)]; exact ⟨rfl, rfl⟩)
theorem HK : Rows.LogsLinesSaid :=
 OpenClaim.holds_of_wide 7 Tryz.f7 rfl rfl rfl rfl rfl rfl rfl ⟨rfl, rfl, rfl, rfl, rfl⟩ rfl rfl rfl rfl rfl I6 Tryz.func7 Nb M9 M7
  (fun os started H enc _ => JG os started H enc)
theorem Nc : Rows.logsLinesRow.wfByText (OpenSpec.ofChange Rows.logsLinesSpec) = true := by kernel_rfl
theorem M8 : ([23, 34, 9].all fun u => !Tryz.prog.wantsStandIn u) = true := by kernel_rfl
theorem Na : false = Rows.logsLinesRow.goesBy Tryz.pinned.checked.prog := by kernel_rfl
theorem logsLines_proved : Rows.LogsLinesCardSaid :=
 Claim7.holds_tied_plain_at .later [] [.data, .data, .data, .data, .sentinel, .sentinel, .pinned] true (true, "8c4ab1a80a7e2c52077e9b3380faa1f8d4c3b8948d98da10affddce30d58f5b7") true HK (fun _ h => by cases h) Nc (fun _ h => by cases h) logsLines_row_tie rfl ⟨rfl, rfl⟩ RY rfl
  (fun f fn hf hfn => by
   obtain rfl : f = 7 := (Option.some.inj (I6.symm.trans hf)).symm
   obtain rfl : fn = Tryz.f7 := (Option.some.inj (Tryz.func7.symm.trans hfn)).symm
   exact ⟨QO, fun j t ht => by
    rw [Tryz.params7] at ht
    have hm : t ∈ [23, 34, 9] := by simpa using Array.mem_of_getElem? ht
    exact (show Tryz.prog.wantsStandIn t = false by simpa using List.all_eq_true.1 M8 t hm)⟩)
  Na
end
end Go.Proofs.YthljkpeimofbbaaGreatDoor
