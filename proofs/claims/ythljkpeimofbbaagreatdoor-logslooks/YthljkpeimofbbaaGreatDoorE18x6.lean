/- LogsLooks: for every input the law returns true, and each argument reads afterwards as it read before. No condition. -/
import Derived.Test.YthljkpeimofbbaaGreatDoorE18x5
set_option linter.unusedVariables false
set_option linter.unusedSimpArgs false
set_option linter.unusedSectionVars false
set_option maxHeartbeats 4000000
set_option maxRecDepth 100000
namespace Go.Proofs.YthljkpeimofbbaaGreatDoor
section
open Go.ChangeShapes Go.WideShapes Go.ChangeAt Go.RowKit
set_option maxRecDepth 100000 in
theorem Kw (os : Os) (started : os.Started) (H : Type) (enc : TypeId × Value -> H) :
  ReturnsInHanded {} Tryz.checked os 18 .any (fun w args => (Rows.logsLooksSpec.pre enc Tryz.prog Tryz.f18 Rows.logsLooksRow.domain false w args /\ laidMetH Tryz.prog Rows.logsLooksRow.laid w) /\ sizedMet enc Tryz.prog Tryz.f18 (OpenSpec.ofChange Rows.logsLooksSpec) false w args) (Rows.logsLooksSpec.post enc Tryz.prog Tryz.f18 false true false false) := by
 refine Pp (C := Tryz.checked) (X := fun w _ => laidMetH Tryz.prog ME w) (fun _ _ _ hh h => h.of_heap hh) RY started (by kernel_rfl) Tryz.func18
  (ChangeSpec.witness_shaped (enc := enc) (C := Tryz.checked) (os := os) (X := fun w _ => laidMetH Tryz.prog ME w) false (World.laidAll Tryz.prog os ME) #[.agg #[.string ByteArray.empty, .int .i64 0, .int .i64 0, .int .i64 0, .slice none 0 0, .slice none 0 0], .agg #[.string ByteArray.empty, .int .i64 0, .int .i64 0, .int .i64 0, .slice none 0 0, .slice none 0 0], .agg #[.int .i64 0, .string ByteArray.empty, .int .i64 0, .int .i64 0]] 8 (World.laidAll_os _ _ _)
   (World.shaped_of_ZipB (by kernel_rfl) (by kernel_rfl)) (by kernel_rfl) (by kernel_rfl) (by kernel_rfl) (Rr os _)) ?_
 intro W base args ds gs before hval0 hW hsz hL hsh
 have hval : ∀ (j : Nat) t v, Tryz.f18.params[j]? = some t -> args[j]? = some v -> Value.okWide Tryz.prog W .any base t v := hval0
 have hW' := hW
 obtain ⟨p, q, hA0, hV, rfl, hfz, hnd⟩ := hW
 have hA : DataW.TrodAll enc Tryz.prog W 0 (fun _ => true) true Tryz.f18.params.toList args.toList ds p := hA0
 rw [Tryz.params18] at hA hval
 obtain ⟨v0, vs0, d0, ds0, p0, q0, hargs, rfl, rfl, h0, r0⟩ := trodAll_cons hA
 obtain ⟨v1, vs1, d1, ds1, p1, q1, rfl, rfl, rfl, h1, r1⟩ := trodAll_cons r0
 obtain ⟨v2, vs2, d2, ds2, p2, q2, rfl, rfl, rfl, h2, r2⟩ := trodAll_cons r1
 obtain ⟨rfl, rfl, rfl⟩ := trodAll_nil r2
 obtain rfl : args = #[v0, v1, v2] := by cases args; simp_all
 have z0 : SzW Tryz.prog 27 d0 := SzW.each hsz (j := 0) (by kernel_rfl) rfl
 obtain ⟨cs0, x0, rfl, R0, Q0⟩ := AX.agg JD (by kernel_rfl) (hval 0 27 v0 rfl rfl) h0 z0
 obtain ⟨a0_4, n0_4, a0_5, n0_5, e0, hb0_4, hs0_4, hb0_5, hs0_5⟩ := R0
 obtain rfl : cs0 = #[.string ⟨(x0.Call).toArray⟩, .int .i64 x0.Category, .int .i64 x0.Power, .int .i64 x0.Claimed, .slice a0_4 x0.Jumps.length n0_4, .slice a0_5 x0.Lines.length n0_5] := Array.ext' (by exact e0)
 have z1 : SzW Tryz.prog 27 d1 := SzW.each hsz (j := 1) (by kernel_rfl) rfl
 obtain ⟨cs1, x1, rfl, R1, Q1⟩ := AX.agg JD (by kernel_rfl) (hval 1 27 v1 rfl rfl) h1 z1
 obtain ⟨a1_4, n1_4, a1_5, n1_5, e1, hb1_4, hs1_4, hb1_5, hs1_5⟩ := R1
 obtain rfl : cs1 = #[.string ⟨(x1.Call).toArray⟩, .int .i64 x1.Category, .int .i64 x1.Power, .int .i64 x1.Claimed, .slice a1_4 x1.Jumps.length n1_4, .slice a1_5 x1.Lines.length n1_5] := Array.ext' (by exact e1)
 have z2 : SzW Tryz.prog 82 d2 := SzW.each hsz (j := 2) (by kernel_rfl) rfl
 obtain ⟨cs2, x2, rfl, R2, Q2⟩ := AX.agg FB (by kernel_rfl) (hval 2 82 v2 rfl rfl) h2 z2
 have e2 := R2
 obtain rfl : cs2 = #[.int .i64 x2.Num, .string ⟨(x2.Call).toArray⟩, .int .i64 x2.Span.Lo, .int .i64 x2.Span.Hi] := Array.ext' (by exact e2)
 refine (Kd 9223372036854775808 W (K5 W) (fun _ _ h => h) (TA hL hsh) x0 a0_4 n0_4 hb0_4 hs0_4 a0_5 n0_5 hb0_5 hs0_5 x1 a1_4 n1_4 hb1_4 hs1_4 a1_5 n1_5 hb1_5 hs1_5 x2 true (Rk x0 x1 x2 Q0 Q1 Q2)).mono fun e W' he => ?_
 obtain ⟨r, F', rfl, hs, rfl⟩ := he
 refine ⟨_, rfl, P4 (by kernel_rfl) (tb := 4) ?_ rfl hW' (by kernel_rfl) (by kernel_rfl) ?_ hs⟩
 ·intro t ht
  rw [Tryz.params18] at ht
  simp only [List.mem_cons, List.not_mem_nil, or_false] at ht
  rcases ht with rfl | rfl | rfl <;> exact ⟨by kernel_rfl, by decide +kernel⟩
 ·intro _; rfl
set_option maxRecDepth 100000 in
theorem MK : (Rows.logsLooksRow.wf (OpenSpec.ofChange Rows.logsLooksSpec)) = true := by kernel_rfl
set_option maxRecDepth 100000 in
theorem MJ : (Tryz.f18.params.all (Tryz.pinned.checked.prog.readableRec ·)) = true := by kernel_rfl
set_option maxRecDepth 100000 in
theorem MI : (namedTie Tryz.pinned.checked.prog Rows.logsLooksRow.named Rows.logsLooksSpec.vars) = true := by kernel_rfl
set_option maxRecDepth 100000 in
theorem MH : ((Rows.logsLooksRow.stops == [])) = true := by kernel_rfl
set_option maxRecDepth 100000 in
theorem MG : ((Rows.logsLooksRow.knobs == [])) = true := by kernel_rfl
set_option maxRecDepth 100000 in
theorem MF : ((Rows.logsLooksRow.inPlace == Tryz.pinned.checked.prog.inPlace 18)) = true := by kernel_rfl
set_option maxRecDepth 100000 in
theorem LO : ((Rows.logsLooksRow.unfollowed == Tryz.pinned.checked.prog.unfollowed 18)) = true := by kernel_rfl
set_option maxRecDepth 100000 in
theorem LN : ((Rows.logsLooksRow.recurses == Tryz.pinned.checked.prog.recurses 18)) = true := by kernel_rfl
set_option maxRecDepth 100000 in
theorem LM : ((Rows.logsLooksRow.named == Tryz.pinned.checked.prog.varsNamed 18)) = true := by kernel_rfl
set_option maxRecDepth 100000 in
theorem LL : ((Rows.logsLooksRow.maps == (Tryz.f18.params.toList ++ Rows.logsLooksSpec.plain.varTypes Tryz.pinned.checked.prog).any (Tryz.pinned.checked.prog.mapsRec ·))) = true := by kernel_rfl
set_option maxRecDepth 100000 in
theorem LK : ((Rows.logsLooksRow.ifaces == (Tryz.f18.params.toList ++ Rows.logsLooksSpec.plain.varTypes Tryz.pinned.checked.prog).any (Tryz.pinned.checked.prog.ifacesRec ·))) = true := by kernel_rfl
set_option maxRecDepth 100000 in
theorem LJ : ((Rows.logsLooksRow.mapsOut == Tryz.pinned.checked.prog.mapsAmong Tryz.f18.resultTypes.toList)) = true := by kernel_rfl
set_option maxRecDepth 100000 in
theorem LI : ((Rows.logsLooksRow.loops == (Tryz.f18.params.toList ++ Rows.logsLooksSpec.plain.varTypes Tryz.pinned.checked.prog).any (Tryz.pinned.checked.prog.loopsFrom ·))) = true := by kernel_rfl
set_option maxRecDepth 100000 in
theorem LH : ((Rows.logsLooksRow.wideKeys == (Tryz.f18.params.toList ++ Rows.logsLooksSpec.plain.varTypes Tryz.pinned.checked.prog ++ Tryz.f18.resultTypes.toList).any (Tryz.pinned.checked.prog.wideKeysFrom ·))) = true := by kernel_rfl
set_option maxRecDepth 100000 in
theorem LG : (Rows.logsLooksSpec.vars.all (Tryz.pinned.checked.prog.varReadable ·)) = true := by kernel_rfl
set_option maxRecDepth 100000 in
theorem LF : (Tryz.f18.resultTypes.all (fun t => Tryz.pinned.checked.prog.readableRec t && decide (t < Tryz.pinned.checked.prog.types.size))) = true := by kernel_rfl
set_option maxRecDepth 100000 in
theorem LE : ((Rows.logsLooksRow.ifacesOut == Tryz.f18.resultTypes.toList.any (Tryz.pinned.checked.prog.ifacesRec ·))) = true := by kernel_rfl
set_option maxRecDepth 100000 in
theorem LD : ((Rows.logsLooksRow.loopsOut == Tryz.f18.resultTypes.toList.any (Tryz.pinned.checked.prog.loopsFrom ·))) = true := by kernel_rfl
theorem LB : ((Rows.logsLooksRow.plainKeys == Tryz.pinned.checked.prog.plainKeys)) = true := by rw [<- eq_of_beq UE]; kernel_rfl
set_option maxRecDepth 100000 in
theorem LA : Rows.logsLooksRow.shortTexts.isNone = true := by kernel_rfl
theorem Ly : ((Rows.logsLooksRow.lifted == Tryz.pinned.checked.prog.liftsFinal)) = true := by rw [<- eq_of_beq UB]; kernel_rfl
theorem Lw : ((Tryz.pinned.checked.prog.make == some Rows.logsLooksRow.make)) = true := by rw [eq_of_beq UA]; kernel_rfl
set_option maxRecDepth 100000 in
theorem Lv : ((Rows.logsLooksRow.pinned == Rows.logsLooksRow.pinnedBy)) = true := by kernel_rfl
set_option maxRecDepth 100000 in
theorem Lt : ((Rows.logsLooksRow.veiled == (Tryz.f18.params.toList ++ Rows.logsLooksSpec.plain.varTypes Tryz.pinned.checked.prog ++ Tryz.f18.resultTypes.toList).any (Tryz.pinned.checked.prog.veiledRec ·))) = true := by kernel_rfl
set_option maxRecDepth 100000 in
theorem Ls : (Rows.logsLooksRow.veiledFits Tryz.pinned.checked.prog Tryz.f18.params.toList (Tryz.f18.params.toList ++ Rows.logsLooksSpec.plain.varTypes Tryz.pinned.checked.prog ++ Tryz.f18.resultTypes.toList)) = true := by kernel_rfl
theorem Ov : joinedFacts Tryz.pinned.checked.prog 18 Tryz.f18 Rows.logsLooksSpec Rows.logsLooksRow = true := Br (Br (Br (Br (Br (Br (Br (Br (Br (Br (Br (Br (Br (Br (Br (Br (Br (Br (Br (Br (Br (Br (Br (Br (Br (Br (Br (Br (Br (Br (Br MK UU) UT) MJ) MI) MH) US) MG) UR) MF) LO) LN) LM) LL) LK) LJ) LI) LH) LG) LF) LE) LD) LB) LA) UD) UC) Ly) Lw) (by kernel_rfl)) Lv) Lt) Ls
theorem JL : Tryz.pinned.checked.prog.funcNamed Rows.logsLooksRow.func = some 18 := by kernel_rfl
theorem Ot : Tryz.f18.isInstance Tryz.pinned.checked.prog Rows.logsLooksRow.origin Rows.logsLooksRow.targs := of_decide_eq_true (by kernel_rfl)
theorem Oo : Tryz.f18.isWrapper Tryz.pinned.checked.prog Rows.logsLooksRow.wrapper Rows.logsLooksRow.mainSum := by unfold Func.isWrapper; first | (rw [if_pos (by decide +kernel)]; kernel_rfl) | (rw [if_neg (by decide +kernel)]; exact ⟨rfl, rfl⟩)
theorem Ir : Rows.LogsLooksSaid :=
 OpenClaim.holds_of_wide 18 Tryz.f18 rfl rfl rfl rfl rfl rfl rfl ⟨rfl, rfl, rfl, rfl, rfl⟩ rfl rfl rfl rfl rfl JL Tryz.func18 Ov Ot Oo
  (fun os started H enc _ => Kw os started H enc)
theorem Ow : Rows.logsLooksRow.wfByText (OpenSpec.ofChange Rows.logsLooksSpec) = true := by kernel_rfl
theorem Oq : ([27, 27, 82].all fun u => !Tryz.prog.wantsStandIn u) = true := by kernel_rfl
theorem Ou : false = Rows.logsLooksRow.goesBy Tryz.pinned.checked.prog := by kernel_rfl
theorem logsLooks_proved : Rows.LogsLooksCardSaid :=
 Claim7.holds_tied_plain_at .later [] [.data, .data, .data, .data, .sentinel, .sentinel, .pinned] true (true, "8c4ab1a80a7e2c52077e9b3380faa1f8d4c3b8948d98da10affddce30d58f5b7") true Ir (fun _ h => by cases h) Ow (fun _ h => by cases h) logsLooks_row_tie rfl ⟨rfl, rfl⟩ TB rfl
  (fun f fn hf hfn => by
   obtain rfl : f = 18 := (Option.some.inj (JL.symm.trans hf)).symm
   obtain rfl : fn = Tryz.f18 := (Option.some.inj (Tryz.func18.symm.trans hfn)).symm
   exact ⟨Sm, fun j t ht => by
    rw [Tryz.params18] at ht
    have hm : t ∈ [27, 27, 82] := by simpa using Array.mem_of_getElem? ht
    exact (show Tryz.prog.wantsStandIn t = false by simpa using List.all_eq_true.1 Oq t hm)⟩)
  Ou
end
end Go.Proofs.YthljkpeimofbbaaGreatDoor
