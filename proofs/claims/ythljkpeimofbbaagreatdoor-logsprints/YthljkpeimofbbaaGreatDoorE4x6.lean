/- LogsPrints: for every input the law returns true, and each argument reads afterwards as it read before. No condition. -/
import Derived.Test.YthljkpeimofbbaaGreatDoorE4x5
set_option linter.unusedVariables false
set_option linter.unusedSimpArgs false
set_option linter.unusedSectionVars false
set_option maxHeartbeats 4000000
set_option maxRecDepth 100000
namespace Go.Proofs.YthljkpeimofbbaaGreatDoor
section
open Go.ChangeShapes Go.WideShapes Go.ChangeAt Go.RowKit
set_option maxRecDepth 100000 in
theorem Kt (os : Os) (started : os.Started) (H : Type) (enc : TypeId × Value -> H) :
  ReturnsInHanded {} Tryz.checked os 4 .any (fun w args => (Rows.logsPrintsSpec.pre enc Tryz.prog Tryz.f4 Rows.logsPrintsRow.domain false w args /\ laidMetH Tryz.prog Rows.logsPrintsRow.laid w) /\ sizedMet enc Tryz.prog Tryz.f4 (OpenSpec.ofChange Rows.logsPrintsSpec) false w args) (Rows.logsPrintsSpec.post enc Tryz.prog Tryz.f4 false true false false) := by
 refine Qd (C := Tryz.checked) (X := fun w _ => laidMetH Tryz.prog Nq w) (fun _ _ _ hh h => h.of_heap hh) SN started (by kernel_rfl) Tryz.func4
  (ChangeSpec.witness_shaped (enc := enc) (C := Tryz.checked) (os := os) (X := fun w _ => laidMetH Tryz.prog Nq w) false (World.laidAll Tryz.prog os Nq) #[.agg #[.bool false, .bool false, .bool false], .agg #[.string ByteArray.empty, .int .i64 0, .int .i64 0, .int .i64 0, .slice none 0 0, .slice none 0 0]] 8 (World.laidAll_os _ _ _)
   (World.shaped_of_ZipB (by kernel_rfl) (by kernel_rfl)) (by kernel_rfl) (by kernel_rfl) (by kernel_rfl) (Sh os _)) ?_
 intro W base args ds gs before hval0 hW hsz hL hsh
 have hval : ∀ (j : Nat) t v, Tryz.f4.params[j]? = some t -> args[j]? = some v -> Value.okWide Tryz.prog W .any base t v := hval0
 have hW' := hW
 obtain ⟨p, q, hA0, hV, rfl, hfz, hnd⟩ := hW
 have hA : DataW.TrodAll enc Tryz.prog W 0 (fun _ => true) true Tryz.f4.params.toList args.toList ds p := hA0
 rw [Tryz.params4] at hA hval
 obtain ⟨v0, vs0, d0, ds0, p0, q0, hargs, rfl, rfl, h0, r0⟩ := trodAll_cons hA
 obtain ⟨v1, vs1, d1, ds1, p1, q1, rfl, rfl, rfl, h1, r1⟩ := trodAll_cons r0
 obtain ⟨rfl, rfl, rfl⟩ := trodAll_nil r1
 obtain rfl : args = #[v0, v1] := by cases args; simp_all
 have z0 : SzW Tryz.prog 23 d0 := SzW.each hsz (j := 0) (by kernel_rfl) rfl
 obtain ⟨cs0, x0, rfl, R0, Q0⟩ := A3.agg Mq (by kernel_rfl) (hval 0 23 v0 rfl rfl) h0 z0
 have e0 := R0
 obtain rfl : cs0 = #[.bool x0.Report, .bool x0.Serial, .bool x0.Zone] := Array.ext' (by exact e0)
 have z1 : SzW Tryz.prog 27 d1 := SzW.each hsz (j := 1) (by kernel_rfl) rfl
 obtain ⟨cs1, x1, rfl, R1, Q1⟩ := A3.agg Pm (by kernel_rfl) (hval 1 27 v1 rfl rfl) h1 z1
 obtain ⟨a1_4, n1_4, a1_5, n1_5, e1, hb1_4, hs1_4, hb1_5, hs1_5⟩ := R1
 obtain rfl : cs1 = #[.string ⟨(x1.Call).toArray⟩, .int .i64 x1.Category, .int .i64 x1.Power, .int .i64 x1.Claimed, .slice a1_4 x1.Jumps.length n1_4, .slice a1_5 x1.Lines.length n1_5] := Array.ext' (by exact e1)
 refine (Ka 9223372036854775808 W (Ma W) (fun _ _ h => h) (Un hL hsh) x0 x1 a1_4 n1_4 hb1_4 hs1_4 a1_5 n1_5 hb1_5 hs1_5 true (QM x0 x1 Q0 Q1)).mono fun e W' he => ?_
 obtain ⟨r, F', rfl, hs, rfl⟩ := he
 refine ⟨_, rfl, QN (by kernel_rfl) (tb := 4) ?_ rfl hW' (by kernel_rfl) (by kernel_rfl) ?_ hs⟩
 ·intro t ht
  rw [Tryz.params4] at ht
  simp only [List.mem_cons, List.not_mem_nil, or_false] at ht
  rcases ht with rfl | rfl <;> exact ⟨by kernel_rfl, by decide +kernel⟩
 ·intro _; rfl
set_option maxRecDepth 100000 in
theorem My : (Rows.logsPrintsRow.wf (OpenSpec.ofChange Rows.logsPrintsSpec)) = true := by kernel_rfl
set_option maxRecDepth 100000 in
theorem Mx : (Tryz.f4.params.all (Tryz.pinned.checked.prog.readableRec ·)) = true := by kernel_rfl
set_option maxRecDepth 100000 in
theorem Mw : (namedTie Tryz.pinned.checked.prog Rows.logsPrintsRow.named Rows.logsPrintsSpec.vars) = true := by kernel_rfl
set_option maxRecDepth 100000 in
theorem Mv : ((Rows.logsPrintsRow.stops == [])) = true := by kernel_rfl
set_option maxRecDepth 100000 in
theorem Mu : ((Rows.logsPrintsRow.knobs == [])) = true := by kernel_rfl
set_option maxRecDepth 100000 in
theorem Mt : ((Rows.logsPrintsRow.inPlace == Tryz.pinned.checked.prog.inPlace 4)) = true := by kernel_rfl
set_option maxRecDepth 100000 in
theorem LH : ((Rows.logsPrintsRow.unfollowed == Tryz.pinned.checked.prog.unfollowed 4)) = true := by kernel_rfl
set_option maxRecDepth 100000 in
theorem LG : ((Rows.logsPrintsRow.recurses == Tryz.pinned.checked.prog.recurses 4)) = true := by kernel_rfl
set_option maxRecDepth 100000 in
theorem LF : ((Rows.logsPrintsRow.named == Tryz.pinned.checked.prog.varsNamed 4)) = true := by kernel_rfl
set_option maxRecDepth 100000 in
theorem LE : ((Rows.logsPrintsRow.maps == (Tryz.f4.params.toList ++ Rows.logsPrintsSpec.plain.varTypes Tryz.pinned.checked.prog).any (Tryz.pinned.checked.prog.mapsRec ·))) = true := by kernel_rfl
set_option maxRecDepth 100000 in
theorem LD : ((Rows.logsPrintsRow.ifaces == (Tryz.f4.params.toList ++ Rows.logsPrintsSpec.plain.varTypes Tryz.pinned.checked.prog).any (Tryz.pinned.checked.prog.ifacesRec ·))) = true := by kernel_rfl
set_option maxRecDepth 100000 in
theorem LB : ((Rows.logsPrintsRow.mapsOut == Tryz.pinned.checked.prog.mapsAmong Tryz.f4.resultTypes.toList)) = true := by kernel_rfl
set_option maxRecDepth 100000 in
theorem LA : ((Rows.logsPrintsRow.loops == (Tryz.f4.params.toList ++ Rows.logsPrintsSpec.plain.varTypes Tryz.pinned.checked.prog).any (Tryz.pinned.checked.prog.loopsFrom ·))) = true := by kernel_rfl
set_option maxRecDepth 100000 in
theorem Ly : ((Rows.logsPrintsRow.wideKeys == (Tryz.f4.params.toList ++ Rows.logsPrintsSpec.plain.varTypes Tryz.pinned.checked.prog ++ Tryz.f4.resultTypes.toList).any (Tryz.pinned.checked.prog.wideKeysFrom ·))) = true := by kernel_rfl
set_option maxRecDepth 100000 in
theorem Lw : (Rows.logsPrintsSpec.vars.all (Tryz.pinned.checked.prog.varReadable ·)) = true := by kernel_rfl
set_option maxRecDepth 100000 in
theorem Lv : (Tryz.f4.resultTypes.all (fun t => Tryz.pinned.checked.prog.readableRec t && decide (t < Tryz.pinned.checked.prog.types.size))) = true := by kernel_rfl
set_option maxRecDepth 100000 in
theorem Lt : ((Rows.logsPrintsRow.ifacesOut == Tryz.f4.resultTypes.toList.any (Tryz.pinned.checked.prog.ifacesRec ·))) = true := by kernel_rfl
set_option maxRecDepth 100000 in
theorem Ls : ((Rows.logsPrintsRow.loopsOut == Tryz.f4.resultTypes.toList.any (Tryz.pinned.checked.prog.loopsFrom ·))) = true := by kernel_rfl
theorem Lr : ((Rows.logsPrintsRow.plainKeys == Tryz.pinned.checked.prog.plainKeys)) = true := by rw [<- eq_of_beq VC]; kernel_rfl
set_option maxRecDepth 100000 in
theorem Lp : Rows.logsPrintsRow.shortTexts.isNone = true := by kernel_rfl
theorem Ln : ((Rows.logsPrintsRow.lifted == Tryz.pinned.checked.prog.liftsFinal)) = true := by rw [<- eq_of_beq Vz]; kernel_rfl
theorem Lm : ((Tryz.pinned.checked.prog.make == some Rows.logsPrintsRow.make)) = true := by rw [eq_of_beq Vy]; kernel_rfl
set_option maxRecDepth 100000 in
theorem Ll : ((Rows.logsPrintsRow.pinned == Rows.logsPrintsRow.pinnedBy)) = true := by kernel_rfl
set_option maxRecDepth 100000 in
theorem Lk : ((Rows.logsPrintsRow.veiled == (Tryz.f4.params.toList ++ Rows.logsPrintsSpec.plain.varTypes Tryz.pinned.checked.prog ++ Tryz.f4.resultTypes.toList).any (Tryz.pinned.checked.prog.veiledRec ·))) = true := by kernel_rfl
set_option maxRecDepth 100000 in
theorem Lj : (Rows.logsPrintsRow.veiledFits Tryz.pinned.checked.prog Tryz.f4.params.toList (Tryz.f4.params.toList ++ Rows.logsPrintsSpec.plain.varTypes Tryz.pinned.checked.prog ++ Tryz.f4.resultTypes.toList)) = true := by kernel_rfl
theorem Oe : joinedFacts Tryz.pinned.checked.prog 4 Tryz.f4 Rows.logsPrintsSpec Rows.logsPrintsRow = true := Bv (Bv (Bv (Bv (Bv (Bv (Bv (Bv (Bv (Bv (Bv (Bv (Bv (Bv (Bv (Bv (Bv (Bv (Bv (Bv (Bv (Bv (Bv (Bv (Bv (Bv (Bv (Bv (Bv (Bv (Bv My VT) VS) Mx) Mw) Mv) VR) Mu) VQ) Mt) LH) LG) LF) LE) LD) LB) LA) Ly) Lw) Lv) Lt) Ls) Lr) Lp) VB) VA) Ln) Lm) (by kernel_rfl)) Ll) Lk) Lj
theorem JD : Tryz.pinned.checked.prog.funcNamed Rows.logsPrintsRow.func = some 4 := by kernel_rfl
theorem Oc : Tryz.f4.isInstance Tryz.pinned.checked.prog Rows.logsPrintsRow.origin Rows.logsPrintsRow.targs := of_decide_eq_true (by kernel_rfl)
theorem N9 : Tryz.f4.isWrapper Tryz.pinned.checked.prog Rows.logsPrintsRow.wrapper Rows.logsPrintsRow.mainSum := by unfold Func.isWrapper; first | (rw [if_pos (by decide +kernel)]; kernel_rfl) | (rw [if_neg (by decide +kernel)]; exact ⟨rfl, rfl⟩)
theorem Iy : Rows.LogsPrintsSaid :=
 OpenClaim.holds_of_wide 4 Tryz.f4 rfl rfl rfl rfl rfl rfl rfl ⟨rfl, rfl, rfl, rfl, rfl⟩ rfl rfl rfl rfl rfl JD Tryz.func4 Oe Oc N9
  (fun os started H enc _ => Kt os started H enc)
theorem Of : Rows.logsPrintsRow.wfByText (OpenSpec.ofChange Rows.logsPrintsSpec) = true := by kernel_rfl
theorem Oa : ([23, 27].all fun u => !Tryz.prog.wantsStandIn u) = true := by kernel_rfl
theorem Od : false = Rows.logsPrintsRow.goesBy Tryz.pinned.checked.prog := by kernel_rfl
theorem logsPrints_proved : Rows.LogsPrintsCardSaid :=
 Claim7.holds_tied_plain_at .later [] [.data, .data, .data, .data, .sentinel, .sentinel, .pinned] true (true, "8c4ab1a80a7e2c52077e9b3380faa1f8d4c3b8948d98da10affddce30d58f5b7") true Iy (fun _ h => by cases h) Of (fun _ h => by cases h) logsPrints_row_tie rfl ⟨rfl, rfl⟩ Uo rfl
  (fun f fn hf hfn => by
   obtain rfl : f = 4 := (Option.some.inj (JD.symm.trans hf)).symm
   obtain rfl : fn = Tryz.f4 := (Option.some.inj (Tryz.func4.symm.trans hfn)).symm
   exact ⟨S7, fun j t ht => by
    rw [Tryz.params4] at ht
    have hm : t ∈ [23, 27] := by simpa using Array.mem_of_getElem? ht
    exact (show Tryz.prog.wantsStandIn t = false by simpa using List.all_eq_true.1 Oa t hm)⟩)
  Od
end
end Go.Proofs.YthljkpeimofbbaaGreatDoor
