/- RulesPrintsUpto: for every input whose bulk is at most 1048576 the law returns true, and each argument reads afterwards as it read before. The bound on the bulk is the one condition. -/
import Derived.Test.YtaihlcdkcampbaaGreatDoorE10x5
set_option linter.unusedVariables false
set_option linter.unusedSimpArgs false
set_option linter.unusedSectionVars false
set_option maxHeartbeats 4000000
set_option maxRecDepth 100000
namespace Go.Proofs.YtaihlcdkcampbaaGreatDoor
section
open Go.ChangeShapes Go.WideShapes Go.ChangeAt Go.RowKit
theorem Ih (os : Os) {H : Type} (enc : TypeId × Value -> H) : ∃ places, DataW.whole enc Tryz.prog ((World.laidAll Tryz.prog os JQ).forCall (fun _ _ => 0) ⟨#[], #[.agg #[.slice none 0 0, .slice none 0 0, .slice none 0 0, .slice none 0 0], .agg #[.int .i64 0, .int .i64 0, .slice none 0 0]], []⟩).memory Tryz.f10.params.toList Rows.rulesPrintsSpec.vars false #[.agg #[.slice none 0 0, .slice none 0 0, .slice none 0 0, .slice none 0 0], .agg #[.int .i64 0, .int .i64 0, .slice none 0 0]].toList 8 = some ([.agg [.nil, .nil, .nil, .nil], .agg [.lit (.int .i64 0), .lit (.int .i64 0), .nil]], [], places) :=
 ⟨[], by kernel_rfl⟩
set_option maxRecDepth 100000 in
theorem H2 (os : Os) (started : os.Started) (H : Type) (enc : TypeId × Value -> H) (F : Stop.Interp) :
  ReturnsInHanded {} Tryz.checked os 10 .any ((Rows.OpenSpec.upto Rows.rulesPrintsSpec).preRow enc Tryz.prog Tryz.f10 Rows.rulesPrintsUptoRow.domain false Rows.rulesPrintsUptoRow.laid) (((Rows.OpenSpec.upto Rows.rulesPrintsSpec).at F).post enc Tryz.prog Tryz.f10 false true false false) := by
 obtain ⟨places, hx⟩ := Ih os enc
 refine returnsInHanded_of_row (C := Tryz.checked) (s := (Rows.OpenSpec.upto Rows.rulesPrintsSpec)) Py started (by kernel_rfl) Tryz.func10
  (L8 (enc := enc) (C := Tryz.checked) false (World.laidAll Tryz.prog os JQ) #[.agg #[.slice none 0 0, .slice none 0 0, .slice none 0 0, .slice none 0 0], .agg #[.int .i64 0, .int .i64 0, .slice none 0 0]] (World.laidAll_os _ _ _) (World.shaped_of_ZipB (by kernel_rfl) (by kernel_rfl)) (by kernel_rfl)
   (OpenSpec.preRow_of_cond 8 hx (by kernel_rfl) (fun k hk => by cases hk; kernel_rfl) (by kernel_rfl) (O0 os _))) ?_
 intro W base args ds gs before hval0 hW _ hcond hsz hL hsh _
 show Calls Tryz.prog 10 args W fun e W' => ∃ v, e = .returned v /\ Rows.rulesPrintsSpec.post enc Tryz.prog Tryz.f10 false true false false W args v W'
 have hk : Rows.uptoSmall H (ds ++ gs) = true := hcond _ rfl
 have hval : ∀ (j : Nat) t v, Tryz.f10.params[j]? = some t -> args[j]? = some v -> Value.okWide Tryz.prog W .any base t v := hval0
 have hW' : DataW.Whole enc Tryz.prog Tryz.f10.params.toList Rows.rulesPrintsSpec.vars false W args.toList ds gs before := hW
 obtain ⟨p, q, hA0, hV, rfl, hfz, hnd⟩ := hW
 have hA : DataW.TrodAll enc Tryz.prog W 0 (fun _ => true) true Tryz.f10.params.toList args.toList ds p := hA0
 obtain ⟨rfl, rfl⟩ := trodVars_none hV
 rw [Tryz.params10] at hA hval
 obtain ⟨v0, vs0, d0, ds0, p0, q0, hargs, rfl, rfl, h0, r0⟩ := trodAll_cons hA
 obtain ⟨v1, vs1, d1, ds1, p1, q1, rfl, rfl, rfl, h1, r1⟩ := trodAll_cons r0
 obtain ⟨rfl, rfl, rfl⟩ := trodAll_nil r1
 obtain rfl : args = #[v0, v1] := by cases args; simp_all
 have hb : Rows.uptoBulk d0 + Rows.uptoBulk d1 <= 1048576 := by have h := of_decide_eq_true hk; simp only [List.append_nil, Rows.uptoBulkAll] at h; omega
 have z0 : SzW Tryz.prog 26 d0 := SzW.each hsz (j := 0) (by kernel_rfl) rfl
 obtain ⟨cs0, x0, rfl, R0, Q0, U0⟩ := EY.agg KF (by kernel_rfl) (hval 0 26 v0 rfl rfl) h0 z0
 obtain ⟨a0_0, n0_0, a0_1, n0_1, a0_2, n0_2, a0_3, n0_3, e0, hb0_0, hs0_0, hb0_1, hs0_1, hb0_2, hs0_2, hb0_3, hs0_3⟩ := R0
 obtain rfl : cs0 = #[.slice a0_0 x0.Points.length n0_0, .slice a0_1 x0.Multipliers.length n0_1, .slice a0_2 x0.Penalties.length n0_2, .slice a0_3 x0.Repeats.length n0_3] := Array.ext' (by exact e0)
 have z1 : SzW Tryz.prog 33 d1 := SzW.each hsz (j := 1) (by kernel_rfl) rfl
 obtain ⟨cs1, x1, rfl, R1, Q1, U1⟩ := EY.agg Do (by kernel_rfl) (hval 1 33 v1 rfl rfl) h1 z1
 obtain ⟨a1_2, n1_2, e1, hb1_2, hs1_2⟩ := Az R1
 obtain rfl : cs1 = #[.int .i64 x1.Op, .int .i64 x1.Value, .slice a1_2 x1.Kids.length n1_2] := Array.ext' (by exact e1)
 obtain ⟨N, hN⟩ := NS x0 x1 Q0 (Nat.le_trans U0 (by omega)) Q1 (Nat.le_trans U1 (by omega))
 refine (Hz N W (GG W) (fun _ _ h => h) (QA hL hsh) x0 a0_0 n0_0 hb0_0 hs0_0 a0_1 n0_1 hb0_1 hs0_1 a0_2 n0_2 hb0_2 hs0_2 a0_3 n0_3 hb0_3 hs0_3 x1 a1_2 n1_2 hb1_2 hs1_2 true hN).mono fun e W' he => ?_
 obtain ⟨r, F', rfl, hs, rfl⟩ := he
 refine ⟨_, rfl, NX (by kernel_rfl) (tb := 4) ?_ rfl hW' (by kernel_rfl) (by kernel_rfl) ?_ hs⟩
 ·intro t ht
  rw [Tryz.params10] at ht
  simp only [List.mem_cons, List.not_mem_nil, or_false] at ht
  rcases ht with rfl | rfl <;> exact ⟨by kernel_rfl, by decide +kernel⟩
 ·intro _; rfl
set_option maxRecDepth 100000 in
theorem Jr : (Rows.rulesPrintsUptoRow.wf (OpenSpec.ofChange (Rows.OpenSpec.upto Rows.rulesPrintsSpec).bare)) = true := by kernel_rfl
set_option maxRecDepth 100000 in
theorem Jq : (Tryz.f10.params.all (Tryz.pinned.checked.prog.readableRec ·)) = true := by kernel_rfl
set_option maxRecDepth 100000 in
theorem Jp : (namedTie Tryz.pinned.checked.prog Rows.rulesPrintsUptoRow.named (Rows.OpenSpec.upto Rows.rulesPrintsSpec).bare.vars) = true := by kernel_rfl
set_option maxRecDepth 100000 in
theorem Jo : ((Rows.rulesPrintsUptoRow.stops == [])) = true := by kernel_rfl
set_option maxRecDepth 100000 in
theorem Jn : ((Rows.rulesPrintsUptoRow.knobs == [])) = true := by kernel_rfl
set_option maxRecDepth 100000 in
theorem Jm : ((Rows.rulesPrintsUptoRow.inPlace == Tryz.pinned.checked.prog.inPlace 10)) = true := by kernel_rfl
set_option maxRecDepth 100000 in
theorem IK : ((Rows.rulesPrintsUptoRow.unfollowed == Tryz.pinned.checked.prog.unfollowed 10)) = true := by kernel_rfl
set_option maxRecDepth 100000 in
theorem IJ : ((Rows.rulesPrintsUptoRow.recurses == Tryz.pinned.checked.prog.recurses 10)) = true := by kernel_rfl
set_option maxRecDepth 100000 in
theorem II : ((Rows.rulesPrintsUptoRow.named == Tryz.pinned.checked.prog.varsNamed 10)) = true := by kernel_rfl
set_option maxRecDepth 100000 in
theorem IH : ((Rows.rulesPrintsUptoRow.maps == (Tryz.f10.params.toList ++ (Rows.OpenSpec.upto Rows.rulesPrintsSpec).bare.plain.varTypes Tryz.pinned.checked.prog).any (Tryz.pinned.checked.prog.mapsRec ·))) = true := by kernel_rfl
set_option maxRecDepth 100000 in
theorem IG : ((Rows.rulesPrintsUptoRow.ifaces == (Tryz.f10.params.toList ++ (Rows.OpenSpec.upto Rows.rulesPrintsSpec).bare.plain.varTypes Tryz.pinned.checked.prog).any (Tryz.pinned.checked.prog.ifacesRec ·))) = true := by kernel_rfl
set_option maxRecDepth 100000 in
theorem IF : ((Rows.rulesPrintsUptoRow.mapsOut == Tryz.pinned.checked.prog.mapsAmong Tryz.f10.resultTypes.toList)) = true := by kernel_rfl
set_option maxRecDepth 100000 in
theorem IE : ((Rows.rulesPrintsUptoRow.loops == (Tryz.f10.params.toList ++ (Rows.OpenSpec.upto Rows.rulesPrintsSpec).bare.plain.varTypes Tryz.pinned.checked.prog).any (Tryz.pinned.checked.prog.loopsFrom ·))) = true := by kernel_rfl
set_option maxRecDepth 100000 in
theorem ID : ((Rows.rulesPrintsUptoRow.wideKeys == (Tryz.f10.params.toList ++ (Rows.OpenSpec.upto Rows.rulesPrintsSpec).bare.plain.varTypes Tryz.pinned.checked.prog ++ Tryz.f10.resultTypes.toList).any (Tryz.pinned.checked.prog.wideKeysFrom ·))) = true := by kernel_rfl
set_option maxRecDepth 100000 in
theorem IC : ((Rows.OpenSpec.upto Rows.rulesPrintsSpec).bare.vars.all (Tryz.pinned.checked.prog.varReadable ·)) = true := by kernel_rfl
set_option maxRecDepth 100000 in
theorem IB : (Tryz.f10.resultTypes.all (fun t => Tryz.pinned.checked.prog.readableRec t && decide (t < Tryz.pinned.checked.prog.types.size))) = true := by kernel_rfl
set_option maxRecDepth 100000 in
theorem IA : ((Rows.rulesPrintsUptoRow.ifacesOut == Tryz.f10.resultTypes.toList.any (Tryz.pinned.checked.prog.ifacesRec ·))) = true := by kernel_rfl
set_option maxRecDepth 100000 in
theorem Iz : ((Rows.rulesPrintsUptoRow.loopsOut == Tryz.f10.resultTypes.toList.any (Tryz.pinned.checked.prog.loopsFrom ·))) = true := by kernel_rfl
theorem Iy : ((Rows.rulesPrintsUptoRow.plainKeys == Tryz.pinned.checked.prog.plainKeys)) = true := by rw [<- eq_of_beq RH]; kernel_rfl
set_option maxRecDepth 100000 in
theorem Iw : Rows.rulesPrintsUptoRow.shortTexts.isNone = true := by kernel_rfl
theorem Iv : ((Rows.rulesPrintsUptoRow.lifted == Tryz.pinned.checked.prog.liftsFinal)) = true := by rw [<- eq_of_beq RE]; kernel_rfl
theorem Iu : ((Tryz.pinned.checked.prog.make == some Rows.rulesPrintsUptoRow.make)) = true := by rw [eq_of_beq RC]; kernel_rfl
set_option maxRecDepth 100000 in
theorem It : ((Rows.rulesPrintsUptoRow.pinned == Rows.rulesPrintsUptoRow.pinnedBy)) = true := by kernel_rfl
set_option maxRecDepth 100000 in
theorem Is : ((Rows.rulesPrintsUptoRow.veiled == (Tryz.f10.params.toList ++ (Rows.OpenSpec.upto Rows.rulesPrintsSpec).bare.plain.varTypes Tryz.pinned.checked.prog ++ Tryz.f10.resultTypes.toList).any (Tryz.pinned.checked.prog.veiledRec ·))) = true := by kernel_rfl
set_option maxRecDepth 100000 in
theorem Ir : (Rows.rulesPrintsUptoRow.veiledFits Tryz.pinned.checked.prog Tryz.f10.params.toList (Tryz.f10.params.toList ++ (Rows.OpenSpec.upto Rows.rulesPrintsSpec).bare.plain.varTypes Tryz.pinned.checked.prog ++ Tryz.f10.resultTypes.toList)) = true := by kernel_rfl
theorem KN : joinedFacts Tryz.pinned.checked.prog 10 Tryz.f10 (Rows.OpenSpec.upto Rows.rulesPrintsSpec).bare Rows.rulesPrintsUptoRow = true := Bh (Bh (Bh (Bh (Bh (Bh (Bh (Bh (Bh (Bh (Bh (Bh (Bh (Bh (Bh (Bh (Bh (Bh (Bh (Bh (Bh (Bh (Bh (Bh (Bh (Bh (Bh (Bh (Bh (Bh (Bh Jr R4) R3) Jq) Jp) Jo) R2) Jn) RZ) Jm) IK) IJ) II) IH) IG) IF) IE) ID) IC) IB) IA) Iz) Iy) Iw) RG) RF) Iv) Iu) (by kernel_rfl)) It) Is) Ir
theorem GJ : Tryz.pinned.checked.prog.funcNamed Rows.rulesPrintsUptoRow.func = some 10 := by kernel_rfl
theorem KK : Tryz.f10.isInstance Tryz.pinned.checked.prog Rows.rulesPrintsUptoRow.origin Rows.rulesPrintsUptoRow.targs := of_decide_eq_true (by kernel_rfl)
theorem KI : Tryz.f10.isWrapper Tryz.pinned.checked.prog Rows.rulesPrintsUptoRow.wrapper Rows.rulesPrintsUptoRow.mainSum := by unfold Func.isWrapper; first | (rw [if_pos (by decide +kernel)]; kernel_rfl) | (rw [if_neg (by decide +kernel)]; exact ⟨rfl, rfl⟩)
theorem Gr : Rows.RulesPrintsUptoSaid :=
 OpenClaim.holds_of_cond 10 Tryz.f10 rfl rfl rfl rfl rfl rfl rfl ⟨rfl, rfl, rfl, rfl, rfl⟩ rfl rfl rfl rfl rfl GJ Tryz.func10 KN KK KI
  (fun os started H enc _ F => by rw [OpenClaim.pre_eq_preRow]; exact H2 os started H enc F)
theorem KO : Rows.rulesPrintsUptoRow.wfByText (Rows.OpenSpec.upto Rows.rulesPrintsSpec) = true := by kernel_rfl
theorem KJ : ([26, 33].all fun u => !Tryz.prog.wantsStandIn u) = true := by kernel_rfl
theorem KM : false = Rows.rulesPrintsUptoRow.goesBy Tryz.pinned.checked.prog := by kernel_rfl
theorem rulesPrints_proved : Rows.RulesPrintsUptoCardSaid :=
 Claim7.holds_tied_plain_at .later [] [.data, .data, .data, .sentinel, .sentinel] true (true, "9ef67a4cb07571d798ed60e513598468ebe5a66f3455e0900720288bced703b8") true Gr (fun _ h => by cases h) KO (fun _ h => by cases h) rulesPrintsUpto_row_tie rfl ⟨rfl, rfl⟩ QB rfl
  (fun f fn hf hfn => by
   obtain rfl : f = 10 := (Option.some.inj (GJ.symm.trans hf)).symm
   obtain rfl : fn = Tryz.f10 := (Option.some.inj (Tryz.func10.symm.trans hfn)).symm
   exact ⟨PJ, fun j t ht => by
    rw [Tryz.params10] at ht
    have hm : t ∈ [26, 33] := by simpa using Array.mem_of_getElem? ht
    exact (show Tryz.prog.wantsStandIn t = false by simpa using List.all_eq_true.1 KJ t hm)⟩)
  KM
end
end Go.Proofs.YtaihlcdkcampbaaGreatDoor
