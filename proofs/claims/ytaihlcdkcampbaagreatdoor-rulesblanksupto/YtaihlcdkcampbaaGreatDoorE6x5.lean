/- RulesBlanksUpto: for every input whose bulk is at most 1048576 the law returns true, and each argument reads afterwards as it read before. The bound on the bulk is the one condition. -/
import Derived.Test.YtaihlcdkcampbaaGreatDoorE6x4
set_option linter.unusedVariables false
set_option linter.unusedSimpArgs false
set_option linter.unusedSectionVars false
set_option maxHeartbeats 4000000
set_option maxRecDepth 100000
namespace Go.Proofs.YtaihlcdkcampbaaGreatDoor
section
open Go.ChangeShapes Go.WideShapes Go.ChangeAt Go.RowKit
theorem HL (os : Os) {H : Type} (enc : TypeId × Value -> H) : ∃ places, DataW.whole enc Tryz.prog ((World.laidAll Tryz.prog os Jp).forCall (fun _ _ => 0) ⟨#[], #[.agg #[.int .i64 0, .int .i64 0, .slice none 0 0], .slice none 0 0], []⟩).memory Tryz.f6.params.toList Rows.rulesBlanksSpec.vars false #[.agg #[.int .i64 0, .int .i64 0, .slice none 0 0], .slice none 0 0].toList 8 = some ([.agg [.lit (.int .i64 0), .lit (.int .i64 0), .nil], .nil], [], places) :=
 ⟨[], by kernel_rfl⟩
set_option maxRecDepth 100000 in
theorem Hr (os : Os) (started : os.Started) (H : Type) (enc : TypeId × Value -> H) (F : Stop.Interp) :
  ReturnsInHanded {} Tryz.checked os 6 .any ((Rows.OpenSpec.upto Rows.rulesBlanksSpec).preRow enc Tryz.prog Tryz.f6 Rows.rulesBlanksUptoRow.domain false Rows.rulesBlanksUptoRow.laid) (((Rows.OpenSpec.upto Rows.rulesBlanksSpec).at F).post enc Tryz.prog Tryz.f6 false true false false) := by
 obtain ⟨places, hx⟩ := HL os enc
 refine returnsInHanded_of_row (C := Tryz.checked) (s := (Rows.OpenSpec.upto Rows.rulesBlanksSpec)) Pl started (by kernel_rfl) Tryz.func6
  (Lv (enc := enc) (C := Tryz.checked) false (World.laidAll Tryz.prog os Jp) #[.agg #[.int .i64 0, .int .i64 0, .slice none 0 0], .slice none 0 0] (World.laidAll_os _ _ _) (World.shaped_of_ZipB (by kernel_rfl) (by kernel_rfl)) (by kernel_rfl)
   (OpenSpec.preRow_of_cond 8 hx (by kernel_rfl) (fun k hk => by cases hk; kernel_rfl) (by kernel_rfl) (ON os _))) ?_
 intro W base args ds gs before hval0 hW _ hcond hsz hL hsh _
 show Calls Tryz.prog 6 args W fun e W' => ∃ v, e = .returned v /\ Rows.rulesBlanksSpec.post enc Tryz.prog Tryz.f6 false true false false W args v W'
 have hk : Rows.uptoSmall H (ds ++ gs) = true := hcond _ rfl
 have hval : ∀ (j : Nat) t v, Tryz.f6.params[j]? = some t -> args[j]? = some v -> Value.okWide Tryz.prog W .any base t v := hval0
 have hW' : DataW.Whole enc Tryz.prog Tryz.f6.params.toList Rows.rulesBlanksSpec.vars false W args.toList ds gs before := hW
 obtain ⟨p, q, hA0, hV, rfl, hfz, hnd⟩ := hW
 have hA : DataW.TrodAll enc Tryz.prog W 0 (fun _ => true) true Tryz.f6.params.toList args.toList ds p := hA0
 obtain ⟨rfl, rfl⟩ := trodVars_none hV
 rw [Tryz.params6] at hA hval
 obtain ⟨v0, vs0, d0, ds0, p0, q0, hargs, rfl, rfl, h0, r0⟩ := trodAll_cons hA
 obtain ⟨v1, vs1, d1, ds1, p1, q1, rfl, rfl, rfl, h1, r1⟩ := trodAll_cons r0
 obtain ⟨rfl, rfl, rfl⟩ := trodAll_nil r1
 obtain rfl : args = #[v0, v1] := by cases args; simp_all
 have hb : Rows.uptoBulk d0 + Rows.uptoBulk d1 <= 1048576 := by have h := of_decide_eq_true hk; simp only [List.append_nil, Rows.uptoBulkAll] at h; omega
 have z0 : SzW Tryz.prog 33 d0 := SzW.each hsz (j := 0) (by kernel_rfl) rfl
 obtain ⟨cs0, x0, rfl, R0, Q0, U0⟩ := D5.agg Ka (by kernel_rfl) (hval 0 33 v0 rfl rfl) h0 z0
 obtain ⟨a0_2, n0_2, e0, hb0_2, hs0_2⟩ := AR R0
 obtain rfl : cs0 = #[.int .i64 x0.Op, .int .i64 x0.Value, .slice a0_2 x0.Kids.length n0_2] := Array.ext' (by exact e0)
 have z1 : SzW Tryz.prog 42 d1 := SzW.each hsz (j := 1) (by kernel_rfl) rfl
 obtain ⟨x1, R1, Q1, U1⟩ := D5.one (LO (t := 42) (OG (t := 5) (by kernel_rfl) (by kernel_rfl) : D5 Tryz.prog 5 tU8 _ _) (by decide) (by kernel_rfl) (by kernel_rfl) : D5 Tryz.prog 42 (tSl tU8) _ _) (by kernel_rfl) (hval 1 42 v1 rfl rfl) h1 z1
 obtain ⟨a1_0, n1_0, e1, hb1_0, hs1_0⟩ := R1
 obtain rfl : v1 = .slice a1_0 x1.length n1_0 := by cases e1; rfl
 obtain ⟨N, hN⟩ := NE x0 x1 Q0 (Nat.le_trans U0 (by omega)) Q1 (Nat.le_trans U1 (by omega))
 refine (GW N W (Fe W) (fun _ _ h => h) (QC hL hsh) x0 a0_2 n0_2 hb0_2 hs0_2 x1 a1_0 n1_0 hb1_0 hs1_0 true hN).mono fun e W' he => ?_
 obtain ⟨r, F', rfl, hs, rfl⟩ := he
 refine ⟨_, rfl, Np (by kernel_rfl) (tb := 4) ?_ rfl hW' (by kernel_rfl) (by kernel_rfl) ?_ hs⟩
 ·intro t ht
  rw [Tryz.params6] at ht
  simp only [List.mem_cons, List.not_mem_nil, or_false] at ht
  rcases ht with rfl | rfl <;> exact ⟨by kernel_rfl, by decide +kernel⟩
 ·intro _; rfl
set_option maxRecDepth 100000 in
theorem IY : (Rows.rulesBlanksUptoRow.wf (OpenSpec.ofChange (Rows.OpenSpec.upto Rows.rulesBlanksSpec).bare)) = true := by kernel_rfl
set_option maxRecDepth 100000 in
theorem IX : (Tryz.f6.params.all (Tryz.pinned.checked.prog.readableRec ·)) = true := by kernel_rfl
set_option maxRecDepth 100000 in
theorem IW : (namedTie Tryz.pinned.checked.prog Rows.rulesBlanksUptoRow.named (Rows.OpenSpec.upto Rows.rulesBlanksSpec).bare.vars) = true := by kernel_rfl
set_option maxRecDepth 100000 in
theorem IV : ((Rows.rulesBlanksUptoRow.stops == [])) = true := by kernel_rfl
set_option maxRecDepth 100000 in
theorem IU : ((Rows.rulesBlanksUptoRow.knobs == [])) = true := by kernel_rfl
set_option maxRecDepth 100000 in
theorem IR : ((Rows.rulesBlanksUptoRow.inPlace == Tryz.pinned.checked.prog.inPlace 6)) = true := by kernel_rfl
set_option maxRecDepth 100000 in
theorem Ij : ((Rows.rulesBlanksUptoRow.unfollowed == Tryz.pinned.checked.prog.unfollowed 6)) = true := by kernel_rfl
set_option maxRecDepth 100000 in
theorem Ii : ((Rows.rulesBlanksUptoRow.recurses == Tryz.pinned.checked.prog.recurses 6)) = true := by kernel_rfl
set_option maxRecDepth 100000 in
theorem Ih : ((Rows.rulesBlanksUptoRow.named == Tryz.pinned.checked.prog.varsNamed 6)) = true := by kernel_rfl
set_option maxRecDepth 100000 in
theorem Ig : ((Rows.rulesBlanksUptoRow.maps == (Tryz.f6.params.toList ++ (Rows.OpenSpec.upto Rows.rulesBlanksSpec).bare.plain.varTypes Tryz.pinned.checked.prog).any (Tryz.pinned.checked.prog.mapsRec ·))) = true := by kernel_rfl
set_option maxRecDepth 100000 in
theorem Ie : ((Rows.rulesBlanksUptoRow.ifaces == (Tryz.f6.params.toList ++ (Rows.OpenSpec.upto Rows.rulesBlanksSpec).bare.plain.varTypes Tryz.pinned.checked.prog).any (Tryz.pinned.checked.prog.ifacesRec ·))) = true := by kernel_rfl
set_option maxRecDepth 100000 in
theorem Ic : ((Rows.rulesBlanksUptoRow.mapsOut == Tryz.pinned.checked.prog.mapsAmong Tryz.f6.resultTypes.toList)) = true := by kernel_rfl
set_option maxRecDepth 100000 in
theorem Ib : ((Rows.rulesBlanksUptoRow.loops == (Tryz.f6.params.toList ++ (Rows.OpenSpec.upto Rows.rulesBlanksSpec).bare.plain.varTypes Tryz.pinned.checked.prog).any (Tryz.pinned.checked.prog.loopsFrom ·))) = true := by kernel_rfl
set_option maxRecDepth 100000 in
theorem Ia : ((Rows.rulesBlanksUptoRow.wideKeys == (Tryz.f6.params.toList ++ (Rows.OpenSpec.upto Rows.rulesBlanksSpec).bare.plain.varTypes Tryz.pinned.checked.prog ++ Tryz.f6.resultTypes.toList).any (Tryz.pinned.checked.prog.wideKeysFrom ·))) = true := by kernel_rfl
set_option maxRecDepth 100000 in
theorem H9 : ((Rows.OpenSpec.upto Rows.rulesBlanksSpec).bare.vars.all (Tryz.pinned.checked.prog.varReadable ·)) = true := by kernel_rfl
set_option maxRecDepth 100000 in
theorem H8 : (Tryz.f6.resultTypes.all (fun t => Tryz.pinned.checked.prog.readableRec t && decide (t < Tryz.pinned.checked.prog.types.size))) = true := by kernel_rfl
set_option maxRecDepth 100000 in
theorem H7 : ((Rows.rulesBlanksUptoRow.ifacesOut == Tryz.f6.resultTypes.toList.any (Tryz.pinned.checked.prog.ifacesRec ·))) = true := by kernel_rfl
set_option maxRecDepth 100000 in
theorem HZ : ((Rows.rulesBlanksUptoRow.loopsOut == Tryz.f6.resultTypes.toList.any (Tryz.pinned.checked.prog.loopsFrom ·))) = true := by kernel_rfl
theorem HY : ((Rows.rulesBlanksUptoRow.plainKeys == Tryz.pinned.checked.prog.plainKeys)) = true := by rw [<- eq_of_beq RU]; kernel_rfl
set_option maxRecDepth 100000 in
theorem HX : Rows.rulesBlanksUptoRow.shortTexts.isNone = true := by kernel_rfl
theorem HW : ((Rows.rulesBlanksUptoRow.lifted == Tryz.pinned.checked.prog.liftsFinal)) = true := by rw [<- eq_of_beq RQ]; kernel_rfl
theorem HV : ((Tryz.pinned.checked.prog.make == some Rows.rulesBlanksUptoRow.make)) = true := by rw [eq_of_beq RP]; kernel_rfl
set_option maxRecDepth 100000 in
theorem HU : ((Rows.rulesBlanksUptoRow.pinned == Rows.rulesBlanksUptoRow.pinnedBy)) = true := by kernel_rfl
set_option maxRecDepth 100000 in
theorem HT : ((Rows.rulesBlanksUptoRow.veiled == (Tryz.f6.params.toList ++ (Rows.OpenSpec.upto Rows.rulesBlanksSpec).bare.plain.varTypes Tryz.pinned.checked.prog ++ Tryz.f6.resultTypes.toList).any (Tryz.pinned.checked.prog.veiledRec ·))) = true := by kernel_rfl
set_option maxRecDepth 100000 in
theorem HR : (Rows.rulesBlanksUptoRow.veiledFits Tryz.pinned.checked.prog Tryz.f6.params.toList (Tryz.f6.params.toList ++ (Rows.OpenSpec.upto Rows.rulesBlanksSpec).bare.plain.varTypes Tryz.pinned.checked.prog ++ Tryz.f6.resultTypes.toList)) = true := by kernel_rfl
theorem Ki : joinedFacts Tryz.pinned.checked.prog 6 Tryz.f6 (Rows.OpenSpec.upto Rows.rulesBlanksSpec).bare Rows.rulesBlanksUptoRow = true := Bj (Bj (Bj (Bj (Bj (Bj (Bj (Bj (Bj (Bj (Bj (Bj (Bj (Bj (Bj (Bj (Bj (Bj (Bj (Bj (Bj (Bj (Bj (Bj (Bj (Bj (Bj (Bj (Bj (Bj (Bj IY Sr) So) IX) IW) IV) Sn) IU) Sm) IR) Ij) Ii) Ih) Ig) Ie) Ic) Ib) Ia) H9) H8) H7) HZ) HY) HX) RT) RR) HW) HV) (by kernel_rfl)) HU) HT) HR
theorem Gj : Tryz.pinned.checked.prog.funcNamed Rows.rulesBlanksUptoRow.func = some 6 := by kernel_rfl
theorem Kg : Tryz.f6.isInstance Tryz.pinned.checked.prog Rows.rulesBlanksUptoRow.origin Rows.rulesBlanksUptoRow.targs := of_decide_eq_true (by kernel_rfl)
theorem Ke : Tryz.f6.isWrapper Tryz.pinned.checked.prog Rows.rulesBlanksUptoRow.wrapper Rows.rulesBlanksUptoRow.mainSum := by unfold Func.isWrapper; first | (rw [if_pos (by decide +kernel)]; kernel_rfl) | (rw [if_neg (by decide +kernel)]; exact ⟨rfl, rfl⟩)
theorem FP : Rows.RulesBlanksUptoSaid :=
 OpenClaim.holds_of_cond 6 Tryz.f6 rfl rfl rfl rfl rfl rfl rfl ⟨rfl, rfl, rfl, rfl, rfl⟩ rfl rfl rfl rfl rfl Gj Tryz.func6 Ki Kg Ke
  (fun os started H enc _ F => by rw [OpenClaim.pre_eq_preRow]; exact Hr os started H enc F)
theorem Kj : Rows.rulesBlanksUptoRow.wfByText (Rows.OpenSpec.upto Rows.rulesBlanksSpec) = true := by kernel_rfl
theorem Kf : ([33, 42].all fun u => !Tryz.prog.wantsStandIn u) = true := by kernel_rfl
theorem Kh : false = Rows.rulesBlanksUptoRow.goesBy Tryz.pinned.checked.prog := by kernel_rfl
theorem rulesBlanks_proved : Rows.RulesBlanksUptoCardSaid :=
 Claim7.holds_tied_plain_at .later [] [.data, .data, .data, .sentinel, .sentinel] true (true, "9ef67a4cb07571d798ed60e513598468ebe5a66f3455e0900720288bced703b8") true FP (fun _ h => by cases h) Kj (fun _ h => by cases h) rulesBlanksUpto_row_tie rfl ⟨rfl, rfl⟩ QD rfl
  (fun f fn hf hfn => by
   obtain rfl : f = 6 := (Option.some.inj (Gj.symm.trans hf)).symm
   obtain rfl : fn = Tryz.f6 := (Option.some.inj (Tryz.func6.symm.trans hfn)).symm
   exact ⟨PA, fun j t ht => by
    rw [Tryz.params6] at ht
    have hm : t ∈ [33, 42] := by simpa using Array.mem_of_getElem? ht
    exact (show Tryz.prog.wantsStandIn t = false by simpa using List.all_eq_true.1 Kf t hm)⟩)
  Kh
end
end Go.Proofs.YtaihlcdkcampbaaGreatDoor
