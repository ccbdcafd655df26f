/- RulesChecksUpto: for every input whose bulk is at most 1048576 the law returns true, and each argument reads afterwards as it read before. The bound on the bulk is the one condition. -/
import Derived.Test.YtaihlcdkcampbaaGreatDoorE18x4
set_option linter.unusedVariables false
set_option linter.unusedSimpArgs false
set_option linter.unusedSectionVars false
set_option maxHeartbeats 4000000
set_option maxRecDepth 100000
namespace Go.Proofs.YtaihlcdkcampbaaGreatDoor
section
open Go.ChangeShapes Go.WideShapes Go.ChangeAt Go.RowKit
theorem H0 (os : Os) {H : Type} (enc : TypeId × Value -> H) : ∃ places, DataW.whole enc Tryz.prog ((World.laidAll Tryz.prog os JD).forCall (fun _ _ => 0) ⟨#[], #[.agg #[.slice none 0 0, .slice none 0 0, .slice none 0 0, .slice none 0 0], .agg #[.int .i64 0, .int .i64 0, .slice none 0 0]], []⟩).memory Tryz.f18.params.toList Rows.rulesChecksSpec.vars false #[.agg #[.slice none 0 0, .slice none 0 0, .slice none 0 0, .slice none 0 0], .agg #[.int .i64 0, .int .i64 0, .slice none 0 0]].toList 8 = some ([.agg [.nil, .nil, .nil, .nil], .agg [.lit (.int .i64 0), .lit (.int .i64 0), .nil]], [], places) :=
 ⟨[], by kernel_rfl⟩
set_option maxRecDepth 100000 in
theorem HI (os : Os) (started : os.Started) (H : Type) (enc : TypeId × Value -> H) (F : Stop.Interp) :
  ReturnsInHanded {} Tryz.checked os 18 .any ((Rows.OpenSpec.upto Rows.rulesChecksSpec).preRow enc Tryz.prog Tryz.f18 Rows.rulesChecksUptoRow.domain false Rows.rulesChecksUptoRow.laid) (((Rows.OpenSpec.upto Rows.rulesChecksSpec).at F).post enc Tryz.prog Tryz.f18 false true false false) := by
 obtain ⟨places, hx⟩ := H0 os enc
 refine returnsInHanded_of_row (C := Tryz.checked) (s := (Rows.OpenSpec.upto Rows.rulesChecksSpec)) Pb started (by kernel_rfl) Tryz.func18
  (LZ (enc := enc) (C := Tryz.checked) false (World.laidAll Tryz.prog os JD) #[.agg #[.slice none 0 0, .slice none 0 0, .slice none 0 0, .slice none 0 0], .agg #[.int .i64 0, .int .i64 0, .slice none 0 0]] (World.laidAll_os _ _ _) (World.shaped_of_ZipB (by kernel_rfl) (by kernel_rfl)) (by kernel_rfl)
   (OpenSpec.preRow_of_cond 8 hx (by kernel_rfl) (fun k hk => by cases hk; kernel_rfl) (by kernel_rfl) (OL os _))) ?_
 intro W base args ds gs before hval0 hW _ hcond hsz hL hsh _
 show Calls Tryz.prog 18 args W fun e W' => ∃ v, e = .returned v /\ Rows.rulesChecksSpec.post enc Tryz.prog Tryz.f18 false true false false W args v W'
 have hk : Rows.uptoSmall H (ds ++ gs) = true := hcond _ rfl
 have hval : ∀ (j : Nat) t v, Tryz.f18.params[j]? = some t -> args[j]? = some v -> Value.okWide Tryz.prog W .any base t v := hval0
 have hW' : DataW.Whole enc Tryz.prog Tryz.f18.params.toList Rows.rulesChecksSpec.vars false W args.toList ds gs before := hW
 obtain ⟨p, q, hA0, hV, rfl, hfz, hnd⟩ := hW
 have hA : DataW.TrodAll enc Tryz.prog W 0 (fun _ => true) true Tryz.f18.params.toList args.toList ds p := hA0
 obtain ⟨rfl, rfl⟩ := trodVars_none hV
 rw [Tryz.params18] at hA hval
 obtain ⟨v0, vs0, d0, ds0, p0, q0, hargs, rfl, rfl, h0, r0⟩ := trodAll_cons hA
 obtain ⟨v1, vs1, d1, ds1, p1, q1, rfl, rfl, rfl, h1, r1⟩ := trodAll_cons r0
 obtain ⟨rfl, rfl, rfl⟩ := trodAll_nil r1
 obtain rfl : args = #[v0, v1] := by cases args; simp_all
 have hb : Rows.uptoBulk d0 + Rows.uptoBulk d1 <= 1048576 := by have h := of_decide_eq_true hk; simp only [List.append_nil, Rows.uptoBulkAll] at h; omega
 have z0 : SzW Tryz.prog 26 d0 := SzW.each hsz (j := 0) (by kernel_rfl) rfl
 obtain ⟨cs0, x0, rfl, R0, Q0, U0⟩ := EH.agg Ky (by kernel_rfl) (hval 0 26 v0 rfl rfl) h0 z0
 obtain ⟨a0_0, n0_0, a0_1, n0_1, a0_2, n0_2, a0_3, n0_3, e0, hb0_0, hs0_0, hb0_1, hs0_1, hb0_2, hs0_2, hb0_3, hs0_3⟩ := R0
 obtain rfl : cs0 = #[.slice a0_0 x0.Points.length n0_0, .slice a0_1 x0.Multipliers.length n0_1, .slice a0_2 x0.Penalties.length n0_2, .slice a0_3 x0.Repeats.length n0_3] := Array.ext' (by exact e0)
 have z1 : SzW Tryz.prog 33 d1 := SzW.each hsz (j := 1) (by kernel_rfl) rfl
 obtain ⟨cs1, x1, rfl, R1, Q1, U1⟩ := EH.agg C2 (by kernel_rfl) (hval 1 33 v1 rfl rfl) h1 z1
 obtain ⟨a1_2, n1_2, e1, hb1_2, hs1_2⟩ := AC R1
 obtain rfl : cs1 = #[.int .i64 x1.Op, .int .i64 x1.Value, .slice a1_2 x1.Kids.length n1_2] := Array.ext' (by exact e1)
 obtain ⟨N, hN⟩ := NO x0 x1 Q0 (Nat.le_trans U0 (by omega)) Q1 (Nat.le_trans U1 (by omega))
 refine (He N W (Gs W) (fun _ _ h => h) (Qc hL hsh) x0 a0_0 n0_0 hb0_0 hs0_0 a0_1 n0_1 hb0_1 hs0_1 a0_2 n0_2 hb0_2 hs0_2 a0_3 n0_3 hb0_3 hs0_3 x1 a1_2 n1_2 hb1_2 hs1_2 true hN).mono fun e W' he => ?_
 obtain ⟨r, F', rfl, hs, rfl⟩ := he
 refine ⟨_, rfl, Nz (by kernel_rfl) (tb := 4) ?_ rfl hW' (by kernel_rfl) (by kernel_rfl) ?_ hs⟩
 ·intro t ht
  rw [Tryz.params18] at ht
  simp only [List.mem_cons, List.not_mem_nil, or_false] at ht
  rcases ht with rfl | rfl <;> exact ⟨by kernel_rfl, by decide +kernel⟩
 ·intro _; rfl
set_option maxRecDepth 100000 in
theorem Je : (Rows.rulesChecksUptoRow.wf (OpenSpec.ofChange (Rows.OpenSpec.upto Rows.rulesChecksSpec).bare)) = true := by kernel_rfl
set_option maxRecDepth 100000 in
theorem Jd : (Tryz.f18.params.all (Tryz.pinned.checked.prog.readableRec ·)) = true := by kernel_rfl
set_option maxRecDepth 100000 in
theorem Jc : (namedTie Tryz.pinned.checked.prog Rows.rulesChecksUptoRow.named (Rows.OpenSpec.upto Rows.rulesChecksSpec).bare.vars) = true := by kernel_rfl
set_option maxRecDepth 100000 in
theorem Jb : ((Rows.rulesChecksUptoRow.stops == [])) = true := by kernel_rfl
set_option maxRecDepth 100000 in
theorem Ja : ((Rows.rulesChecksUptoRow.knobs == [])) = true := by kernel_rfl
set_option maxRecDepth 100000 in
theorem I9 : ((Rows.rulesChecksUptoRow.inPlace == Tryz.pinned.checked.prog.inPlace 18)) = true := by kernel_rfl
set_option maxRecDepth 100000 in
theorem Iw : ((Rows.rulesChecksUptoRow.unfollowed == Tryz.pinned.checked.prog.unfollowed 18)) = true := by kernel_rfl
set_option maxRecDepth 100000 in
theorem Iv : ((Rows.rulesChecksUptoRow.recurses == Tryz.pinned.checked.prog.recurses 18)) = true := by kernel_rfl
set_option maxRecDepth 100000 in
theorem Iu : ((Rows.rulesChecksUptoRow.named == Tryz.pinned.checked.prog.varsNamed 18)) = true := by kernel_rfl
set_option maxRecDepth 100000 in
theorem It : ((Rows.rulesChecksUptoRow.maps == (Tryz.f18.params.toList ++ (Rows.OpenSpec.upto Rows.rulesChecksSpec).bare.plain.varTypes Tryz.pinned.checked.prog).any (Tryz.pinned.checked.prog.mapsRec ·))) = true := by kernel_rfl
set_option maxRecDepth 100000 in
theorem Is : ((Rows.rulesChecksUptoRow.ifaces == (Tryz.f18.params.toList ++ (Rows.OpenSpec.upto Rows.rulesChecksSpec).bare.plain.varTypes Tryz.pinned.checked.prog).any (Tryz.pinned.checked.prog.ifacesRec ·))) = true := by kernel_rfl
set_option maxRecDepth 100000 in
theorem Ir : ((Rows.rulesChecksUptoRow.mapsOut == Tryz.pinned.checked.prog.mapsAmong Tryz.f18.resultTypes.toList)) = true := by kernel_rfl
set_option maxRecDepth 100000 in
theorem Iq : ((Rows.rulesChecksUptoRow.loops == (Tryz.f18.params.toList ++ (Rows.OpenSpec.upto Rows.rulesChecksSpec).bare.plain.varTypes Tryz.pinned.checked.prog).any (Tryz.pinned.checked.prog.loopsFrom ·))) = true := by kernel_rfl
set_option maxRecDepth 100000 in
theorem Ip : ((Rows.rulesChecksUptoRow.wideKeys == (Tryz.f18.params.toList ++ (Rows.OpenSpec.upto Rows.rulesChecksSpec).bare.plain.varTypes Tryz.pinned.checked.prog ++ Tryz.f18.resultTypes.toList).any (Tryz.pinned.checked.prog.wideKeysFrom ·))) = true := by kernel_rfl
set_option maxRecDepth 100000 in
theorem Io : ((Rows.OpenSpec.upto Rows.rulesChecksSpec).bare.vars.all (Tryz.pinned.checked.prog.varReadable ·)) = true := by kernel_rfl
set_option maxRecDepth 100000 in
theorem Im : (Tryz.f18.resultTypes.all (fun t => Tryz.pinned.checked.prog.readableRec t && decide (t < Tryz.pinned.checked.prog.types.size))) = true := by kernel_rfl
set_option maxRecDepth 100000 in
theorem Il : ((Rows.rulesChecksUptoRow.ifacesOut == Tryz.f18.resultTypes.toList.any (Tryz.pinned.checked.prog.ifacesRec ·))) = true := by kernel_rfl
set_option maxRecDepth 100000 in
theorem Ik : ((Rows.rulesChecksUptoRow.loopsOut == Tryz.f18.resultTypes.toList.any (Tryz.pinned.checked.prog.loopsFrom ·))) = true := by kernel_rfl
theorem Ij : ((Rows.rulesChecksUptoRow.plainKeys == Tryz.pinned.checked.prog.plainKeys)) = true := by rw [<- eq_of_beq Q7]; kernel_rfl
set_option maxRecDepth 100000 in
theorem Ii : Rows.rulesChecksUptoRow.shortTexts.isNone = true := by kernel_rfl
theorem Ih : ((Rows.rulesChecksUptoRow.lifted == Tryz.pinned.checked.prog.liftsFinal)) = true := by rw [<- eq_of_beq Q4]; kernel_rfl
theorem Ig : ((Tryz.pinned.checked.prog.make == some Rows.rulesChecksUptoRow.make)) = true := by rw [eq_of_beq Q3]; kernel_rfl
set_option maxRecDepth 100000 in
theorem Ie : ((Rows.rulesChecksUptoRow.pinned == Rows.rulesChecksUptoRow.pinnedBy)) = true := by kernel_rfl
set_option maxRecDepth 100000 in
theorem Ic : ((Rows.rulesChecksUptoRow.veiled == (Tryz.f18.params.toList ++ (Rows.OpenSpec.upto Rows.rulesChecksSpec).bare.plain.varTypes Tryz.pinned.checked.prog ++ Tryz.f18.resultTypes.toList).any (Tryz.pinned.checked.prog.veiledRec ·))) = true := by kernel_rfl
set_option maxRecDepth 100000 in
theorem Ib : (Rows.rulesChecksUptoRow.veiledFits Tryz.pinned.checked.prog Tryz.f18.params.toList (Tryz.f18.params.toList ++ (Rows.OpenSpec.upto Rows.rulesChecksSpec).bare.plain.varTypes Tryz.pinned.checked.prog ++ Tryz.f18.resultTypes.toList)) = true := by kernel_rfl
theorem KF : joinedFacts Tryz.pinned.checked.prog 18 Tryz.f18 (Rows.OpenSpec.upto Rows.rulesChecksSpec).bare Rows.rulesChecksUptoRow = true := Bb (Bb (Bb (Bb (Bb (Bb (Bb (Bb (Bb (Bb (Bb (Bb (Bb (Bb (Bb (Bb (Bb (Bb (Bb (Bb (Bb (Bb (Bb (Bb (Bb (Bb (Bb (Bb (Bb (Bb (Bb Je Ry) Rx) Jd) Jc) Jb) Rw) Ja) Rv) I9) Iw) Iv) Iu) It) Is) Ir) Iq) Ip) Io) Im) Il) Ik) Ij) Ii) Q6) Q5) Ih) Ig) (by kernel_rfl)) Ie) Ic) Ib
theorem Gv : Tryz.pinned.checked.prog.funcNamed Rows.rulesChecksUptoRow.func = some 18 := by kernel_rfl
theorem KD : Tryz.f18.isInstance Tryz.pinned.checked.prog Rows.rulesChecksUptoRow.origin Rows.rulesChecksUptoRow.targs := of_decide_eq_true (by kernel_rfl)
theorem KB : Tryz.f18.isWrapper Tryz.pinned.checked.prog Rows.rulesChecksUptoRow.wrapper Rows.rulesChecksUptoRow.mainSum := by unfold Func.isWrapper; first | (rw [if_pos (by decide +kernel)]; kernel_rfl) | (rw [if_neg (by decide +kernel)]; exact ⟨rfl, rfl⟩)
theorem Ga : Rows.RulesChecksUptoSaid :=
 OpenClaim.holds_of_cond 18 Tryz.f18 rfl rfl rfl rfl rfl rfl rfl ⟨rfl, rfl, rfl, rfl, rfl⟩ rfl rfl rfl rfl rfl Gv Tryz.func18 KF KD KB
  (fun os started H enc _ F => by rw [OpenClaim.pre_eq_preRow]; exact HI os started H enc F)
theorem KG : Rows.rulesChecksUptoRow.wfByText (Rows.OpenSpec.upto Rows.rulesChecksSpec) = true := by kernel_rfl
theorem KC : ([26, 33].all fun u => !Tryz.prog.wantsStandIn u) = true := by kernel_rfl
theorem KE : false = Rows.rulesChecksUptoRow.goesBy Tryz.pinned.checked.prog := by kernel_rfl
theorem rulesChecks_proved : Rows.RulesChecksUptoCardSaid :=
 Claim7.holds_tied_plain_at .later [] [.data, .data, .data, .sentinel, .sentinel] true (true, "9ef67a4cb07571d798ed60e513598468ebe5a66f3455e0900720288bced703b8") true Ga (fun _ h => by cases h) KG (fun _ h => by cases h) rulesChecksUpto_row_tie rfl ⟨rfl, rfl⟩ Qd rfl
  (fun f fn hf hfn => by
   obtain rfl : f = 18 := (Option.some.inj (Gv.symm.trans hf)).symm
   obtain rfl : fn = Tryz.f18 := (Option.some.inj (Tryz.func18.symm.trans hfn)).symm
   exact ⟨Pl, fun j t ht => by
    rw [Tryz.params18] at ht
    have hm : t ∈ [26, 33] := by simpa using Array.mem_of_getElem? ht
    exact (show Tryz.prog.wantsStandIn t = false by simpa using List.all_eq_true.1 KC t hm)⟩)
  KE
end
end Go.Proofs.YtaihlcdkcampbaaGreatDoor
