/- RulesTypesUpto: for every input whose bulk is at most 1048576 the law returns true, and each argument reads afterwards as it read before. The bound on the bulk is the one condition. -/
import Derived.Test.YtaihlcdkcampbaaGreatDoorE19x4
set_option linter.unusedVariables false
set_option linter.unusedSimpArgs false
set_option linter.unusedSectionVars false
set_option maxHeartbeats 4000000
set_option maxRecDepth 100000
namespace Go.Proofs.YtaihlcdkcampbaaGreatDoor
section
open Go.ChangeShapes Go.WideShapes Go.ChangeAt Go.RowKit
theorem HK (os : Os) {H : Type} (enc : TypeId × Value -> H) : ∃ places, DataW.whole enc Tryz.prog ((World.laidAll Tryz.prog os IB).forCall (fun _ _ => 0) ⟨#[], #[.agg #[.int .i64 0, .int .i64 0, .slice none 0 0], .slice none 0 0, .slice none 0 0], []⟩).memory Tryz.f19.params.toList Rows.rulesTypesSpec.vars false #[.agg #[.int .i64 0, .int .i64 0, .slice none 0 0], .slice none 0 0, .slice none 0 0].toList 8 = some ([.agg [.lit (.int .i64 0), .lit (.int .i64 0), .nil], .nil, .nil], [], places) :=
 ⟨[], by kernel_rfl⟩
set_option maxRecDepth 100000 in
theorem He (os : Os) (started : os.Started) (H : Type) (enc : TypeId × Value -> H) (F : Stop.Interp) :
  ReturnsInHanded {} Tryz.checked os 19 .any ((Rows.OpenSpec.upto Rows.rulesTypesSpec).preRow enc Tryz.prog Tryz.f19 Rows.rulesTypesUptoRow.domain false Rows.rulesTypesUptoRow.laid) (((Rows.OpenSpec.upto Rows.rulesTypesSpec).at F).post enc Tryz.prog Tryz.f19 false true false false) := by
 obtain ⟨places, hx⟩ := HK os enc
 refine returnsInHanded_of_row (C := Tryz.checked) (s := (Rows.OpenSpec.upto Rows.rulesTypesSpec)) NM started (by kernel_rfl) Tryz.func19
  (Kx (enc := enc) (C := Tryz.checked) false (World.laidAll Tryz.prog os IB) #[.agg #[.int .i64 0, .int .i64 0, .slice none 0 0], .slice none 0 0, .slice none 0 0] (World.laidAll_os _ _ _) (World.shaped_of_ZipB (by kernel_rfl) (by kernel_rfl)) (by kernel_rfl)
   (OpenSpec.preRow_of_cond 8 hx (by kernel_rfl) (fun k hk => by cases hk; kernel_rfl) (by kernel_rfl) (Nm os _))) ?_
 intro W base args ds gs before hval0 hW _ hcond hsz hL hsh _
 show Calls Tryz.prog 19 args W fun e W' => ∃ v, e = .returned v /\ Rows.rulesTypesSpec.post enc Tryz.prog Tryz.f19 false true false false W args v W'
 have hk : Rows.uptoSmall H (ds ++ gs) = true := hcond _ rfl
 have hval : ∀ (j : Nat) t v, Tryz.f19.params[j]? = some t -> args[j]? = some v -> Value.okWide Tryz.prog W .any base t v := hval0
 have hW' : DataW.Whole enc Tryz.prog Tryz.f19.params.toList Rows.rulesTypesSpec.vars false W args.toList ds gs before := hW
 obtain ⟨p, q, hA0, hV, rfl, hfz, hnd⟩ := hW
 have hA : DataW.TrodAll enc Tryz.prog W 0 (fun _ => true) true Tryz.f19.params.toList args.toList ds p := hA0
 obtain ⟨rfl, rfl⟩ := trodVars_none hV
 rw [Tryz.params19] at hA hval
 obtain ⟨v0, vs0, d0, ds0, p0, q0, hargs, rfl, rfl, h0, r0⟩ := trodAll_cons hA
 obtain ⟨v1, vs1, d1, ds1, p1, q1, rfl, rfl, rfl, h1, r1⟩ := trodAll_cons r0
 obtain ⟨v2, vs2, d2, ds2, p2, q2, rfl, rfl, rfl, h2, r2⟩ := trodAll_cons r1
 obtain ⟨rfl, rfl, rfl⟩ := trodAll_nil r2
 obtain rfl : args = #[v0, v1, v2] := by cases args; simp_all
 have hb : Rows.uptoBulk d0 + Rows.uptoBulk d1 + Rows.uptoBulk d2 <= 1048576 := by have h := of_decide_eq_true hk; simp only [List.append_nil, Rows.uptoBulkAll] at h; omega
 have z0 : SzW Tryz.prog 33 d0 := SzW.each hsz (j := 0) (by kernel_rfl) rfl
 obtain ⟨cs0, x0, rfl, R0, Q0, U0⟩ := CF.agg Jt (by kernel_rfl) (hval 0 33 v0 rfl rfl) h0 z0
 obtain ⟨a0_2, n0_2, e0, hb0_2, hs0_2⟩ := AQ R0
 obtain rfl : cs0 = #[.int .i64 x0.Op, .int .i64 x0.Value, .slice a0_2 x0.Kids.length n0_2] := Array.ext' (by exact e0)
 have z1 : SzW Tryz.prog 47 d1 := SzW.each hsz (j := 1) (by kernel_rfl) rfl
 obtain ⟨x1, R1, Q1, U1⟩ := CF.one (G9 (t := 47) (Js (t := 3) (by kernel_rfl) (by kernel_rfl) : CF Tryz.prog 3 A4 _ _) (by decide) (by kernel_rfl) (by kernel_rfl) : CF Tryz.prog 47 (tSl A4) _ _) (by kernel_rfl) (hval 1 47 v1 rfl rfl) h1 z1
 obtain ⟨a1_0, n1_0, e1, hb1_0, hs1_0⟩ := R1
 obtain rfl : v1 = .slice a1_0 x1.length n1_0 := by cases e1; rfl
 have z2 : SzW Tryz.prog 47 d2 := SzW.each hsz (j := 2) (by kernel_rfl) rfl
 obtain ⟨x2, R2, Q2, U2⟩ := CF.one (G9 (t := 47) (Js (t := 3) (by kernel_rfl) (by kernel_rfl) : CF Tryz.prog 3 A4 _ _) (by decide) (by kernel_rfl) (by kernel_rfl) : CF Tryz.prog 47 (tSl A4) _ _) (by kernel_rfl) (hval 2 47 v2 rfl rfl) h2 z2
 obtain ⟨a2_0, n2_0, e2, hb2_0, hs2_0⟩ := R2
 obtain rfl : v2 = .slice a2_0 x2.length n2_0 := by cases e2; rfl
 obtain ⟨N, hN⟩ := M2 x0 x1 x2 Q0 (Nat.le_trans U0 (by omega)) Q1 (Nat.le_trans U1 (by omega)) Q2 (Nat.le_trans U2 (by omega))
 refine (GS N W (EN W) (fun _ _ h => h) (OL hL hsh) x0 a0_2 n0_2 hb0_2 hs0_2 x1 a1_0 n1_0 hb1_0 hs1_0 x2 a2_0 n2_0 hb2_0 hs2_0 true hN).mono fun e W' he => ?_
 obtain ⟨r, F', rfl, hs, rfl⟩ := he
 refine ⟨_, rfl, L9 (by kernel_rfl) (tb := 4) ?_ rfl hW' (by kernel_rfl) (by kernel_rfl) ?_ hs⟩
 ·intro t ht
  rw [Tryz.params19] at ht
  simp only [List.mem_cons, List.not_mem_nil, or_false] at ht
  rcases ht with rfl | rfl | rfl <;> exact ⟨by kernel_rfl, by decide +kernel⟩
 ·intro _; rfl
set_option maxRecDepth 100000 in
theorem IU : (Rows.rulesTypesUptoRow.wf (OpenSpec.ofChange (Rows.OpenSpec.upto Rows.rulesTypesSpec).bare)) = true := by kernel_rfl
set_option maxRecDepth 100000 in
theorem IR : (Tryz.f19.params.all (Tryz.pinned.checked.prog.readableRec ·)) = true := by kernel_rfl
set_option maxRecDepth 100000 in
theorem IQ : (namedTie Tryz.pinned.checked.prog Rows.rulesTypesUptoRow.named (Rows.OpenSpec.upto Rows.rulesTypesSpec).bare.vars) = true := by kernel_rfl
set_option maxRecDepth 100000 in
theorem IP : ((Rows.rulesTypesUptoRow.stops == [])) = true := by kernel_rfl
set_option maxRecDepth 100000 in
theorem IM : ((Rows.rulesTypesUptoRow.knobs == [])) = true := by kernel_rfl
set_option maxRecDepth 100000 in
theorem IL : ((Rows.rulesTypesUptoRow.inPlace == Tryz.pinned.checked.prog.inPlace 19)) = true := by kernel_rfl
set_option maxRecDepth 100000 in
theorem H8 : ((Rows.rulesTypesUptoRow.unfollowed == Tryz.pinned.checked.prog.unfollowed 19)) = true := by kernel_rfl
set_option maxRecDepth 100000 in
theorem H7 : ((Rows.rulesTypesUptoRow.recurses == Tryz.pinned.checked.prog.recurses 19)) = true := by kernel_rfl
set_option maxRecDepth 100000 in
theorem H6 : ((Rows.rulesTypesUptoRow.named == Tryz.pinned.checked.prog.varsNamed 19)) = true := by kernel_rfl
set_option maxRecDepth 100000 in
theorem H5 : ((Rows.rulesTypesUptoRow.maps == (Tryz.f19.params.toList ++ (Rows.OpenSpec.upto Rows.rulesTypesSpec).bare.plain.varTypes Tryz.pinned.checked.prog).any (Tryz.pinned.checked.prog.mapsRec ·))) = true := by kernel_rfl
set_option maxRecDepth 100000 in
theorem H4 : ((Rows.rulesTypesUptoRow.ifaces == (Tryz.f19.params.toList ++ (Rows.OpenSpec.upto Rows.rulesTypesSpec).bare.plain.varTypes Tryz.pinned.checked.prog).any (Tryz.pinned.checked.prog.ifacesRec ·))) = true := by kernel_rfl
set_option maxRecDepth 100000 in
theorem H3 : ((Rows.rulesTypesUptoRow.mapsOut == Tryz.pinned.checked.prog.mapsAmong Tryz.f19.resultTypes.toList)) = true := by kernel_rfl
set_option maxRecDepth 100000 in
theorem H2 : ((Rows.rulesTypesUptoRow.loops == (Tryz.f19.params.toList ++ (Rows.OpenSpec.upto Rows.rulesTypesSpec).bare.plain.varTypes Tryz.pinned.checked.prog).any (Tryz.pinned.checked.prog.loopsFrom ·))) = true := by kernel_rfl
set_option maxRecDepth 100000 in
theorem H1 : ((Rows.rulesTypesUptoRow.wideKeys == (Tryz.f19.params.toList ++ (Rows.OpenSpec.upto Rows.rulesTypesSpec).bare.plain.varTypes Tryz.pinned.checked.prog ++ Tryz.f19.resultTypes.toList).any (Tryz.pinned.checked.prog.wideKeysFrom ·))) = true := by kernel_rfl
set_option maxRecDepth 100000 in
theorem H0 : ((Rows.OpenSpec.upto Rows.rulesTypesSpec).bare.vars.all (Tryz.pinned.checked.prog.varReadable ·)) = true := by kernel_rfl
set_option maxRecDepth 100000 in
theorem HZ : (Tryz.f19.resultTypes.all (fun t => Tryz.pinned.checked.prog.readableRec t && decide (t < Tryz.pinned.checked.prog.types.size))) = true := by kernel_rfl
set_option maxRecDepth 100000 in
theorem HY : ((Rows.rulesTypesUptoRow.ifacesOut == Tryz.f19.resultTypes.toList.any (Tryz.pinned.checked.prog.ifacesRec ·))) = true := by kernel_rfl
set_option maxRecDepth 100000 in
theorem HX : ((Rows.rulesTypesUptoRow.loopsOut == Tryz.f19.resultTypes.toList.any (Tryz.pinned.checked.prog.loopsFrom ·))) = true := by kernel_rfl
theorem HW : ((Rows.rulesTypesUptoRow.plainKeys == Tryz.pinned.checked.prog.plainKeys)) = true := by rw [<- eq_of_beq Pw]; kernel_rfl
set_option maxRecDepth 100000 in
theorem HV : Rows.rulesTypesUptoRow.shortTexts.isNone = true := by kernel_rfl
theorem HU : ((Rows.rulesTypesUptoRow.lifted == Tryz.pinned.checked.prog.liftsFinal)) = true := by rw [<- eq_of_beq Pt]; kernel_rfl
theorem HT : ((Tryz.pinned.checked.prog.make == some Rows.rulesTypesUptoRow.make)) = true := by rw [eq_of_beq Ps]; kernel_rfl
set_option maxRecDepth 100000 in
theorem HR : ((Rows.rulesTypesUptoRow.pinned == Rows.rulesTypesUptoRow.pinnedBy)) = true := by kernel_rfl
set_option maxRecDepth 100000 in
theorem HQ : ((Rows.rulesTypesUptoRow.veiled == (Tryz.f19.params.toList ++ (Rows.OpenSpec.upto Rows.rulesTypesSpec).bare.plain.varTypes Tryz.pinned.checked.prog ++ Tryz.f19.resultTypes.toList).any (Tryz.pinned.checked.prog.veiledRec ·))) = true := by kernel_rfl
set_option maxRecDepth 100000 in
theorem HP : (Rows.rulesTypesUptoRow.veiledFits Tryz.pinned.checked.prog Tryz.f19.params.toList (Tryz.f19.params.toList ++ (Rows.OpenSpec.upto Rows.rulesTypesSpec).bare.plain.varTypes Tryz.pinned.checked.prog ++ Tryz.f19.resultTypes.toList)) = true := by kernel_rfl
theorem J3 : joinedFacts Tryz.pinned.checked.prog 19 Tryz.f19 (Rows.OpenSpec.upto Rows.rulesTypesSpec).bare Rows.rulesTypesUptoRow = true := A5 (A5 (A5 (A5 (A5 (A5 (A5 (A5 (A5 (A5 (A5 (A5 (A5 (A5 (A5 (A5 (A5 (A5 (A5 (A5 (A5 (A5 (A5 (A5 (A5 (A5 (A5 (A5 (A5 (A5 (A5 IU PP) PO) IR) IQ) IP) PN) IM) PM) IL) H8) H7) H6) H5) H4) H3) H2) H1) H0) HZ) HY) HX) HW) HV) Pv) Pu) HU) HT) (by kernel_rfl)) HR) HQ) HP
theorem GA : Tryz.pinned.checked.prog.funcNamed Rows.rulesTypesUptoRow.func = some 19 := by kernel_rfl
theorem J1 : Tryz.f19.isInstance Tryz.pinned.checked.prog Rows.rulesTypesUptoRow.origin Rows.rulesTypesUptoRow.targs := of_decide_eq_true (by kernel_rfl)
theorem JZ : Tryz.f19.isWrapper Tryz.pinned.checked.prog Rows.rulesTypesUptoRow.wrapper Rows.rulesTypesUptoRow.mainSum := by unfold Func.isWrapper; first | (rw [if_pos (by decide +kernel)]; kernel_rfl) | (rw [if_neg (by decide +kernel)]; exact ⟨rfl, rfl⟩)
theorem Fy : Rows.RulesTypesUptoSaid :=
 OpenClaim.holds_of_cond 19 Tryz.f19 rfl rfl rfl rfl rfl rfl rfl ⟨rfl, rfl, rfl, rfl, rfl⟩ rfl rfl rfl rfl rfl GA Tryz.func19 J3 J1 JZ
  (fun os started H enc _ F => by rw [OpenClaim.pre_eq_preRow]; exact He os started H enc F)
theorem J4 : Rows.rulesTypesUptoRow.wfByText (Rows.OpenSpec.upto Rows.rulesTypesSpec) = true := by kernel_rfl
theorem J0 : ([33, 47, 47].all fun u => !Tryz.prog.wantsStandIn u) = true := by kernel_rfl
theorem J2 : false = Rows.rulesTypesUptoRow.goesBy Tryz.pinned.checked.prog := by kernel_rfl
theorem rulesTypes_proved : Rows.RulesTypesUptoCardSaid :=
 Claim7.holds_tied_plain_at .later [] [.data, .data, .data, .sentinel, .sentinel] true (true, "9ef67a4cb07571d798ed60e513598468ebe5a66f3455e0900720288bced703b8") true Fy (fun _ h => by cases h) J4 (fun _ h => by cases h) rulesTypesUpto_row_tie rfl ⟨rfl, rfl⟩ OM rfl
  (fun f fn hf hfn => by
   obtain rfl : f = 19 := (Option.some.inj (GA.symm.trans hf)).symm
   obtain rfl : fn = Tryz.f19 := (Option.some.inj (Tryz.func19.symm.trans hfn)).symm
   exact ⟨NY, fun j t ht => by
    rw [Tryz.params19] at ht
    have hm : t ∈ [33, 47, 47] := by simpa using Array.mem_of_getElem? ht
    exact (show Tryz.prog.wantsStandIn t = false by simpa using List.all_eq_true.1 J0 t hm)⟩)
  J2
end
end Go.Proofs.YtaihlcdkcampbaaGreatDoor
