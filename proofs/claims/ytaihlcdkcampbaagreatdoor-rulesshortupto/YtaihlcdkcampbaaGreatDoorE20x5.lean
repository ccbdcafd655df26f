/- RulesShortUpto: for every input whose bulk is at most 1048576 the law returns true, and each argument reads afterwards as it read before. The bound on the bulk is the one condition. -/
import Derived.Test.YtaihlcdkcampbaaGreatDoorE20x4
set_option linter.unusedVariables false
set_option linter.unusedSimpArgs false
set_option linter.unusedSectionVars false
set_option maxHeartbeats 4000000
set_option maxRecDepth 100000
namespace Go.Proofs.YtaihlcdkcampbaaGreatDoor
section
open Go.ChangeShapes Go.WideShapes Go.ChangeAt Go.RowKit
theorem IE (os : Os) {H : Type} (enc : TypeId × Value -> H) : ∃ places, DataW.whole enc Tryz.prog ((World.laidAll Tryz.prog os Jv).forCall (fun _ _ => 0) ⟨#[], #[.agg #[.int .i64 0, .int .i64 0, .slice none 0 0], .slice none 0 0], []⟩).memory Tryz.f20.params.toList Rows.rulesShortSpec.vars false #[.agg #[.int .i64 0, .int .i64 0, .slice none 0 0], .slice none 0 0].toList 8 = some ([.agg [.lit (.int .i64 0), .lit (.int .i64 0), .nil], .nil], [], places) :=
 ⟨[], by kernel_rfl⟩
set_option maxRecDepth 100000 in
theorem H1 (os : Os) (started : os.Started) (H : Type) (enc : TypeId × Value -> H) (F : Stop.Interp) :
  ReturnsInHanded {} Tryz.checked os 20 .any ((Rows.OpenSpec.upto Rows.rulesShortSpec).preRow enc Tryz.prog Tryz.f20 Rows.rulesShortUptoRow.domain false Rows.rulesShortUptoRow.laid) (((Rows.OpenSpec.upto Rows.rulesShortSpec).at F).post enc Tryz.prog Tryz.f20 false true false false) := by
 obtain ⟨places, hx⟩ := IE os enc
 refine returnsInHanded_of_row (C := Tryz.checked) (s := (Rows.OpenSpec.upto Rows.rulesShortSpec)) Pi started (by kernel_rfl) Tryz.func20
  (LK (enc := enc) (C := Tryz.checked) false (World.laidAll Tryz.prog os Jv) #[.agg #[.int .i64 0, .int .i64 0, .slice none 0 0], .slice none 0 0] (World.laidAll_os _ _ _) (World.shaped_of_ZipB (by kernel_rfl) (by kernel_rfl)) (by kernel_rfl)
   (OpenSpec.preRow_of_cond 8 hx (by kernel_rfl) (fun k hk => by cases hk; kernel_rfl) (by kernel_rfl) (OQ os _))) ?_
 intro W base args ds gs before hval0 hW _ hcond hsz hL hsh _
 show Calls Tryz.prog 20 args W fun e W' => ∃ v, e = .returned v /\ Rows.rulesShortSpec.post enc Tryz.prog Tryz.f20 false true false false W args v W'
 have hk : Rows.uptoSmall H (ds ++ gs) = true := hcond _ rfl
 have hval : ∀ (j : Nat) t v, Tryz.f20.params[j]? = some t -> args[j]? = some v -> Value.okWide Tryz.prog W .any base t v := hval0
 have hW' : DataW.Whole enc Tryz.prog Tryz.f20.params.toList Rows.rulesShortSpec.vars false W args.toList ds gs before := hW
 obtain ⟨p, q, hA0, hV, rfl, hfz, hnd⟩ := hW
 have hA : DataW.TrodAll enc Tryz.prog W 0 (fun _ => true) true Tryz.f20.params.toList args.toList ds p := hA0
 obtain ⟨rfl, rfl⟩ := trodVars_none hV
 rw [Tryz.params20] at hA hval
 obtain ⟨v0, vs0, d0, ds0, p0, q0, hargs, rfl, rfl, h0, r0⟩ := trodAll_cons hA
 obtain ⟨v1, vs1, d1, ds1, p1, q1, rfl, rfl, rfl, h1, r1⟩ := trodAll_cons r0
 obtain ⟨rfl, rfl, rfl⟩ := trodAll_nil r1
 obtain rfl : args = #[v0, v1] := by cases args; simp_all
 have hb : Rows.uptoBulk d0 + Rows.uptoBulk d1 <= 1048576 := by have h := of_decide_eq_true hk; simp only [List.append_nil, Rows.uptoBulkAll] at h; omega
 have z0 : SzW Tryz.prog 33 d0 := SzW.each hsz (j := 0) (by kernel_rfl) rfl
 obtain ⟨cs0, x0, rfl, R0, Q0, U0⟩ := Eh.agg Km (by kernel_rfl) (hval 0 33 v0 rfl rfl) h0 z0
 obtain ⟨a0_2, n0_2, e0, hb0_2, hs0_2⟩ := AR R0
 obtain rfl : cs0 = #[.int .i64 x0.Op, .int .i64 x0.Value, .slice a0_2 x0.Kids.length n0_2] := Array.ext' (by exact e0)
 have z1 : SzW Tryz.prog 47 d1 := SzW.each hsz (j := 1) (by kernel_rfl) rfl
 obtain ⟨x1, R1, Q1, U1⟩ := Eh.one (LZ (t := 47) (Nx (t := 3) (by kernel_rfl) (by kernel_rfl) : Eh Tryz.prog 3 Bu _ _) (by decide) (by kernel_rfl) (by kernel_rfl) : Eh Tryz.prog 47 (tSl Bu) _ _) (by kernel_rfl) (hval 1 47 v1 rfl rfl) h1 z1
 obtain ⟨a1_0, n1_0, e1, hb1_0, hs1_0⟩ := R1
 obtain rfl : v1 = .slice a1_0 x1.length n1_0 := by cases e1; rfl
 obtain ⟨N, hN⟩ := Ow x0 x1 Q0 (Nat.le_trans U0 (by omega)) Q1 (Nat.le_trans U1 (by omega))
 refine (HI N W (Fv W) (fun _ _ h => h) (Qm hL hsh) x0 a0_2 n0_2 hb0_2 hs0_2 x1 a1_0 n1_0 hb1_0 hs1_0 true hN).mono fun e W' he => ?_
 obtain ⟨r, F', rfl, hs, rfl⟩ := he
 refine ⟨_, rfl, Ns (by kernel_rfl) (tb := 4) ?_ rfl hW' (by kernel_rfl) (by kernel_rfl) ?_ hs⟩
 ·intro t ht
  rw [Tryz.params20] at ht
  simp only [List.mem_cons, List.not_mem_nil, or_false] at ht
  rcases ht with rfl | rfl <;> exact ⟨by kernel_rfl, by decide +kernel⟩
 ·intro _; rfl
set_option maxRecDepth 100000 in
theorem JK : (Rows.rulesShortUptoRow.wf (OpenSpec.ofChange (Rows.OpenSpec.upto Rows.rulesShortSpec).bare)) = true := by kernel_rfl
set_option maxRecDepth 100000 in
theorem JJ : (Tryz.f20.params.all (Tryz.pinned.checked.prog.readableRec ·)) = true := by kernel_rfl
set_option maxRecDepth 100000 in
theorem JI : (namedTie Tryz.pinned.checked.prog Rows.rulesShortUptoRow.named (Rows.OpenSpec.upto Rows.rulesShortSpec).bare.vars) = true := by kernel_rfl
set_option maxRecDepth 100000 in
theorem JH : ((Rows.rulesShortUptoRow.stops == [])) = true := by kernel_rfl
set_option maxRecDepth 100000 in
theorem JG : ((Rows.rulesShortUptoRow.knobs == [])) = true := by kernel_rfl
set_option maxRecDepth 100000 in
theorem JF : ((Rows.rulesShortUptoRow.inPlace == Tryz.pinned.checked.prog.inPlace 20)) = true := by kernel_rfl
set_option maxRecDepth 100000 in
theorem I5 : ((Rows.rulesShortUptoRow.unfollowed == Tryz.pinned.checked.prog.unfollowed 20)) = true := by kernel_rfl
set_option maxRecDepth 100000 in
theorem I4 : ((Rows.rulesShortUptoRow.recurses == Tryz.pinned.checked.prog.recurses 20)) = true := by kernel_rfl
set_option maxRecDepth 100000 in
theorem I3 : ((Rows.rulesShortUptoRow.named == Tryz.pinned.checked.prog.varsNamed 20)) = true := by kernel_rfl
set_option maxRecDepth 100000 in
theorem I2 : ((Rows.rulesShortUptoRow.maps == (Tryz.f20.params.toList ++ (Rows.OpenSpec.upto Rows.rulesShortSpec).bare.plain.varTypes Tryz.pinned.checked.prog).any (Tryz.pinned.checked.prog.mapsRec ·))) = true := by kernel_rfl
set_option maxRecDepth 100000 in
theorem I1 : ((Rows.rulesShortUptoRow.ifaces == (Tryz.f20.params.toList ++ (Rows.OpenSpec.upto Rows.rulesShortSpec).bare.plain.varTypes Tryz.pinned.checked.prog).any (Tryz.pinned.checked.prog.ifacesRec ·))) = true := by kernel_rfl
set_option maxRecDepth 100000 in
theorem I0 : ((Rows.rulesShortUptoRow.mapsOut == Tryz.pinned.checked.prog.mapsAmong Tryz.f20.resultTypes.toList)) = true := by kernel_rfl
set_option maxRecDepth 100000 in
theorem IZ : ((Rows.rulesShortUptoRow.loops == (Tryz.f20.params.toList ++ (Rows.OpenSpec.upto Rows.rulesShortSpec).bare.plain.varTypes Tryz.pinned.checked.prog).any (Tryz.pinned.checked.prog.loopsFrom ·))) = true := by kernel_rfl
set_option maxRecDepth 100000 in
theorem IY : ((Rows.rulesShortUptoRow.wideKeys == (Tryz.f20.params.toList ++ (Rows.OpenSpec.upto Rows.rulesShortSpec).bare.plain.varTypes Tryz.pinned.checked.prog ++ Tryz.f20.resultTypes.toList).any (Tryz.pinned.checked.prog.wideKeysFrom ·))) = true := by kernel_rfl
set_option maxRecDepth 100000 in
theorem IX : ((Rows.OpenSpec.upto Rows.rulesShortSpec).bare.vars.all (Tryz.pinned.checked.prog.varReadable ·)) = true := by kernel_rfl
set_option maxRecDepth 100000 in
theorem IW : (Tryz.f20.resultTypes.all (fun t => Tryz.pinned.checked.prog.readableRec t && decide (t < Tryz.pinned.checked.prog.types.size))) = true := by kernel_rfl
set_option maxRecDepth 100000 in
theorem IV : ((Rows.rulesShortUptoRow.ifacesOut == Tryz.f20.resultTypes.toList.any (Tryz.pinned.checked.prog.ifacesRec ·))) = true := by kernel_rfl
set_option maxRecDepth 100000 in
theorem IU : ((Rows.rulesShortUptoRow.loopsOut == Tryz.f20.resultTypes.toList.any (Tryz.pinned.checked.prog.loopsFrom ·))) = true := by kernel_rfl
theorem IR : ((Rows.rulesShortUptoRow.plainKeys == Tryz.pinned.checked.prog.plainKeys)) = true := by rw [<- eq_of_beq Ru]; kernel_rfl
set_option maxRecDepth 100000 in
theorem IQ : Rows.rulesShortUptoRow.shortTexts.isNone = true := by kernel_rfl
theorem IP : ((Rows.rulesShortUptoRow.lifted == Tryz.pinned.checked.prog.liftsFinal)) = true := by rw [<- eq_of_beq Rp]; kernel_rfl
theorem IM : ((Tryz.pinned.checked.prog.make == some Rows.rulesShortUptoRow.make)) = true := by rw [eq_of_beq Ro]; kernel_rfl
set_option maxRecDepth 100000 in
theorem IL : ((Rows.rulesShortUptoRow.pinned == Rows.rulesShortUptoRow.pinnedBy)) = true := by kernel_rfl
set_option maxRecDepth 100000 in
theorem IK : ((Rows.rulesShortUptoRow.veiled == (Tryz.f20.params.toList ++ (Rows.OpenSpec.upto Rows.rulesShortSpec).bare.plain.varTypes Tryz.pinned.checked.prog ++ Tryz.f20.resultTypes.toList).any (Tryz.pinned.checked.prog.veiledRec ·))) = true := by kernel_rfl
set_option maxRecDepth 100000 in
theorem IJ : (Rows.rulesShortUptoRow.veiledFits Tryz.pinned.checked.prog Tryz.f20.params.toList (Tryz.f20.params.toList ++ (Rows.OpenSpec.upto Rows.rulesShortSpec).bare.plain.varTypes Tryz.pinned.checked.prog ++ Tryz.f20.resultTypes.toList)) = true := by kernel_rfl
theorem K1 : joinedFacts Tryz.pinned.checked.prog 20 Tryz.f20 (Rows.OpenSpec.upto Rows.rulesShortSpec).bare Rows.rulesShortUptoRow = true := Bj (Bj (Bj (Bj (Bj (Bj (Bj (Bj (Bj (Bj (Bj (Bj (Bj (Bj (Bj (Bj (Bj (Bj (Bj (Bj (Bj (Bj (Bj (Bj (Bj (Bj (Bj (Bj (Bj (Bj (Bj JK RR) RQ) JJ) JI) JH) RP) JG) RO) JF) I5) I4) I3) I2) I1) I0) IZ) IY) IX) IW) IV) IU) IR) IQ) Rr) Rq) IP) IM) (by kernel_rfl)) IL) IK) IJ
theorem Hq : Tryz.pinned.checked.prog.funcNamed Rows.rulesShortUptoRow.func = some 20 := by kernel_rfl
theorem KZ : Tryz.f20.isInstance Tryz.pinned.checked.prog Rows.rulesShortUptoRow.origin Rows.rulesShortUptoRow.targs := of_decide_eq_true (by kernel_rfl)
theorem KX : Tryz.f20.isWrapper Tryz.pinned.checked.prog Rows.rulesShortUptoRow.wrapper Rows.rulesShortUptoRow.mainSum := by unfold Func.isWrapper; first | (rw [if_pos (by decide +kernel)]; kernel_rfl) | (rw [if_neg (by decide +kernel)]; exact ⟨rfl, rfl⟩)
theorem Gl : Rows.RulesShortUptoSaid :=
 OpenClaim.holds_of_cond 20 Tryz.f20 rfl rfl rfl rfl rfl rfl rfl ⟨rfl, rfl, rfl, rfl, rfl⟩ rfl rfl rfl rfl rfl Hq Tryz.func20 K1 KZ KX
  (fun os started H enc _ F => by rw [OpenClaim.pre_eq_preRow]; exact H1 os started H enc F)
theorem K2 : Rows.rulesShortUptoRow.wfByText (Rows.OpenSpec.upto Rows.rulesShortSpec) = true := by kernel_rfl
theorem KY : ([33, 47].all fun u => !Tryz.prog.wantsStandIn u) = true := by kernel_rfl
theorem K0 : false = Rows.rulesShortUptoRow.goesBy Tryz.pinned.checked.prog := by kernel_rfl
theorem rulesShort_proved : Rows.RulesShortUptoCardSaid :=
 Claim7.holds_tied_plain_at .later [] [.data, .data, .data, .sentinel, .sentinel] true (true, "9ef67a4cb07571d798ed60e513598468ebe5a66f3455e0900720288bced703b8") true Gl (fun _ h => by cases h) K2 (fun _ h => by cases h) rulesShortUpto_row_tie rfl ⟨rfl, rfl⟩ Qn rfl
  (fun f fn hf hfn => by
   obtain rfl : f = 20 := (Option.some.inj (Hq.symm.trans hf)).symm
   obtain rfl : fn = Tryz.f20 := (Option.some.inj (Tryz.func20.symm.trans hfn)).symm
   exact ⟨Py, fun j t ht => by
    rw [Tryz.params20] at ht
    have hm : t ∈ [33, 47] := by simpa using Array.mem_of_getElem? ht
    exact (show Tryz.prog.wantsStandIn t = false by simpa using List.all_eq_true.1 KY t hm)⟩)
  K0
end
end Go.Proofs.YtaihlcdkcampbaaGreatDoor
