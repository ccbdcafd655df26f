/- LogsBack: for every input the law returns true, and each argument reads afterwards as it read before. No condition. -/
import Derived.Test.YthljkpeimofbbaaGreatDoorE11x5
set_option linter.unusedVariables false
set_option linter.unusedSimpArgs false
set_option linter.unusedSectionVars false
set_option maxHeartbeats 4000000
set_option maxRecDepth 100000
namespace Go.Proofs.YthljkpeimofbbaaGreatDoor
section
open Go.ChangeShapes Go.WideShapes Go.ChangeAt Go.RowKit
set_option maxRecDepth 100000 in
theorem Lm (os : Os) (started : os.Started) (H : Type) (enc : TypeId × Value -> H) :
  ReturnsInHanded {} Tryz.checked os 11 .any (fun w args => (Rows.logsBackSpec.pre enc Tryz.prog Tryz.f11 Rows.logsBackRow.domain false w args /\ laidMetH Tryz.prog Rows.logsBackRow.laid w) /\ sizedMet enc Tryz.prog Tryz.f11 (OpenSpec.ofChange Rows.logsBackSpec) false w args) (Rows.logsBackSpec.post enc Tryz.prog Tryz.f11 false true false false) := by
 refine Pp (C := Tryz.checked) (X := fun w _ => laidMetH Tryz.prog Mg w) (fun _ _ _ hh h => h.of_heap hh) Sz started (by kernel_rfl) Tryz.func11
  (ChangeSpec.witness_shaped (enc := enc) (C := Tryz.checked) (os := os) (X := fun w _ => laidMetH Tryz.prog Mg w) false (World.laidAll Tryz.prog os Mg) #[.agg #[.bool false, .bool false, .bool false], .agg #[.string ByteArray.empty, .int .i64 0, .int .i64 0, .int .i64 0, .slice none 0 0, .slice none 0 0], .string ByteArray.empty] 8 (World.laidAll_os _ _ _)
   (World.shaped_of_ZipB (by kernel_rfl) (by kernel_rfl)) (by kernel_rfl) (by kernel_rfl) (by kernel_rfl) (RT os _)) ?_
 intro W base args ds gs before hval0 hW hsz hL hsh
 have hval : ∀ (j : Nat) t v, Tryz.f11.params[j]? = some t -> args[j]? = some v -> Value.okWide Tryz.prog W .any base t v := hval0
 have hW' := hW
 obtain ⟨p, q, hA0, hV, rfl, hfz, hnd⟩ := hW
 have hA : DataW.TrodAll enc Tryz.prog W 0 (fun _ => true) true Tryz.f11.params.toList args.toList ds p := hA0
 rw [Tryz.params11] at hA hval
 obtain ⟨v0, vs0, d0, ds0, p0, q0, hargs, rfl, rfl, h0, r0⟩ := trodAll_cons hA
 obtain ⟨v1, vs1, d1, ds1, p1, q1, rfl, rfl, rfl, h1, r1⟩ := trodAll_cons r0
 obtain ⟨v2, vs2, d2, ds2, p2, q2, rfl, rfl, rfl, h2, r2⟩ := trodAll_cons r1
 obtain ⟨rfl, rfl, rfl⟩ := trodAll_nil r2
 obtain rfl : args = #[v0, v1, v2] := by cases args; simp_all
 have z0 : SzW Tryz.prog 23 d0 := SzW.each hsz (j := 0) (by kernel_rfl) rfl
 obtain ⟨cs0, x0, rfl, R0, Q0⟩ := A1.agg Lk (by kernel_rfl) (hval 0 23 v0 rfl rfl) h0 z0
 have e0 := R0
 obtain rfl : cs0 = #[.bool x0.Report, .bool x0.Serial, .bool x0.Zone] := Array.ext' (by exact e0)
 have z1 : SzW Tryz.prog 27 d1 := SzW.each hsz (j := 1) (by kernel_rfl) rfl
 obtain ⟨cs1, x1, rfl, R1, Q1⟩ := A1.agg Oc (by kernel_rfl) (hval 1 27 v1 rfl rfl) h1 z1
 obtain ⟨a1_4, n1_4, a1_5, n1_5, e1, hb1_4, hs1_4, hb1_5, hs1_5⟩ := R1
 obtain rfl : cs1 = #[.string ⟨(x1.Call).toArray⟩, .int .i64 x1.Category, .int .i64 x1.Power, .int .i64 x1.Claimed, .slice a1_4 x1.Jumps.length n1_4, .slice a1_5 x1.Lines.length n1_5] := Array.ext' (by exact e1)
 have z2 : SzW Tryz.prog 9 d2 := SzW.each hsz (j := 2) (by kernel_rfl) rfl
 obtain ⟨x2, R2, Q2⟩ := A1.one (Ks (t := 9) (by kernel_rfl) (by kernel_rfl) : A1 Tryz.prog 9 AM rS) (by kernel_rfl) (hval 2 9 v2 rfl rfl) h2 z2
 have e2 : [v2] = [.string ⟨x2.toArray⟩] := R2
 cases e2
 refine (KK 9223372036854775808 W (JP W) (fun _ _ h => h) (Un hL hsh) x0 x1 a1_4 n1_4 hb1_4 hs1_4 a1_5 n1_5 hb1_5 hs1_5 x2 true (Tk x0 x1 x2 Q0 Q1 Q2)).mono fun e W' he => ?_
 obtain ⟨r, F', rfl, hs, rfl⟩ := he
 refine ⟨_, rfl, Qb (by kernel_rfl) (tb := 4) ?_ rfl hW' (by kernel_rfl) (by kernel_rfl) ?_ hs⟩
 ·intro t ht
  rw [Tryz.params11] at ht
  simp only [List.mem_cons, List.not_mem_nil, or_false] at ht
  rcases ht with rfl | rfl | rfl <;> exact ⟨by kernel_rfl, by decide +kernel⟩
 ·intro _; rfl
set_option maxRecDepth 100000 in
theorem Ng : (Rows.logsBackRow.wf (OpenSpec.ofChange Rows.logsBackSpec)) = true := by kernel_rfl
set_option maxRecDepth 100000 in
theorem Nf : (Tryz.f11.params.all (Tryz.pinned.checked.prog.readableRec ·)) = true := by kernel_rfl
set_option maxRecDepth 100000 in
theorem Nd : (namedTie Tryz.pinned.checked.prog Rows.logsBackRow.named Rows.logsBackSpec.vars) = true := by kernel_rfl
set_option maxRecDepth 100000 in
theorem Nc : ((Rows.logsBackRow.stops == [])) = true := by kernel_rfl
set_option maxRecDepth 100000 in
theorem Nb : ((Rows.logsBackRow.knobs == [])) = true := by kernel_rfl
set_option maxRecDepth 100000 in
theorem Na : ((Rows.logsBackRow.inPlace == Tryz.pinned.checked.prog.inPlace 11)) = true := by kernel_rfl
set_option maxRecDepth 100000 in
theorem MD : ((Rows.logsBackRow.unfollowed == Tryz.pinned.checked.prog.unfollowed 11)) = true := by kernel_rfl
set_option maxRecDepth 100000 in
theorem MC : ((Rows.logsBackRow.recurses == Tryz.pinned.checked.prog.recurses 11)) = true := by kernel_rfl
set_option maxRecDepth 100000 in
theorem MB : ((Rows.logsBackRow.named == Tryz.pinned.checked.prog.varsNamed 11)) = true := by kernel_rfl
set_option maxRecDepth 100000 in
theorem MA : ((Rows.logsBackRow.maps == (Tryz.f11.params.toList ++ Rows.logsBackSpec.plain.varTypes Tryz.pinned.checked.prog).any (Tryz.pinned.checked.prog.mapsRec ·))) = true := by kernel_rfl
set_option maxRecDepth 100000 in
theorem Mz : ((Rows.logsBackRow.ifaces == (Tryz.f11.params.toList ++ Rows.logsBackSpec.plain.varTypes Tryz.pinned.checked.prog).any (Tryz.pinned.checked.prog.ifacesRec ·))) = true := by kernel_rfl
set_option maxRecDepth 100000 in
theorem My : ((Rows.logsBackRow.mapsOut == Tryz.pinned.checked.prog.mapsAmong Tryz.f11.resultTypes.toList)) = true := by kernel_rfl
set_option maxRecDepth 100000 in
theorem Mx : ((Rows.logsBackRow.loops == (Tryz.f11.params.toList ++ Rows.logsBackSpec.plain.varTypes Tryz.pinned.checked.prog).any (Tryz.pinned.checked.prog.loopsFrom ·))) = true := by kernel_rfl
set_option maxRecDepth 100000 in
theorem Mw : ((Rows.logsBackRow.wideKeys == (Tryz.f11.params.toList ++ Rows.logsBackSpec.plain.varTypes Tryz.pinned.checked.prog ++ Tryz.f11.resultTypes.toList).any (Tryz.pinned.checked.prog.wideKeysFrom ·))) = true := by kernel_rfl
set_option maxRecDepth 100000 in
theorem Mv : (Rows.logsBackSpec.vars.all (Tryz.pinned.checked.prog.varReadable ·)) = true := by kernel_rfl
set_option maxRecDepth 100000 in
theorem Mu : (Tryz.f11.resultTypes.all (fun t => Tryz.pinned.checked.prog.readableRec t && decide (t < Tryz.pinned.checked.prog.types.size))) = true := by kernel_rfl
set_option maxRecDepth 100000 in
theorem Mt : ((Rows.logsBackRow.ifacesOut == Tryz.f11.resultTypes.toList.any (Tryz.pinned.checked.prog.ifacesRec ·))) = true := by kernel_rfl
set_option maxRecDepth 100000 in
theorem Ms : ((Rows.logsBackRow.loopsOut == Tryz.f11.resultTypes.toList.any (Tryz.pinned.checked.prog.loopsFrom ·))) = true := by kernel_rfl
theorem Mr : ((Rows.logsBackRow.plainKeys == Tryz.pinned.checked.prog.plainKeys)) = true := by rw [<- eq_of_beq VQ]; kernel_rfl
set_option maxRecDepth 100000 in
theorem Mq : Rows.logsBackRow.shortTexts.isNone = true := by kernel_rfl
theorem Mp : ((Rows.logsBackRow.lifted == Tryz.pinned.checked.prog.liftsFinal)) = true := by rw [<- eq_of_beq VN]; kernel_rfl
theorem Mo : ((Tryz.pinned.checked.prog.make == some Rows.logsBackRow.make)) = true := by rw [eq_of_beq VM]; kernel_rfl
set_option maxRecDepth 100000 in
theorem Mn : ((Rows.logsBackRow.pinned == Rows.logsBackRow.pinnedBy)) = true := by kernel_rfl
set_option maxRecDepth 100000 in
theorem Mm : ((Rows.logsBackRow.veiled == (Tryz.f11.params.toList ++ Rows.logsBackSpec.plain.varTypes Tryz.pinned.checked.prog ++ Tryz.f11.resultTypes.toList).any (Tryz.pinned.checked.prog.veiledRec ·))) = true := by kernel_rfl
set_option maxRecDepth 100000 in
theorem Ml : (Rows.logsBackRow.veiledFits Tryz.pinned.checked.prog Tryz.f11.params.toList (Tryz.f11.params.toList ++ Rows.logsBackSpec.plain.varTypes Tryz.pinned.checked.prog ++ Tryz.f11.resultTypes.toList)) = true := by kernel_rfl
theorem Pg : joinedFacts Tryz.pinned.checked.prog 11 Tryz.f11 Rows.logsBackSpec Rows.logsBackRow = true := Bw (Bw (Bw (Bw (Bw (Bw (Bw (Bw (Bw (Bw (Bw (Bw (Bw (Bw (Bw (Bw (Bw (Bw (Bw (Bw (Bw (Bw (Bw (Bw (Bw (Bw (Bw (Bw (Bw (Bw (Bw Ng V9) V8) Nf) Nd) Nc) V7) Nb) V6) Na) MD) MC) MB) MA) Mz) My) Mx) Mw) Mv) Mu) Mt) Ms) Mr) Mq) VP) VO) Mp) Mo) (by kernel_rfl)) Mn) Mm) Ml
theorem K5 : Tryz.pinned.checked.prog.funcNamed Rows.logsBackRow.func = some 11 := by kernel_rfl
theorem Pe : Tryz.f11.isInstance Tryz.pinned.checked.prog Rows.logsBackRow.origin Rows.logsBackRow.targs := of_decide_eq_true (by kernel_rfl)
theorem Pc : Tryz.f11.isWrapper Tryz.pinned.checked.prog Rows.logsBackRow.wrapper Rows.logsBackRow.mainSum := by unfold Func.isWrapper; first | (rw [if_pos (by decide +kernel)]; kernel_rfl) | (rw [if_neg (by decide +kernel)]; exact ⟨rfl, rfl⟩)
theorem Jm : Rows.LogsBackSaid :=
 OpenClaim.holds_of_wide 11 Tryz.f11 rfl rfl rfl rfl rfl rfl rfl ⟨rfl, rfl, rfl, rfl, rfl⟩ rfl rfl rfl rfl rfl K5 Tryz.func11 Pg Pe Pc
  (fun os started H enc _ => Lm os started H enc)
theorem Ph : Rows.logsBackRow.wfByText (OpenSpec.ofChange Rows.logsBackSpec) = true := by kernel_rfl
theorem Pd : ([23, 27, 9].all fun u => !Tryz.prog.wantsStandIn u) = true := by kernel_rfl
theorem Pf : false = Rows.logsBackRow.goesBy Tryz.pinned.checked.prog := by kernel_rfl
theorem logsBack_proved : Rows.LogsBackCardSaid :=
 Claim7.holds_tied_plain_at .later [] [.data, .data, .data, .data, .sentinel, .sentinel, .pinned] true (true, "8c4ab1a80a7e2c52077e9b3380faa1f8d4c3b8948d98da10affddce30d58f5b7") true Jm (fun _ h => by cases h) Ph (fun _ h => by cases h) logsBack_row_tie rfl ⟨rfl, rfl⟩ Uo rfl
  (fun f fn hf hfn => by
   obtain rfl : f = 11 := (Option.some.inj (K5.symm.trans hf)).symm
   obtain rfl : fn = Tryz.f11 := (Option.some.inj (Tryz.func11.symm.trans hfn)).symm
   exact ⟨S7, fun j t ht => by
    rw [Tryz.params11] at ht
    have hm : t ∈ [23, 27, 9] := by simpa using Array.mem_of_getElem? ht
    exact (show Tryz.prog.wantsStandIn t = false by simpa using List.all_eq_true.1 Pd t hm)⟩)
  Pf
end
end Go.Proofs.YthljkpeimofbbaaGreatDoor
