/- RulesBackUpto: for every input whose bulk is at most 1048576 the law returns true, and each argument reads afterwards as it read before. The bound on the bulk is the one condition. -/
import Derived.Test.YtaihlcdkcampbaaGreatDoorE11x5
set_option linter.unusedVariables false
set_option linter.unusedSimpArgs false
set_option linter.unusedSectionVars false
set_option maxHeartbeats 4000000
set_option maxRecDepth 100000
namespace Go.Proofs.YtaihlcdkcampbaaGreatDoor
section
open Go.ChangeShapes Go.WideShapes Go.ChangeAt Go.RowKit
theorem Lh (os : Os) {H : Type} (enc : TypeId × Value -> H) : ∃ places, DataW.whole enc Tryz.prog ((World.laidAll Tryz.prog os K3).forCall (fun _ _ => 0) ⟨#[], #[.agg #[.slice none 0 0, .slice none 0 0, .slice none 0 0, .slice none 0 0], .agg #[.int .i64 0, .int .i64 0, .slice none 0 0], .string ByteArray.empty], []⟩).memory Tryz.f11.params.toList Rows.rulesBackSpec.vars false #[.agg #[.slice none 0 0, .slice none 0 0, .slice none 0 0, .slice none 0 0], .agg #[.int .i64 0, .int .i64 0, .slice none 0 0], .string ByteArray.empty].toList 8 = some ([.agg [.nil, .nil, .nil, .nil], .agg [.lit (.int .i64 0), .lit (.int .i64 0), .nil], .lit (.string [])], [], places) :=
 ⟨[], by kernel_rfl⟩
set_option maxRecDepth 100000 in
theorem KB (os : Os) (started : os.Started) (H : Type) (enc : TypeId × Value -> H) (F : Stop.Interp) :
  ReturnsInHanded {} Tryz.checked os 11 .any ((Rows.OpenSpec.upto Rows.rulesBackSpec).preRow enc Tryz.prog Tryz.f11 Rows.rulesBackUptoRow.domain false Rows.rulesBackUptoRow.laid) (((Rows.OpenSpec.upto Rows.rulesBackSpec).at F).post enc Tryz.prog Tryz.f11 false true false false) := by
 obtain ⟨places, hx⟩ := Lh os enc
 refine returnsInHanded_of_row (C := Tryz.checked) (s := (Rows.OpenSpec.upto Rows.rulesBackSpec)) Tf started (by kernel_rfl) Tryz.func11
  (NX (enc := enc) (C := Tryz.checked) false (World.laidAll Tryz.prog os K3) #[.agg #[.slice none 0 0, .slice none 0 0, .slice none 0 0, .slice none 0 0], .agg #[.int .i64 0, .int .i64 0, .slice none 0 0], .string ByteArray.empty] (World.laidAll_os _ _ _) (World.shaped_of_ZipB (by kernel_rfl) (by kernel_rfl)) (by kernel_rfl)
   (OpenSpec.preRow_of_cond 8 hx (by kernel_rfl) (fun k hk => by cases hk; kernel_rfl) (by kernel_rfl) (Sh os _))) ?_
 intro W base args ds gs before hval0 hW _ hcond hsz hL hsh _
 show Calls Tryz.prog 11 args W fun e W' => ∃ v, e = .returned v /\ Rows.rulesBackSpec.post enc Tryz.prog Tryz.f11 false true false false W args v W'
 have hk : Rows.uptoSmall H (ds ++ gs) = true := hcond _ rfl
 have hval : ∀ (j : Nat) t v, Tryz.f11.params[j]? = some t -> args[j]? = some v -> Value.okWide Tryz.prog W .any base t v := hval0
 have hW' : DataW.Whole enc Tryz.prog Tryz.f11.params.toList Rows.rulesBackSpec.vars false W args.toList ds gs before := hW
 obtain ⟨p, q, hA0, hV, rfl, hfz, hnd⟩ := hW
 have hA : DataW.TrodAll enc Tryz.prog W 0 (fun _ => true) true Tryz.f11.params.toList args.toList ds p := hA0
 obtain ⟨rfl, rfl⟩ := trodVars_none hV
 rw [Tryz.params11] at hA hval
 obtain ⟨v0, vs0, d0, ds0, p0, q0, hargs, rfl, rfl, h0, r0⟩ := trodAll_cons hA
 obtain ⟨v1, vs1, d1, ds1, p1, q1, rfl, rfl, rfl, h1, r1⟩ := trodAll_cons r0
 obtain ⟨v2, vs2, d2, ds2, p2, q2, rfl, rfl, rfl, h2, r2⟩ := trodAll_cons r1
 obtain ⟨rfl, rfl, rfl⟩ := trodAll_nil r2
 obtain rfl : args = #[v0, v1, v2] := by cases args; simp_all
 have hb : Rows.uptoBulk d0 + Rows.uptoBulk d1 + Rows.uptoBulk d2 <= 1048576 := by have h := of_decide_eq_true hk; simp only [List.append_nil, Rows.uptoBulkAll] at h; omega
 have z0 : SzW Tryz.prog 26 d0 := SzW.each hsz (j := 0) (by kernel_rfl) rfl
 obtain ⟨cs0, x0, rfl, R0, Q0, U0⟩ := Ea.agg MB (by kernel_rfl) (hval 0 26 v0 rfl rfl) h0 z0
 obtain ⟨a0_0, n0_0, a0_1, n0_1, a0_2, n0_2, a0_3, n0_3, e0, hb0_0, hs0_0, hb0_1, hs0_1, hb0_2, hs0_2, hb0_3, hs0_3⟩ := R0
 obtain rfl : cs0 = #[.slice a0_0 x0.Points.length n0_0, .slice a0_1 x0.Multipliers.length n0_1, .slice a0_2 x0.Penalties.length n0_2, .slice a0_3 x0.Repeats.length n0_3] := Array.ext' (by exact e0)
 have z1 : SzW Tryz.prog 33 d1 := SzW.each hsz (j := 1) (by kernel_rfl) rfl
 obtain ⟨cs1, x1, rfl, R1, Q1, U1⟩ := Ea.agg EI (by kernel_rfl) (hval 1 33 v1 rfl rfl) h1 z1
 obtain ⟨a1_2, n1_2, e1, hb1_2, hs1_2⟩ := AZ R1
 obtain rfl : cs1 = #[.int .i64 x1.Op, .int .i64 x1.Value, .slice a1_2 x1.Kids.length n1_2] := Array.ext' (by exact e1)
 have z2 : SzW Tryz.prog 9 d2 := SzW.each hsz (j := 2) (by kernel_rfl) rfl
 obtain ⟨x2, R2, Q2, U2⟩ := Ea.one (Qp (t := 9) (by kernel_rfl) (by kernel_rfl) : Ea Tryz.prog 9 FU _ _) (by kernel_rfl) (hval 2 9 v2 rfl rfl) h2 z2
 have e2 : [v2] = [.string ⟨x2.toArray⟩] := R2
 cases e2
 obtain ⟨N, hN⟩ := TX x0 x1 x2 Q0 (Nat.le_trans U0 (by omega)) Q1 (Nat.le_trans U1 (by omega)) Q2 (Nat.le_trans U2 (by omega))
 refine (Kj N W (Ha W) (fun _ _ h => h) (UB hL hsh) x0 a0_0 n0_0 hb0_0 hs0_0 a0_1 n0_1 hb0_1 hs0_1 a0_2 n0_2 hb0_2 hs0_2 a0_3 n0_3 hb0_3 hs0_3 x1 a1_2 n1_2 hb1_2 hs1_2 x2 true hN).mono fun e W' he => ?_
 obtain ⟨r, F', rfl, hs, rfl⟩ := he
 refine ⟨_, rfl, Qk (by kernel_rfl) (tb := 4) ?_ rfl hW' (by kernel_rfl) (by kernel_rfl) ?_ hs⟩
 ·intro t ht
  rw [Tryz.params11] at ht
  simp only [List.mem_cons, List.not_mem_nil, or_false] at ht
  rcases ht with rfl | rfl | rfl <;> exact ⟨by kernel_rfl, by decide +kernel⟩
 ·intro _; rfl
set_option maxRecDepth 100000 in
theorem MI : (Rows.rulesBackUptoRow.wf (OpenSpec.ofChange (Rows.OpenSpec.upto Rows.rulesBackSpec).bare)) = true := by kernel_rfl
set_option maxRecDepth 100000 in
theorem MH : (Tryz.f11.params.all (Tryz.pinned.checked.prog.readableRec ·)) = true := by kernel_rfl
set_option maxRecDepth 100000 in
theorem MG : (namedTie Tryz.pinned.checked.prog Rows.rulesBackUptoRow.named (Rows.OpenSpec.upto Rows.rulesBackSpec).bare.vars) = true := by kernel_rfl
set_option maxRecDepth 100000 in
theorem MF : ((Rows.rulesBackUptoRow.stops == [])) = true := by kernel_rfl
set_option maxRecDepth 100000 in
theorem ME : ((Rows.rulesBackUptoRow.knobs == [])) = true := by kernel_rfl
set_option maxRecDepth 100000 in
theorem MD : ((Rows.rulesBackUptoRow.inPlace == Tryz.pinned.checked.prog.inPlace 11)) = true := by kernel_rfl
set_option maxRecDepth 100000 in
theorem LH : ((Rows.rulesBackUptoRow.unfollowed == Tryz.pinned.checked.prog.unfollowed 11)) = true := by kernel_rfl
set_option maxRecDepth 100000 in
theorem LG : ((Rows.rulesBackUptoRow.recurses == Tryz.pinned.checked.prog.recurses 11)) = true := by kernel_rfl
set_option maxRecDepth 100000 in
theorem LF : ((Rows.rulesBackUptoRow.named == Tryz.pinned.checked.prog.varsNamed 11)) = true := by kernel_rfl
set_option maxRecDepth 100000 in
theorem LE : ((Rows.rulesBackUptoRow.maps == (Tryz.f11.params.toList ++ (Rows.OpenSpec.upto Rows.rulesBackSpec).bare.plain.varTypes Tryz.pinned.checked.prog).any (Tryz.pinned.checked.prog.mapsRec ·))) = true := by kernel_rfl
set_option maxRecDepth 100000 in
theorem LD : ((Rows.rulesBackUptoRow.ifaces == (Tryz.f11.params.toList ++ (Rows.OpenSpec.upto Rows.rulesBackSpec).bare.plain.varTypes Tryz.pinned.checked.prog).any (Tryz.pinned.checked.prog.ifacesRec ·))) = true := by kernel_rfl
set_option maxRecDepth 100000 in
theorem LB : ((Rows.rulesBackUptoRow.mapsOut == Tryz.pinned.checked.prog.mapsAmong Tryz.f11.resultTypes.toList)) = true := by kernel_rfl
set_option maxRecDepth 100000 in
theorem LA : ((Rows.rulesBackUptoRow.loops == (Tryz.f11.params.toList ++ (Rows.OpenSpec.upto Rows.rulesBackSpec).bare.plain.varTypes Tryz.pinned.checked.prog).any (Tryz.pinned.checked.prog.loopsFrom ·))) = true := by kernel_rfl
set_option maxRecDepth 100000 in
theorem Ly : ((Rows.rulesBackUptoRow.wideKeys == (Tryz.f11.params.toList ++ (Rows.OpenSpec.upto Rows.rulesBackSpec).bare.plain.varTypes Tryz.pinned.checked.prog ++ Tryz.f11.resultTypes.toList).any (Tryz.pinned.checked.prog.wideKeysFrom ·))) = true := by kernel_rfl
set_option maxRecDepth 100000 in
theorem Lw : ((Rows.OpenSpec.upto Rows.rulesBackSpec).bare.vars.all (Tryz.pinned.checked.prog.varReadable ·)) = true := by kernel_rfl
set_option maxRecDepth 100000 in
theorem Lv : (Tryz.f11.resultTypes.all (fun t => Tryz.pinned.checked.prog.readableRec t && decide (t < Tryz.pinned.checked.prog.types.size))) = true := by kernel_rfl
set_option maxRecDepth 100000 in
theorem Lt : ((Rows.rulesBackUptoRow.ifacesOut == Tryz.f11.resultTypes.toList.any (Tryz.pinned.checked.prog.ifacesRec ·))) = true := by kernel_rfl
set_option maxRecDepth 100000 in
theorem Ls : ((Rows.rulesBackUptoRow.loopsOut == Tryz.f11.resultTypes.toList.any (Tryz.pinned.checked.prog.loopsFrom ·))) = true := by kernel_rfl
theorem Lp : ((Rows.rulesBackUptoRow.plainKeys == Tryz.pinned.checked.prog.plainKeys)) = true := by rw [<- eq_of_beq V5]; kernel_rfl
set_option maxRecDepth 100000 in
theorem Ln : Rows.rulesBackUptoRow.shortTexts.isNone = true := by kernel_rfl
theorem Lm : ((Rows.rulesBackUptoRow.lifted == Tryz.pinned.checked.prog.liftsFinal)) = true := by rw [<- eq_of_beq V2]; kernel_rfl
theorem Ll : ((Tryz.pinned.checked.prog.make == some Rows.rulesBackUptoRow.make)) = true := by rw [eq_of_beq V1]; kernel_rfl
set_option maxRecDepth 100000 in
theorem Lk : ((Rows.rulesBackUptoRow.pinned == Rows.rulesBackUptoRow.pinnedBy)) = true := by kernel_rfl
set_option maxRecDepth 100000 in
theorem Lj : ((Rows.rulesBackUptoRow.veiled == (Tryz.f11.params.toList ++ (Rows.OpenSpec.upto Rows.rulesBackSpec).bare.plain.varTypes Tryz.pinned.checked.prog ++ Tryz.f11.resultTypes.toList).any (Tryz.pinned.checked.prog.veiledRec ·))) = true := by kernel_rfl
set_option maxRecDepth 100000 in
theorem Li : (Rows.rulesBackUptoRow.veiledFits Tryz.pinned.checked.prog Tryz.f11.params.toList (Tryz.f11.params.toList ++ (Rows.OpenSpec.upto Rows.rulesBackSpec).bare.plain.varTypes Tryz.pinned.checked.prog ++ Tryz.f11.resultTypes.toList)) = true := by kernel_rfl
theorem OA : joinedFacts Tryz.pinned.checked.prog 11 Tryz.f11 (Rows.OpenSpec.upto Rows.rulesBackSpec).bare Rows.rulesBackUptoRow = true := B1 (B1 (B1 (B1 (B1 (B1 (B1 (B1 (B1 (B1 (B1 (B1 (B1 (B1 (B1 (B1 (B1 (B1 (B1 (B1 (B1 (B1 (B1 (B1 (B1 (B1 (B1 (B1 (B1 (B1 (B1 MI Wz) Wy) MH) MG) MF) Wx) ME) Ww) MD) LH) LG) LF) LE) LD) LB) LA) Ly) Lw) Lv) Lt) Ls) Lp) Ln) V4) V3) Lm) Ll) (by kernel_rfl)) Lk) Lj) Li
theorem J2 : Tryz.pinned.checked.prog.funcNamed Rows.rulesBackUptoRow.func = some 11 := by kernel_rfl
theorem Oy : Tryz.f11.isInstance Tryz.pinned.checked.prog Rows.rulesBackUptoRow.origin Rows.rulesBackUptoRow.targs := of_decide_eq_true (by kernel_rfl)
theorem Ow : Tryz.f11.isWrapper Tryz.pinned.checked.prog Rows.rulesBackUptoRow.wrapper Rows.rulesBackUptoRow.mainSum := by unfold Func.isWrapper; first | (rw [if_pos (by decide +kernel)]; kernel_rfl) | (rw [if_neg (by decide +kernel)]; exact ⟨rfl, rfl⟩)
theorem IV : Rows.RulesBackUptoSaid :=
 OpenClaim.holds_of_cond 11 Tryz.f11 rfl rfl rfl rfl rfl rfl rfl ⟨rfl, rfl, rfl, rfl, rfl⟩ rfl rfl rfl rfl rfl J2 Tryz.func11 OA Oy Ow
  (fun os started H enc _ F => by rw [OpenClaim.pre_eq_preRow]; exact KB os started H enc F)
theorem OB : Rows.rulesBackUptoRow.wfByText (Rows.OpenSpec.upto Rows.rulesBackSpec) = true := by kernel_rfl
theorem Ox : ([26, 33, 9].all fun u => !Tryz.prog.wantsStandIn u) = true := by kernel_rfl
theorem Oz : false = Rows.rulesBackUptoRow.goesBy Tryz.pinned.checked.prog := by kernel_rfl
theorem rulesBack_proved : Rows.RulesBackUptoCardSaid :=
 Claim7.holds_tied_plain_at .later [] [.data, .data, .data, .sentinel, .sentinel] true (true, "9ef67a4cb07571d798ed60e513598468ebe5a66f3455e0900720288bced703b8") true IV (fun _ h => by cases h) OB (fun _ h => by cases h) rulesBackUpto_row_tie rfl ⟨rfl, rfl⟩ UC rfl
  (fun f fn hf hfn => by
   obtain rfl : f = 11 := (Option.some.inj (J2.symm.trans hf)).symm
   obtain rfl : fn = Tryz.f11 := (Option.some.inj (Tryz.func11.symm.trans hfn)).symm
   exact ⟨Tx, fun j t ht => by
    rw [Tryz.params11] at ht
    have hm : t ∈ [26, 33, 9] := by simpa using Array.mem_of_getElem? ht
    exact (show Tryz.prog.wantsStandIn t = false by simpa using List.all_eq_true.1 Ox t hm)⟩)
  Oz
end
end Go.Proofs.YtaihlcdkcampbaaGreatDoor
