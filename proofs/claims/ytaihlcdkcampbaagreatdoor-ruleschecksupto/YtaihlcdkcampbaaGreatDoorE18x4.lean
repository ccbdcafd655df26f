/- Lemmas of the claim RulesChecksUpto, printed by a program of the claimant and by hand. No statement of the seat is proved here. -/
import Derived.Test.YtaihlcdkcampbaaGreatDoorE18x3
set_option linter.unusedVariables false
set_option linter.unusedSimpArgs false
set_option linter.unusedSectionVars false
set_option maxHeartbeats 4000000
set_option maxRecDepth 100000
namespace Go.Proofs.YtaihlcdkcampbaaGreatDoor
def MD (sR145 : Ab -> Option (Ah ⊕ (Ab × Expr))) : Prop := ∀ {wb w0 : World} {Fb F0 : Mem} {Lf : Own} (hG : Ci F0) (bp0 : Nat) (x0 : Ab) (a0_0 : R9) (n0_0 : Nat) (hb0_0 : LC x0.l_.length n0_0) (hs0_0 : SlA Af F0 a0_0 x0.l_) (hs0 : HS wb Fb w0 F0 ((some bp0, (.cells #[(.slice a0_0 x0.l_.length n0_0), (.int .i64 x0.open_)] 100 (0, 0))) :: Lf)) (r : (Ah ⊕ (Ab × Expr))), sR145 x0 = some r -> Calls Tryz.prog 145 ([(.pointer (some ⟨bp0, 0, none⟩))] : List Value).toArray w0 (Bx wb Fb F0 Lf r (fun b => (.iface 158 (.agg #[(.int .i64 b.e_), (.int .i64 b.at_)]))) fun a F' v L' => ∃ (aq0_0 : R9) (nq0_0 : Nat) (aq1_2 : R9) (nq1_2 : Nat), v = (.agg #[(.int .i64 a.2.Op), (.int .i64 a.2.Value), (.slice aq1_2 a.2.Kids.length nq1_2)]) /\ L' = (some bp0, (.cells #[(.slice aq0_0 a.1.l_.length nq0_0), (.int .i64 a.1.open_)] 100 (0, 0))) :: Lf /\ LC a.1.l_.length nq0_0 /\ SlA Af F' aq0_0 a.1.l_ /\ LC a.2.Kids.length nq1_2 /\ SlA Ao F' aq1_2 a.2.Kids)
theorem Bw : Ak Tryz.prog 145 := fun _ _ => by kernel_rfl
def My (sR185 : Ab -> Option (Ah ⊕ (Ab × Expr))) : Prop := ∀ {wb w0 : World} {Fb F0 : Mem} {Lf : Own} (hG : Ci F0) (bp0 : Nat) (x0 : Ab) (a0_0 : R9) (n0_0 : Nat) (hb0_0 : LC x0.l_.length n0_0) (hs0_0 : SlA Af F0 a0_0 x0.l_) (hs0 : HS wb Fb w0 F0 ((some bp0, (.cells #[(.slice a0_0 x0.l_.length n0_0), (.int .i64 x0.open_)] 100 (0, 0))) :: Lf)) (r : (Ah ⊕ (Ab × Expr))), sR185 x0 = some r -> Calls Tryz.prog 185 ([(.pointer (some ⟨bp0, 0, none⟩))] : List Value).toArray w0 (Bx wb Fb F0 Lf r (fun b => (.iface 158 (.agg #[(.int .i64 b.e_), (.int .i64 b.at_)]))) fun a F' v L' => ∃ (aq0_0 : R9) (nq0_0 : Nat) (aq1_2 : R9) (nq1_2 : Nat), v = (.agg #[(.int .i64 a.2.Op), (.int .i64 a.2.Value), (.slice aq1_2 a.2.Kids.length nq1_2)]) /\ L' = (some bp0, (.cells #[(.slice aq0_0 a.1.l_.length nq0_0), (.int .i64 a.1.open_)] 100 (0, 0))) :: Lf /\ LC a.1.l_.length nq0_0 /\ SlA Af F' aq0_0 a.1.l_ /\ LC a.2.Kids.length nq1_2 /\ SlA Ao F' aq1_2 a.2.Kids)
theorem GF : Ak Tryz.prog 185 := fun _ _ => by kernel_rfl
def Kc (sR212 : Ab -> Option (Ah ⊕ (Ab × Expr))) : Prop := ∀ {wb w0 : World} {Fb F0 : Mem} {Lf : Own} (hG : Ci F0) (bp0 : Nat) (x0 : Ab) (a0_0 : R9) (n0_0 : Nat) (hb0_0 : LC x0.l_.length n0_0) (hs0_0 : SlA Af F0 a0_0 x0.l_) (hs0 : HS wb Fb w0 F0 ((some bp0, (.cells #[(.slice a0_0 x0.l_.length n0_0), (.int .i64 x0.open_)] 100 (0, 0))) :: Lf)) (r : (Ah ⊕ (Ab × Expr))), sR212 x0 = some r -> Calls Tryz.prog 212 ([(.pointer (some ⟨bp0, 0, none⟩))] : List Value).toArray w0 (Bx wb Fb F0 Lf r (fun b => (.iface 158 (.agg #[(.int .i64 b.e_), (.int .i64 b.at_)]))) fun a F' v L' => ∃ (aq0_0 : R9) (nq0_0 : Nat) (aq1_2 : R9) (nq1_2 : Nat), v = (.agg #[(.int .i64 a.2.Op), (.int .i64 a.2.Value), (.slice aq1_2 a.2.Kids.length nq1_2)]) /\ L' = (some bp0, (.cells #[(.slice aq0_0 a.1.l_.length nq0_0), (.int .i64 a.1.open_)] 100 (0, 0))) :: Lf /\ LC a.1.l_.length nq0_0 /\ SlA Af F' aq0_0 a.1.l_ /\ LC a.2.Kids.length nq1_2 /\ SlA Ao F' aq1_2 a.2.Kids)
theorem DO : Ak Tryz.prog 212 := fun _ _ => by kernel_rfl
def Mw (sR226 : Ab -> Option (Ah ⊕ (Ab × Expr))) : Prop := ∀ {wb w0 : World} {Fb F0 : Mem} {Lf : Own} (hG : Ci F0) (bp0 : Nat) (x0 : Ab) (a0_0 : R9) (n0_0 : Nat) (hb0_0 : LC x0.l_.length n0_0) (hs0_0 : SlA Af F0 a0_0 x0.l_) (hs0 : HS wb Fb w0 F0 ((some bp0, (.cells #[(.slice a0_0 x0.l_.length n0_0), (.int .i64 x0.open_)] 100 (0, 0))) :: Lf)) (r : (Ah ⊕ (Ab × Expr))), sR226 x0 = some r -> Calls Tryz.prog 226 ([(.pointer (some ⟨bp0, 0, none⟩))] : List Value).toArray w0 (Bx wb Fb F0 Lf r (fun b => (.iface 158 (.agg #[(.int .i64 b.e_), (.int .i64 b.at_)]))) fun a F' v L' => ∃ (aq0_0 : R9) (nq0_0 : Nat) (aq1_2 : R9) (nq1_2 : Nat), v = (.agg #[(.int .i64 a.2.Op), (.int .i64 a.2.Value), (.slice aq1_2 a.2.Kids.length nq1_2)]) /\ L' = (some bp0, (.cells #[(.slice aq0_0 a.1.l_.length nq0_0), (.int .i64 a.1.open_)] 100 (0, 0))) :: Lf /\ LC a.1.l_.length nq0_0 /\ SlA Af F' aq0_0 a.1.l_ /\ LC a.2.Kids.length nq1_2 /\ SlA Ao F' aq1_2 a.2.Kids)
theorem GA : Ak Tryz.prog 226 := fun _ _ => by kernel_rfl
def Mv (sR233 : Ab -> Option (Ah ⊕ (Ab × Expr))) : Prop := ∀ {wb w0 : World} {Fb F0 : Mem} {Lf : Own} (hG : Ci F0) (bp0 : Nat) (x0 : Ab) (a0_0 : R9) (n0_0 : Nat) (hb0_0 : LC x0.l_.length n0_0) (hs0_0 : SlA Af F0 a0_0 x0.l_) (hs0 : HS wb Fb w0 F0 ((some bp0, (.cells #[(.slice a0_0 x0.l_.length n0_0), (.int .i64 x0.open_)] 100 (0, 0))) :: Lf)) (r : (Ah ⊕ (Ab × Expr))), sR233 x0 = some r -> Calls Tryz.prog 233 ([(.pointer (some ⟨bp0, 0, none⟩))] : List Value).toArray w0 (Bx wb Fb F0 Lf r (fun b => (.iface 158 (.agg #[(.int .i64 b.e_), (.int .i64 b.at_)]))) fun a F' v L' => ∃ (aq0_0 : R9) (nq0_0 : Nat) (aq1_2 : R9) (nq1_2 : Nat), v = (.agg #[(.int .i64 a.2.Op), (.int .i64 a.2.Value), (.slice aq1_2 a.2.Kids.length nq1_2)]) /\ L' = (some bp0, (.cells #[(.slice aq0_0 a.1.l_.length nq0_0), (.int .i64 a.1.open_)] 100 (0, 0))) :: Lf /\ LC a.1.l_.length nq0_0 /\ SlA Af F' aq0_0 a.1.l_ /\ LC a.2.Kids.length nq1_2 /\ SlA Ao F' aq1_2 a.2.Kids)
theorem BE : Ak Tryz.prog 233 := fun _ _ => by kernel_rfl
def Mu (sR239 : Ab -> Option (Ah ⊕ (Ab × Expr))) : Prop := ∀ {wb w0 : World} {Fb F0 : Mem} {Lf : Own} (hG : Ci F0) (bp0 : Nat) (x0 : Ab) (a0_0 : R9) (n0_0 : Nat) (hb0_0 : LC x0.l_.length n0_0) (hs0_0 : SlA Af F0 a0_0 x0.l_) (hs0 : HS wb Fb w0 F0 ((some bp0, (.cells #[(.slice a0_0 x0.l_.length n0_0), (.int .i64 x0.open_)] 100 (0, 0))) :: Lf)) (r : (Ah ⊕ (Ab × Expr))), sR239 x0 = some r -> Calls Tryz.prog 239 ([(.pointer (some ⟨bp0, 0, none⟩))] : List Value).toArray w0 (Bx wb Fb F0 Lf r (fun b => (.iface 158 (.agg #[(.int .i64 b.e_), (.int .i64 b.at_)]))) fun a F' v L' => ∃ (aq0_0 : R9) (nq0_0 : Nat) (aq1_2 : R9) (nq1_2 : Nat), v = (.agg #[(.int .i64 a.2.Op), (.int .i64 a.2.Value), (.slice aq1_2 a.2.Kids.length nq1_2)]) /\ L' = (some bp0, (.cells #[(.slice aq0_0 a.1.l_.length nq0_0), (.int .i64 a.1.open_)] 100 (0, 0))) :: Lf /\ LC a.1.l_.length nq0_0 /\ SlA Af F' aq0_0 a.1.l_ /\ LC a.2.Kids.length nq1_2 /\ SlA Ao F' aq1_2 a.2.Kids)
theorem GB : Ak Tryz.prog 239 := fun _ _ => by kernel_rfl
def Mt (sR243 : Ab -> Option (Ah ⊕ (Ab × Expr))) : Prop := ∀ {wb w0 : World} {Fb F0 : Mem} {Lf : Own} (hG : Ci F0) (bp0 : Nat) (x0 : Ab) (a0_0 : R9) (n0_0 : Nat) (hb0_0 : LC x0.l_.length n0_0) (hs0_0 : SlA Af F0 a0_0 x0.l_) (hs0 : HS wb Fb w0 F0 ((some bp0, (.cells #[(.slice a0_0 x0.l_.length n0_0), (.int .i64 x0.open_)] 100 (0, 0))) :: Lf)) (r : (Ah ⊕ (Ab × Expr))), sR243 x0 = some r -> Calls Tryz.prog 243 ([(.pointer (some ⟨bp0, 0, none⟩))] : List Value).toArray w0 (Bx wb Fb F0 Lf r (fun b => (.iface 158 (.agg #[(.int .i64 b.e_), (.int .i64 b.at_)]))) fun a F' v L' => ∃ (aq0_0 : R9) (nq0_0 : Nat) (aq1_2 : R9) (nq1_2 : Nat), v = (.agg #[(.int .i64 a.2.Op), (.int .i64 a.2.Value), (.slice aq1_2 a.2.Kids.length nq1_2)]) /\ L' = (some bp0, (.cells #[(.slice aq0_0 a.1.l_.length nq0_0), (.int .i64 a.1.open_)] 100 (0, 0))) :: Lf /\ LC a.1.l_.length nq0_0 /\ SlA Af F' aq0_0 a.1.l_ /\ LC a.2.Kids.length nq1_2 /\ SlA Ao F' aq1_2 a.2.Kids)
theorem GE : Ak Tryz.prog 243 := fun _ _ => by kernel_rfl
def D6 (N : Nat) (sR185 : Ab -> Option (Ah ⊕ (Ab × Expr))) (x0 : Ab) : Option (Ah ⊕ (Ab × Expr)) :=
 ((Bn N x0 (fun y => sR185 y) (Eu ([] : List (R8 × Int)) ([111, 114] : R8) 5)).bind fun r37 => sk r37 (fun b49 => some (.inl b49)) (fun r40 => some (.inr (r40.1, r40.2))))
theorem GU (N : Nat) (sR185 : Ab -> Option (Ah ⊕ (Ab × Expr))) (hsR185 : My sR185) {wb w0 : World} {Fb F0 : Mem} {Lf : Own} (hG : Ci F0) (bp0 : Nat) (x0 : Ab) (a0_0 : R9) (n0_0 : Nat) (hb0_0 : LC x0.l_.length n0_0) (hs0_0 : SlA Af F0 a0_0 x0.l_) (hs0 : HS wb Fb w0 F0 ((sb bp0 (Ad x0 a0_0 n0_0) 100) :: Lf)) (r : (Ah ⊕ (Ab × Expr))) (h : D6 N sR185 x0 = some r) :
  Calls Tryz.prog 145 ([(pt bp0 0)] : List Value).toArray w0 (Bx wb Fb F0 Lf r (fun b => (.iface 158 (.agg (AJ b)))) fun a F' v L' => ∃ (aq0_0 : R9) (nq0_0 : Nat) (aq1_2 : R9) (nq1_2 : Nat), v = (.agg (Ag a.2 aq1_2 nq1_2)) /\ L' = (sb bp0 (Ad a.1 aq0_0 nq0_0) 100) :: Lf /\ LC a.1.l_.length nq0_0 /\ SlA Af F' aq0_0 a.1.l_ /\ LC a.2.Kids.length nq1_2 /\ SlA Ao F' aq1_2 a.2.Kids) := by
 refine Go 9 Tryz.func145 ?_
 refine Sq (Rg [0] ?_)
 refine Al' 33 #[(vi 0), (vi 0), (.slice none ([] : List Expr).length 0)] hs0 (fun b21 w22 hs23 => ?_)
 refine Nss (Rg [0, 1, 2, 3, 4, 5, 6, 7] ?_)
 refine Vs 3 ?_
 refine RWP.makeMap (t := 198) (K := Fd) (T := Bg) (dst := (some 6)) (ty := 198) (g := none) (by kernel_rfl) rfl hs23 (fun b25 e26 w27 (hs28 : HS wb Fb w27 F0 (e26 :: (sb b21 #[(vi 0), (vi 0), (.slice none ([] : List Expr).length 0)] 33) :: (sb bp0 (Ad x0 a0_0 n0_0) 100) :: Lf)) hr29 => ?_)
 refine RWP.mapIns kl9 (ty := 0) (g := none) (mt := 198) (k := 9) (vt := 3) (m := (.tmp 6)) (x := (.const (.string ⟨([111, 114] : R8).toArray⟩))) (y := (.const (vi 5))) (b := b25) (kx := ([111, 114] : R8)) (u := 5) (kv := (.string ⟨(([111, 114] : R8)).toArray⟩)) (v := (vi 5)) (K := Fd) (T := Bg) (by kernel_rfl) rfl rfl rfl rfl ⟨_, rfl, rfl⟩ ⟨_, rfl, rfl⟩ (by kernel_rfl) hs28 (q := 0) rfl hr29 (fun e30 w31 (hs32 : HS wb Fb w31 F0 (e30 :: (sb b21 #[(vi 0), (vi 0), (.slice none ([] : List Expr).length 0)] 33) :: (sb bp0 (Ad x0 a0_0 n0_0) 100) :: Lf)) hr33 => ?_)
 refine Vs 1 ?_
 obtain ⟨F1, hs34, le35, hm36⟩ : ∃ Fq, HS wb Fb w31 Fq ((sb b21 #[(vi 0), (vi 0), (.slice none ([] : List Expr).length 0)] 33) :: (sb bp0 (Ad x0 a0_0 n0_0) 100) :: Lf) /\ RL F0 Fq /\ MpA Fd Bg Fq (some b25) (Eu ([] : List (R8 × Int)) ([111, 114] : R8) 5) := HS.freezeMap hs32 (i := 0) rfl hr33
 obtain ⟨r37, hr38, h39⟩ := bind_some h
 refine CP Br (BA N (hG.mono le35) bp0 x0 a0_0 n0_0 hb0_0 (RO hs0_0 le35) 185 [(pt bp0 0)] ([] : List Value) (fun y => sR185 y) GF (fun {_ _ _ _ _} hGe y ay_0 ny_0 hby_0 hsy_0 hs r h => hsR185 hGe bp0 y ay_0 ny_0 hby_0 hsy_0 hs r h) ((Eu ([] : List (R8 × Int)) ([111, 114] : R8) 5)) (some b25) hm36 hs34.pk1 _ hr38) ?_ ?_
 ·rintro r40 _ F2 w42 _ rfl hs43 le44 ⟨ar40_0_0, nr40_0_0, ar40_1_2, nr40_1_2, rfl, rfl, hbr40_0_0, hsr40_0_0, hbr40_1_2, hsr40_1_2⟩
  have h46 := BG h39
  refine St1 (Ag r40.2 ar40_1_2 nr40_1_2) hs43 (fun w47 hs48 => ?_)
  refine Nt ?_
  refine Rt ?_
  obtain rfl := Aa h46
  exact ⟨rfl, (.agg (Ag r40.2 ar40_1_2 nr40_1_2)), AA (l := [.cell 2 33]) (by kernel_rfl) (vs := [(.agg (Ag r40.2 ar40_1_2 nr40_1_2))]) ⟨b21, 0, rfl, Aj (t := 33) (g := true) (s := 3) (by kernel_rfl) hs48.at1 rfl (by decide), trivial⟩, .inl ⟨_, F2, _, _, rfl, rfl, hs48.dr1, (le35.trans le44), ⟨ar40_0_0, nr40_0_0, ar40_1_2, nr40_1_2, rfl, rfl, hbr40_0_0, hsr40_0_0, hbr40_1_2, hsr40_1_2⟩⟩⟩
 ·rintro b49 F3 w50 rfl hs51 le52
  have h53 := Bf h39
  refine Al ?_
  obtain rfl := Aa h53
  exact B5 hs51.dr0 (le35.trans le52)
def D8 (N : Nat) (sR212 : Ab -> Option (Ah ⊕ (Ab × Expr))) (x0 : Ab) : Option (Ah ⊕ (Ab × Expr)) :=
 ((Bn N x0 (fun y => sR212 y) (Eu ([] : List (R8 × Int)) ([97, 110, 100] : R8) 4)).bind fun r37 => sk r37 (fun b49 => some (.inl b49)) (fun r40 => some (.inr (r40.1, r40.2))))
theorem GW (N : Nat) (sR212 : Ab -> Option (Ah ⊕ (Ab × Expr))) (hsR212 : Kc sR212) {wb w0 : World} {Fb F0 : Mem} {Lf : Own} (hG : Ci F0) (bp0 : Nat) (x0 : Ab) (a0_0 : R9) (n0_0 : Nat) (hb0_0 : LC x0.l_.length n0_0) (hs0_0 : SlA Af F0 a0_0 x0.l_) (hs0 : HS wb Fb w0 F0 ((sb bp0 (Ad x0 a0_0 n0_0) 100) :: Lf)) (r : (Ah ⊕ (Ab × Expr))) (h : D8 N sR212 x0 = some r) :
  Calls Tryz.prog 185 ([(pt bp0 0)] : List Value).toArray w0 (Bx wb Fb F0 Lf r (fun b => (.iface 158 (.agg (AJ b)))) fun a F' v L' => ∃ (aq0_0 : R9) (nq0_0 : Nat) (aq1_2 : R9) (nq1_2 : Nat), v = (.agg (Ag a.2 aq1_2 nq1_2)) /\ L' = (sb bp0 (Ad a.1 aq0_0 nq0_0) 100) :: Lf /\ LC a.1.l_.length nq0_0 /\ SlA Af F' aq0_0 a.1.l_ /\ LC a.2.Kids.length nq1_2 /\ SlA Ao F' aq1_2 a.2.Kids) := by
 refine Go 9 Tryz.func185 ?_
 refine Sq (Rg [0] ?_)
 refine Al' 33 #[(vi 0), (vi 0), (.slice none ([] : List Expr).length 0)] hs0 (fun b21 w22 hs23 => ?_)
 refine Nss (Rg [0, 1, 2, 3, 4, 5, 6, 7] ?_)
 refine Vs 3 ?_
 refine RWP.makeMap (t := 198) (K := Fd) (T := Bg) (dst := (some 6)) (ty := 198) (g := none) (by kernel_rfl) rfl hs23 (fun b25 e26 w27 (hs28 : HS wb Fb w27 F0 (e26 :: (sb b21 #[(vi 0), (vi 0), (.slice none ([] : List Expr).length 0)] 33) :: (sb bp0 (Ad x0 a0_0 n0_0) 100) :: Lf)) hr29 => ?_)
 refine RWP.mapIns kl9 (ty := 0) (g := none) (mt := 198) (k := 9) (vt := 3) (m := (.tmp 6)) (x := (.const (.string ⟨([97, 110, 100] : R8).toArray⟩))) (y := (.const (vi 4))) (b := b25) (kx := ([97, 110, 100] : R8)) (u := 4) (kv := (.string ⟨(([97, 110, 100] : R8)).toArray⟩)) (v := (vi 4)) (K := Fd) (T := Bg) (by kernel_rfl) rfl rfl rfl rfl ⟨_, rfl, rfl⟩ ⟨_, rfl, rfl⟩ (by kernel_rfl) hs28 (q := 0) rfl hr29 (fun e30 w31 (hs32 : HS wb Fb w31 F0 (e30 :: (sb b21 #[(vi 0), (vi 0), (.slice none ([] : List Expr).length 0)] 33) :: (sb bp0 (Ad x0 a0_0 n0_0) 100) :: Lf)) hr33 => ?_)
 refine Vs 1 ?_
 obtain ⟨F1, hs34, le35, hm36⟩ : ∃ Fq, HS wb Fb w31 Fq ((sb b21 #[(vi 0), (vi 0), (.slice none ([] : List Expr).length 0)] 33) :: (sb bp0 (Ad x0 a0_0 n0_0) 100) :: Lf) /\ RL F0 Fq /\ MpA Fd Bg Fq (some b25) (Eu ([] : List (R8 × Int)) ([97, 110, 100] : R8) 4) := HS.freezeMap hs32 (i := 0) rfl hr33
 obtain ⟨r37, hr38, h39⟩ := bind_some h
 refine CP Br (BA N (hG.mono le35) bp0 x0 a0_0 n0_0 hb0_0 (RO hs0_0 le35) 212 [(pt bp0 0)] ([] : List Value) (fun y => sR212 y) DO (fun {_ _ _ _ _} hGe y ay_0 ny_0 hby_0 hsy_0 hs r h => hsR212 hGe bp0 y ay_0 ny_0 hby_0 hsy_0 hs r h) ((Eu ([] : List (R8 × Int)) ([97, 110, 100] : R8) 4)) (some b25) hm36 hs34.pk1 _ hr38) ?_ ?_
 ·rintro r40 _ F2 w42 _ rfl hs43 le44 ⟨ar40_0_0, nr40_0_0, ar40_1_2, nr40_1_2, rfl, rfl, hbr40_0_0, hsr40_0_0, hbr40_1_2, hsr40_1_2⟩
  have h46 := BG h39
  refine St1 (Ag r40.2 ar40_1_2 nr40_1_2) hs43 (fun w47 hs48 => ?_)
  refine Nt ?_
  refine Rt ?_
  obtain rfl := Aa h46
  exact ⟨rfl, (.agg (Ag r40.2 ar40_1_2 nr40_1_2)), AA (l := [.cell 2 33]) (by kernel_rfl) (vs := [(.agg (Ag r40.2 ar40_1_2 nr40_1_2))]) ⟨b21, 0, rfl, Aj (t := 33) (g := true) (s := 3) (by kernel_rfl) hs48.at1 rfl (by decide), trivial⟩, .inl ⟨_, F2, _, _, rfl, rfl, hs48.dr1, (le35.trans le44), ⟨ar40_0_0, nr40_0_0, ar40_1_2, nr40_1_2, rfl, rfl, hbr40_0_0, hsr40_0_0, hbr40_1_2, hsr40_1_2⟩⟩⟩
 ·rintro b49 F3 w50 rfl hs51 le52
  have h53 := Bf h39
  refine Al ?_
  obtain rfl := Aa h53
  exact B5 hs51.dr0 (le35.trans le52)
def D7 (N : Nat) (sR212 : Ab -> Option (Ah ⊕ (Ab × Expr))) (sR226 : Ab -> Option (Ah ⊕ (Ab × Expr))) (x0 : Ab) : Option (Ah ⊕ (Ab × Expr)) :=
 ((Au N x0 ([110, 111, 116] : R8)).bind fun r24 => (bif r24.2 then ((sR212 r24.1).bind fun r34 => sk r34 (fun b55 => some (.inl b55)) (fun r37 => some (.inr (r37.1, ({ Op := 3, Value := 0, Kids := [r37.2] } : Expr))))) else ((sR226 r24.1).bind fun r61 => sk r61 (fun b73 => some (.inl b73)) (fun r64 => some (.inr (r64.1, r64.2))))))
theorem GV (N : Nat) (sR212 : Ab -> Option (Ah ⊕ (Ab × Expr))) (hsR212 : Kc sR212) (sR226 : Ab -> Option (Ah ⊕ (Ab × Expr))) (hsR226 : Mw sR226) {wb w0 : World} {Fb F0 : Mem} {Lf : Own} (hG : Ci F0) (bp0 : Nat) (x0 : Ab) (a0_0 : R9) (n0_0 : Nat) (hb0_0 : LC x0.l_.length n0_0) (hs0_0 : SlA Af F0 a0_0 x0.l_) (hs0 : HS wb Fb w0 F0 ((sb bp0 (Ad x0 a0_0 n0_0) 100) :: Lf)) (r : (Ah ⊕ (Ab × Expr))) (h : D7 N sR212 sR226 x0 = some r) :
  Calls Tryz.prog 212 ([(pt bp0 0)] : List Value).toArray w0 (Bx wb Fb F0 Lf r (fun b => (.iface 158 (.agg (AJ b)))) fun a F' v L' => ∃ (aq0_0 : R9) (nq0_0 : Nat) (aq1_2 : R9) (nq1_2 : Nat), v = (.agg (Ag a.2 aq1_2 nq1_2)) /\ L' = (sb bp0 (Ad a.1 aq0_0 nq0_0) 100) :: Lf /\ LC a.1.l_.length nq0_0 /\ SlA Af F' aq0_0 a.1.l_ /\ LC a.2.Kids.length nq1_2 /\ SlA Ao F' aq1_2 a.2.Kids) := by
 refine Go 11 Tryz.func212 ?_
 refine Sq (Rg [0] ?_)
 refine Al' 33 #[(vi 0), (vi 0), (.slice none ([] : List Expr).length 0)] hs0 (fun b21 w22 hs23 => ?_)
 refine Nss ?_
 refine Sq (Rg [0, 1] ?_)
 refine Vs 1 ?_
 obtain ⟨r24, hr25, h26⟩ := bind_some h
 refine CB AG (AH N bp0 x0 a0_0 n0_0 hb0_0 hs0_0 (([110, 111, 116] : R8)) hs23.pk1 _ hr25) ?_
 rintro _ F1 w27 _ hs28 le29 ⟨ar24_0_0, nr24_0_0, rfl, rfl, hbr24_0_0, hsr24_0_0⟩
 refine Nt ?_
 refine Cd h26 (fun hb31 h32 => ?_) (fun hb31 h33 => ?_)
 ·refine Sq (Rg [0, 1, 2, 3, 4] ?_)
  refine Vs 1 ?_
  obtain ⟨r34, hr35, h36⟩ := bind_some h32
  refine CP DO (hsR212 (hG.mono le29) bp0 r24.1 ar24_0_0 nr24_0_0 hbr24_0_0 hsr24_0_0 hs28 _ hr35) ?_ ?_
  ·rintro r37 _ F2 w39 _ rfl hs40 le41 ⟨ar37_0_0, nr37_0_0, ar37_1_2, nr37_1_2, rfl, rfl, hbr37_0_0, hsr37_0_0, hbr37_1_2, hsr37_1_2⟩
   have h43 := BG h36
   refine Bs 33 [(vi r37.2.Op), (vi r37.2.Value), (.slice ar37_1_2 r37.2.Kids.length nr37_1_2)] hs40 (fun b44 w45 hs46 => ?_)
   have hr48 : Aq Ao 33 F2 (some ⟨b44, 0, none⟩) 1 [r37.2] (some b44, .cells ([(vi r37.2.Op), (vi r37.2.Value), (.slice ar37_1_2 r37.2.Kids.length nr37_1_2)] : List Value).toArray 33 (0, 0)) := R6 ⟨(A7 ⟨ar37_1_2, nr37_1_2, rfl, hbr37_1_2, hsr37_1_2⟩), rfl⟩ (by simp)
   refine Vs 1 ?_
   refine St2 #[(vi 3), (vi 0), (.slice (some ⟨b44, 0, none⟩) [r37.2].length 1)] hs46 (fun w49 hs50 => ?_)
   refine Nt ?_
   refine Rt ?_
   refine Ae ?_
   have hb54 := R4 hr48
   obtain ⟨F3, hs51, le52, hs53⟩ := hs50.fr0 hr48
   obtain rfl := Aa h43
   exact ⟨rfl, (.agg #[(vi 3), (vi 0), (.slice (some ⟨b44, 0, none⟩) [r37.2].length 1)]), AA (l := [.cell 2 33]) (by kernel_rfl) (vs := [(.agg #[(vi 3), (vi 0), (.slice (some ⟨b44, 0, none⟩) [r37.2].length 1)])]) ⟨b21, 0, rfl, Aj (t := 33) (g := true) (s := 3) (by kernel_rfl) hs51.at1 rfl (by decide), trivial⟩, .inl ⟨_, F3, _, _, rfl, rfl, hs51.dr1, ((le29.trans le41).trans le52), ⟨ar37_0_0, nr37_0_0, (some ⟨b44, 0, none⟩), 1, rfl, rfl, hbr37_0_0, (RO hsr37_0_0 le52), hb54, hs53⟩⟩⟩
  ·rintro b55 F4 w56 rfl hs57 le58
   have h59 := Bf h36
   refine Al ?_
   refine Al ?_
   obtain rfl := Aa h59
   exact B5 hs57.dr0 (le29.trans le58)
 ·refine Sc ?_
  refine Ac ?_
  refine Sq (Rg [0, 1, 2] ?_)
  refine Vs 1 ?_
  obtain ⟨r61, hr62, h63⟩ := bind_some h33
  refine CP GA (hsR226 (hG.mono le29) bp0 r24.1 ar24_0_0 nr24_0_0 hbr24_0_0 hsr24_0_0 hs28 _ hr62) ?_ ?_
  ·rintro r64 _ F5 w66 _ rfl hs67 le68 ⟨ar64_0_0, nr64_0_0, ar64_1_2, nr64_1_2, rfl, rfl, hbr64_0_0, hsr64_0_0, hbr64_1_2, hsr64_1_2⟩
   have h70 := BG h63
   refine St1 (Ag r64.2 ar64_1_2 nr64_1_2) hs67 (fun w71 hs72 => ?_)
   refine Nt ?_
   refine Rt ?_
   obtain rfl := Aa h70
   exact ⟨rfl, (.agg (Ag r64.2 ar64_1_2 nr64_1_2)), AA (l := [.cell 2 33]) (by kernel_rfl) (vs := [(.agg (Ag r64.2 ar64_1_2 nr64_1_2))]) ⟨b21, 0, rfl, Aj (t := 33) (g := true) (s := 3) (by kernel_rfl) hs72.at1 rfl (by decide), trivial⟩, .inl ⟨_, F5, _, _, rfl, rfl, hs72.dr1, (le29.trans le68), ⟨ar64_0_0, nr64_0_0, ar64_1_2, nr64_1_2, rfl, rfl, hbr64_0_0, hsr64_0_0, hbr64_1_2, hsr64_1_2⟩⟩⟩
  ·rintro b73 F6 w74 rfl hs75 le76
   have h77 := Bf h63
   refine Al ?_
   obtain rfl := Aa h77
   exact B5 hs75.dr0 (le29.trans le76)
theorem Lh {N : Nat} {p q : Ab} {t : R8} (h : Au N p t = some (q, false)) : q = p := by
 unfold Au at h
 cases hp : AV N p t with
 | none => rw [hp] at h; cases h
 | some b =>
  rw [hp] at h
  cases b with
  | false => simp at h; exact h.symm
  | true =>
   simp only [Option.bind_some, Bool.not_true, cond_false] at h
   cases hs : sub p.l_ 1 (p.l_.length : Int) with
   | none => rw [hs] at h; cases h
   | some l => rw [hs] at h; simp at h
theorem OD {N : Nat} {p : Ab} {t : R8} (h : AV N p t = some true) : ∃ x, idx p.l_ 0 = some x /\ x.text_ = t := by
 unfold AV at h
 cases hi : idx p.l_ 0 with
 | none => rw [hi] at h; cases h
 | some x =>
  rw [hi] at h
  refine ⟨x, rfl, ?_⟩
  simp only [Option.bind_some] at h
  cases h2 : (x.kind_ == 2) <;> cases h3 : (x.kind_ == 3) <;> rw [h2] at h <;> try rw [h3] at h
  all_goals simp at h
  all_goals exact h
theorem NB {N : Nat} {p : Ab} {s t : R8} (h : AV N p s = some true) (hne : s ≠ t) : AV N p t = some false := by
 obtain ⟨x, hx, hs⟩ := OD h
 unfold AV at h ⊢
 rw [hx] at h ⊢
 simp only [Option.bind_some] at h ⊢
 have hne' : (x.text_ == t) = false := by rw [hs]; simpa using hne
 rw [hne']
 cases h2 : (x.kind_ == 2) <;> cases h3 : (x.kind_ == 3) <;> simp
theorem Mr {N : Nat} {p q : Ab} {s t : R8} (h : Au N p s = some (q, true)) (hne : s ≠ t) : Au N p t = some (p, false) := by
 unfold Au at h ⊢
 cases hp : AV N p s with
 | none => rw [hp] at h; cases h
 | some b =>
  rw [hp] at h
  cases b with
  | false => simp at h
  | true => rw [NB hp hne]; rfl
theorem JL {N : Nat} {p : Ab} {α : Type} {X6 X7 Z : Ab × Bool -> Option α} {r : α}
  (h : ((Au N p ([61] : R8)).bind fun a => (bif a.2 then X6 a else ((Au N a.1 ([60] : R8)).bind fun b => (bif b.2 then X7 b else Z b)))) = some r) :
  ((Au N p ([60] : R8)).bind fun a => (bif a.2 then X7 a else ((Au N a.1 ([61] : R8)).bind fun b => (bif b.2 then X6 b else Z b)))) = some r := by
 cases ha : Au N p [61] with
 | none => rw [ha] at h; cases h
 | some a =>
  obtain ⟨q, b⟩ := a
  rw [ha] at h
  simp only [Option.bind_some] at h
  cases b with
  | true =>
   rw [Mr ha (by decide)]
   simp only [cond_true] at h
   simp only [Option.bind_some, cond_false, ha, cond_true]; exact h
  | false =>
   obtain rfl := Lh ha
   simp only [cond_false] at h
   cases hb : Au N q [60] with
   | none => rw [hb] at h; cases h
   | some b =>
    obtain ⟨q2, c⟩ := b
    rw [hb] at h
    simp only [Option.bind_some] at h ⊢
    cases c with
    | true => simpa using h
    | false =>
     obtain rfl := Lh hb
     simp only [cond_false, ha, Option.bind_some] at h ⊢
     exact h
def D3 (N : Nat) (sR233 : Ab -> Option (Ah ⊕ (Ab × Expr))) (x0 : Ab) : Option (Ah ⊕ (Ab × Expr)) :=
 ((sR233 x0).bind fun r24 => sk r24 (fun b291 => some (.inl b291)) (fun r27 => ((Au N r27.1 ([61] : R8)).bind fun r51 => (bif r51.2 then (((sR233 r51.1).bind fun r73 => sk r73 (fun b90 => some (.inl b90)) (fun r76 => some (.inr (6, [r27.2, r76.2], r76.1.l_, r76.1.open_)))).bind fun j67 => sk j67 (fun b101 => some (.inl b101)) (fun J72 => some (.inr (({ l_ := J72.2.2.1, open_ := J72.2.2.2 } : Ab), ({ Op := J72.1, Value := 0, Kids := J72.2.1 } : Expr))))) else ((Au N r51.1 ([60] : R8)).bind fun r109 => (bif r109.2 then (((sR233 r109.1).bind fun r131 => sk r131 (fun b148 => some (.inl b148)) (fun r134 => some (.inr (7, [r27.2, r134.2], r134.1.l_, r134.1.open_)))).bind fun j125 => sk j125 (fun b159 => some (.inl b159)) (fun J130 => some (.inr (({ l_ := J130.2.2.1, open_ := J130.2.2.2 } : Ab), ({ Op := J130.1, Value := 0, Kids := J130.2.1 } : Expr))))) else some (.inr (r109.1, r27.2))))))))
theorem GR (N : Nat) (sR233 : Ab -> Option (Ah ⊕ (Ab × Expr))) (hsR233 : Mv sR233) {wb w0 : World} {Fb F0 : Mem} {Lf : Own} (hG : Ci F0) (bp0 : Nat) (x0 : Ab) (a0_0 : R9) (n0_0 : Nat) (hb0_0 : LC x0.l_.length n0_0) (hs0_0 : SlA Af F0 a0_0 x0.l_) (hs0 : HS wb Fb w0 F0 ((sb bp0 (Ad x0 a0_0 n0_0) 100) :: Lf)) (r : (Ah ⊕ (Ab × Expr))) (h : D3 N sR233 x0 = some r) :
  Calls Tryz.prog 226 ([(pt bp0 0)] : List Value).toArray w0 (Bx wb Fb F0 Lf r (fun b => (.iface 158 (.agg (AJ b)))) fun a F' v L' => ∃ (aq0_0 : R9) (nq0_0 : Nat) (aq1_2 : R9) (nq1_2 : Nat), v = (.agg (Ag a.2 aq1_2 nq1_2)) /\ L' = (sb bp0 (Ad a.1 aq0_0 nq0_0) 100) :: Lf /\ LC a.1.l_.length nq0_0 /\ SlA Af F' aq0_0 a.1.l_ /\ LC a.2.Kids.length nq1_2 /\ SlA Ao F' aq1_2 a.2.Kids) := by
 refine Go 26 Tryz.func226 ?_
 refine Sq (Rg [0] ?_)
 refine Al' 33 #[(vi 0), (vi 0), (.slice none ([] : List Expr).length 0)] hs0 (fun b21 w22 hs23 => ?_)
 refine Nss (Rg [0, 1, 2, 3] ?_)
 refine Vs 1 ?_
 obtain ⟨r24, hr25, h26⟩ := bind_some h
 refine CP BE (hsR233 hG bp0 x0 a0_0 n0_0 hb0_0 hs0_0 hs23.pk1 _ hr25) ?_ ?_
 ·rintro r27 _ F1 w29 _ rfl hs30 le31 ⟨ar27_0_0, nr27_0_0, ar27_1_2, nr27_1_2, rfl, rfl, hbr27_0_0, hsr27_0_0, hbr27_1_2, hsr27_1_2⟩
  have h33 := BG h26
  refine Al' 33 #[(vi 0), (vi 0), (.slice none ([] : List Expr).length 0)] hs30 (fun b34 w35 hs36 => ?_)
  refine St0 (Ag r27.2 ar27_1_2 nr27_1_2) hs36 (fun w37 hs38 => ?_)
  refine Nss ?_
  refine Sq (Rg [0, 1, 2, 3, 4] ?_)
  refine RWP.litMap (dst := (some 8)) (ty := 198) (g := none) (by kernel_rfl) rfl (t := 198) hs38 (fun b39 w40 (hs41 : HS wb Fb w40 F1 ((some b39, (.map #[] 0)) :: (sb b34 (Ag r27.2 ar27_1_2 nr27_1_2) 33) :: (sb bp0 (Ad r27.1 ar27_0_0 nr27_0_0) 100) :: (sb b21 #[(vi 0), (vi 0), (.slice none ([] : List Expr).length 0)] 33) :: Lf)) => ?_)
  refine RWP.litIns (d := .string) (k := 9) (vt := 3) (ty := 0) (g := none) (mt := 198) (m := (.tmp 8)) (x := (.const (.string ⟨([61] : R8).toArray⟩))) (y := (.const (vi 6))) (b := b39) (q := 0) (kv := (.string ⟨(([61] : R8)).toArray⟩)) (v := (vi 6)) (by kernel_rfl) rfl rfl rfl rfl (by kernel_rfl) (by kernel_rfl) trivial (by kernel_rfl) hs41 rfl rfl (fun w42 (hs43 : HS wb Fb w42 F1 ((some b39, (.map #[⟨(.string ⟨(([61] : R8)).toArray⟩), (vi 6), 0⟩] 1)) :: (sb b34 (Ag r27.2 ar27_1_2 nr27_1_2) 33) :: (sb bp0 (Ad r27.1 ar27_0_0 nr27_0_0) 100) :: (sb b21 #[(vi 0), (vi 0), (.slice none ([] : List Expr).length 0)] 33) :: Lf)) => ?_)
  refine RWP.litIns (d := .string) (k := 9) (vt := 3) (ty := 0) (g := none) (mt := 198) (m := (.tmp 8)) (x := (.const (.string ⟨([60] : R8).toArray⟩))) (y := (.const (vi 7))) (b := b39) (q := 0) (kv := (.string ⟨(([60] : R8)).toArray⟩)) (v := (vi 7)) (by kernel_rfl) rfl rfl rfl rfl (by kernel_rfl) (by kernel_rfl) trivial (by kernel_rfl) hs43 rfl rfl (fun w44 (hs45 : HS wb Fb w44 F1 ((some b39, (.map #[⟨(.string ⟨(([61] : R8)).toArray⟩), (vi 6), 0⟩, ⟨(.string ⟨(([60] : R8)).toArray⟩), (vi 7), 1⟩] 2)) :: (sb b34 (Ag r27.2 ar27_1_2 nr27_1_2) 33) :: (sb bp0 (Ad r27.1 ar27_0_0 nr27_0_0) 100) :: (sb b21 #[(vi 0), (vi 0), (.slice none ([] : List Expr).length 0)] 33) :: Lf)) => ?_)
  refine Vs 1 ?_
  refine RWP.litRange (k := 9) (vt := 3) (dst := (some 10)) (ty := 0) (g := none) (by kernel_rfl) rfl (mt := 198) (x := (.tmp 9)) (b := b39) (q := 0) rfl (by kernel_rfl) hs45 rfl (fun b46 w47 (hs48 : HS wb Fb w47 F1 ((some b46, (.mapIter (some b39) 2 #[] 2)) :: (some b39, (.map #[⟨(.string ⟨(([61] : R8)).toArray⟩), (vi 6), 0⟩, ⟨(.string ⟨(([60] : R8)).toArray⟩), (vi 7), 1⟩] 2)) :: (sb b34 (Ag r27.2 ar27_1_2 nr27_1_2) 33) :: (sb bp0 (Ad r27.1 ar27_0_0 nr27_0_0) 100) :: (sb b21 #[(vi 0), (vi 0), (.slice none ([] : List Expr).length 0)] 33) :: Lf)) => ?_)
  refine Nt ?_
  refine Bk ?_
  refine CWP.unroll (by kernel_rfl) 4 ?_
  refine URL.step ?_
  refine Sq (Rg [0, 1] ?_)
  refine RWP.litNext2  (e := ⟨(.string ⟨(([61] : R8)).toArray⟩), (vi 6), 0⟩) (e2 := ⟨(.string ⟨(([60] : R8)).toArray⟩), (vi 7), 1⟩) (dst := (some 11)) (ty := 0) (g := none) (by kernel_rfl) rfl (x := (.tmp 10)) (r := b46) (ki := 0) (km := 1) rfl hs48 rfl rfl (by kernel_rfl) (by kernel_rfl) ?_ ?_
  ·rintro w49 (hs50 : HS wb Fb w49 F1 ((some b46, (.mapIter (some b39) 2 #[0] 2)) :: (some b39, (.map #[⟨(.string ⟨(([61] : R8)).toArray⟩), (vi 6), 0⟩, ⟨(.string ⟨(([60] : R8)).toArray⟩), (vi 7), 1⟩] 2)) :: (sb b34 (Ag r27.2 ar27_1_2 nr27_1_2) 33) :: (sb bp0 (Ad r27.1 ar27_0_0 nr27_0_0) 100) :: (sb b21 #[(vi 0), (vi 0), (.slice none ([] : List Expr).length 0)] 33) :: Lf))
   refine Vs 1 ?_
   refine Nss ?_
   refine C1 (rfl : true = true) ?_
   refine Sc ?_
   refine Ac ?_
   refine Bk ?_
   refine Sq (Rg [0, 1, 2, 3, 4] ?_)
   refine V 13 0 (Ec (x := (.tmp 10)) (en := ⟨(.string ⟨(([61] : R8)).toArray⟩), (vi 6), 0⟩) rfl (hs50.ownAt (k := 0) rfl) (hs50.ownAt (k := 1) rfl) rfl rfl) ?_
   refine Vs 4 ?_
   refine Nss (Rg [0, 1, 2] ?_)
   refine Vs 2 ?_
   obtain ⟨r51, hr52, h53⟩ := bind_some h33
   refine CB AG (AH N bp0 r27.1 ar27_0_0 nr27_0_0 hbr27_0_0 hsr27_0_0 (([61] : R8)) hs50.pk4.pk3.pk3.pk3.pk4 _ hr52) ?_
   rintro _ F2 w54 _ hs55 le56 ⟨ar51_0_0, nr51_0_0, rfl, rfl, hbr51_0_0, hsr51_0_0⟩
   refine Nt ?_
   refine Cd h53 (fun hb58 h59 => ?_) (fun hb58 h60 => ?_)
   ·refine Sq ?_
    obtain ⟨j67, hj70, h71⟩ := bind_some h59
    refine RDP 6 7 [(some b46, (.mapIter (some b39) 2 #[0] 2)), (some b39, (.map #[⟨(.string ⟨(([61] : R8)).toArray⟩), (vi 6), 0⟩, ⟨(.string ⟨(([60] : R8)).toArray⟩), (vi 7), 1⟩] 2)), (sb b34 (Ag r27.2 ar27_1_2 nr27_1_2) 33)] [(sb b21 #[(vi 0), (vi 0), (.slice none ([] : List Expr).length 0)] 33)] hs55 (fun c d w => d = [] /\ ∃ (b : Ah) (Fp : Mem), j67 = .inl b /\ c = [{ v := (.iface 158 (.agg (AJ b))), recovered := false }] /\ HS wb Fb w Fp Lf /\ RL F2 Fp) (fun f w => ∃ (J72 : (Int × List Expr × List Ar × Int)), j67 = .inr J72 /\ ∃ (F3 : Mem) (aj67_1 : R9) (nj67_1 : Nat) (ej67_1 : Option Nat × Obj) (aj67_2 : R9) (nj67_2 : Nat), HS wb Fb w F3 (ej67_1 :: (sb bp0 #[(.slice aj67_2 J72.2.2.1.length nj67_2), (vi J72.2.2.2)] 100) :: (sb b21 #[(vi J72.1), (vi 0), (.slice aj67_1 J72.2.1.length nj67_1)] 33) :: Lf) /\ RL F2 F3 /\ FI f [] [(2, (pt b21 0))] /\ Aq Ao 33 F3 aj67_1 nj67_1 J72.2.1 ej67_1 /\ LC J72.2.2.1.length nj67_2 /\ SlA Af F3 aj67_2 J72.2.2.1) (fun wd61 hw62 => ?_) ?_ ?_
    ·refine Dv [0] ?_
     refine Dl 1 (fun _ hq => (hq.1.2 2 _ _ rfl)) ?_
     refine Dv [2] ?_
     refine D1 3 ?_
     obtain ⟨r73, hr74, h75⟩ := bind_some hj70
     refine DCP BE (hsR233 (hG.mono (le31.trans le56)) bp0 r51.1 ar51_0_0 nr51_0_0 hbr51_0_0 hsr51_0_0 hw62 _ hr74) ?_ ?_
     ·rintro r76 _ F4 w78 _ rfl hs79 le80 ⟨ar76_0_0, nr76_0_0, ar76_1_2, nr76_1_2, rfl, rfl, hbr76_0_0, hsr76_0_0, hbr76_1_2, hsr76_1_2⟩
      have h82 := BG h75
      refine ⟨Bv hs79 le80 (by simp) (fun _ => by simp), ?_⟩
      refine D1 4 ?_
      refine DBs 33 [(vi r27.2.Op), (vi r27.2.Value), (.slice ar27_1_2 r27.2.Kids.length nr27_1_2), (vi r76.2.Op), (vi r76.2.Value), (.slice ar76_1_2 r76.2.Kids.length nr76_1_2)] hs79 le80 (fun b83 w84 hs85 => ?_)
      have hr87 : Aq Ao 33 F4 (some ⟨b83, 0, none⟩) 2 [r27.2, r76.2] (some b83, .cells ([(vi r27.2.Op), (vi r27.2.Value), (.slice ar27_1_2 r27.2.Kids.length nr27_1_2), (vi r76.2.Op), (vi r76.2.Value), (.slice ar76_1_2 r76.2.Kids.length nr76_1_2)] : List Value).toArray 33 (0, 0)) := R6 ⟨(A7 ⟨ar27_1_2, nr27_1_2, rfl, hbr27_1_2, (RO hsr27_1_2 (le56.trans le80))⟩), ⟨(A7 ⟨ar76_1_2, nr76_1_2, rfl, hbr76_1_2, hsr76_1_2⟩), rfl⟩⟩ (by simp)
      refine Dv [5] ?_
      refine D1 6 ?_
      refine Qk #[(vi 6), (vi 0), (.slice (some ⟨b83, 0, none⟩) [r27.2, r76.2].length 2)] hs85 le80 (fun w88 hs89 => ?_)
      obtain rfl := Aa h82
      exact R3 (by kernel_rfl) ⟨_, rfl, F4, (some ⟨b83, 0, none⟩), 2, (some b83, .cells ([(vi r27.2.Op), (vi r27.2.Value), (.slice ar27_1_2 r27.2.Kids.length nr27_1_2), (vi r76.2.Op), (vi r76.2.Value), (.slice ar76_1_2 r76.2.Kids.length nr76_1_2)] : List Value).toArray 33 (0, 0)), ar76_0_0, nr76_0_0, hs89.dr2.dr2.dr2, le80, fI, hr87, hbr76_0_0, hsr76_0_0⟩
     ·rintro b90 F5 w91 rfl hs92 le93
      have h94 := Bf h75
      obtain rfl := Aa h94
      exact ⟨rfl, _, _, rfl, rfl, hs92.dr0.dr0.dr0.dr0, le93⟩
    ·rintro f w63 ⟨J72, rfl, F3, aj67_1, nj67_1, ej67_1, aj67_2, nj67_2, hs64, le65, ⟨_, rfl⟩, hrj67_1, hbj67_2, hsj67_2⟩
     have h96 := BG h71
     refine Ac ?_
     refine Rt ?_
     refine Ai ?_
     refine Ae ?_
     refine Ai ?_
     refine Ae ?_
     have hb100 := R4 hrj67_1
     obtain ⟨F6, hs97, le98, hs99⟩ := hs64.fr0 hrj67_1
     obtain rfl := Aa h96
     exact ⟨rfl, (.agg #[(vi J72.1), (vi 0), (.slice aj67_1 J72.2.1.length nj67_1)]), AA (l := [.cell 2 33]) (by kernel_rfl) (vs := [(.agg #[(vi J72.1), (vi 0), (.slice aj67_1 J72.2.1.length nj67_1)])]) ⟨b21, 0, rfl, Aj (t := 33) (g := true) (s := 3) (by kernel_rfl) hs97.at1 rfl (by decide), trivial⟩, .inl ⟨_, F6, _, _, rfl, rfl, hs97.dr1, (((le31.trans le56).trans le65).trans le98), ⟨aj67_2, nj67_2, aj67_1, nj67_1, rfl, rfl, hbj67_2, (RO hsj67_2 le98), hb100, hs99⟩⟩⟩
    ·rintro c f w102 ⟨hd105, b101, F7, rfl, rfl, hs103, le104⟩
     have h106 := Bf h71
     refine Al ?_
     refine AP ?_
     refine Al ?_
     refine AP ?_
     refine Al ?_
     obtain rfl := Aa h106
     exact ⟨hd105, .inr ⟨_, F7, rfl, rfl, hs103, ((le31.trans le56).trans le104)⟩⟩
   ·refine Sc ?_
    refine Ap ?_
    refine Ac ?_
    refine URL.step ?_
    refine Sq (Rg [0, 1] ?_)
    refine RWP.litNext1  (e := ⟨(.string ⟨(([60] : R8)).toArray⟩), (vi 7), 1⟩) (dst := (some 11)) (ty := 0) (g := none) (by kernel_rfl) rfl (x := (.tmp 10)) (r := b46) (ki := 1) (km := 2) rfl hs55 rfl rfl (by kernel_rfl) (by kernel_rfl) ?_
    ·rintro w107 (hs108 : HS wb Fb w107 F2 ((sb bp0 (Ad r51.1 ar51_0_0 nr51_0_0) 100) :: (some b46, (.mapIter (some b39) 2 #[0, 1] 2)) :: (some b39, (.map #[⟨(.string ⟨(([61] : R8)).toArray⟩), (vi 6), 0⟩, ⟨(.string ⟨(([60] : R8)).toArray⟩), (vi 7), 1⟩] 2)) :: (sb b34 (Ag r27.2 ar27_1_2 nr27_1_2) 33) :: (sb b21 #[(vi 0), (vi 0), (.slice none ([] : List Expr).length 0)] 33) :: Lf))
     refine Vs 1 ?_
     refine Nss ?_
     refine C1 (rfl : true = true) ?_
     refine Sc ?_
     refine Ac ?_
     refine Bk ?_
     refine Sq (Rg [0, 1, 2, 3, 4] ?_)
     refine V 13 0 (Ec (x := (.tmp 10)) (en := ⟨(.string ⟨(([60] : R8)).toArray⟩), (vi 7), 1⟩) rfl (hs108.ownAt (k := 1) rfl) (hs108.ownAt (k := 2) rfl) rfl rfl) ?_
     refine Vs 4 ?_
     refine Nss (Rg [0, 1, 2] ?_)
     refine Vs 2 ?_
     obtain ⟨r109, hr110, h111⟩ := bind_some h60
     refine CB AG (AH N bp0 r51.1 ar51_0_0 nr51_0_0 hbr51_0_0 hsr51_0_0 (([60] : R8)) hs108 _ hr110) ?_
     rintro _ F8 w112 _ hs113 le114 ⟨ar109_0_0, nr109_0_0, rfl, rfl, hbr109_0_0, hsr109_0_0⟩
     refine Nt ?_
     refine Cd h111 (fun hb116 h117 => ?_) (fun hb116 h118 => ?_)
     ·refine Sq ?_
      obtain ⟨j125, hj128, h129⟩ := bind_some h117
      refine RDP 6 7 [(some b46, (.mapIter (some b39) 2 #[0, 1] 2)), (some b39, (.map #[⟨(.string ⟨(([61] : R8)).toArray⟩), (vi 6), 0⟩, ⟨(.string ⟨(([60] : R8)).toArray⟩), (vi 7), 1⟩] 2)), (sb b34 (Ag r27.2 ar27_1_2 nr27_1_2) 33)] [(sb b21 #[(vi 0), (vi 0), (.slice none ([] : List Expr).length 0)] 33)] hs113 (fun c d w => d = [] /\ ∃ (b : Ah) (Fp : Mem), j125 = .inl b /\ c = [{ v := (.iface 158 (.agg (AJ b))), recovered := false }] /\ HS wb Fb w Fp Lf /\ RL F8 Fp) (fun f w => ∃ (J130 : (Int × List Expr × List Ar × Int)), j125 = .inr J130 /\ ∃ (F9 : Mem) (aj125_1 : R9) (nj125_1 : Nat) (ej125_1 : Option Nat × Obj) (aj125_2 : R9) (nj125_2 : Nat), HS wb Fb w F9 (ej125_1 :: (sb bp0 #[(.slice aj125_2 J130.2.2.1.length nj125_2), (vi J130.2.2.2)] 100) :: (sb b21 #[(vi J130.1), (vi 0), (.slice aj125_1 J130.2.1.length nj125_1)] 33) :: Lf) /\ RL F8 F9 /\ FI f [] [(2, (pt b21 0))] /\ Aq Ao 33 F9 aj125_1 nj125_1 J130.2.1 ej125_1 /\ LC J130.2.2.1.length nj125_2 /\ SlA Af F9 aj125_2 J130.2.2.1) (fun wd119 hw120 => ?_) ?_ ?_
      ·refine Dv [0] ?_
       refine Dl 1 (fun _ hq => (hq.1.2 2 _ _ rfl)) ?_
       refine Dv [2] ?_
       refine D1 3 ?_
       obtain ⟨r131, hr132, h133⟩ := bind_some hj128
       refine DCP BE (hsR233 (hG.mono ((le31.trans le56).trans le114)) bp0 r109.1 ar109_0_0 nr109_0_0 hbr109_0_0 hsr109_0_0 hw120 _ hr132) ?_ ?_
       ·rintro r134 _ F10 w136 _ rfl hs137 le138 ⟨ar134_0_0, nr134_0_0, ar134_1_2, nr134_1_2, rfl, rfl, hbr134_0_0, hsr134_0_0, hbr134_1_2, hsr134_1_2⟩
        have h140 := BG h133
        refine ⟨Bv hs137 le138 (by simp) (fun _ => by simp), ?_⟩
        refine D1 4 ?_
        refine DBs 33 [(vi r27.2.Op), (vi r27.2.Value), (.slice ar27_1_2 r27.2.Kids.length nr27_1_2), (vi r134.2.Op), (vi r134.2.Value), (.slice ar134_1_2 r134.2.Kids.length nr134_1_2)] hs137 le138 (fun b141 w142 hs143 => ?_)
        have hr145 : Aq Ao 33 F10 (some ⟨b141, 0, none⟩) 2 [r27.2, r134.2] (some b141, .cells ([(vi r27.2.Op), (vi r27.2.Value), (.slice ar27_1_2 r27.2.Kids.length nr27_1_2), (vi r134.2.Op), (vi r134.2.Value), (.slice ar134_1_2 r134.2.Kids.length nr134_1_2)] : List Value).toArray 33 (0, 0)) := R6 ⟨(A7 ⟨ar27_1_2, nr27_1_2, rfl, hbr27_1_2, (RO hsr27_1_2 ((le56.trans le114).trans le138))⟩), ⟨(A7 ⟨ar134_1_2, nr134_1_2, rfl, hbr134_1_2, hsr134_1_2⟩), rfl⟩⟩ (by simp)
        refine Dv [5] ?_
        refine D1 6 ?_
        refine Qk #[(vi 7), (vi 0), (.slice (some ⟨b141, 0, none⟩) [r27.2, r134.2].length 2)] hs143 le138 (fun w146 hs147 => ?_)
        obtain rfl := Aa h140
        exact R3 (by kernel_rfl) ⟨_, rfl, F10, (some ⟨b141, 0, none⟩), 2, (some b141, .cells ([(vi r27.2.Op), (vi r27.2.Value), (.slice ar27_1_2 r27.2.Kids.length nr27_1_2), (vi r134.2.Op), (vi r134.2.Value), (.slice ar134_1_2 r134.2.Kids.length nr134_1_2)] : List Value).toArray 33 (0, 0)), ar134_0_0, nr134_0_0, hs147.dr2.dr2.dr2, le138, fI, hr145, hbr134_0_0, hsr134_0_0⟩
       ·rintro b148 F11 w149 rfl hs150 le151
        have h152 := Bf h133
        obtain rfl := Aa h152
        exact ⟨rfl, _, _, rfl, rfl, hs150.dr0.dr0.dr0.dr0, le151⟩
      ·rintro f w121 ⟨J130, rfl, F9, aj125_1, nj125_1, ej125_1, aj125_2, nj125_2, hs122, le123, ⟨_, rfl⟩, hrj125_1, hbj125_2, hsj125_2⟩
       have h154 := BG h129
       refine Ac ?_
       refine Rt ?_
       refine Ai ?_
       refine Ae ?_
       refine Ai ?_
       refine Ae ?_
       have hb158 := R4 hrj125_1
       obtain ⟨F12, hs155, le156, hs157⟩ := hs122.fr0 hrj125_1
       obtain rfl := Aa h154
       exact ⟨rfl, (.agg #[(vi J130.1), (vi 0), (.slice aj125_1 J130.2.1.length nj125_1)]), AA (l := [.cell 2 33]) (by kernel_rfl) (vs := [(.agg #[(vi J130.1), (vi 0), (.slice aj125_1 J130.2.1.length nj125_1)])]) ⟨b21, 0, rfl, Aj (t := 33) (g := true) (s := 3) (by kernel_rfl) hs155.at1 rfl (by decide), trivial⟩, .inl ⟨_, F12, _, _, rfl, rfl, hs155.dr1, ((((le31.trans le56).trans le114).trans le123).trans le156), ⟨aj125_2, nj125_2, aj125_1, nj125_1, rfl, rfl, hbj125_2, (RO hsj125_2 le156), hb158, hs157⟩⟩⟩
      ·rintro c f w160 ⟨hd163, b159, F13, rfl, rfl, hs161, le162⟩
       have h164 := Bf h129
       refine Al ?_
       refine AP ?_
       refine Al ?_
       refine AP ?_
       refine Al ?_
       obtain rfl := Aa h164
       exact ⟨hd163, .inr ⟨_, F13, rfl, rfl, hs161, (((le31.trans le56).trans le114).trans le162)⟩⟩
     ·refine Sc ?_
      refine Ap ?_
      refine Ac ?_
      refine URL.step ?_
      refine Sq (Rg [0, 1] ?_)
      refine RWP.litNext0  (dst := (some 11)) (ty := 0) (g := none) (by kernel_rfl) rfl (x := (.tmp 10)) (r := b46) (ki := 1) (km := 2) rfl hs113 rfl rfl (by kernel_rfl) (by kernel_rfl) ?_
      ·rintro w165 (hs166 : HS wb Fb w165 F8 ((sb bp0 (Ad r109.1 ar109_0_0 nr109_0_0) 100) :: (some b46, (.mapIter (some b39) 2 #[0, 1] 2)) :: (some b39, (.map #[⟨(.string ⟨(([61] : R8)).toArray⟩), (vi 6), 0⟩, ⟨(.string ⟨(([60] : R8)).toArray⟩), (vi 7), 1⟩] 2)) :: (sb b34 (Ag r27.2 ar27_1_2 nr27_1_2) 33) :: (sb b21 #[(vi 0), (vi 0), (.slice none ([] : List Expr).length 0)] 33) :: Lf))
       refine Vs 1 ?_
       refine Nss ?_
       refine C0 (rfl : false = false) ?_
       refine Ex ?_
       refine Ax ?_
       refine Ax ?_
       refine AF rfl ?_
       refine Ac ?_
       refine Sq (Rg [0, 1] ?_)
       refine Ld hs166.at3 ?_
       refine St4 (Ag r27.2 ar27_1_2 nr27_1_2) hs166 (fun w167 hs168 => ?_)
       refine Nt ?_
       refine Rt ?_
       obtain rfl := Aa h118
       exact ⟨rfl, (.agg (Ag r27.2 ar27_1_2 nr27_1_2)), AA (l := [.cell 2 33]) (by kernel_rfl) (vs := [(.agg (Ag r27.2 ar27_1_2 nr27_1_2))]) ⟨b21, 0, rfl, Aj (t := 33) (g := true) (s := 3) (by kernel_rfl) hs168.at4 rfl (by decide), trivial⟩, .inl ⟨_, F8, _, _, rfl, rfl, hs168.dr1.dr1.dr1.dr1, ((le31.trans le56).trans le114), ⟨ar109_0_0, nr109_0_0, ar27_1_2, nr27_1_2, rfl, rfl, hbr109_0_0, hsr109_0_0, hbr27_1_2, (RO hsr27_1_2 (le56.trans le114))⟩⟩⟩
  ·rintro w169 (hs170 : HS wb Fb w169 F1 ((some b46, (.mapIter (some b39) 2 #[1] 2)) :: (some b39, (.map #[⟨(.string ⟨(([61] : R8)).toArray⟩), (vi 6), 0⟩, ⟨(.string ⟨(([60] : R8)).toArray⟩), (vi 7), 1⟩] 2)) :: (sb b34 (Ag r27.2 ar27_1_2 nr27_1_2) 33) :: (sb bp0 (Ad r27.1 ar27_0_0 nr27_0_0) 100) :: (sb b21 #[(vi 0), (vi 0), (.slice none ([] : List Expr).length 0)] 33) :: Lf))
   have h171 := JL h33
   refine Vs 1 ?_
   refine Nss ?_
   refine C1 (rfl : true = true) ?_
   refine Sc ?_
   refine Ac ?_
   refine Bk ?_
   refine Sq (Rg [0, 1, 2, 3, 4] ?_)
   refine V 13 0 (Ec (x := (.tmp 10)) (en := ⟨(.string ⟨(([60] : R8)).toArray⟩), (vi 7), 1⟩) rfl (hs170.ownAt (k := 0) rfl) (hs170.ownAt (k := 1) rfl) rfl rfl) ?_
   refine Vs 4 ?_
   refine Nss (Rg [0, 1, 2] ?_)
   refine Vs 2 ?_
   have hs172 := hs170.pk4.pk3.pk3.pk3.pk4
   obtain ⟨r173, hr174, h175⟩ := bind_some h171
   refine CB AG (AH N bp0 r27.1 ar27_0_0 nr27_0_0 hbr27_0_0 hsr27_0_0 (([60] : R8)) hs172 _ hr174) ?_
   rintro _ F14 w176 _ hs177 le178 ⟨ar173_0_0, nr173_0_0, rfl, rfl, hbr173_0_0, hsr173_0_0⟩
   refine Nt ?_
   refine Cd h175 (fun hb180 h181 => ?_) (fun hb180 h182 => ?_)
   ·refine Sq ?_
    obtain ⟨j189, hj192, h193⟩ := bind_some h181
    refine RDP 6 7 [(some b46, (.mapIter (some b39) 2 #[1] 2)), (some b39, (.map #[⟨(.string ⟨(([61] : R8)).toArray⟩), (vi 6), 0⟩, ⟨(.string ⟨(([60] : R8)).toArray⟩), (vi 7), 1⟩] 2)), (sb b34 (Ag r27.2 ar27_1_2 nr27_1_2) 33)] [(sb b21 #[(vi 0), (vi 0), (.slice none ([] : List Expr).length 0)] 33)] hs177 (fun c d w => d = [] /\ ∃ (b : Ah) (Fp : Mem), j189 = .inl b /\ c = [{ v := (.iface 158 (.agg (AJ b))), recovered := false }] /\ HS wb Fb w Fp Lf /\ RL F14 Fp) (fun f w => ∃ (J194 : (Int × List Expr × List Ar × Int)), j189 = .inr J194 /\ ∃ (F15 : Mem) (aj189_1 : R9) (nj189_1 : Nat) (ej189_1 : Option Nat × Obj) (aj189_2 : R9) (nj189_2 : Nat), HS wb Fb w F15 (ej189_1 :: (sb bp0 #[(.slice aj189_2 J194.2.2.1.length nj189_2), (vi J194.2.2.2)] 100) :: (sb b21 #[(vi J194.1), (vi 0), (.slice aj189_1 J194.2.1.length nj189_1)] 33) :: Lf) /\ RL F14 F15 /\ FI f [] [(2, (pt b21 0))] /\ Aq Ao 33 F15 aj189_1 nj189_1 J194.2.1 ej189_1 /\ LC J194.2.2.1.length nj189_2 /\ SlA Af F15 aj189_2 J194.2.2.1) (fun wd183 hw184 => ?_) ?_ ?_
    ·refine Dv [0] ?_
     refine Dl 1 (fun _ hq => (hq.1.2 2 _ _ rfl)) ?_
     refine Dv [2] ?_
     refine D1 3 ?_
     obtain ⟨r195, hr196, h197⟩ := bind_some hj192
     refine DCP BE (hsR233 (hG.mono (le31.trans le178)) bp0 r173.1 ar173_0_0 nr173_0_0 hbr173_0_0 hsr173_0_0 hw184 _ hr196) ?_ ?_
     ·rintro r198 _ F16 w200 _ rfl hs201 le202 ⟨ar198_0_0, nr198_0_0, ar198_1_2, nr198_1_2, rfl, rfl, hbr198_0_0, hsr198_0_0, hbr198_1_2, hsr198_1_2⟩
      have h204 := BG h197
      refine ⟨Bv hs201 le202 (by simp) (fun _ => by simp), ?_⟩
      refine D1 4 ?_
      refine DBs 33 [(vi r27.2.Op), (vi r27.2.Value), (.slice ar27_1_2 r27.2.Kids.length nr27_1_2), (vi r198.2.Op), (vi r198.2.Value), (.slice ar198_1_2 r198.2.Kids.length nr198_1_2)] hs201 le202 (fun b205 w206 hs207 => ?_)
      have hr209 : Aq Ao 33 F16 (some ⟨b205, 0, none⟩) 2 [r27.2, r198.2] (some b205, .cells ([(vi r27.2.Op), (vi r27.2.Value), (.slice ar27_1_2 r27.2.Kids.length nr27_1_2), (vi r198.2.Op), (vi r198.2.Value), (.slice ar198_1_2 r198.2.Kids.length nr198_1_2)] : List Value).toArray 33 (0, 0)) := R6 ⟨(A7 ⟨ar27_1_2, nr27_1_2, rfl, hbr27_1_2, (RO hsr27_1_2 (le178.trans le202))⟩), ⟨(A7 ⟨ar198_1_2, nr198_1_2, rfl, hbr198_1_2, hsr198_1_2⟩), rfl⟩⟩ (by simp)
      refine Dv [5] ?_
      refine D1 6 ?_
      refine Qk #[(vi 7), (vi 0), (.slice (some ⟨b205, 0, none⟩) [r27.2, r198.2].length 2)] hs207 le202 (fun w210 hs211 => ?_)
      obtain rfl := Aa h204
      exact R3 (by kernel_rfl) ⟨_, rfl, F16, (some ⟨b205, 0, none⟩), 2, (some b205, .cells ([(vi r27.2.Op), (vi r27.2.Value), (.slice ar27_1_2 r27.2.Kids.length nr27_1_2), (vi r198.2.Op), (vi r198.2.Value), (.slice ar198_1_2 r198.2.Kids.length nr198_1_2)] : List Value).toArray 33 (0, 0)), ar198_0_0, nr198_0_0, hs211.dr2.dr2.dr2, le202, fI, hr209, hbr198_0_0, hsr198_0_0⟩
     ·rintro b212 F17 w213 rfl hs214 le215
      have h216 := Bf h197
      obtain rfl := Aa h216
      exact ⟨rfl, _, _, rfl, rfl, hs214.dr0.dr0.dr0.dr0, le215⟩
    ·rintro f w185 ⟨J194, rfl, F15, aj189_1, nj189_1, ej189_1, aj189_2, nj189_2, hs186, le187, ⟨_, rfl⟩, hrj189_1, hbj189_2, hsj189_2⟩
     have h218 := BG h193
     refine Ac ?_
     refine Rt ?_
     refine Ai ?_
     refine Ae ?_
     refine Ai ?_
     refine Ae ?_
     have hb222 := R4 hrj189_1
     obtain ⟨F18, hs219, le220, hs221⟩ := hs186.fr0 hrj189_1
     obtain rfl := Aa h218
     exact ⟨rfl, (.agg #[(vi J194.1), (vi 0), (.slice aj189_1 J194.2.1.length nj189_1)]), AA (l := [.cell 2 33]) (by kernel_rfl) (vs := [(.agg #[(vi J194.1), (vi 0), (.slice aj189_1 J194.2.1.length nj189_1)])]) ⟨b21, 0, rfl, Aj (t := 33) (g := true) (s := 3) (by kernel_rfl) hs219.at1 rfl (by decide), trivial⟩, .inl ⟨_, F18, _, _, rfl, rfl, hs219.dr1, (((le31.trans le178).trans le187).trans le220), ⟨aj189_2, nj189_2, aj189_1, nj189_1, rfl, rfl, hbj189_2, (RO hsj189_2 le220), hb222, hs221⟩⟩⟩
    ·rintro c f w224 ⟨hd227, b223, F19, rfl, rfl, hs225, le226⟩
     have h228 := Bf h193
     refine Al ?_
     refine AP ?_
     refine Al ?_
     refine AP ?_
     refine Al ?_
     obtain rfl := Aa h228
     exact ⟨hd227, .inr ⟨_, F19, rfl, rfl, hs225, ((le31.trans le178).trans le226)⟩⟩
   ·refine Sc ?_
    refine Ap ?_
    refine Ac ?_
    refine URL.step ?_
    refine Sq (Rg [0, 1] ?_)
    refine RWP.litNext1  (e := ⟨(.string ⟨(([61] : R8)).toArray⟩), (vi 6), 0⟩) (dst := (some 11)) (ty := 0) (g := none) (by kernel_rfl) rfl (x := (.tmp 10)) (r := b46) (ki := 1) (km := 2) rfl hs177 rfl rfl (by kernel_rfl) (by kernel_rfl) ?_
    ·rintro w229 (hs230 : HS wb Fb w229 F14 ((sb bp0 (Ad r173.1 ar173_0_0 nr173_0_0) 100) :: (some b46, (.mapIter (some b39) 2 #[1, 0] 2)) :: (some b39, (.map #[⟨(.string ⟨(([61] : R8)).toArray⟩), (vi 6), 0⟩, ⟨(.string ⟨(([60] : R8)).toArray⟩), (vi 7), 1⟩] 2)) :: (sb b34 (Ag r27.2 ar27_1_2 nr27_1_2) 33) :: (sb b21 #[(vi 0), (vi 0), (.slice none ([] : List Expr).length 0)] 33) :: Lf))
     refine Vs 1 ?_
     refine Nss ?_
     refine C1 (rfl : true = true) ?_
     refine Sc ?_
     refine Ac ?_
     refine Bk ?_
     refine Sq (Rg [0, 1, 2, 3, 4] ?_)
     refine V 13 0 (Ec (x := (.tmp 10)) (en := ⟨(.string ⟨(([61] : R8)).toArray⟩), (vi 6), 0⟩) rfl (hs230.ownAt (k := 1) rfl) (hs230.ownAt (k := 2) rfl) rfl rfl) ?_
     refine Vs 4 ?_
     refine Nss (Rg [0, 1, 2] ?_)
     refine Vs 2 ?_
     obtain ⟨r231, hr232, h233⟩ := bind_some h182
     refine CB AG (AH N bp0 r173.1 ar173_0_0 nr173_0_0 hbr173_0_0 hsr173_0_0 (([61] : R8)) hs230 _ hr232) ?_
     rintro _ F20 w234 _ hs235 le236 ⟨ar231_0_0, nr231_0_0, rfl, rfl, hbr231_0_0, hsr231_0_0⟩
     refine Nt ?_
     refine Cd h233 (fun hb238 h239 => ?_) (fun hb238 h240 => ?_)
     ·refine Sq ?_
      obtain ⟨j247, hj250, h251⟩ := bind_some h239
      refine RDP 6 7 [(some b46, (.mapIter (some b39) 2 #[1, 0] 2)), (some b39, (.map #[⟨(.string ⟨(([61] : R8)).toArray⟩), (vi 6), 0⟩, ⟨(.string ⟨(([60] : R8)).toArray⟩), (vi 7), 1⟩] 2)), (sb b34 (Ag r27.2 ar27_1_2 nr27_1_2) 33)] [(sb b21 #[(vi 0), (vi 0), (.slice none ([] : List Expr).length 0)] 33)] hs235 (fun c d w => d = [] /\ ∃ (b : Ah) (Fp : Mem), j247 = .inl b /\ c = [{ v := (.iface 158 (.agg (AJ b))), recovered := false }] /\ HS wb Fb w Fp Lf /\ RL F20 Fp) (fun f w => ∃ (J252 : (Int × List Expr × List Ar × Int)), j247 = .inr J252 /\ ∃ (F21 : Mem) (aj247_1 : R9) (nj247_1 : Nat) (ej247_1 : Option Nat × Obj) (aj247_2 : R9) (nj247_2 : Nat), HS wb Fb w F21 (ej247_1 :: (sb bp0 #[(.slice aj247_2 J252.2.2.1.length nj247_2), (vi J252.2.2.2)] 100) :: (sb b21 #[(vi J252.1), (vi 0), (.slice aj247_1 J252.2.1.length nj247_1)] 33) :: Lf) /\ RL F20 F21 /\ FI f [] [(2, (pt b21 0))] /\ Aq Ao 33 F21 aj247_1 nj247_1 J252.2.1 ej247_1 /\ LC J252.2.2.1.length nj247_2 /\ SlA Af F21 aj247_2 J252.2.2.1) (fun wd241 hw242 => ?_) ?_ ?_
      ·refine Dv [0] ?_
       refine Dl 1 (fun _ hq => (hq.1.2 2 _ _ rfl)) ?_
       refine Dv [2] ?_
       refine D1 3 ?_
       obtain ⟨r253, hr254, h255⟩ := bind_some hj250
       refine DCP BE (hsR233 (hG.mono ((le31.trans le178).trans le236)) bp0 r231.1 ar231_0_0 nr231_0_0 hbr231_0_0 hsr231_0_0 hw242 _ hr254) ?_ ?_
       ·rintro r256 _ F22 w258 _ rfl hs259 le260 ⟨ar256_0_0, nr256_0_0, ar256_1_2, nr256_1_2, rfl, rfl, hbr256_0_0, hsr256_0_0, hbr256_1_2, hsr256_1_2⟩
        have h262 := BG h255
        refine ⟨Bv hs259 le260 (by simp) (fun _ => by simp), ?_⟩
        refine D1 4 ?_
        refine DBs 33 [(vi r27.2.Op), (vi r27.2.Value), (.slice ar27_1_2 r27.2.Kids.length nr27_1_2), (vi r256.2.Op), (vi r256.2.Value), (.slice ar256_1_2 r256.2.Kids.length nr256_1_2)] hs259 le260 (fun b263 w264 hs265 => ?_)
        have hr267 : Aq Ao 33 F22 (some ⟨b263, 0, none⟩) 2 [r27.2, r256.2] (some b263, .cells ([(vi r27.2.Op), (vi r27.2.Value), (.slice ar27_1_2 r27.2.Kids.length nr27_1_2), (vi r256.2.Op), (vi r256.2.Value), (.slice ar256_1_2 r256.2.Kids.length nr256_1_2)] : List Value).toArray 33 (0, 0)) := R6 ⟨(A7 ⟨ar27_1_2, nr27_1_2, rfl, hbr27_1_2, (RO hsr27_1_2 ((le178.trans le236).trans le260))⟩), ⟨(A7 ⟨ar256_1_2, nr256_1_2, rfl, hbr256_1_2, hsr256_1_2⟩), rfl⟩⟩ (by simp)
        refine Dv [5] ?_
        refine D1 6 ?_
        refine Qk #[(vi 6), (vi 0), (.slice (some ⟨b263, 0, none⟩) [r27.2, r256.2].length 2)] hs265 le260 (fun w268 hs269 => ?_)
        obtain rfl := Aa h262
        exact R3 (by kernel_rfl) ⟨_, rfl, F22, (some ⟨b263, 0, none⟩), 2, (some b263, .cells ([(vi r27.2.Op), (vi r27.2.Value), (.slice ar27_1_2 r27.2.Kids.length nr27_1_2), (vi r256.2.Op), (vi r256.2.Value), (.slice ar256_1_2 r256.2.Kids.length nr256_1_2)] : List Value).toArray 33 (0, 0)), ar256_0_0, nr256_0_0, hs269.dr2.dr2.dr2, le260, fI, hr267, hbr256_0_0, hsr256_0_0⟩
       ·rintro b270 F23 w271 rfl hs272 le273
        have h274 := Bf h255
        obtain rfl := Aa h274
        exact ⟨rfl, _, _, rfl, rfl, hs272.dr0.dr0.dr0.dr0, le273⟩
      ·rintro f w243 ⟨J252, rfl, F21, aj247_1, nj247_1, ej247_1, aj247_2, nj247_2, hs244, le245, ⟨_, rfl⟩, hrj247_1, hbj247_2, hsj247_2⟩
       have h276 := BG h251
       refine Ac ?_
       refine Rt ?_
       refine Ai ?_
       refine Ae ?_
       refine Ai ?_
       refine Ae ?_
       have hb280 := R4 hrj247_1
       obtain ⟨F24, hs277, le278, hs279⟩ := hs244.fr0 hrj247_1
       obtain rfl := Aa h276
       exact ⟨rfl, (.agg #[(vi J252.1), (vi 0), (.slice aj247_1 J252.2.1.length nj247_1)]), AA (l := [.cell 2 33]) (by kernel_rfl) (vs := [(.agg #[(vi J252.1), (vi 0), (.slice aj247_1 J252.2.1.length nj247_1)])]) ⟨b21, 0, rfl, Aj (t := 33) (g := true) (s := 3) (by kernel_rfl) hs277.at1 rfl (by decide), trivial⟩, .inl ⟨_, F24, _, _, rfl, rfl, hs277.dr1, ((((le31.trans le178).trans le236).trans le245).trans le278), ⟨aj247_2, nj247_2, aj247_1, nj247_1, rfl, rfl, hbj247_2, (RO hsj247_2 le278), hb280, hs279⟩⟩⟩
      ·rintro c f w282 ⟨hd285, b281, F25, rfl, rfl, hs283, le284⟩
       have h286 := Bf h251
       refine Al ?_
       refine AP ?_
       refine Al ?_
       refine AP ?_
       refine Al ?_
       obtain rfl := Aa h286
       exact ⟨hd285, .inr ⟨_, F25, rfl, rfl, hs283, (((le31.trans le178).trans le236).trans le284)⟩⟩
     ·refine Sc ?_
      refine Ap ?_
      refine Ac ?_
      refine URL.step ?_
      refine Sq (Rg [0, 1] ?_)
      refine RWP.litNext0  (dst := (some 11)) (ty := 0) (g := none) (by kernel_rfl) rfl (x := (.tmp 10)) (r := b46) (ki := 1) (km := 2) rfl hs235 rfl rfl (by kernel_rfl) (by kernel_rfl) ?_
      ·rintro w287 (hs288 : HS wb Fb w287 F20 ((sb bp0 (Ad r231.1 ar231_0_0 nr231_0_0) 100) :: (some b46, (.mapIter (some b39) 2 #[1, 0] 2)) :: (some b39, (.map #[⟨(.string ⟨(([61] : R8)).toArray⟩), (vi 6), 0⟩, ⟨(.string ⟨(([60] : R8)).toArray⟩), (vi 7), 1⟩] 2)) :: (sb b34 (Ag r27.2 ar27_1_2 nr27_1_2) 33) :: (sb b21 #[(vi 0), (vi 0), (.slice none ([] : List Expr).length 0)] 33) :: Lf))
       refine Vs 1 ?_
       refine Nss ?_
       refine C0 (rfl : false = false) ?_
       refine Ex ?_
       refine Ax ?_
       refine Ax ?_
       refine AF rfl ?_
       refine Ac ?_
       refine Sq (Rg [0, 1] ?_)
       refine Ld hs288.at3 ?_
       refine St4 (Ag r27.2 ar27_1_2 nr27_1_2) hs288 (fun w289 hs290 => ?_)
       refine Nt ?_
       refine Rt ?_
       obtain rfl := Aa h240
       exact ⟨rfl, (.agg (Ag r27.2 ar27_1_2 nr27_1_2)), AA (l := [.cell 2 33]) (by kernel_rfl) (vs := [(.agg (Ag r27.2 ar27_1_2 nr27_1_2))]) ⟨b21, 0, rfl, Aj (t := 33) (g := true) (s := 3) (by kernel_rfl) hs290.at4 rfl (by decide), trivial⟩, .inl ⟨_, F20, _, _, rfl, rfl, hs290.dr1.dr1.dr1.dr1, ((le31.trans le178).trans le236), ⟨ar231_0_0, nr231_0_0, ar27_1_2, nr27_1_2, rfl, rfl, hbr231_0_0, hsr231_0_0, hbr27_1_2, (RO hsr27_1_2 (le178.trans le236))⟩⟩⟩
 ·rintro b291 F26 w292 rfl hs293 le294
  have h295 := Bf h26
  refine Al ?_
  obtain rfl := Aa h295
  exact B5 hs293.dr0 le294
def Et (N : Nat) (sR239 : Ab -> Option (Ah ⊕ (Ab × Expr))) (x0 : Ab) : Option (Ah ⊕ (Ab × Expr)) :=
 ((Bn N x0 (fun y => sR239 y) (Eu (Eu ([] : List (R8 × Int)) ([43] : R8) 8) ([45] : R8) 9)).bind fun r41 => sk r41 (fun b53 => some (.inl b53)) (fun r44 => some (.inr (r44.1, r44.2))))
theorem Hg (N : Nat) (sR239 : Ab -> Option (Ah ⊕ (Ab × Expr))) (hsR239 : Mu sR239) {wb w0 : World} {Fb F0 : Mem} {Lf : Own} (hG : Ci F0) (bp0 : Nat) (x0 : Ab) (a0_0 : R9) (n0_0 : Nat) (hb0_0 : LC x0.l_.length n0_0) (hs0_0 : SlA Af F0 a0_0 x0.l_) (hs0 : HS wb Fb w0 F0 ((sb bp0 (Ad x0 a0_0 n0_0) 100) :: Lf)) (r : (Ah ⊕ (Ab × Expr))) (h : Et N sR239 x0 = some r) :
  Calls Tryz.prog 233 ([(pt bp0 0)] : List Value).toArray w0 (Bx wb Fb F0 Lf r (fun b => (.iface 158 (.agg (AJ b)))) fun a F' v L' => ∃ (aq0_0 : R9) (nq0_0 : Nat) (aq1_2 : R9) (nq1_2 : Nat), v = (.agg (Ag a.2 aq1_2 nq1_2)) /\ L' = (sb bp0 (Ad a.1 aq0_0 nq0_0) 100) :: Lf /\ LC a.1.l_.length nq0_0 /\ SlA Af F' aq0_0 a.1.l_ /\ LC a.2.Kids.length nq1_2 /\ SlA Ao F' aq1_2 a.2.Kids) := by
 refine Go 9 Tryz.func233 ?_
 refine Sq (Rg [0] ?_)
 refine Al' 33 #[(vi 0), (vi 0), (.slice none ([] : List Expr).length 0)] hs0 (fun b21 w22 hs23 => ?_)
 refine Nss (Rg [0, 1, 2, 3, 4, 5, 6, 7, 8] ?_)
 refine Vs 3 ?_
 refine RWP.makeMap (t := 198) (K := Fd) (T := Bg) (dst := (some 6)) (ty := 198) (g := none) (by kernel_rfl) rfl hs23 (fun b25 e26 w27 (hs28 : HS wb Fb w27 F0 (e26 :: (sb b21 #[(vi 0), (vi 0), (.slice none ([] : List Expr).length 0)] 33) :: (sb bp0 (Ad x0 a0_0 n0_0) 100) :: Lf)) hr29 => ?_)
 refine RWP.mapIns kl9 (ty := 0) (g := none) (mt := 198) (k := 9) (vt := 3) (m := (.tmp 6)) (x := (.const (.string ⟨([43] : R8).toArray⟩))) (y := (.const (vi 8))) (b := b25) (kx := ([43] : R8)) (u := 8) (kv := (.string ⟨(([43] : R8)).toArray⟩)) (v := (vi 8)) (K := Fd) (T := Bg) (by kernel_rfl) rfl rfl rfl rfl ⟨_, rfl, rfl⟩ ⟨_, rfl, rfl⟩ (by kernel_rfl) hs28 (q := 0) rfl hr29 (fun e30 w31 (hs32 : HS wb Fb w31 F0 (e30 :: (sb b21 #[(vi 0), (vi 0), (.slice none ([] : List Expr).length 0)] 33) :: (sb bp0 (Ad x0 a0_0 n0_0) 100) :: Lf)) hr33 => ?_)
 refine RWP.mapIns kl9 (ty := 0) (g := none) (mt := 198) (k := 9) (vt := 3) (m := (.tmp 6)) (x := (.const (.string ⟨([45] : R8).toArray⟩))) (y := (.const (vi 9))) (b := b25) (kx := ([45] : R8)) (u := 9) (kv := (.string ⟨(([45] : R8)).toArray⟩)) (v := (vi 9)) (K := Fd) (T := Bg) (by kernel_rfl) rfl rfl rfl rfl ⟨_, rfl, rfl⟩ ⟨_, rfl, rfl⟩ (by kernel_rfl) hs32 (q := 0) rfl hr33 (fun e34 w35 (hs36 : HS wb Fb w35 F0 (e34 :: (sb b21 #[(vi 0), (vi 0), (.slice none ([] : List Expr).length 0)] 33) :: (sb bp0 (Ad x0 a0_0 n0_0) 100) :: Lf)) hr37 => ?_)
 refine Vs 1 ?_
 obtain ⟨F1, hs38, le39, hm40⟩ : ∃ Fq, HS wb Fb w35 Fq ((sb b21 #[(vi 0), (vi 0), (.slice none ([] : List Expr).length 0)] 33) :: (sb bp0 (Ad x0 a0_0 n0_0) 100) :: Lf) /\ RL F0 Fq /\ MpA Fd Bg Fq (some b25) (Eu (Eu ([] : List (R8 × Int)) ([43] : R8) 8) ([45] : R8) 9) := HS.freezeMap hs36 (i := 0) rfl hr37
 obtain ⟨r41, hr42, h43⟩ := bind_some h
 refine CP Br (BA N (hG.mono le39) bp0 x0 a0_0 n0_0 hb0_0 (RO hs0_0 le39) 239 [(pt bp0 0)] ([] : List Value) (fun y => sR239 y) GB (fun {_ _ _ _ _} hGe y ay_0 ny_0 hby_0 hsy_0 hs r h => hsR239 hGe bp0 y ay_0 ny_0 hby_0 hsy_0 hs r h) ((Eu (Eu ([] : List (R8 × Int)) ([43] : R8) 8) ([45] : R8) 9)) (some b25) hm40 hs38.pk1 _ hr42) ?_ ?_
 ·rintro r44 _ F2 w46 _ rfl hs47 le48 ⟨ar44_0_0, nr44_0_0, ar44_1_2, nr44_1_2, rfl, rfl, hbr44_0_0, hsr44_0_0, hbr44_1_2, hsr44_1_2⟩
  have h50 := BG h43
  refine St1 (Ag r44.2 ar44_1_2 nr44_1_2) hs47 (fun w51 hs52 => ?_)
  refine Nt ?_
  refine Rt ?_
  obtain rfl := Aa h50
  exact ⟨rfl, (.agg (Ag r44.2 ar44_1_2 nr44_1_2)), AA (l := [.cell 2 33]) (by kernel_rfl) (vs := [(.agg (Ag r44.2 ar44_1_2 nr44_1_2))]) ⟨b21, 0, rfl, Aj (t := 33) (g := true) (s := 3) (by kernel_rfl) hs52.at1 rfl (by decide), trivial⟩, .inl ⟨_, F2, _, _, rfl, rfl, hs52.dr1, (le39.trans le48), ⟨ar44_0_0, nr44_0_0, ar44_1_2, nr44_1_2, rfl, rfl, hbr44_0_0, hsr44_0_0, hbr44_1_2, hsr44_1_2⟩⟩⟩
 ·rintro b53 F3 w54 rfl hs55 le56
  have h57 := Bf h43
  refine Al ?_
  obtain rfl := Aa h57
  exact B5 hs55.dr0 (le39.trans le56)
def D4 (N : Nat) (sR243 : Ab -> Option (Ah ⊕ (Ab × Expr))) (x0 : Ab) : Option (Ah ⊕ (Ab × Expr)) :=
 ((Bn N x0 (fun y => sR243 y) (Eu ([] : List (R8 × Int)) ([42] : R8) 10)).bind fun r37 => sk r37 (fun b49 => some (.inl b49)) (fun r40 => some (.inr (r40.1, r40.2))))
theorem GS (N : Nat) (sR243 : Ab -> Option (Ah ⊕ (Ab × Expr))) (hsR243 : Mt sR243) {wb w0 : World} {Fb F0 : Mem} {Lf : Own} (hG : Ci F0) (bp0 : Nat) (x0 : Ab) (a0_0 : R9) (n0_0 : Nat) (hb0_0 : LC x0.l_.length n0_0) (hs0_0 : SlA Af F0 a0_0 x0.l_) (hs0 : HS wb Fb w0 F0 ((sb bp0 (Ad x0 a0_0 n0_0) 100) :: Lf)) (r : (Ah ⊕ (Ab × Expr))) (h : D4 N sR243 x0 = some r) :
  Calls Tryz.prog 239 ([(pt bp0 0)] : List Value).toArray w0 (Bx wb Fb F0 Lf r (fun b => (.iface 158 (.agg (AJ b)))) fun a F' v L' => ∃ (aq0_0 : R9) (nq0_0 : Nat) (aq1_2 : R9) (nq1_2 : Nat), v = (.agg (Ag a.2 aq1_2 nq1_2)) /\ L' = (sb bp0 (Ad a.1 aq0_0 nq0_0) 100) :: Lf /\ LC a.1.l_.length nq0_0 /\ SlA Af F' aq0_0 a.1.l_ /\ LC a.2.Kids.length nq1_2 /\ SlA Ao F' aq1_2 a.2.Kids) := by
 refine Go 9 Tryz.func239 ?_
 refine Sq (Rg [0] ?_)
 refine Al' 33 #[(vi 0), (vi 0), (.slice none ([] : List Expr).length 0)] hs0 (fun b21 w22 hs23 => ?_)
 refine Nss (Rg [0, 1, 2, 3, 4, 5, 6, 7] ?_)
 refine Vs 3 ?_
 refine RWP.makeMap (t := 198) (K := Fd) (T := Bg) (dst := (some 6)) (ty := 198) (g := none) (by kernel_rfl) rfl hs23 (fun b25 e26 w27 (hs28 : HS wb Fb w27 F0 (e26 :: (sb b21 #[(vi 0), (vi 0), (.slice none ([] : List Expr).length 0)] 33) :: (sb bp0 (Ad x0 a0_0 n0_0) 100) :: Lf)) hr29 => ?_)
 refine RWP.mapIns kl9 (ty := 0) (g := none) (mt := 198) (k := 9) (vt := 3) (m := (.tmp 6)) (x := (.const (.string ⟨([42] : R8).toArray⟩))) (y := (.const (vi 10))) (b := b25) (kx := ([42] : R8)) (u := 10) (kv := (.string ⟨(([42] : R8)).toArray⟩)) (v := (vi 10)) (K := Fd) (T := Bg) (by kernel_rfl) rfl rfl rfl rfl ⟨_, rfl, rfl⟩ ⟨_, rfl, rfl⟩ (by kernel_rfl) hs28 (q := 0) rfl hr29 (fun e30 w31 (hs32 : HS wb Fb w31 F0 (e30 :: (sb b21 #[(vi 0), (vi 0), (.slice none ([] : List Expr).length 0)] 33) :: (sb bp0 (Ad x0 a0_0 n0_0) 100) :: Lf)) hr33 => ?_)
 refine Vs 1 ?_
 obtain ⟨F1, hs34, le35, hm36⟩ : ∃ Fq, HS wb Fb w31 Fq ((sb b21 #[(vi 0), (vi 0), (.slice none ([] : List Expr).length 0)] 33) :: (sb bp0 (Ad x0 a0_0 n0_0) 100) :: Lf) /\ RL F0 Fq /\ MpA Fd Bg Fq (some b25) (Eu ([] : List (R8 × Int)) ([42] : R8) 10) := HS.freezeMap hs32 (i := 0) rfl hr33
 obtain ⟨r37, hr38, h39⟩ := bind_some h
 refine CP Br (BA N (hG.mono le35) bp0 x0 a0_0 n0_0 hb0_0 (RO hs0_0 le35) 243 [(pt bp0 0)] ([] : List Value) (fun y => sR243 y) GE (fun {_ _ _ _ _} hGe y ay_0 ny_0 hby_0 hsy_0 hs r h => hsR243 hGe bp0 y ay_0 ny_0 hby_0 hsy_0 hs r h) ((Eu ([] : List (R8 × Int)) ([42] : R8) 10)) (some b25) hm36 hs34.pk1 _ hr38) ?_ ?_
 ·rintro r40 _ F2 w42 _ rfl hs43 le44 ⟨ar40_0_0, nr40_0_0, ar40_1_2, nr40_1_2, rfl, rfl, hbr40_0_0, hsr40_0_0, hbr40_1_2, hsr40_1_2⟩
  have h46 := BG h39
  refine St1 (Ag r40.2 ar40_1_2 nr40_1_2) hs43 (fun w47 hs48 => ?_)
  refine Nt ?_
  refine Rt ?_
  obtain rfl := Aa h46
  exact ⟨rfl, (.agg (Ag r40.2 ar40_1_2 nr40_1_2)), AA (l := [.cell 2 33]) (by kernel_rfl) (vs := [(.agg (Ag r40.2 ar40_1_2 nr40_1_2))]) ⟨b21, 0, rfl, Aj (t := 33) (g := true) (s := 3) (by kernel_rfl) hs48.at1 rfl (by decide), trivial⟩, .inl ⟨_, F2, _, _, rfl, rfl, hs48.dr1, (le35.trans le44), ⟨ar40_0_0, nr40_0_0, ar40_1_2, nr40_1_2, rfl, rfl, hbr40_0_0, hsr40_0_0, hbr40_1_2, hsr40_1_2⟩⟩⟩
 ·rintro b49 F3 w50 rfl hs51 le52
  have h53 := Bf h39
  refine Al ?_
  obtain rfl := Aa h53
  exact B5 hs51.dr0 (le35.trans le52)
def AW (N : Nat) (x0 : Ab) (x1 : Int) (x2 : Int) : Option (Ah ⊕ Unit) :=
 some (.inl ({ e_ := x1, at_ := x2 } : Ah))
theorem AO : Ak Tryz.prog 87 := fun _ _ => by kernel_rfl
theorem AQ (N : Nat) {wb w0 : World} {Fb F0 : Mem} {Lf : Own} (bp0 : Nat) (x0 : Ab) (a0_0 : R9) (n0_0 : Nat) (hb0_0 : LC x0.l_.length n0_0) (hs0_0 : SlA Af F0 a0_0 x0.l_) (x1 : Int) (x2 : Int) (hs0 : HS wb Fb w0 F0 ((sb bp0 (Ad x0 a0_0 n0_0) 100) :: Lf)) (r : (Ah ⊕ Unit)) (h : AW N x0 x1 x2 = some r) :
  Calls Tryz.prog 87 ([(pt bp0 0), (vi x1), (vi x2)] : List Value).toArray w0 (Bx wb Fb F0 Lf r (fun b => (.iface 158 (.agg (AJ b)))) fun a F' v L' => v = (.tuple #[]) /\ L' = (sb bp0 (Ad x0 a0_0 n0_0) 100) :: Lf) := by
 refine Go 10 Tryz.func87 ?_
 refine Rg [0, 1, 2, 3, 4] ?_
 refine Vs 3 ?_
 refine V 9 20 (FC (t := 158) (x := (.tmp 8)) (v := (.agg #[(vi x1), (vi x2)])) rfl (by kernel_rfl)) ?_
 refine RWP.panics (dst := none) (ty := 0) (g := none) (by kernel_rfl) rfl (Ow (x := (.tmp 9)) (t := 158) (v := (.agg #[(vi x1), (vi x2)])) rfl) rfl ?_
 obtain rfl := Aa h
 exact B5 hs0.dr0 (RM _)
def A5 (N : Nat) (x0 : Ab) (x1 : R8) : Option (Ah ⊕ Ab) :=
 ((Au N x0 x1).bind fun r21 => (bif (!r21.2) then ((idx r21.1.l_ 0).bind fun x31 => ((AW N r21.1 60 x31.at_).bind fun r45 => sk r45 (fun b50 => some (.inl b50)) (fun r48 => none))) else some (.inr r21.1)))
theorem A2 : Ak Tryz.prog 135 := fun _ _ => by kernel_rfl
theorem A6 (N : Nat) {wb w0 : World} {Fb F0 : Mem} {Lf : Own} (bp0 : Nat) (x0 : Ab) (a0_0 : R9) (n0_0 : Nat) (hb0_0 : LC x0.l_.length n0_0) (hs0_0 : SlA Af F0 a0_0 x0.l_) (x1 : R8) (hs0 : HS wb Fb w0 F0 ((sb bp0 (Ad x0 a0_0 n0_0) 100) :: Lf)) (r : (Ah ⊕ Ab)) (h : A5 N x0 x1 = some r) :
  Calls Tryz.prog 135 ([(pt bp0 0), (.string ⟨(x1).toArray⟩)] : List Value).toArray w0 (Bx wb Fb F0 Lf r (fun b => (.iface 158 (.agg (AJ b)))) fun a F' v L' => ∃ (aq0_0 : R9) (nq0_0 : Nat), v = (.tuple #[]) /\ L' = (sb bp0 (Ad a aq0_0 nq0_0) 100) :: Lf /\ LC a.l_.length nq0_0 /\ SlA Af F' aq0_0 a.l_) := by
 refine Go 17 Tryz.func135 ?_
 refine Sq (Rg [0, 1, 2, 3] ?_)
 refine Vs 2 ?_
 obtain ⟨r21, hr22, h23⟩ := bind_some h
 refine CB AG (AH N bp0 x0 a0_0 n0_0 hb0_0 hs0_0 x1 hs0 _ hr22) ?_
 rintro _ F1 w24 _ hs25 le26 ⟨ar21_0_0, nr21_0_0, rfl, rfl, hbr21_0_0, hsr21_0_0⟩
 refine Vs 1 ?_
 refine Nt ?_
 refine Cd h23 (fun hb28 h29 => ?_) (fun hb28 h30 => ?_)
 ·refine Rg [0, 1, 2, 3, 4, 5, 6, 7, 8] ?_
  refine Vs 4 ?_
  refine Ld hs25.at0 ?_
  obtain ⟨x31, hx32, h34⟩ := bind_some h29
  obtain ⟨hi33, hx32'⟩ := As hx32
  obtain ⟨b35, o36, C37, E38, fz39, rfl, hF41, hE42⟩ := RV hsr21_0_0 hx32'
  have hc44 := hE42 _ _ hx32'
  refine Ix hi33 ?_
  refine Vs 1 ?_
  refine Lx 1 (hs25.pers _ _ hF41) hc44 ?_
  obtain ⟨r45, hr46, h47⟩ := bind_some h34
  refine CP AO (AQ N bp0 r21.1 (some ⟨b35, o36, none⟩) nr21_0_0 hbr21_0_0 hsr21_0_0 60 x31.at_ hs25 _ hr46) ?_ ?_
  ·rintro _ _ _ _ _ rfl _ _ _; cases hr46
  ·rintro b50 F3 w51 rfl hs52 le53
   have h54 := Bf h47
   obtain rfl := Aa h54
   exact B5 hs52 (le26.trans le53)
 ·refine Sc ?_
  obtain rfl := Aa h30
  exact ReP [] hs25 le26 ⟨ar21_0_0, nr21_0_0, rfl, rfl, hbr21_0_0, hsr21_0_0⟩
def B6 (N : Nat) (x0 : (List R8)) (x1 : R8) : Int -> Option (Be Int Int) := fun s24 =>
 (bif (decide (s24 < (x0.length : Int))) then ((idx x0 s24).bind fun x47 => (bif (x1 == x47) then some (.ret s24) else some (.next (W64 (s24 + 1))))) else some (.done s24))
def Cj (N : Nat) (x0 : (List R8)) (x1 : R8) : Option Int :=
 ((AZ (B6 N x0 x1) N 0).bind fun o => o.k (fun r => some r) (fun s33 => some (-1)))
theorem DN : Ak Tryz.prog 247 := fun _ _ => by kernel_rfl
theorem DY (N : Nat) (w0 : World) (F0 : Mem) (hF : Sa w0 F0) (x0 : (List R8)) (a0_0 : R9) (n0_0 : Nat) (hb0_0 : LC x0.length n0_0) (hs0_0 : SlA Fd F0 a0_0 x0) (x1 : R8) (r : Int) (h : Cj N x0 x1 = some r) :
  Calls Tryz.prog 247 ([(.slice a0_0 x0.length n0_0), (.string ⟨(x1).toArray⟩)] : List Value).toArray w0 (AK w0 F0 fun F' v => v = (vi r)) := by
 have hs0 := RN hF
 refine Go 19 Tryz.func247 ?_
 refine Sq (Rg [0] ?_)
 refine Vs 1 ?_
 refine Nss ?_
 refine Sq (Rg [0, 1, 2] ?_)
 refine Vs 3 ?_
 refine Nt ?_
 obtain ⟨o21, ho22, h23⟩ := bind_some h
 refine RS (fun f w => ∃ (s33 : Int) (F2 : Mem), o21 = .done s33 /\ HS w0 F0 w F2 [] /\ RL F0 F2 /\ FI f [] []) ?_ ?_
 ·refine Bk ?_
  refine RK (by kernel_rfl) (fun m f w => ∃ (s24 : Int) (F1 : Mem), AZ (B6 N x0 x1) m s24 = some o21 /\ HS w0 F0 w F1 [] /\ RL F0 F1 /\ FI f [] [(0, (.slice a0_0 x0.length n0_0)), (1, (.string ⟨(x1).toArray⟩)), (7, (vi (x0.length : Int))), (8, (vi s24))]) N ⟨0, F0, ho22, hs0, (RM _), fI⟩ ?_
  rintro m38 f w25 ⟨s24, F1, hit39, hs26, le27, ⟨_, rfl⟩⟩
  obtain ⟨m40, fl41, rfl, hb42, hnx43⟩ := AR hit39
  refine Sq (Rg [0] ?_)
  refine Vs 1 ?_
  refine Nss ?_
  refine Cd hb42 (fun hb44 h45 => ?_) (fun hb44 h46 => ?_)
  ·refine Sc ?_
   refine Ac ?_
   refine Sq ?_
   refine Bk ?_
   refine Sq (Rg [0, 1] ?_)
   refine Vs 2 ?_
   refine Nss (Rg [0, 1, 2, 3, 4, 5] ?_)
   refine Vs 3 ?_
   obtain ⟨x47, hx48, h50⟩ := bind_some h45
   obtain ⟨hi49, hx48'⟩ := As hx48
   obtain ⟨b51, o52, C53, E54, fz55, rfl, hF57, hE58⟩ := RV (RO hs0_0 le27) hx48'
   have hc60 := hE58 _ _ hx48'
   refine Ix hi49 ?_
   refine Lx 0 (hs26.pers _ _ hF57) hc60 ?_
   refine Vs 1 ?_
   refine Nt ?_
   refine Cd h50 (fun hb61 h62 => ?_) (fun hb61 h63 => ?_)
   ·refine Sq (Rg [0, 1] ?_)
    refine Vs 2 ?_
    refine Nt ?_
    refine Rt ?_
    refine Ai ?_
    refine Ae ?_
    refine Ae ?_
    refine Ai ?_
    have hret := Bo h62 hnx43
    subst hret
    refine .inr ?_
    refine Ae ?_
    obtain rfl := Aa h23
    exact Re [(vi s24)] hs26 rfl
   ·refine Sc ?_
    refine Ap ?_
    refine Ac ?_
    refine Rg [0, 1] ?_
    refine Vs 2 ?_
    refine RF ?_
    have hn64 := AL h63 hnx43
    exact ⟨m40, Nat.lt_succ_self _, (W64 (s24 + 1)), F1, hn64, hs26, le27, fI⟩
  ·refine Ex ?_
   refine Ax ?_
   refine Ax ?_
   refine AF rfl ?_
   have ho65 := AU h46 hnx43
   exact .inl ⟨rfl, s24, F1, ho65, hs26, le27, fI⟩
 ·rintro f w34 ⟨s33, F2, rfl, hs35, le36, ⟨_, rfl⟩⟩
  have h66 := Bm h23
  refine Ac ?_
  refine Sq (Rg [0] ?_)
  refine Vs 1 ?_
  refine Nt ?_
  refine Rt ?_
  obtain rfl := Aa h66
  exact Re [(vi (-1))] hs35 rfl
def CL (N : Nat) (x0 : Ab) : Option (Ah ⊕ Ab) :=
 ((idx x0.l_ 0).bind fun x21 => (((AV N x0 ([40] : R8)).bind fun r45 => (bif r45 then some (x0.open_ == 32) else some false)).bind fun j38 => (bif j38 then ((AW N x0 2 x21.at_).bind fun r58 => sk r58 (fun b63 => some (.inl b63)) (fun r61 => none)) else ((A5 N x0 ([40] : R8)).bind fun r69 => sk r69 (fun b81 => some (.inl b81)) (fun r72 => some (.inr ({ l_ := r72.l_, open_ := (W64 (r72.open_ + 1)) } : Ab)))))))
theorem Dd : Ak Tryz.prog 249 := fun _ _ => by kernel_rfl
theorem DT (N : Nat) {wb w0 : World} {Fb F0 : Mem} {Lf : Own} (bp0 : Nat) (x0 : Ab) (a0_0 : R9) (n0_0 : Nat) (hb0_0 : LC x0.l_.length n0_0) (hs0_0 : SlA Af F0 a0_0 x0.l_) (hs0 : HS wb Fb w0 F0 ((sb bp0 (Ad x0 a0_0 n0_0) 100) :: Lf)) (r : (Ah ⊕ Ab)) (h : CL N x0 = some r) :
  Calls Tryz.prog 249 ([(pt bp0 0)] : List Value).toArray w0 (Bx wb Fb F0 Lf r (fun b => (.iface 158 (.agg (AJ b)))) fun a F' v L' => ∃ (aq0_0 : R9) (nq0_0 : Nat), v = (.tuple #[]) /\ L' = (sb bp0 (Ad a aq0_0 nq0_0) 100) :: Lf /\ LC a.l_.length nq0_0 /\ SlA Af F' aq0_0 a.l_) := by
 refine Go 31 Tryz.func249 ?_
 refine Sq ?_
 refine Sq (Rg [0, 1, 2, 3, 4, 5, 6, 7] ?_)
 refine Vs 3 ?_
 refine Ld hs0.at0 ?_
 obtain ⟨x21, hx22, h24⟩ := bind_some h
 obtain ⟨hi23, hx22'⟩ := As hx22
 obtain ⟨b25, o26, C27, E28, fz29, rfl, hF31, hE32⟩ := RV hs0_0 hx22'
 have hc34 := hE32 _ _ hx22'
 refine Ix hi23 ?_
 refine Vs 1 ?_
 refine Lx 1 (hs0.pers _ _ hF31) hc34 ?_
 refine Vs 1 ?_
 refine Nss (Rg [0, 1, 2, 3, 4, 5, 6, 7, 8] ?_)
 obtain ⟨j38, hj43, h44⟩ := bind_some h24
 refine RR (fun f w => ∃ (F1 : Mem), HS wb Fb w F1 ((sb bp0 (Ad x0 (some ⟨b25, o26, none⟩) n0_0) 100) :: Lf) /\ RL F0 F1 /\ FI f [] [(0, (pt bp0 0)), (2, (vi x21.at_)), (18, (.bool j38))]) ?_ ?_
 ·refine Vs 1 ?_
  obtain ⟨r45, hr46, h47⟩ := bind_some hj43
  refine CB BV (B1 N bp0 x0 (some ⟨b25, o26, none⟩) n0_0 hb0_0 hs0_0 (([40] : R8)) hs0 _ hr46) ?_
  rintro _ F2 w48 _ hs49 le50 ⟨rfl, rfl⟩
  refine Vs 1 ?_
  refine Sp h47 (fun hb52 h53 => ?_) (fun hb52 h54 => ?_)
  ·refine Vgs hb52 3 ?_
   refine Lg hb52 hs49.at0 ?_
   refine Vgs hb52 1 ?_
   refine Pk1 hb52 ?_
   obtain rfl := Aa h53
   exact RF ⟨rfl, F2, hs49, le50, fI⟩
  ·refine Ss hb52 5 ?_
   refine Pk0 hb52 ?_
   obtain rfl := Aa h54
   exact RF ⟨rfl, F2, hs49, le50, fI⟩
 ·rintro f w35 ⟨F1, hs36, le37, ⟨_, rfl⟩⟩
  refine Ac ?_
  refine Cd h44 (fun hb55 h56 => ?_) (fun hb55 h57 => ?_)
  ·refine Rg [0, 1, 2] ?_
   refine Vs 2 ?_
   obtain ⟨r58, hr59, h60⟩ := bind_some h56
   refine CP AO (AQ N bp0 x0 (some ⟨b25, o26, none⟩) n0_0 hb0_0 (RO hs0_0 le37) 2 x21.at_ hs36 _ hr59) ?_ ?_
   ·rintro _ _ _ _ _ rfl _ _ _; cases hr59
   ·rintro b63 F4 w64 rfl hs65 le66
    have h67 := Bf h60
    refine Al ?_
    obtain rfl := Aa h67
    exact B5 hs65 (le37.trans le66)
  ·refine Sc ?_
   refine Ac ?_
   refine Sq (Rg [0, 1] ?_)
   refine Vs 1 ?_
   obtain ⟨r69, hr70, h71⟩ := bind_some h57
   refine CP A2 (A6 N bp0 x0 (some ⟨b25, o26, none⟩) n0_0 hb0_0 (RO hs0_0 le37) (([40] : R8)) hs36 _ hr70) ?_ ?_
   ·rintro r72 _ F5 w74 _ rfl hs75 le76 ⟨ar72_0_0, nr72_0_0, rfl, rfl, hbr72_0_0, hsr72_0_0⟩
    have h78 := BG h71
    refine Nt ?_
    refine Rg [0, 1, 2, 3, 4, 5, 6, 7] ?_
    refine Vs 3 ?_
    refine Ld hs75.at0 ?_
    refine Vs 3 ?_
    refine St0 #[(.slice ar72_0_0 r72.l_.length nr72_0_0), (vi (W64 (r72.open_ + 1)))] hs75 (fun w79 hs80 => ?_)
    refine RF ?_
    obtain rfl := Aa h78
    exact ReP [] hs80 (le37.trans le76) ⟨ar72_0_0, nr72_0_0, rfl, rfl, hbr72_0_0, hsr72_0_0⟩
   ·rintro b81 F6 w82 rfl hs83 le84
    have h85 := Bf h71
    refine Al ?_
    obtain rfl := Aa h85
    exact B5 hs83 (le37.trans le84)
def CK (N : Nat) (x0 : Ab) : Option (Ah ⊕ Ab) :=
 ((A5 N x0 ([41] : R8)).bind fun r21 => sk r21 (fun b33 => some (.inl b33)) (fun r24 => some (.inr ({ l_ := r24.l_, open_ := (W64 (r24.open_ - 1)) } : Ab))))
theorem Dc : Ak Tryz.prog 250 := fun _ _ => by kernel_rfl
theorem DR (N : Nat) {wb w0 : World} {Fb F0 : Mem} {Lf : Own} (bp0 : Nat) (x0 : Ab) (a0_0 : R9) (n0_0 : Nat) (hb0_0 : LC x0.l_.length n0_0) (hs0_0 : SlA Af F0 a0_0 x0.l_) (hs0 : HS wb Fb w0 F0 ((sb bp0 (Ad x0 a0_0 n0_0) 100) :: Lf)) (r : (Ah ⊕ Ab)) (h : CK N x0 = some r) :
  Calls Tryz.prog 250 ([(pt bp0 0)] : List Value).toArray w0 (Bx wb Fb F0 Lf r (fun b => (.iface 158 (.agg (AJ b)))) fun a F' v L' => ∃ (aq0_0 : R9) (nq0_0 : Nat), v = (.tuple #[]) /\ L' = (sb bp0 (Ad a aq0_0 nq0_0) 100) :: Lf /\ LC a.l_.length nq0_0 /\ SlA Af F' aq0_0 a.l_) := by
 refine Go 11 Tryz.func250 ?_
 refine Sq (Rg [0, 1] ?_)
 refine Vs 1 ?_
 obtain ⟨r21, hr22, h23⟩ := bind_some h
 refine CP A2 (A6 N bp0 x0 a0_0 n0_0 hb0_0 hs0_0 (([41] : R8)) hs0 _ hr22) ?_ ?_
 ·rintro r24 _ F1 w26 _ rfl hs27 le28 ⟨ar24_0_0, nr24_0_0, rfl, rfl, hbr24_0_0, hsr24_0_0⟩
  have h30 := BG h23
  refine Nt ?_
  refine Rg [0, 1, 2, 3, 4, 5, 6, 7] ?_
  refine Vs 3 ?_
  refine Ld hs27.at0 ?_
  refine Vs 3 ?_
  refine St0 #[(.slice ar24_0_0 r24.l_.length nr24_0_0), (vi (W64 (r24.open_ - 1)))] hs27 (fun w31 hs32 => ?_)
  refine RF ?_
  obtain rfl := Aa h30
  exact ReP [] hs32 le28 ⟨ar24_0_0, nr24_0_0, rfl, rfl, hbr24_0_0, hsr24_0_0⟩
 ·rintro b33 F2 w34 rfl hs35 le36
  have h37 := Bf h23
  refine Al ?_
  obtain rfl := Aa h37
  exact B5 hs35 le36
def D5 (N : Nat) (sR145 : Ab -> Option (Ah ⊕ (Ab × Expr))) (x0 : Ab) : Option (Ah ⊕ (Ab × Expr)) :=
 ((idx x0.l_ 0).bind fun x24 => (((Gk N ).bind fun r56 => ((Cj N r56 x24.text_).bind fun r64 => some r64)).bind fun j48 => (bif (x24.kind_ == 1) then ((FA N x24.text_).bind fun r75 => (bif (r75.2 || ((decide ((x24.text_.length : Int) > 7)) || (decide (r75.1 > 1000000)))) then ((AW N x0 60 x24.at_).bind fun r97 => sk r97 (fun b102 => some (.inl b102)) (fun r100 => none)) else ((sub x0.l_ 1 (x0.l_.length : Int)).bind fun r108 => some (.inr (({ l_ := r108, open_ := x0.open_ } : Ab), ({ Op := 1, Value := r75.1, Kids := ([] : List Expr) } : Expr)))))) else (bif ((x24.kind_ == 2) && (decide (j48 >= 0))) then ((sub x0.l_ 1 (x0.l_.length : Int)).bind fun r133 => some (.inr (({ l_ := r133, open_ := x0.open_ } : Ab), ({ Op := 2, Value := j48, Kids := ([] : List Expr) } : Expr)))) else ((Au N x0 ([105, 102] : R8)).bind fun r145 => (bif r145.2 then ((CL N r145.1).bind fun r155 => sk r155 (fun b291 => some (.inl b291)) (fun r158 => ((sR145 r158).bind fun r165 => sk r165 (fun b285 => some (.inl b285)) (fun r168 => ((A5 N r168.1 ([44] : R8)).bind fun r180 => sk r180 (fun b279 => some (.inl b279)) (fun r183 => ((sR145 r183).bind fun r190 => sk r190 (fun b273 => some (.inl b273)) (fun r193 => ((A5 N r193.1 ([44] : R8)).bind fun r206 => sk r206 (fun b267 => some (.inl b267)) (fun r209 => ((sR145 r209).bind fun r216 => sk r216 (fun b261 => some (.inl b261)) (fun r219 => ((CK N r219.1).bind fun r232 => sk r232 (fun b254 => some (.inl b254)) (fun r235 => some (.inr (r235, ({ Op := 11, Value := 0, Kids := [r168.2, r193.2, r219.2] } : Expr))))))))))))))))) else ((AV N r145.1 ([40] : R8)).bind fun r297 => (bif r297 then ((CL N r145.1).bind fun r307 => sk r307 (fun b356 => some (.inl b356)) (fun r310 => ((sR145 r310).bind fun r317 => sk r317 (fun b350 => some (.inl b350)) (fun r320 => ((CK N r320.1).bind fun r332 => sk r332 (fun b344 => some (.inl b344)) (fun r335 => some (.inr (r335, r320.2)))))))) else ((AW N r145.1 60 x24.at_).bind fun r362 => sk r362 (fun b367 => some (.inl b367)) (fun r365 => none))))))))))
theorem GT (N : Nat) (sR145 : Ab -> Option (Ah ⊕ (Ab × Expr))) (hsR145 : MD sR145) {wb w0 : World} {Fb F0 : Mem} {Lf : Own} (hG : Ci F0) (bp0 : Nat) (x0 : Ab) (a0_0 : R9) (n0_0 : Nat) (hb0_0 : LC x0.l_.length n0_0) (hs0_0 : SlA Af F0 a0_0 x0.l_) (hs0 : HS wb Fb w0 F0 ((sb bp0 (Ad x0 a0_0 n0_0) 100) :: Lf)) (r : (Ah ⊕ (Ab × Expr))) (h : D5 N sR145 x0 = some r) :
  Calls Tryz.prog 243 ([(pt bp0 0)] : List Value).toArray w0 (Bx wb Fb F0 Lf r (fun b => (.iface 158 (.agg (AJ b)))) fun a F' v L' => ∃ (aq0_0 : R9) (nq0_0 : Nat) (aq1_2 : R9) (nq1_2 : Nat), v = (.agg (Ag a.2 aq1_2 nq1_2)) /\ L' = (sb bp0 (Ad a.1 aq0_0 nq0_0) 100) :: Lf /\ LC a.1.l_.length nq0_0 /\ SlA Af F' aq0_0 a.1.l_ /\ LC a.2.Kids.length nq1_2 /\ SlA Ao F' aq1_2 a.2.Kids) := by
 refine Go 112 Tryz.func243 ?_
 refine Sq (Rg [0] ?_)
 refine Al' 33 #[(vi 0), (vi 0), (.slice none ([] : List Expr).length 0)] hs0 (fun b21 w22 hs23 => ?_)
 refine Nss (Rg [0, 1, 2, 3, 4, 5, 6, 7] ?_)
 refine Vs 3 ?_
 refine Ld hs23.at1 ?_
 obtain ⟨x24, hx25, h27⟩ := bind_some h
 obtain ⟨hi26, hx25'⟩ := As hx25
 obtain ⟨b28, o29, C30, E31, fz32, rfl, hF34, hE35⟩ := RV hs0_0 hx25'
 have hc37 := hE35 _ _ hx25'
 refine Ix hi26 ?_
 refine Lx 0 (hs23.pers _ _ hF34) hc37 ?_
 refine Al' 97 #[(vi 0), (vi 0), (.string ⟨(([] : R8)).toArray⟩)] hs23 (fun b38 w39 hs40 => ?_)
 refine St0 (Ba x24) hs40 (fun w41 hs42 => ?_)
 refine Nss ?_
 refine Sq ?_
 obtain ⟨j48, hj54, h55⟩ := bind_some h27
 refine RD 5 5 [(sb b38 (Ba x24) 97), (sb b21 #[(vi 0), (vi 0), (.slice none ([] : List Expr).length 0)] 33), (sb bp0 (Ad x0 (some ⟨b28, o29, none⟩) n0_0) 100)] [] hs42 (fun f w => ∃ (F1 : Mem), HS wb Fb w F1 ((sb b38 (Ba x24) 97) :: (sb b21 #[(vi 0), (vi 0), (.slice none ([] : List Expr).length 0)] 33) :: (sb bp0 (Ad x0 (some ⟨b28, o29, none⟩) n0_0) 100) :: Lf) /\ RL F0 F1 /\ FI f [] [(0, (pt bp0 0)), (2, (pt b21 0)), (3, (pt b38 0)), (4, (vi j48))]) (fun wd43 hw44 => ?_) ?_
 ·refine Dv [1] ?_
  refine Dl 2 (fun _ hq => (hq.1.2 0 _ _ rfl)) ?_
  refine D1 0 ?_
  obtain ⟨r56, hr57, h58⟩ := bind_some hj54
  refine DCl GG hw44 (Hw N wd43 F0 hw44.pers  _ hr57) ?_
  rintro _ F2 w60 hs61 le62 ⟨ar56_0_0, nr56_0_0, rfl, hbr56_0_0, hsr56_0_0⟩
  refine D1 3 ?_
  obtain ⟨r64, hr65, h66⟩ := bind_some h58
  refine DCl DN hs61 (DY N w60 F2 hs61.pers r56 ar56_0_0 nr56_0_0 hbr56_0_0 hsr56_0_0 x24.text_ _ hr65) ?_
  rintro _ F3 w68 hs69 le70 rfl
  refine Dv [4] ?_
  obtain rfl := Aa h66
  exact R3 (by kernel_rfl) ⟨F3, hs69, (le62.trans le70), fI⟩
 ·rintro f w45 ⟨F1, hs46, le47, ⟨_, rfl⟩⟩
  refine Ac ?_
  refine Bk ?_
  refine Sq (Rg [0, 1, 2, 3] ?_)
  refine Vs 1 ?_
  refine Ld hs46.at0 ?_
  refine Vs 2 ?_
  refine Nt ?_
  refine Cd h55 (fun hb72 h73 => ?_) (fun hb72 h74 => ?_)
  ·refine Sq (Rg [0, 1, 2, 3, 4, 5, 6, 7] ?_)
   refine Vs 1 ?_
   refine Ld hs46.at0 ?_
   obtain ⟨r75, hr76, h77⟩ := bind_some h73
   refine Cl' JN hs46 (KY N w45 F1 hs46.pers (hG.mono le47) x24.text_ _ hr76) ?_
   rintro _ F4 w79 hs80 le81 ⟨vr75_1_0, rfl, her75_1_0⟩
   refine Vs 5 ?_
   refine Nss ?_
   refine Sq (Rg [0, 1, 2, 3, 4, 5, 6, 7, 8, 9, 10, 11] ?_)
   refine RR (fun f w => ∃ (F5 : Mem), HS wb Fb w F5 ((sb b38 (Ba x24) 97) :: (sb b21 #[(vi 0), (vi 0), (.slice none ([] : List Expr).length 0)] 33) :: (sb bp0 (Ad x0 (some ⟨b28, o29, none⟩) n0_0) 100) :: Lf) /\ RL F4 F5 /\ FI f [] [(0, (pt bp0 0)), (2, (pt b21 0)), (3, (pt b38 0)), (5, (vi r75.1)), (42, (.bool (r75.2 || ((decide ((x24.text_.length : Int) > 7)) || (decide (r75.1 > 1000000))))))]) ?_ ?_
   ·refine Vs 1 ?_
    refine V 32 4 (HF (t := 134) (t' := 134) (x := (.tmp 31)) (c := .nilIface) her75_1_0 rfl rfl (by kernel_rfl)) ?_
    refine Vs 1 ?_
    refine RQ r75.2 (fun hb92 => ?_) (fun hb92 => ?_)
    ·refine Ss hb92 4 ?_
     refine Pk1 hb92 ?_
     refine Vs 1 ?_
     refine Ss (rfl : true = true) 2 ?_
     refine Pk1 (rfl : true = true) ?_
     exact RF ⟨rfl, F4, hs80, (RM _), (fJ ⟨rfl, rfl, rfl, rfl, (congrArg Value.bool (Fj hb92 rfl)), trivial⟩)⟩
    ·refine Vgs hb92 1 ?_
     refine Lg hb92 hs80.at0 ?_
     refine Vgs hb92 2 ?_
     refine Pk0 hb92 ?_
     refine Vs 1 ?_
     refine RQ (decide ((x24.text_.length : Int) > 7)) (fun hb93 => ?_) (fun hb93 => ?_)
     ·refine Ss hb93 2 ?_
      refine Pk1 hb93 ?_
      exact RF ⟨rfl, F4, hs80, (RM _), (fJ ⟨rfl, rfl, rfl, rfl, (congrArg Value.bool (BJ hb92 (Fj hb93 rfl))), trivial⟩)⟩
     ·refine Vgs hb93 2 ?_
      refine Pk0 hb93 ?_
      exact RF ⟨rfl, F4, hs80, (RM _), (fJ ⟨rfl, rfl, rfl, rfl, (congrArg Value.bool (BJ hb92 (BJ hb93 rfl))), trivial⟩)⟩
   ·rintro f w83 ⟨F5, hs84, le85, ⟨_, rfl⟩⟩
    refine Ac ?_
    refine Cd h77 (fun hb94 h95 => ?_) (fun hb94 h96 => ?_)
    ·refine Rg [0, 1, 2, 3] ?_
     refine Vs 2 ?_
     refine Ld hs84.at0 ?_
     obtain ⟨r97, hr98, h99⟩ := bind_some h95
     refine CP AO (AQ N bp0 x0 (some ⟨b28, o29, none⟩) n0_0 hb0_0 (RO hs0_0 ((le47.trans le81).trans le85)) 60 x24.at_ hs84.pk1.pk1.pk2 _ hr98) ?_ ?_
     ·rintro _ _ _ _ _ rfl _ _ _; cases hr98
     ·rintro b102 F7 w103 rfl hs104 le105
      have h106 := Bf h99
      refine Al ?_
      refine AP ?_
      refine Al ?_
      obtain rfl := Aa h106
      exact B5 hs104.dr0.dr0 (((le47.trans le81).trans le85).trans le105)
    ·refine Sc ?_
     refine Ac ?_
     refine Sq (Rg [0, 1, 2, 3, 4, 5, 6, 7, 8] ?_)
     refine Vs 4 ?_
     refine Ld hs84.at2 ?_
     obtain ⟨r108, hr109, h110⟩ := bind_some h96
     obtain ⟨a111, n112, hb113, hs114, hrun115⟩ := Kw (P := Tryz.prog) (T := Af) (lo := (some (.const (vi 1)))) (hi := none) (mx := none) (t := 98) (E := 97) (by_ := 32) (c := n0_0) (a := (some ⟨b28, o29, none⟩)) (l := x0.l_) (r := r108) (il := 1) (ih := (x0.l_.length : Int)) (im := 0) (by kernel_rfl) (by kernel_rfl) hb0_0 (RO hs0_0 ((le47.trans le81).trans le85)) (fun h => by first | rfl | cases h) hr109
     refine V 52 98 (hrun115 (x := (.tmp 51)) rfl rfl rfl trivial) ?_
     refine Vs 2 ?_
     refine St2 #[(.slice a111 r108.length n112), (vi x0.open_)] hs84 (fun w116 hs117 => ?_)
     refine Nss (Rg [0, 1, 2] ?_)
     refine Vs 2 ?_
     refine St1 #[(vi 1), (vi r75.1), (.slice none ([] : List Expr).length 0)] hs117 (fun w118 hs119 => ?_)
     refine Nt ?_
     refine Rt ?_
     refine Ai ?_
     refine Ae ?_
     obtain rfl := Aa h110
     exact ⟨rfl, (.agg #[(vi 1), (vi r75.1), (.slice none ([] : List Expr).length 0)]), AA (l := [.cell 2 33]) (by kernel_rfl) (vs := [(.agg #[(vi 1), (vi r75.1), (.slice none ([] : List Expr).length 0)])]) ⟨b21, 0, rfl, Aj (t := 33) (g := true) (s := 3) (by kernel_rfl) hs119.at1 rfl (by decide), trivial⟩, .inl ⟨_, F5, _, _, rfl, rfl, hs119.dr0.dr0, ((le47.trans le81).trans le85), ⟨a111, n112, none, 0, rfl, rfl, hb113, hs114, RP, (.inl rfl)⟩⟩⟩
  ·refine Sq (Rg [0, 1, 2, 3, 4, 5, 6, 7] ?_)
   refine RR (fun f w => ∃ (F8 : Mem), HS wb Fb w F8 ((sb b38 (Ba x24) 97) :: (sb b21 #[(vi 0), (vi 0), (.slice none ([] : List Expr).length 0)] 33) :: (sb bp0 (Ad x0 (some ⟨b28, o29, none⟩) n0_0) 100) :: Lf) /\ RL F1 F8 /\ FI f [] [(0, (pt bp0 0)), (2, (pt b21 0)), (3, (pt b38 0)), (4, (vi j48)), (57, (.bool ((x24.kind_ == 2) && (decide (j48 >= 0)))))]) ?_ ?_
   ·refine Vs 1 ?_
    refine Ld hs46.at0 ?_
    refine Vs 2 ?_
    refine RQ (x24.kind_ == 2) (fun hb129 => ?_) (fun hb129 => ?_)
    ·refine Vgs hb129 2 ?_
     refine Pk1 hb129 ?_
     refine Vs 1 ?_
     exact RF ⟨rfl, F1, hs46, (RM _), (fJ ⟨rfl, rfl, rfl, rfl, (congrArg Value.bool (BX hb129 rfl)), trivial⟩)⟩
    ·refine Ss hb129 2 ?_
     refine Pk0 hb129 ?_
     refine Vs 1 ?_
     exact RF ⟨rfl, F1, hs46, (RM _), (fJ ⟨rfl, rfl, rfl, rfl, (congrArg Value.bool (C9 hb129 rfl)), trivial⟩)⟩
   ·rintro f w120 ⟨F8, hs121, le122, ⟨_, rfl⟩⟩
    refine Ac ?_
    refine Cd h74 (fun hb130 h131 => ?_) (fun hb130 h132 => ?_)
    ·refine Sq (Rg [0, 1, 2, 3, 4, 5, 6, 7, 8] ?_)
     refine Vs 4 ?_
     refine Ld hs121.at2 ?_
     obtain ⟨r133, hr134, h135⟩ := bind_some h131
     obtain ⟨a136, n137, hb138, hs139, hrun140⟩ := Kw (P := Tryz.prog) (T := Af) (lo := (some (.const (vi 1)))) (hi := none) (mx := none) (t := 98) (E := 97) (by_ := 32) (c := n0_0) (a := (some ⟨b28, o29, none⟩)) (l := x0.l_) (r := r133) (il := 1) (ih := (x0.l_.length : Int)) (im := 0) (by kernel_rfl) (by kernel_rfl) hb0_0 (RO hs0_0 (le47.trans le122)) (fun h => by first | rfl | cases h) hr134
     refine V 70 98 (hrun140 (x := (.tmp 69)) rfl rfl rfl trivial) ?_
     refine Vs 2 ?_
     refine St2 #[(.slice a136 r133.length n137), (vi x0.open_)] hs121 (fun w141 hs142 => ?_)
     refine Nss (Rg [0, 1, 2] ?_)
     refine Vs 2 ?_
     refine St1 #[(vi 2), (vi j48), (.slice none ([] : List Expr).length 0)] hs142 (fun w143 hs144 => ?_)
     refine Nt ?_
     refine Rt ?_
     refine Ai ?_
     refine Ae ?_
     obtain rfl := Aa h135
     exact ⟨rfl, (.agg #[(vi 2), (vi j48), (.slice none ([] : List Expr).length 0)]), AA (l := [.cell 2 33]) (by kernel_rfl) (vs := [(.agg #[(vi 2), (vi j48), (.slice none ([] : List Expr).length 0)])]) ⟨b21, 0, rfl, Aj (t := 33) (g := true) (s := 3) (by kernel_rfl) hs144.at1 rfl (by decide), trivial⟩, .inl ⟨_, F8, _, _, rfl, rfl, hs144.dr0.dr0, (le47.trans le122), ⟨a136, n137, none, 0, rfl, rfl, hb138, hs139, RP, (.inl rfl)⟩⟩⟩
    ·refine Sq (Rg [0, 1, 2] ?_)
     refine Vs 1 ?_
     obtain ⟨r145, hr146, h147⟩ := bind_some h132
     refine CB AG (AH N bp0 x0 (some ⟨b28, o29, none⟩) n0_0 hb0_0 (RO hs0_0 (le47.trans le122)) (([105, 102] : R8)) hs121.pk1.pk1.pk2 _ hr146) ?_
     rintro _ F9 w148 _ hs149 le150 ⟨ar145_0_0, nr145_0_0, rfl, rfl, hbr145_0_0, hsr145_0_0⟩
     refine Vs 1 ?_
     refine Nt ?_
     refine Cd h147 (fun hb152 h153 => ?_) (fun hb152 h154 => ?_)
     ·refine Sq (Rg [0, 1] ?_)
      refine Vs 1 ?_
      obtain ⟨r155, hr156, h157⟩ := bind_some h153
      refine CP Dd (DT N bp0 r145.1 ar145_0_0 nr145_0_0 hbr145_0_0 hsr145_0_0 hs149 _ hr156) ?_ ?_
      ·rintro r158 _ F10 w160 _ rfl hs161 le162 ⟨ar158_0_0, nr158_0_0, rfl, rfl, hbr158_0_0, hsr158_0_0⟩
       have h164 := BG h157
       refine Nss (Rg [0, 1, 2, 3] ?_)
       refine Vs 1 ?_
       obtain ⟨r165, hr166, h167⟩ := bind_some h164
       refine CP Bw (hsR145 (hG.mono (((le47.trans le122).trans le150).trans le162)) bp0 r158 ar158_0_0 nr158_0_0 hbr158_0_0 hsr158_0_0 hs161 _ hr166) ?_ ?_
       ·rintro r168 _ F11 w170 _ rfl hs171 le172 ⟨ar168_0_0, nr168_0_0, ar168_1_2, nr168_1_2, rfl, rfl, hbr168_0_0, hsr168_0_0, hbr168_1_2, hsr168_1_2⟩
        have h174 := BG h167
        refine Al' 33 #[(vi 0), (vi 0), (.slice none ([] : List Expr).length 0)] hs171 (fun b175 w176 hs177 => ?_)
        refine St0 (Ag r168.2 ar168_1_2 nr168_1_2) hs177 (fun w178 hs179 => ?_)
        refine Nss (Rg [0, 1] ?_)
        refine Vs 1 ?_
        obtain ⟨r180, hr181, h182⟩ := bind_some h174
        refine CP A2 (A6 N bp0 r168.1 ar168_0_0 nr168_0_0 hbr168_0_0 hsr168_0_0 (([44] : R8)) hs179.pk3.pk3.pk2.pk3 _ hr181) ?_ ?_
        ·rintro r183 _ F12 w185 _ rfl hs186 le187 ⟨ar183_0_0, nr183_0_0, rfl, rfl, hbr183_0_0, hsr183_0_0⟩
         have h189 := BG h182
         refine Nss (Rg [0, 1, 2, 3] ?_)
         refine Vs 1 ?_
         obtain ⟨r190, hr191, h192⟩ := bind_some h189
         refine CP Bw (hsR145 (hG.mono (((((le47.trans le122).trans le150).trans le162).trans le172).trans le187)) bp0 r183 ar183_0_0 nr183_0_0 hbr183_0_0 hsr183_0_0 hs186 _ hr191) ?_ ?_
         ·rintro r193 _ F13 w195 _ rfl hs196 le197 ⟨ar193_0_0, nr193_0_0, ar193_1_2, nr193_1_2, rfl, rfl, hbr193_0_0, hsr193_0_0, hbr193_1_2, hsr193_1_2⟩
          have h199 := BG h192
          refine Al' 33 #[(vi 0), (vi 0), (.slice none ([] : List Expr).length 0)] hs196 (fun b200 w201 hs202 => ?_)
          refine St0 (Ag r193.2 ar193_1_2 nr193_1_2) hs202 (fun w203 hs204 => ?_)
          refine Nss (Rg [0, 1] ?_)
          refine Vs 1 ?_
          have hs205 := hs204.pk4.pk4.pk4.pk3.pk4
          obtain ⟨r206, hr207, h208⟩ := bind_some h199
          refine CP A2 (A6 N bp0 r193.1 ar193_0_0 nr193_0_0 hbr193_0_0 hsr193_0_0 (([44] : R8)) hs205 _ hr207) ?_ ?_
          ·rintro r209 _ F14 w211 _ rfl hs212 le213 ⟨ar209_0_0, nr209_0_0, rfl, rfl, hbr209_0_0, hsr209_0_0⟩
           have h215 := BG h208
           refine Nss (Rg [0, 1, 2, 3] ?_)
           refine Vs 1 ?_
           obtain ⟨r216, hr217, h218⟩ := bind_some h215
           refine CP Bw (hsR145 (hG.mono (((((((le47.trans le122).trans le150).trans le162).trans le172).trans le187).trans le197).trans le213)) bp0 r209 ar209_0_0 nr209_0_0 hbr209_0_0 hsr209_0_0 hs212 _ hr217) ?_ ?_
           ·rintro r219 _ F15 w221 _ rfl hs222 le223 ⟨ar219_0_0, nr219_0_0, ar219_1_2, nr219_1_2, rfl, rfl, hbr219_0_0, hsr219_0_0, hbr219_1_2, hsr219_1_2⟩
            have h225 := BG h218
            refine Al' 33 #[(vi 0), (vi 0), (.slice none ([] : List Expr).length 0)] hs222 (fun b226 w227 hs228 => ?_)
            refine St0 (Ag r219.2 ar219_1_2 nr219_1_2) hs228 (fun w229 hs230 => ?_)
            refine Nss (Rg [0, 1] ?_)
            refine Vs 1 ?_
            have hs231 := hs230.pk5.pk5.pk5.pk5.pk4
            obtain ⟨r232, hr233, h234⟩ := bind_some h225
            refine CP Dc (DR N bp0 r219.1 ar219_0_0 nr219_0_0 hbr219_0_0 hsr219_0_0 hs231.pk5 _ hr233) ?_ ?_
            ·rintro r235 _ F16 w237 _ rfl hs238 le239 ⟨ar235_0_0, nr235_0_0, rfl, rfl, hbr235_0_0, hsr235_0_0⟩
             have h241 := BG h234
             refine Nss (Rg [0, 1, 2, 3, 4, 5] ?_)
             refine Ld hs238.at3 ?_
             refine Ld hs238.at2 ?_
             refine Ld hs238.at1 ?_
             refine Bs 33 [(vi r168.2.Op), (vi r168.2.Value), (.slice ar168_1_2 r168.2.Kids.length nr168_1_2), (vi r193.2.Op), (vi r193.2.Value), (.slice ar193_1_2 r193.2.Kids.length nr193_1_2), (vi r219.2.Op), (vi r219.2.Value), (.slice ar219_1_2 r219.2.Kids.length nr219_1_2)] hs238 (fun b242 w243 hs244 => ?_)
             have hr246 : Aq Ao 33 F16 (some ⟨b242, 0, none⟩) 3 [r168.2, r193.2, r219.2] (some b242, .cells ([(vi r168.2.Op), (vi r168.2.Value), (.slice ar168_1_2 r168.2.Kids.length nr168_1_2), (vi r193.2.Op), (vi r193.2.Value), (.slice ar193_1_2 r193.2.Kids.length nr193_1_2), (vi r219.2.Op), (vi r219.2.Value), (.slice ar219_1_2 r219.2.Kids.length nr219_1_2)] : List Value).toArray 33 (0, 0)) := R6 ⟨(A7 ⟨ar168_1_2, nr168_1_2, rfl, hbr168_1_2, (RO hsr168_1_2 ((((le187.trans le197).trans le213).trans le223).trans le239))⟩), ⟨(A7 ⟨ar193_1_2, nr193_1_2, rfl, hbr193_1_2, (RO hsr193_1_2 ((le213.trans le223).trans le239))⟩), ⟨(A7 ⟨ar219_1_2, nr219_1_2, rfl, hbr219_1_2, (RO hsr219_1_2 le239)⟩), rfl⟩⟩⟩ (by simp)
             refine Vs 1 ?_
             refine St6 #[(vi 11), (vi 0), (.slice (some ⟨b242, 0, none⟩) [r168.2, r193.2, r219.2].length 3)] hs244 (fun w247 hs248 => ?_)
             refine Nt ?_
             refine Rt ?_
             refine Ai ?_
             refine Ae ?_
             have hb252 := R4 hr246
             obtain ⟨F17, hs249, le250, hs251⟩ := hs248.fr0 hr246
             have hs253 := hs249.dr1.dr1.dr1.dr1.dr1
             obtain rfl := Aa h241
             exact ⟨rfl, (.agg #[(vi 11), (vi 0), (.slice (some ⟨b242, 0, none⟩) [r168.2, r193.2, r219.2].length 3)]), AA (l := [.cell 2 33]) (by kernel_rfl) (vs := [(.agg #[(vi 11), (vi 0), (.slice (some ⟨b242, 0, none⟩) [r168.2, r193.2, r219.2].length 3)])]) ⟨b21, 0, rfl, Aj (t := 33) (g := true) (s := 3) (by kernel_rfl) hs249.at5 rfl (by decide), trivial⟩, .inl ⟨_, F17, _, _, rfl, rfl, hs253, ((((((((((le47.trans le122).trans le150).trans le162).trans le172).trans le187).trans le197).trans le213).trans le223).trans le239).trans le250), ⟨ar235_0_0, nr235_0_0, (some ⟨b242, 0, none⟩), 3, rfl, rfl, hbr235_0_0, (RO hsr235_0_0 le250), hb252, hs251⟩⟩⟩
            ·rintro b254 F18 w255 rfl hs256 le257
             have h258 := Bf h234
             refine Al ?_
             refine AP ?_
             refine Al ?_
             have hs260 := hs256.dr0.dr0.dr0.dr0.dr0
             obtain rfl := Aa h258
             exact B5 hs260 (((((((((le47.trans le122).trans le150).trans le162).trans le172).trans le187).trans le197).trans le213).trans le223).trans le257)
           ·rintro b261 F19 w262 rfl hs263 le264
            have h265 := Bf h218
            refine Al ?_
            refine AP ?_
            refine Al ?_
            obtain rfl := Aa h265
            exact B5 hs263.dr0.dr0.dr0.dr0 ((((((((le47.trans le122).trans le150).trans le162).trans le172).trans le187).trans le197).trans le213).trans le264)
          ·rintro b267 F20 w268 rfl hs269 le270
           have h271 := Bf h208
           refine Al ?_
           refine AP ?_
           refine Al ?_
           obtain rfl := Aa h271
           exact B5 hs269.dr0.dr0.dr0.dr0 (((((((le47.trans le122).trans le150).trans le162).trans le172).trans le187).trans le197).trans le270)
         ·rintro b273 F21 w274 rfl hs275 le276
          have h277 := Bf h192
          refine Al ?_
          refine AP ?_
          refine Al ?_
          obtain rfl := Aa h277
          exact B5 hs275.dr0.dr0.dr0 ((((((le47.trans le122).trans le150).trans le162).trans le172).trans le187).trans le276)
        ·rintro b279 F22 w280 rfl hs281 le282
         have h283 := Bf h182
         refine Al ?_
         refine AP ?_
         refine Al ?_
         obtain rfl := Aa h283
         exact B5 hs281.dr0.dr0.dr0 (((((le47.trans le122).trans le150).trans le162).trans le172).trans le282)
       ·rintro b285 F23 w286 rfl hs287 le288
        have h289 := Bf h167
        refine Al ?_
        refine AP ?_
        refine Al ?_
        obtain rfl := Aa h289
        exact B5 hs287.dr0.dr0 ((((le47.trans le122).trans le150).trans le162).trans le288)
      ·rintro b291 F24 w292 rfl hs293 le294
       have h295 := Bf h157
       refine Al ?_
       refine AP ?_
       refine Al ?_
       obtain rfl := Aa h295
       exact B5 hs293.dr0.dr0 (((le47.trans le122).trans le150).trans le294)
     ·refine Sq (Rg [0, 1, 2] ?_)
      refine Vs 1 ?_
      obtain ⟨r297, hr298, h299⟩ := bind_some h154
      refine CB BV (B1 N bp0 r145.1 ar145_0_0 nr145_0_0 hbr145_0_0 hsr145_0_0 (([40] : R8)) hs149 _ hr298) ?_
      rintro _ F25 w300 _ hs301 le302 ⟨rfl, rfl⟩
      refine Vs 1 ?_
      refine Nt ?_
      refine Cd h299 (fun hb304 h305 => ?_) (fun hb304 h306 => ?_)
      ·refine Sq (Rg [0, 1] ?_)
       refine Vs 1 ?_
       obtain ⟨r307, hr308, h309⟩ := bind_some h305
       refine CP Dd (DT N bp0 r145.1 ar145_0_0 nr145_0_0 hbr145_0_0 (RO hsr145_0_0 le302) hs301 _ hr308) ?_ ?_
       ·rintro r310 _ F26 w312 _ rfl hs313 le314 ⟨ar310_0_0, nr310_0_0, rfl, rfl, hbr310_0_0, hsr310_0_0⟩
        have h316 := BG h309
        refine Nss (Rg [0, 1, 2, 3] ?_)
        refine Vs 1 ?_
        obtain ⟨r317, hr318, h319⟩ := bind_some h316
        refine CP Bw (hsR145 (hG.mono ((((le47.trans le122).trans le150).trans le302).trans le314)) bp0 r310 ar310_0_0 nr310_0_0 hbr310_0_0 hsr310_0_0 hs313 _ hr318) ?_ ?_
        ·rintro r320 _ F27 w322 _ rfl hs323 le324 ⟨ar320_0_0, nr320_0_0, ar320_1_2, nr320_1_2, rfl, rfl, hbr320_0_0, hsr320_0_0, hbr320_1_2, hsr320_1_2⟩
         have h326 := BG h319
         refine Al' 33 #[(vi 0), (vi 0), (.slice none ([] : List Expr).length 0)] hs323 (fun b327 w328 hs329 => ?_)
         refine St0 (Ag r320.2 ar320_1_2 nr320_1_2) hs329 (fun w330 hs331 => ?_)
         refine Nss (Rg [0, 1] ?_)
         refine Vs 1 ?_
         obtain ⟨r332, hr333, h334⟩ := bind_some h326
         refine CP Dc (DR N bp0 r320.1 ar320_0_0 nr320_0_0 hbr320_0_0 hsr320_0_0 hs331.pk3.pk3.pk2.pk3 _ hr333) ?_ ?_
         ·rintro r335 _ F28 w337 _ rfl hs338 le339 ⟨ar335_0_0, nr335_0_0, rfl, rfl, hbr335_0_0, hsr335_0_0⟩
          have h341 := BG h334
          refine Nss (Rg [0, 1] ?_)
          refine Ld hs338.at1 ?_
          refine St3 (Ag r320.2 ar320_1_2 nr320_1_2) hs338 (fun w342 hs343 => ?_)
          refine Nt ?_
          refine Rt ?_
          refine Ai ?_
          refine Ae ?_
          obtain rfl := Aa h341
          exact ⟨rfl, (.agg (Ag r320.2 ar320_1_2 nr320_1_2)), AA (l := [.cell 2 33]) (by kernel_rfl) (vs := [(.agg (Ag r320.2 ar320_1_2 nr320_1_2))]) ⟨b21, 0, rfl, Aj (t := 33) (g := true) (s := 3) (by kernel_rfl) hs343.at3 rfl (by decide), trivial⟩, .inl ⟨_, F28, _, _, rfl, rfl, hs343.dr1.dr1.dr1, ((((((le47.trans le122).trans le150).trans le302).trans le314).trans le324).trans le339), ⟨ar335_0_0, nr335_0_0, ar320_1_2, nr320_1_2, rfl, rfl, hbr335_0_0, hsr335_0_0, hbr320_1_2, (RO hsr320_1_2 le339)⟩⟩⟩
         ·rintro b344 F29 w345 rfl hs346 le347
          have h348 := Bf h334
          refine Al ?_
          refine AP ?_
          refine Al ?_
          obtain rfl := Aa h348
          exact B5 hs346.dr0.dr0.dr0 ((((((le47.trans le122).trans le150).trans le302).trans le314).trans le324).trans le347)
        ·rintro b350 F30 w351 rfl hs352 le353
         have h354 := Bf h319
         refine Al ?_
         refine AP ?_
         refine Al ?_
         obtain rfl := Aa h354
         exact B5 hs352.dr0.dr0 (((((le47.trans le122).trans le150).trans le302).trans le314).trans le353)
       ·rintro b356 F31 w357 rfl hs358 le359
        have h360 := Bf h309
        refine Al ?_
        refine AP ?_
        refine Al ?_
        obtain rfl := Aa h360
        exact B5 hs358.dr0.dr0 ((((le47.trans le122).trans le150).trans le302).trans le359)
      ·refine Sc ?_
       refine Ap ?_
       refine Ac ?_
       refine Sq (Rg [0, 1, 2, 3] ?_)
       refine Vs 2 ?_
       refine Ld hs301.at1 ?_
       obtain ⟨r362, hr363, h364⟩ := bind_some h306
       refine CP AO (AQ N bp0 r145.1 ar145_0_0 nr145_0_0 hbr145_0_0 (RO hsr145_0_0 le302) 60 x24.at_ hs301 _ hr363) ?_ ?_
       ·rintro _ _ _ _ _ rfl _ _ _; cases hr363
       ·rintro b367 F33 w368 rfl hs369 le370
        have h371 := Bf h364
        refine Al ?_
        obtain rfl := Aa h371
        exact B5 hs369.dr0.dr0 ((((le47.trans le122).trans le150).trans le302).trans le370)
structure QK where
 q145 : Ab -> Option (Ah ⊕ (Ab × Expr))
 q185 : Ab -> Option (Ah ⊕ (Ab × Expr))
 q212 : Ab -> Option (Ah ⊕ (Ab × Expr))
 q226 : Ab -> Option (Ah ⊕ (Ab × Expr))
 q233 : Ab -> Option (Ah ⊕ (Ab × Expr))
 q239 : Ab -> Option (Ah ⊕ (Ab × Expr))
 q243 : Ab -> Option (Ah ⊕ (Ab × Expr))
def BH (N : Nat) : Nat -> QK
 | 0 => ⟨fun _ => none, fun _ => none, fun _ => none, fun _ => none, fun _ => none, fun _ => none, fun _ => none⟩
 | k + 1 => ⟨D6 N (BH N k).q185, D8 N (BH N k).q212, D7 N (BH N k).q212 (BH N k).q226, D3 N (BH N k).q233, Et N (BH N k).q239, D4 N (BH N k).q243, D5 N (BH N k).q145⟩
theorem LO (N : Nat) : ∀ k, MD (BH N k).q145 /\ My (BH N k).q185 /\ Kc (BH N k).q212 /\ Mw (BH N k).q226 /\ Mv (BH N k).q233 /\ Mu (BH N k).q239 /\ Mt (BH N k).q243
 | 0 => ⟨(by unfold MD; intros; rename_i h; cases h), (by unfold My; intros; rename_i h; cases h), (by unfold Kc; intros; rename_i h; cases h), (by unfold Mw; intros; rename_i h; cases h), (by unfold Mv; intros; rename_i h; cases h), (by unfold Mu; intros; rename_i h; cases h), (by unfold Mt; intros; rename_i h; cases h)⟩
 | k + 1 => by
  have ih := LO N k
  exact ⟨@GU N (BH N k).q185 ih.2.1, @GW N (BH N k).q212 ih.2.2.1, @GV N (BH N k).q212 ih.2.2.1 (BH N k).q226 ih.2.2.2.1, @GR N (BH N k).q233 ih.2.2.2.2.1, @Hg N (BH N k).q239 ih.2.2.2.2.2.1, @GS N (BH N k).q243 ih.2.2.2.2.2.2, @GT N (BH N k).q145 ih.1⟩
def EO (N : Nat) (x0 : Ab) : Option (Ah ⊕ (Ab × Expr)) := (BH N N).q145 x0
theorem Hc (N : Nat) {wb w0 : World} {Fb F0 : Mem} {Lf : Own} (hG : Ci F0) (bp0 : Nat) (x0 : Ab) (a0_0 : R9) (n0_0 : Nat) (hb0_0 : LC x0.l_.length n0_0) (hs0_0 : SlA Af F0 a0_0 x0.l_) (hs0 : HS wb Fb w0 F0 ((some bp0, (.cells #[(.slice a0_0 x0.l_.length n0_0), (.int .i64 x0.open_)] 100 (0, 0))) :: Lf)) (r : (Ah ⊕ (Ab × Expr))) (h : EO N x0 = some r) :
  Calls Tryz.prog 145 ([(.pointer (some ⟨bp0, 0, none⟩))] : List Value).toArray w0 (Bx wb Fb F0 Lf r (fun b => (.iface 158 (.agg #[(.int .i64 b.e_), (.int .i64 b.at_)]))) fun a F' v L' => ∃ (aq0_0 : R9) (nq0_0 : Nat) (aq1_2 : R9) (nq1_2 : Nat), v = (.agg #[(.int .i64 a.2.Op), (.int .i64 a.2.Value), (.slice aq1_2 a.2.Kids.length nq1_2)]) /\ L' = (some bp0, (.cells #[(.slice aq0_0 a.1.l_.length nq0_0), (.int .i64 a.1.open_)] 100 (0, 0))) :: Lf /\ LC a.1.l_.length nq0_0 /\ SlA Af F' aq0_0 a.1.l_ /\ LC a.2.Kids.length nq1_2 /\ SlA Ao F' aq1_2 a.2.Kids) := (LO N N).1 hG bp0 x0 a0_0 n0_0 hb0_0 hs0_0 hs0 r h
def BD (N : Nat) (x0 : Ab) : Option (Ah ⊕ (Ab × Bh)) :=
 ((idx x0.l_ 0).bind fun x24 => ((EO N x0).bind fun r38 => sk r38 (fun b50 => some (.inl b50)) (fun r41 => some (.inr (r41.1, ({ Expr := r41.2, at_ := x24.at_ } : Bh))))))
theorem BK : Ak Tryz.prog 86 := fun _ _ => by kernel_rfl
theorem BS (N : Nat) {wb w0 : World} {Fb F0 : Mem} {Lf : Own} (hG : Ci F0) (bp0 : Nat) (x0 : Ab) (a0_0 : R9) (n0_0 : Nat) (hb0_0 : LC x0.l_.length n0_0) (hs0_0 : SlA Af F0 a0_0 x0.l_) (hs0 : HS wb Fb w0 F0 ((sb bp0 (Ad x0 a0_0 n0_0) 100) :: Lf)) (r : (Ah ⊕ (Ab × Bh))) (h : BD N x0 = some r) :
  Calls Tryz.prog 86 ([(pt bp0 0)] : List Value).toArray w0 (Bx wb Fb F0 Lf r (fun b => (.iface 158 (.agg (AJ b)))) fun a F' v L' => ∃ (aq0_0 : R9) (nq0_0 : Nat) (aq1_2 : R9) (nq1_2 : Nat), v = (.agg (Ay a.2 aq1_2 nq1_2)) /\ L' = (sb bp0 (Ad a.1 aq0_0 nq0_0) 100) :: Lf /\ LC a.1.l_.length nq0_0 /\ SlA Af F' aq0_0 a.1.l_ /\ LC a.2.Expr.Kids.length nq1_2 /\ SlA Ao F' aq1_2 a.2.Expr.Kids) := by
 refine Go 15 Tryz.func86 ?_
 refine Sq (Rg [0] ?_)
 refine Al' 113 #[(vi 0), (vi 0), (.slice none ([] : List Expr).length 0), (vi 0)] hs0 (fun b21 w22 hs23 => ?_)
 refine Nss (Rg [0, 1, 2, 3, 4, 5, 6, 7] ?_)
 refine Vs 3 ?_
 refine Ld hs23.at1 ?_
 obtain ⟨x24, hx25, h27⟩ := bind_some h
 obtain ⟨hi26, hx25'⟩ := As hx25
 obtain ⟨b28, o29, C30, E31, fz32, rfl, hF34, hE35⟩ := RV hs0_0 hx25'
 have hc37 := hE35 _ _ hx25'
 refine Ix hi26 ?_
 refine Vs 1 ?_
 refine Lx 1 (hs23.pers _ _ hF34) hc37 ?_
 refine Vs 1 ?_
 refine Nss (Rg [0, 1, 2, 3, 4] ?_)
 refine Vs 1 ?_
 obtain ⟨r38, hr39, h40⟩ := bind_some h27
 refine CP Bw (Hc N hG bp0 x0 (some ⟨b28, o29, none⟩) n0_0 hb0_0 hs0_0 hs23.pk1 _ hr39) ?_ ?_
 ·rintro r41 _ F1 w43 _ rfl hs44 le45 ⟨ar41_0_0, nr41_0_0, ar41_1_2, nr41_1_2, rfl, rfl, hbr41_0_0, hsr41_0_0, hbr41_1_2, hsr41_1_2⟩
  have h47 := BG h40
  refine Vs 2 ?_
  refine St1 #[(vi r41.2.Op), (vi r41.2.Value), (.slice ar41_1_2 r41.2.Kids.length nr41_1_2), (vi x24.at_)] hs44 (fun w48 hs49 => ?_)
  refine Nt ?_
  refine Rt ?_
  obtain rfl := Aa h47
  exact ⟨rfl, (.agg #[(vi r41.2.Op), (vi r41.2.Value), (.slice ar41_1_2 r41.2.Kids.length nr41_1_2), (vi x24.at_)]), AA (l := [.cell 2 113]) (by kernel_rfl) (vs := [(.agg #[(vi r41.2.Op), (vi r41.2.Value), (.slice ar41_1_2 r41.2.Kids.length nr41_1_2), (vi x24.at_)])]) ⟨b21, 0, rfl, Aj (t := 113) (g := true) (s := 4) (by kernel_rfl) hs49.at1 rfl (by decide), trivial⟩, .inl ⟨_, F1, _, _, rfl, rfl, hs49.dr1, le45, ⟨ar41_0_0, nr41_0_0, ar41_1_2, nr41_1_2, rfl, rfl, hbr41_0_0, hsr41_0_0, hbr41_1_2, hsr41_1_2⟩⟩⟩
 ·rintro b50 F2 w51 rfl hs52 le53
  have h54 := Bf h40
  refine Al ?_
  obtain rfl := Aa h54
  exact B5 hs52.dr0 le53
def BO (N : Nat) (x0 : Ab) (x1 : Bh) (x2 : Int) : Option (Ah ⊕ Unit) :=
 ((Ct N x1.Expr).bind fun r24 => ((DH N x1.Expr).bind fun r32 => (bif (decide (r32 > 32)) then ((AW N x0 2 x1.at_).bind fun r43 => sk r43 (fun b48 => some (.inl b48)) (fun r46 => none)) else (bif ((r24 == 0) || ((x2 != 0) && (r24 != x2))) then ((AW N x0 61 x1.at_).bind fun r66 => sk r66 (fun b71 => some (.inl b71)) (fun r69 => none)) else some (.inr ())))))
theorem BR : Ak Tryz.prog 88 := fun _ _ => by kernel_rfl
theorem BW (N : Nat) {wb w0 : World} {Fb F0 : Mem} {Lf : Own} (bp0 : Nat) (x0 : Ab) (a0_0 : R9) (n0_0 : Nat) (hb0_0 : LC x0.l_.length n0_0) (hs0_0 : SlA Af F0 a0_0 x0.l_) (x1 : Bh) (a1_2 : R9) (n1_2 : Nat) (hb1_2 : LC x1.Expr.Kids.length n1_2) (hs1_2 : SlA Ao F0 a1_2 x1.Expr.Kids) (x2 : Int) (hs0 : HS wb Fb w0 F0 ((sb bp0 (Ad x0 a0_0 n0_0) 100) :: Lf)) (r : (Ah ⊕ Unit)) (h : BO N x0 x1 x2 = some r) :
  Calls Tryz.prog 88 ([(pt bp0 0), (.agg (Ay x1 a1_2 n1_2)), (vi x2)] : List Value).toArray w0 (Bx wb Fb F0 Lf r (fun b => (.iface 158 (.agg (AJ b)))) fun a F' v L' => v = (.tuple #[]) /\ L' = (sb bp0 (Ad x0 a0_0 n0_0) 100) :: Lf) := by
 refine Go 35 Tryz.func88 ?_
 refine Sq (Rg [0] ?_)
 refine Bx' 113 (Ay x1 a1_2 n1_2) hs0 (fun b21 w22 hs23 => ?_)
 refine Nss (Rg [0, 1, 2, 3] ?_)
 refine Vs 1 ?_
 refine Ld hs23.at0 ?_
 obtain ⟨r24, hr25, h26⟩ := bind_some h
 refine Cl' Ca hs23 (C7 N w22 F0 hs23.pers x1.Expr a1_2 n1_2 hb1_2 hs1_2 _ hr25) ?_
 rintro _ F1 w28 hs29 le30 rfl
 refine Vs 1 ?_
 refine Nt ?_
 refine Bk ?_
 refine Sq (Rg [0, 1, 2, 3, 4] ?_)
 refine Vs 1 ?_
 refine Ld hs29.at0 ?_
 obtain ⟨r32, hr33, h34⟩ := bind_some h26
 refine Cl' C5 hs29 (E8 N w28 F1 hs29.pers x1.Expr a1_2 n1_2 hb1_2 (RO hs1_2 le30) _ hr33) ?_
 rintro _ F2 w36 hs37 le38 rfl
 refine Vs 2 ?_
 refine Nt ?_
 refine Cd h34 (fun hb40 h41 => ?_) (fun hb40 h42 => ?_)
 ·refine Rg [0, 1, 2, 3] ?_
  refine Vs 2 ?_
  refine Ld hs37.at0 ?_
  obtain ⟨r43, hr44, h45⟩ := bind_some h41
  refine CP AO (AQ N bp0 x0 a0_0 n0_0 hb0_0 (RO hs0_0 (le30.trans le38)) 2 x1.at_ hs37.pk1 _ hr44) ?_ ?_
  ·rintro _ _ _ _ _ rfl _ _ _; cases hr44
  ·rintro b48 F4 w49 rfl hs50 le51
   have h52 := Bf h45
   refine AP ?_
   obtain rfl := Aa h52
   exact B5 hs50.dr0 ((le30.trans le38).trans le51)
 ·refine Sq (Rg [0, 1, 2, 3, 4, 5, 6, 7, 8, 9, 10, 11] ?_)
  refine RR (fun f w => ∃ (F5 : Mem), HS wb Fb w F5 ((sb b21 (Ay x1 a1_2 n1_2) 113) :: (sb bp0 (Ad x0 a0_0 n0_0) 100) :: Lf) /\ RL F2 F5 /\ FI f [] [(0, (pt bp0 0)), (4, (pt b21 0)), (19, (.bool ((r24 == 0) || ((x2 != 0) && (r24 != x2)))))]) ?_ ?_
  ·refine Vs 3 ?_
   refine RQ (r24 == 0) (fun hb61 => ?_) (fun hb61 => ?_)
   ·refine Ss hb61 3 ?_
    refine Su' 3 ?_
    refine Ss hb61 1 ?_
    refine Pk1 hb61 ?_
    refine Vs 1 ?_
    exact RF ⟨rfl, F2, hs37, (RM _), (fJ ⟨rfl, rfl, (congrArg Value.bool (Fj hb61 rfl)), trivial⟩)⟩
   ·refine Vgs hb61 3 ?_
    refine RQ (x2 != 0) (fun hb62 => ?_) (fun hb62 => ?_)
    ·refine Vgs hb62 3 ?_
     refine Pg1 hb61 hb62 ?_
     refine Pk0 hb61 ?_
     refine Vs 1 ?_
     exact RF ⟨rfl, F2, hs37, (RM _), (fJ ⟨rfl, rfl, (congrArg Value.bool (BJ hb61 (BX hb62 rfl))), trivial⟩)⟩
    ·refine Ss hb62 3 ?_
     refine Pg0 hb61 hb62 ?_
     refine Pk0 hb61 ?_
     refine Vs 1 ?_
     exact RF ⟨rfl, F2, hs37, (RM _), (fJ ⟨rfl, rfl, (congrArg Value.bool (BJ hb61 (C9 hb62 rfl))), trivial⟩)⟩
  ·rintro f w54 ⟨F5, hs55, le56, ⟨_, rfl⟩⟩
   refine Ac ?_
   refine Cd h42 (fun hb63 h64 => ?_) (fun hb63 h65 => ?_)
   ·refine Rg [0, 1, 2, 3] ?_
    refine Vs 2 ?_
    refine Ld hs55.at0 ?_
    obtain ⟨r66, hr67, h68⟩ := bind_some h64
    refine CP AO (AQ N bp0 x0 a0_0 n0_0 hb0_0 (RO hs0_0 ((le30.trans le38).trans le56)) 61 x1.at_ hs55.pk1 _ hr67) ?_ ?_
    ·rintro _ _ _ _ _ rfl _ _ _; cases hr67
    ·rintro b71 F7 w72 rfl hs73 le74
     have h75 := Bf h68
     refine AP ?_
     obtain rfl := Aa h75
     exact B5 hs73.dr0 (((le30.trans le38).trans le56).trans le74)
   ·refine Sc ?_
    refine Ap ?_
    obtain rfl := Aa h65
    exact ReP [] hs55.dr0 ((le30.trans le38).trans le56) ⟨rfl, rfl⟩
def EP (N : Nat) (x0 : Ab) (z0 : Bh) : Option (Ah ⊕ (Ab × Bh)) :=
 ((BD N x0).bind fun r21 => sk r21 (fun b83 => some (.inl b83)) (fun r24 => ((idx r24.1.l_ 0).bind fun x33 => (bif (x33.kind_ != 0) then ((idx r24.1.l_ 0).bind fun x50 => ((AW N r24.1 60 x50.at_).bind fun r56 => sk r56 (fun b61 => some (.inl b61)) (fun r59 => none))) else ((BO N r24.1 r24.2 0).bind fun r67 => sk r67 (fun b77 => some (.inl b77)) (fun r70 => some (.inr (r24.1, r24.2))))))))
theorem GJ : Ak Tryz.prog 85 := fun _ _ => by kernel_rfl
theorem Hd (N : Nat) {wb w0 : World} {Fb F0 : Mem} {Lf : Own} (hG : Ci F0) (bp0 : Nat) (x0 : Ab) (a0_0 : R9) (n0_0 : Nat) (hb0_0 : LC x0.l_.length n0_0) (hs0_0 : SlA Af F0 a0_0 x0.l_) (bz0 : Nat) (z0 : Bh) (az0_2 : R9) (nz0_2 : Nat) (hbz0_2 : LC z0.Expr.Kids.length nz0_2) (hsz0_2 : SlA Ao F0 az0_2 z0.Expr.Kids) (hs0 : HS wb Fb w0 F0 ((sb bp0 (Ad x0 a0_0 n0_0) 100) :: (sb bz0 (Ay z0 az0_2 nz0_2) 113) :: Lf)) (r : (Ah ⊕ (Ab × Bh))) (h : EP N x0 z0 = some r) :
  Calls Tryz.prog 85 ([(pt bp0 0), (pt bz0 0)] : List Value).toArray w0 (Bx wb Fb F0 Lf r (fun b => (.iface 158 (.agg (AJ b)))) fun a F' v L' => ∃ (aq0_0 : R9) (nq0_0 : Nat) (aq1_2 : R9) (nq1_2 : Nat), v = (.tuple #[]) /\ L' = (sb bp0 (Ad a.1 aq0_0 nq0_0) 100) :: (sb bz0 (Ay a.2 aq1_2 nq1_2) 113) :: Lf /\ LC a.1.l_.length nq0_0 /\ SlA Af F' aq0_0 a.1.l_ /\ LC a.2.Expr.Kids.length nq1_2 /\ SlA Ao F' aq1_2 a.2.Expr.Kids) := by
 refine Go 25 Tryz.func85 ?_
 refine Sq (Rg [0, 1, 2] ?_)
 refine Vs 1 ?_
 obtain ⟨r21, hr22, h23⟩ := bind_some h
 refine CP BK (BS N hG bp0 x0 a0_0 n0_0 hb0_0 hs0_0 hs0 _ hr22) ?_ ?_
 ·rintro r24 _ F1 w26 _ rfl hs27 le28 ⟨ar24_0_0, nr24_0_0, ar24_1_2, nr24_1_2, rfl, rfl, hbr24_0_0, hsr24_0_0, hbr24_1_2, hsr24_1_2⟩
  have h30 := BG h23
  refine St1 (Ay r24.2 ar24_1_2 nr24_1_2) hs27 (fun w31 hs32 => ?_)
  refine Nss ?_
  refine Sq (Rg [0, 1, 2, 3, 4, 5, 6, 7] ?_)
  refine Vs 3 ?_
  refine Ld hs32.at0 ?_
  obtain ⟨x33, hx34, h36⟩ := bind_some h30
  obtain ⟨hi35, hx34'⟩ := As hx34
  obtain ⟨b37, o38, C39, E40, fz41, rfl, hF43, hE44⟩ := RV hsr24_0_0 hx34'
  have hc46 := hE44 _ _ hx34'
  refine Ix hi35 ?_
  refine Vs 1 ?_
  refine Lx 0 (hs32.pers _ _ hF43) hc46 ?_
  refine Vs 1 ?_
  refine Nt ?_
  refine Cd h36 (fun hb47 h48 => ?_) (fun hb47 h49 => ?_)
  ·refine Rg [0, 1, 2, 3, 4, 5, 6, 7, 8] ?_
   refine Vs 4 ?_
   refine Ld hs32.at0 ?_
   obtain ⟨x50, hx51, h53⟩ := bind_some h48
   obtain ⟨hi52, hx51'⟩ := As hx51
   have hc55 := hE44 _ _ hx51'
   refine Ix hi52 ?_
   refine Vs 1 ?_
   refine Lx 1 (hs32.pers _ _ hF43) hc55 ?_
   obtain ⟨r56, hr57, h58⟩ := bind_some h53
   refine CP AO (AQ N bp0 r24.1 (some ⟨b37, o38, none⟩) nr24_0_0 hbr24_0_0 hsr24_0_0 60 x50.at_ hs32 _ hr57) ?_ ?_
   ·rintro _ _ _ _ _ rfl _ _ _; cases hr57
   ·rintro b61 F3 w62 rfl hs63 le64
    have h65 := Bf h58
    refine Al ?_
    obtain rfl := Aa h65
    exact B5 hs63.dr0 (le28.trans le64)
  ·refine Sc ?_
   refine Ac ?_
   refine Rg [0, 1, 2] ?_
   refine Vs 1 ?_
   refine Ld hs32.at1 ?_
   obtain ⟨r67, hr68, h69⟩ := bind_some h49
   refine CP BR (BW N bp0 r24.1 (some ⟨b37, o38, none⟩) nr24_0_0 hbr24_0_0 hsr24_0_0 r24.2 ar24_1_2 nr24_1_2 hbr24_1_2 hsr24_1_2 0 hs32 _ hr68) ?_ ?_
   ·rintro r70 _ F4 w72 _ rfl hs73 le74 ⟨rfl, rfl⟩
    have h76 := BG h69
    refine RF ?_
    obtain rfl := Aa h76
    exact ReP [] hs73 (le28.trans le74) ⟨(some ⟨b37, o38, none⟩), nr24_0_0, ar24_1_2, nr24_1_2, rfl, rfl, hbr24_0_0, (RO hsr24_0_0 le74), hbr24_1_2, (RO hsr24_1_2 le74)⟩
   ·rintro b77 F5 w78 rfl hs79 le80
    have h81 := Bf h69
    obtain rfl := Aa h81
    exact B5 hs79.dr0 (le28.trans le80)
 ·rintro b83 F6 w84 rfl hs85 le86
  have h87 := Bf h23
  refine Al ?_
  obtain rfl := Aa h87
  exact B5 hs85.dr0 le86
def CM (N : Nat) (x0 : Ab) : Option (Ah ⊕ Unit) :=
 (((idx x0.l_ 0).bind fun x30 => (bif (x30.kind_ != 0) then ((AV N x0 ([10] : R8)).bind fun r47 => some (!r47)) else some false)).bind fun j24 => (bif j24 then ((idx x0.l_ 0).bind fun x57 => ((AW N x0 60 x57.at_).bind fun r71 => sk r71 (fun b76 => some (.inl b76)) (fun r74 => none))) else some (.inr ())))
theorem De : Ak Tryz.prog 136 := fun _ _ => by kernel_rfl
theorem DU (N : Nat) {wb w0 : World} {Fb F0 : Mem} {Lf : Own} (bp0 : Nat) (x0 : Ab) (a0_0 : R9) (n0_0 : Nat) (hb0_0 : LC x0.l_.length n0_0) (hs0_0 : SlA Af F0 a0_0 x0.l_) (hs0 : HS wb Fb w0 F0 ((sb bp0 (Ad x0 a0_0 n0_0) 100) :: Lf)) (r : (Ah ⊕ Unit)) (h : CM N x0 = some r) :
  Calls Tryz.prog 136 ([(pt bp0 0)] : List Value).toArray w0 (Bx wb Fb F0 Lf r (fun b => (.iface 158 (.agg (AJ b)))) fun a F' v L' => v = (.tuple #[]) /\ L' = (sb bp0 (Ad x0 a0_0 n0_0) 100) :: Lf) := by
 refine Go 24 Tryz.func136 ?_
 refine Sq (Rg [0, 1, 2, 3, 4, 5, 6, 7, 8, 9, 10, 11, 12] ?_)
 obtain ⟨j24, hj28, h29⟩ := bind_some h
 refine RR (fun f w => ∃ (F1 : Mem), HS wb Fb w F1 ((sb bp0 (Ad x0 a0_0 n0_0) 100) :: Lf) /\ RL F0 F1 /\ FI f [] [(0, (pt bp0 0)), (14, (.bool j24))]) ?_ ?_
 ·refine Vs 3 ?_
  refine Ld hs0.at0 ?_
  obtain ⟨x30, hx31, h33⟩ := bind_some hj28
  obtain ⟨hi32, hx31'⟩ := As hx31
  obtain ⟨b34, o35, C36, E37, fz38, rfl, hF40, hE41⟩ := RV hs0_0 hx31'
  have hc43 := hE41 _ _ hx31'
  refine Ix hi32 ?_
  refine Vs 1 ?_
  refine Lx 0 (hs0.pers _ _ hF40) hc43 ?_
  refine Vs 2 ?_
  refine Sp h33 (fun hb44 h45 => ?_) (fun hb44 h46 => ?_)
  ·refine Vgs hb44 1 ?_
   obtain ⟨r47, hr48, h49⟩ := bind_some h45
   refine RWP.callB (dst := (some 12)) (ty := 4) (g := (some (8, true))) (by kernel_rfl) (HJ (d := 10) (by kernel_rfl) rfl hb44) (f0 := (.func 134)) (aos := #[(.tmp 11), (.const (.string ⟨([10] : R8).toArray⟩))]) (ats := #[95, 9]) (fid := 134) (first := #[]) (cap := #[]) (args := [(pt bp0 0), (.string ⟨(([10] : R8)).toArray⟩)]) rfl BV rfl (B1 N bp0 x0 (some ⟨b34, o35, none⟩) n0_0 hb0_0 hs0_0 (([10] : R8)) hs0 _ hr48) ?_
   rintro _ F2 w50 _ hs51 le52 ⟨rfl, rfl⟩
   refine Vgs hb44 1 ?_
   refine Pk1 hb44 ?_
   obtain rfl := Aa h49
   exact RF ⟨rfl, F2, hs51, le52, fI⟩
  ·refine Ss hb44 3 ?_
   refine Pk0 hb44 ?_
   obtain rfl := Aa h46
   exact RF ⟨rfl, F0, hs0, (RM _), fI⟩
 ·rintro f w21 ⟨F1, hs22, le23, ⟨_, rfl⟩⟩
  refine Ac ?_
  refine Cd h29 (fun hb54 h55 => ?_) (fun hb54 h56 => ?_)
  ·refine Rg [0, 1, 2, 3, 4, 5, 6, 7, 8] ?_
   refine Vs 4 ?_
   refine Ld hs22.at0 ?_
   obtain ⟨x57, hx58, h60⟩ := bind_some h55
   obtain ⟨hi59, hx58'⟩ := As hx58
   obtain ⟨b61, o62, C63, E64, fz65, rfl, hF67, hE68⟩ := RV (RO hs0_0 le23) hx58'
   have hc70 := hE68 _ _ hx58'
   refine Ix hi59 ?_
   refine Vs 1 ?_
   refine Lx 1 (hs22.pers _ _ hF67) hc70 ?_
   obtain ⟨r71, hr72, h73⟩ := bind_some h60
   refine CP AO (AQ N bp0 x0 (some ⟨b61, o62, none⟩) n0_0 hb0_0 (RO hs0_0 le23) 60 x57.at_ hs22 _ hr72) ?_ ?_
   ·rintro _ _ _ _ _ rfl _ _ _; cases hr72
   ·rintro b76 F4 w77 rfl hs78 le79
    have h80 := Bf h73
    obtain rfl := Aa h80
    exact B5 hs78 (le23.trans le79)
  ·refine Sc ?_
   obtain rfl := Aa h56
   exact ReP [] hs22 le23 ⟨rfl, rfl⟩
def D2 (N : Nat) (x0 : Ab) (x1 : (List Expr)) (x2 : Int) : Option (Ah ⊕ Unit) :=
 (bif ((x1.length : Int) == 64) then ((AW N x0 2 x2).bind fun r24 => sk r24 (fun b29 => some (.inl b29)) (fun r27 => none)) else some (.inr ()))
theorem FO : Ak Tryz.prog 137 := fun _ _ => by kernel_rfl
theorem Gd (N : Nat) {wb w0 : World} {Fb F0 : Mem} {Lf : Own} (bp0 : Nat) (x0 : Ab) (a0_0 : R9) (n0_0 : Nat) (hb0_0 : LC x0.l_.length n0_0) (hs0_0 : SlA Af F0 a0_0 x0.l_) (x1 : (List Expr)) (a1_0 : R9) (n1_0 : Nat) (x2 : Int) (hs0 : HS wb Fb w0 F0 ((sb bp0 (Ad x0 a0_0 n0_0) 100) :: Lf)) (r : (Ah ⊕ Unit)) (h : D2 N x0 x1 x2 = some r) :
  Calls Tryz.prog 137 ([(pt bp0 0), (.slice a1_0 x1.length n1_0), (vi x2)] : List Value).toArray w0 (Bx wb Fb F0 Lf r (fun b => (.iface 158 (.agg (AJ b)))) fun a F' v L' => v = (.tuple #[]) /\ L' = (sb bp0 (Ad x0 a0_0 n0_0) 100) :: Lf) := by
 refine Go 12 Tryz.func137 ?_
 refine Sq (Rg [0, 1, 2] ?_)
 refine Vs 3 ?_
 refine Nt ?_
 refine Cd h (fun hb21 h22 => ?_) (fun hb21 h23 => ?_)
 ·refine Rg [0, 1, 2] ?_
  refine Vs 2 ?_
  obtain ⟨r24, hr25, h26⟩ := bind_some h22
  refine CP AO (AQ N bp0 x0 a0_0 n0_0 hb0_0 hs0_0 2 x2 hs0 _ hr25) ?_ ?_
  ·rintro _ _ _ _ _ rfl _ _ _; cases hr25
  ·rintro b29 F2 w30 rfl hs31 le32
   have h33 := Bf h26
   obtain rfl := Aa h33
   exact B5 hs31 le32
 ·refine Sc ?_
  obtain rfl := Aa h23
  exact ReP [] hs0 (RM _) ⟨rfl, rfl⟩
def Db (N : Nat) (x0 : Ab) (x1 : (List Clause)) (x2 : Int) : Option (Ah ⊕ Unit) :=
 (bif ((x1.length : Int) == 64) then ((AW N x0 2 x2).bind fun r24 => sk r24 (fun b29 => some (.inl b29)) (fun r27 => none)) else some (.inr ()))
theorem E3 : Ak Tryz.prog 138 := fun _ _ => by kernel_rfl
theorem Fv (N : Nat) {wb w0 : World} {Fb F0 : Mem} {Lf : Own} (bp0 : Nat) (x0 : Ab) (a0_0 : R9) (n0_0 : Nat) (hb0_0 : LC x0.l_.length n0_0) (hs0_0 : SlA Af F0 a0_0 x0.l_) (x1 : (List Clause)) (a1_0 : R9) (n1_0 : Nat) (x2 : Int) (hs0 : HS wb Fb w0 F0 ((sb bp0 (Ad x0 a0_0 n0_0) 100) :: Lf)) (r : (Ah ⊕ Unit)) (h : Db N x0 x1 x2 = some r) :
  Calls Tryz.prog 138 ([(pt bp0 0), (.slice a1_0 x1.length n1_0), (vi x2)] : List Value).toArray w0 (Bx wb Fb F0 Lf r (fun b => (.iface 158 (.agg (AJ b)))) fun a F' v L' => v = (.tuple #[]) /\ L' = (sb bp0 (Ad x0 a0_0 n0_0) 100) :: Lf) := by
 refine Go 12 Tryz.func138 ?_
 refine Sq (Rg [0, 1, 2] ?_)
 refine Vs 3 ?_
 refine Nt ?_
 refine Cd h (fun hb21 h22 => ?_) (fun hb21 h23 => ?_)
 ·refine Rg [0, 1, 2] ?_
  refine Vs 2 ?_
  obtain ⟨r24, hr25, h26⟩ := bind_some h22
  refine CP AO (AQ N bp0 x0 a0_0 n0_0 hb0_0 hs0_0 2 x2 hs0 _ hr25) ?_ ?_
  ·rintro _ _ _ _ _ rfl _ _ _; cases hr25
  ·rintro b29 F2 w30 rfl hs31 le32
   have h33 := Bf h26
   obtain rfl := Aa h33
   exact B5 hs31 le32
 ·refine Sc ?_
  obtain rfl := Aa h23
  exact ReP [] hs0 (RM _) ⟨rfl, rfl⟩
def HP (b : Nat) (S : R8 -> Option Value) (e : Option Nat × Obj) : Prop :=
 ∃ es clk, e = (some b, .map es clk) /\ ∀ k : R8, ∃ r, Instr.findNow .string (.string ⟨k.toArray⟩) es.toList 0 = some r /\ r.map (·.2) = S k
def Eb (S : R8 -> Option Value) (k : R8) (v : Value) : R8 -> Option Value := fun x => if x = k then some v else S x
theorem Iz {d : TypeDesc} {k : Value} {e : MapEntry} {b : Bool} (hs : Instr.sameNow d k e.key = some b) : ∀ (es : List MapEntry) (i : Nat) (r : Option (Nat × Value)), Instr.findNow d k es i = some r ->
  ∃ r', Instr.findNow d k (es ++ [e]) i = some r' /\ r'.map (·.2) = match r with | some p => some p.2 | none => if b then some e.val else none
 | [], i, r, h => by
  simp only [Instr.findNow, Option.some.injEq] at h; subst h
  cases b with
  | true => exact ⟨some (i, e.val), by simp [Instr.findNow, hs], rfl⟩
  | false => exact ⟨none, by simp [Instr.findNow, hs], rfl⟩
 | x :: es, i, r, h => by
  unfold Instr.findNow at h
  cases hx : Instr.sameNow d k x.key with
  | none => rw [hx] at h; cases h
  | some c =>
   rw [hx] at h
   cases c with
   | true => simp only [Option.some.injEq] at h; subst h; exact ⟨some (i, x.val), by simp [Instr.findNow, hx], rfl⟩
   | false =>
    simp only at h
    obtain ⟨r', h1, h2⟩ := Iz hs es (i + 1) r h
    exact ⟨r', by simp [Instr.findNow, hx, h1], h2⟩
theorem HP.ins {b clk : Nat} {S : R8 -> Option Value} {es : Array MapEntry} (h : ∀ k : R8, ∃ r, Instr.findNow .string (.string ⟨k.toArray⟩) es.toList 0 = some r /\ r.map (·.2) = S k) (k0 : R8) (v : Value) (hn : S k0 = none) :
  HP b (Eb S k0 v) (some b, .map (es.push ⟨.string ⟨k0.toArray⟩, v, clk⟩) (clk + 1)) := by
 refine ⟨_, _, rfl, fun k => ?_⟩
 obtain ⟨r, h1, h2⟩ := h k
 have hs : Instr.sameNow .string (.string ⟨k.toArray⟩) (.string ⟨k0.toArray⟩) = some (decide (k = k0)) := by
  simp only [Instr.sameNow, Option.some.injEq]
  rw [beq_toListBytes, ByteArray.toList_eq, ByteArray.toList_eq, Bool.eq_iff_iff]; simp
 obtain ⟨r', h3, h4⟩ := Iz (e := ⟨.string ⟨k0.toArray⟩, v, clk⟩) hs es.toList 0 r h1
 refine ⟨r', by rw [Array.toList_push]; exact h3, ?_⟩
 rw [h4]
 unfold Eb
 cases r with
 | some p =>
  simp only at h2 ⊢
  have hne : k ≠ k0 := fun e => by rw [e, hn] at h2; cases h2
  rw [if_neg hne, <- h2]; rfl
 | none =>
  simp only at h2 ⊢
  by_cases hk : k = k0
  ·simp [hk]
  ·simp only [hk, decide_false, Bool.false_eq_true, if_false]; rw [<- h2]; rfl
theorem HP.nil (b : Nat) : HP b (fun _ => none) (some b, .map #[] 0) := ⟨_, _, rfl, fun _ => ⟨none, rfl, rfl⟩⟩
theorem HP.congr {b : Nat} {S S' : R8 -> Option Value} {e : Option Nat × Obj} (h : HP b S e) (hs : ∀ k, S k = S' k) : HP b S' e := by
 obtain ⟨es, clk, h1, h2⟩ := h; exact ⟨es, clk, h1, fun k => by rw [<- hs k]; exact h2 k⟩
section
variable {P : Program} {w w0 : World} {F0 F : Mem} {L : Own} {ρ : Operand -> Value} {ty : TypeId}
theorem HS.ownAt' {k : Nat} {e : Option Nat × Obj} (h : HS w0 F0 w F L) (hk : L[k]? = some e) : ∀ b o, e = (some b, o) -> w.heap[b]? = some o := fun b o he => h.ownAt (by rw [hk, he])
theorem MP {mt k vt : TypeId} {m x : Operand} {b : Nat} {S : R8 -> Option Value} {e : Option Nat × Obj} {t : R8} {v : Value} (hm : ρ m = .map (some b)) (hx : ρ x = .string ⟨t.toArray⟩) (hu : P.underlying mt = some (.map k vt)) (hk : P.underlying k = some .string)
  (hw : ∀ b o, e = (some b, o) -> w.heap[b]? = some o) (hp : HP b S e) (hS : S t = some v) : (An ρ (.lookup mt m x true) ty).run P w = .ok (.value (.tuple #[v, .bool true])) w := by
 obtain ⟨es, clk, rfl, h2⟩ := hp
 have hb := hw b _ rfl
 obtain ⟨r, h3, h4⟩ := h2 t
 rw [hS] at h4
 cases r with
 | none => cases h4
 | some p =>
  obtain ⟨i, v'⟩ := p
  simp only [Option.map_some, Option.some.injEq] at h4
  subst h4
  have e : An ρ (.lookup mt m x true) ty = (do pure (Next.value (<- Instr.lookup mt (ρ m) (ρ x) true))) := rfl
  rw [e, hm, hx]
  simp [Instr.lookup, run_underlying hu, MapKept.run_getObj_map hb, MapKept.run_checkKey hk (k := .string ⟨t.toArray⟩) trivial, MapKept.run_findKey hk h3, Result.andThen]
end
section
variable {P : Program} {n : Nat} {R : Array Oper} {PQ : List PanicEntry -> List Deferred -> World -> Prop} {Post : Fr -> World -> Prop} {zz fuel : Nat} {ll l' : List Bool} {zd : Bool} {Fs : Mem} {Lc Lz : Own} {w w0 : World} {F0 F : Mem} {L : Own} {f : Fr} {i : Nat} {dst : Option Nat} {ty : TypeId} {g : Option (Nat × Bool)}
theorem Az.pMake {t : TypeId} (hl : ll.set i true = l') (hzd : l'.toArray.getD zz true = zd) (ho : opq R i = some (dst, .makeMap t none, ty, g)) (hg : gd R f g = true) (hs : HS w0 F0 w F L) (hle : RL Fs F) (hL : ∀ p, p ∈ Lc -> p ∈ L) (hLz : zd = false -> ∀ p, p ∈ Lz -> p ∈ L)
  (kk : ∀ b e w', HS w0 F0 w' F (e :: L) -> HP b (fun _ => none) e -> DWP P n R PQ Post zz (DZ Fs Lc Lz) fuel l' (AX f dst (.map (some b))) w') : Az P n R PQ Post zz (DZ Fs Lc Lz) fuel ll i f w :=
 RY hl hzd ho hg Gg (Bv (hs.alloc _) hle (fun p hp => List.mem_cons_of_mem _ (hL p hp)) (fun e p hp => List.mem_cons_of_mem _ (hLz e p hp))) (kk _ _ _ (hs.alloc _) (HP.nil _))
theorem Az.pIns {mt k vt : TypeId} {m x y : Operand} {b : Nat} {S : R8 -> Option Value} {k0 : R8} {v : Value} {e : Option Nat × Obj} (hl : ll.set i true = l') (hzd : l'.toArray.getD zz true = zd) (ho : opq R i = some (none, .insert mt m x y, ty, g)) (hg : gd R f g = true)
  (hm : fev f m = .map (some b)) (hx : fev f x = .string ⟨k0.toArray⟩) (hy : fev f y = v) (hu : P.underlying mt = some (.map k vt)) (hk : P.underlying k = some .string) (hn : S k0 = none)
  (hs : HS w0 F0 w F (e :: L)) (hp : HP b S e) (hle : RL Fs F) (hL : ∀ p, p ∈ Lc -> p ∈ L) (hLz : zd = false -> ∀ p, p ∈ Lz -> p ∈ L)
  (kk : ∀ e' w', HS w0 F0 w' F (e' :: L) -> HP b (Eb S k0 v) e' -> DWP P n R PQ Post zz (DZ Fs Lc Lz) fuel l' f w') : Az P n R PQ Post zz (DZ Fs Lc Lz) fuel ll i f w := by
 obtain ⟨es, clk, rfl, h2⟩ := hp
 have hb := hs.ownAt (k := 0) rfl
 obtain ⟨r, h3, h4⟩ := h2 k0
 rw [hn] at h4
 have hr : r = none := by cases r with | none => rfl | some p => cases h4
 subst hr
 have hs' := hs.put (k := 0) rfl (.map (es.push ⟨.string ⟨k0.toArray⟩, v, clk⟩) (clk + 1))
 have hset : (setObj b (.map (es.push ⟨.string ⟨k0.toArray⟩, v, clk⟩) (clk + 1))).run P w = .ok () (B4 w b (.map (es.push ⟨.string ⟨k0.toArray⟩, v, clk⟩) (clk + 1))) := by
  rw [MapKept.run_setObj_map _ hb]; rfl
 refine RZ hl hzd ho hg (w' := B4 w b (.map (es.push ⟨.string ⟨k0.toArray⟩, v, clk⟩) (clk + 1))) ?_ (Bv hs' hle (fun p hp => List.mem_cons_of_mem _ (hL p hp)) (fun e p hp => List.mem_cons_of_mem _ (hLz e p hp))) (kk _ _ hs' (HP.ins h2 k0 v hn))
 have e : An (fev f) (.insert mt m x y) ty = (do Instr.mapUpdate mt (fev f m) (fev f x) (fev f y); pure .skip) := rfl
 rw [e, hm, hx, hy]
 simp [Instr.mapUpdate, run_underlying hu, MapKept.run_getObj_map hb, MapKept.run_checkKey hk (k := .string ⟨k0.toArray⟩) trivial, MapKept.run_findKey hk h3, Result.andThen, hset]
abbrev R7 := @Az.pIns
end
def Ej (b : Nat) : R8 -> Option Value := fun t => if t = [112, 111, 105, 110, 116, 115] then some (.pointer (some ⟨b, 0, none⟩)) else if t = [109, 117, 108, 116, 105, 112, 108, 105, 101, 114] then some (.pointer (some ⟨b, 1, none⟩)) else if t = [112, 101, 110, 97, 108, 116, 121] then some (.pointer (some ⟨b, 2, none⟩)) else none
section
variable {b : Nat} {t : R8}
theorem OH (h : (t == ([112, 111, 105, 110, 116, 115] : R8)) = true) : Ej b t = some (.pointer (some ⟨b, 0, none⟩)) := by
 have := eq_of_beq h; subst this; rfl
end
theorem NC {wb w : World} {Fb F : Mem} {L : Own} {f : Fr} {bp : Nat} {Q : Exit -> Fr -> World -> Prop} (hs0 : HS wb Fb w F L) (h1 : f 1 = .pointer (some ⟨bp, 0, none⟩))
  (k : ∀ (f' : Fr) (w' : World) (e : Option Nat × Obj) (b : Nat), HS wb Fb w' F (e :: L) -> HP b (Ej bp) e -> f' 6 = .map (some b) -> (f'.d = f.d /\ f' 0 = f 0 /\ f' 4 = f 4) -> Q .normal f' w') : CWP Tryz.prog none 114 (cs1 (cs2 (cs2 (BQ Tryz.f81)))) Q f w := by
 refine CWP.regionD (by kernel_rfl) (by kernel_rfl) (by kernel_rfl) (by kernel_rfl) (z := 15) (F := F) (Lc := []) (Lz := []) (l := [false, false, false, false, false, false, false, false, false, false, false, false, false, false, false]) (fuel := 15) (by kernel_rfl) (by kernel_rfl) hs0 (by simp) (by simp) (fun f' w' => ∃ e b, HS wb Fb w' F (e :: L) /\ HP b (Ej bp) e /\ f' 6 = .map (some b) /\ f'.d = f.d /\ f' 0 = f 0 /\ f' 4 = f 4) (fun wd hw => ?_) ?_
 ·refine RW (i := 1) (v := (.pointer (some ⟨bp, 0, none⟩))) (zd := true) (dst := (some 49)) (ty := 102) (g := none) (by kernel_rfl) (by kernel_rfl) (by kernel_rfl) (by kernel_rfl) (by kernel_rfl) rfl (fun wq hq => (AN (x := .tmp 1) (v := (.pointer (some ⟨bp, 0, none⟩))) h1)) (l' := [false, true, false, false, false, false, false, false, false, false, false, false, false, false, false]) (by kernel_rfl) ?_
  refine RW (i := 2) (v := (.pointer (some ⟨bp, 0, none⟩))) (zd := true) (dst := (some 50)) (ty := 0) (g := none) (by kernel_rfl) (by kernel_rfl) (by kernel_rfl) (by kernel_rfl) (by kernel_rfl) rfl (fun wq hq => (CT (x := .tmp 49) (a := ⟨bp, 0, none⟩) rfl)) (l' := [false, true, true, false, false, false, false, false, false, false, false, false, false, false, false]) (by kernel_rfl) ?_
  refine RW (i := 3) (v := (.pointer (some ⟨bp, 0, none⟩))) (zd := true) (dst := (some 51)) (ty := 0) (g := none) (by kernel_rfl) (by kernel_rfl) (by kernel_rfl) (by kernel_rfl) (by kernel_rfl) rfl (fun wq hq => (BL (s := 26) (x := .tmp 50) (i := 0) (o := 0) (k := 1) (b := bp) (o0 := 0) rfl (by kernel_rfl) rfl (o1 := 0) rfl)) (l' := [false, true, true, true, false, false, false, false, false, false, false, false, false, false, false]) (by kernel_rfl) ?_
  refine RW (i := 5) (v := (.pointer (some ⟨bp, 0, none⟩))) (zd := true) (dst := (some 52)) (ty := 102) (g := none) (by kernel_rfl) (by kernel_rfl) (by kernel_rfl) (by kernel_rfl) (by kernel_rfl) rfl (fun wq hq => (AN (x := .tmp 1) (v := (.pointer (some ⟨bp, 0, none⟩))) h1)) (l' := [false, true, true, true, false, true, false, false, false, false, false, false, false, false, false]) (by kernel_rfl) ?_
  refine RW (i := 6) (v := (.pointer (some ⟨bp, 0, none⟩))) (zd := true) (dst := (some 53)) (ty := 0) (g := none) (by kernel_rfl) (by kernel_rfl) (by kernel_rfl) (by kernel_rfl) (by kernel_rfl) rfl (fun wq hq => (CT (x := .tmp 52) (a := ⟨bp, 0, none⟩) rfl)) (l' := [false, true, true, true, false, true, true, false, false, false, false, false, false, false, false]) (by kernel_rfl) ?_
  refine RW (i := 7) (v := (.pointer (some ⟨bp, 1, none⟩))) (zd := true) (dst := (some 54)) (ty := 0) (g := none) (by kernel_rfl) (by kernel_rfl) (by kernel_rfl) (by kernel_rfl) (by kernel_rfl) rfl (fun wq hq => (BL (s := 26) (x := .tmp 53) (i := 1) (o := 1) (k := 1) (b := bp) (o0 := 0) rfl (by kernel_rfl) rfl (o1 := 1) rfl)) (l' := [false, true, true, true, false, true, true, true, false, false, false, false, false, false, false]) (by kernel_rfl) ?_
  refine RW (i := 9) (v := (.pointer (some ⟨bp, 0, none⟩))) (zd := true) (dst := (some 55)) (ty := 102) (g := none) (by kernel_rfl) (by kernel_rfl) (by kernel_rfl) (by kernel_rfl) (by kernel_rfl) rfl (fun wq hq => (AN (x := .tmp 1) (v := (.pointer (some ⟨bp, 0, none⟩))) h1)) (l' := [false, true, true, true, false, true, true, true, false, true, false, false, false, false, false]) (by kernel_rfl) ?_
  refine RW (i := 10) (v := (.pointer (some ⟨bp, 0, none⟩))) (zd := true) (dst := (some 56)) (ty := 0) (g := none) (by kernel_rfl) (by kernel_rfl) (by kernel_rfl) (by kernel_rfl) (by kernel_rfl) rfl (fun wq hq => (CT (x := .tmp 55) (a := ⟨bp, 0, none⟩) rfl)) (l' := [false, true, true, true, false, true, true, true, false, true, true, false, false, false, false]) (by kernel_rfl) ?_
  refine RW (i := 11) (v := (.pointer (some ⟨bp, 2, none⟩))) (zd := true) (dst := (some 57)) (ty := 0) (g := none) (by kernel_rfl) (by kernel_rfl) (by kernel_rfl) (by kernel_rfl) (by kernel_rfl) rfl (fun wq hq => (BL (s := 26) (x := .tmp 56) (i := 2) (o := 2) (k := 1) (b := bp) (o0 := 0) rfl (by kernel_rfl) rfl (o1 := 2) rfl)) (l' := [false, true, true, true, false, true, true, true, false, true, true, true, false, false, false]) (by kernel_rfl) ?_
  refine RX (i := 0) (by kernel_rfl) ?_
  refine Az.pMake (l' := [true, true, true, true, false, true, true, true, false, true, true, true, false, false, false]) (zd := true) (by kernel_rfl) (by kernel_rfl) (dst := some 48) (ty := 167) (g := none) (by kernel_rfl) rfl (t := 167) hw (RM _) (by simp) (fun e => by cases e) (fun b e0 w0 hs1 hp0 => ?_)
  refine DWP.three (i := 4) (j := 8) (k := 12) (by kernel_rfl) ?_ ?_ ?_
  ·
   refine R7 (l' := [true, true, true, true, true, true, true, true, false, true, true, true, false, false, false]) (zd := true) (by kernel_rfl) (by kernel_rfl) (ty := 0) (g := none) (by kernel_rfl) rfl (mt := 167) (k := 9) (vt := 166) (m := .tmp 48) (x := .const (.string ⟨([112, 111, 105, 110, 116, 115] : R8).toArray⟩)) (y := .tmp 51) (k0 := [112, 111, 105, 110, 116, 115]) (v := .pointer (some ⟨bp, 0, none⟩)) rfl rfl rfl (by kernel_rfl) (by kernel_rfl) (by simp [Eb]) hs1 hp0 (RM _) (by simp) (fun e => by cases e) (fun e11 w11 hs11 hp11 => ?_)
   refine DWP.two (i := 8) (j := 12) (by kernel_rfl) ?_ ?_
   ·
    refine R7 (l' := [true, true, true, true, true, true, true, true, true, true, true, true, false, false, false]) (zd := true) (by kernel_rfl) (by kernel_rfl) (ty := 0) (g := none) (by kernel_rfl) rfl (mt := 167) (k := 9) (vt := 166) (m := .tmp 48) (x := .const (.string ⟨([109, 117, 108, 116, 105, 112, 108, 105, 101, 114] : R8).toArray⟩)) (y := .tmp 54) (k0 := [109, 117, 108, 116, 105, 112, 108, 105, 101, 114]) (v := .pointer (some ⟨bp, 1, none⟩)) rfl rfl rfl (by kernel_rfl) (by kernel_rfl) (by simp [Eb]) hs11 hp11 (RM _) (by simp) (fun e => by cases e) (fun e12 w12 hs12 hp12 => ?_)
    refine RX (i := 12) (by kernel_rfl) ?_
    refine R7 (l' := [true, true, true, true, true, true, true, true, true, true, true, true, true, false, false]) (zd := true) (by kernel_rfl) (by kernel_rfl) (ty := 0) (g := none) (by kernel_rfl) rfl (mt := 167) (k := 9) (vt := 166) (m := .tmp 48) (x := .const (.string ⟨([112, 101, 110, 97, 108, 116, 121] : R8).toArray⟩)) (y := .tmp 57) (k0 := [112, 101, 110, 97, 108, 116, 121]) (v := .pointer (some ⟨bp, 2, none⟩)) rfl rfl rfl (by kernel_rfl) (by kernel_rfl) (by simp [Eb]) hs12 hp12 (RM _) (by simp) (fun e => by cases e) (fun e13 w13 hs13 hp13 => ?_)
    refine RX (i := 13) (by kernel_rfl) ?_
    refine RY (l' := [true, true, true, true, true, true, true, true, true, true, true, true, true, true, false]) (zd := true) (by kernel_rfl) (by kernel_rfl) (dst := some 58) (ty := 167) (g := none) (by kernel_rfl) rfl (AN (x := .tmp 48) (v := .map (some b)) rfl) (Bv hs13 (RM _) (by simp) (fun e => by cases e)) ?_
    refine RX (i := 14) (by kernel_rfl) ?_
    refine RY (l' := [true, true, true, true, true, true, true, true, true, true, true, true, true, true, true]) (zd := true) (by kernel_rfl) (by kernel_rfl) (dst := some 6) (ty := 167) (g := none) (by kernel_rfl) rfl (AB (x := .tmp 58) (v := .map (some b)) rfl) (Bv hs13 (RM _) (by simp) (fun e => by cases e)) ?_
    exact R3 (by kernel_rfl) ⟨_, b, hs13, hp13.congr (fun k => by by_cases a : k = [112, 111, 105, 110, 116, 115] <;> by_cases b : k = [109, 117, 108, 116, 105, 112, 108, 105, 101, 114] <;> by_cases c : k = [112, 101, 110, 97, 108, 116, 121] <;> simp_all [Eb, Ej]), rfl, rfl, rfl, rfl⟩
   ·
    refine R7 (l' := [true, true, true, true, true, true, true, true, false, true, true, true, true, false, false]) (zd := true) (by kernel_rfl) (by kernel_rfl) (ty := 0) (g := none) (by kernel_rfl) rfl (mt := 167) (k := 9) (vt := 166) (m := .tmp 48) (x := .const (.string ⟨([112, 101, 110, 97, 108, 116, 121] : R8).toArray⟩)) (y := .tmp 57) (k0 := [112, 101, 110, 97, 108, 116, 121]) (v := .pointer (some ⟨bp, 2, none⟩)) rfl rfl rfl (by kernel_rfl) (by kernel_rfl) (by simp [Eb]) hs11 hp11 (RM _) (by simp) (fun e => by cases e) (fun e14 w14 hs14 hp14 => ?_)
    refine RX (i := 8) (by kernel_rfl) ?_
    refine R7 (l' := [true, true, true, true, true, true, true, true, true, true, true, true, true, false, false]) (zd := true) (by kernel_rfl) (by kernel_rfl) (ty := 0) (g := none) (by kernel_rfl) rfl (mt := 167) (k := 9) (vt := 166) (m := .tmp 48) (x := .const (.string ⟨([109, 117, 108, 116, 105, 112, 108, 105, 101, 114] : R8).toArray⟩)) (y := .tmp 54) (k0 := [109, 117, 108, 116, 105, 112, 108, 105, 101, 114]) (v := .pointer (some ⟨bp, 1, none⟩)) rfl rfl rfl (by kernel_rfl) (by kernel_rfl) (by simp [Eb]) hs14 hp14 (RM _) (by simp) (fun e => by cases e) (fun e15 w15 hs15 hp15 => ?_)
    refine RX (i := 13) (by kernel_rfl) ?_
    refine RY (l' := [true, true, true, true, true, true, true, true, true, true, true, true, true, true, false]) (zd := true) (by kernel_rfl) (by kernel_rfl) (dst := some 58) (ty := 167) (g := none) (by kernel_rfl) rfl (AN (x := .tmp 48) (v := .map (some b)) rfl) (Bv hs15 (RM _) (by simp) (fun e => by cases e)) ?_
    refine RX (i := 14) (by kernel_rfl) ?_
    refine RY (l' := [true, true, true, true, true, true, true, true, true, true, true, true, true, true, true]) (zd := true) (by kernel_rfl) (by kernel_rfl) (dst := some 6) (ty := 167) (g := none) (by kernel_rfl) rfl (AB (x := .tmp 58) (v := .map (some b)) rfl) (Bv hs15 (RM _) (by simp) (fun e => by cases e)) ?_
    exact R3 (by kernel_rfl) ⟨_, b, hs15, hp15.congr (fun k => by by_cases a : k = [112, 111, 105, 110, 116, 115] <;> by_cases b : k = [109, 117, 108, 116, 105, 112, 108, 105, 101, 114] <;> by_cases c : k = [112, 101, 110, 97, 108, 116, 121] <;> simp_all [Eb, Ej]), rfl, rfl, rfl, rfl⟩
  ·
   refine R7 (l' := [true, true, true, true, false, true, true, true, true, true, true, true, false, false, false]) (zd := true) (by kernel_rfl) (by kernel_rfl) (ty := 0) (g := none) (by kernel_rfl) rfl (mt := 167) (k := 9) (vt := 166) (m := .tmp 48) (x := .const (.string ⟨([109, 117, 108, 116, 105, 112, 108, 105, 101, 114] : R8).toArray⟩)) (y := .tmp 54) (k0 := [109, 117, 108, 116, 105, 112, 108, 105, 101, 114]) (v := .pointer (some ⟨bp, 1, none⟩)) rfl rfl rfl (by kernel_rfl) (by kernel_rfl) (by simp [Eb]) hs1 hp0 (RM _) (by simp) (fun e => by cases e) (fun e16 w16 hs16 hp16 => ?_)
   refine DWP.two (i := 4) (j := 12) (by kernel_rfl) ?_ ?_
   ·
    refine R7 (l' := [true, true, true, true, true, true, true, true, true, true, true, true, false, false, false]) (zd := true) (by kernel_rfl) (by kernel_rfl) (ty := 0) (g := none) (by kernel_rfl) rfl (mt := 167) (k := 9) (vt := 166) (m := .tmp 48) (x := .const (.string ⟨([112, 111, 105, 110, 116, 115] : R8).toArray⟩)) (y := .tmp 51) (k0 := [112, 111, 105, 110, 116, 115]) (v := .pointer (some ⟨bp, 0, none⟩)) rfl rfl rfl (by kernel_rfl) (by kernel_rfl) (by simp [Eb]) hs16 hp16 (RM _) (by simp) (fun e => by cases e) (fun e17 w17 hs17 hp17 => ?_)
    refine RX (i := 12) (by kernel_rfl) ?_
    refine R7 (l' := [true, true, true, true, true, true, true, true, true, true, true, true, true, false, false]) (zd := true) (by kernel_rfl) (by kernel_rfl) (ty := 0) (g := none) (by kernel_rfl) rfl (mt := 167) (k := 9) (vt := 166) (m := .tmp 48) (x := .const (.string ⟨([112, 101, 110, 97, 108, 116, 121] : R8).toArray⟩)) (y := .tmp 57) (k0 := [112, 101, 110, 97, 108, 116, 121]) (v := .pointer (some ⟨bp, 2, none⟩)) rfl rfl rfl (by kernel_rfl) (by kernel_rfl) (by simp [Eb]) hs17 hp17 (RM _) (by simp) (fun e => by cases e) (fun e18 w18 hs18 hp18 => ?_)
    refine RX (i := 13) (by kernel_rfl) ?_
    refine RY (l' := [true, true, true, true, true, true, true, true, true, true, true, true, true, true, false]) (zd := true) (by kernel_rfl) (by kernel_rfl) (dst := some 58) (ty := 167) (g := none) (by kernel_rfl) rfl (AN (x := .tmp 48) (v := .map (some b)) rfl) (Bv hs18 (RM _) (by simp) (fun e => by cases e)) ?_
    refine RX (i := 14) (by kernel_rfl) ?_
    refine RY (l' := [true, true, true, true, true, true, true, true, true, true, true, true, true, true, true]) (zd := true) (by kernel_rfl) (by kernel_rfl) (dst := some 6) (ty := 167) (g := none) (by kernel_rfl) rfl (AB (x := .tmp 58) (v := .map (some b)) rfl) (Bv hs18 (RM _) (by simp) (fun e => by cases e)) ?_
    exact R3 (by kernel_rfl) ⟨_, b, hs18, hp18.congr (fun k => by by_cases a : k = [112, 111, 105, 110, 116, 115] <;> by_cases b : k = [109, 117, 108, 116, 105, 112, 108, 105, 101, 114] <;> by_cases c : k = [112, 101, 110, 97, 108, 116, 121] <;> simp_all [Eb, Ej]), rfl, rfl, rfl, rfl⟩
   ·
    refine R7 (l' := [true, true, true, true, false, true, true, true, true, true, true, true, true, false, false]) (zd := true) (by kernel_rfl) (by kernel_rfl) (ty := 0) (g := none) (by kernel_rfl) rfl (mt := 167) (k := 9) (vt := 166) (m := .tmp 48) (x := .const (.string ⟨([112, 101, 110, 97, 108, 116, 121] : R8).toArray⟩)) (y := .tmp 57) (k0 := [112, 101, 110, 97, 108, 116, 121]) (v := .pointer (some ⟨bp, 2, none⟩)) rfl rfl rfl (by kernel_rfl) (by kernel_rfl) (by simp [Eb]) hs16 hp16 (RM _) (by simp) (fun e => by cases e) (fun e19 w19 hs19 hp19 => ?_)
    refine RX (i := 4) (by kernel_rfl) ?_
    refine R7 (l' := [true, true, true, true, true, true, true, true, true, true, true, true, true, false, false]) (zd := true) (by kernel_rfl) (by kernel_rfl) (ty := 0) (g := none) (by kernel_rfl) rfl (mt := 167) (k := 9) (vt := 166) (m := .tmp 48) (x := .const (.string ⟨([112, 111, 105, 110, 116, 115] : R8).toArray⟩)) (y := .tmp 51) (k0 := [112, 111, 105, 110, 116, 115]) (v := .pointer (some ⟨bp, 0, none⟩)) rfl rfl rfl (by kernel_rfl) (by kernel_rfl) (by simp [Eb]) hs19 hp19 (RM _) (by simp) (fun e => by cases e) (fun e20 w20 hs20 hp20 => ?_)
    refine RX (i := 13) (by kernel_rfl) ?_
    refine RY (l' := [true, true, true, true, true, true, true, true, true, true, true, true, true, true, false]) (zd := true) (by kernel_rfl) (by kernel_rfl) (dst := some 58) (ty := 167) (g := none) (by kernel_rfl) rfl (AN (x := .tmp 48) (v := .map (some b)) rfl) (Bv hs20 (RM _) (by simp) (fun e => by cases e)) ?_
    refine RX (i := 14) (by kernel_rfl) ?_
    refine RY (l' := [true, true, true, true, true, true, true, true, true, true, true, true, true, true, true]) (zd := true) (by kernel_rfl) (by kernel_rfl) (dst := some 6) (ty := 167) (g := none) (by kernel_rfl) rfl (AB (x := .tmp 58) (v := .map (some b)) rfl) (Bv hs20 (RM _) (by simp) (fun e => by cases e)) ?_
    exact R3 (by kernel_rfl) ⟨_, b, hs20, hp20.congr (fun k => by by_cases a : k = [112, 111, 105, 110, 116, 115] <;> by_cases b : k = [109, 117, 108, 116, 105, 112, 108, 105, 101, 114] <;> by_cases c : k = [112, 101, 110, 97, 108, 116, 121] <;> simp_all [Eb, Ej]), rfl, rfl, rfl, rfl⟩
  ·
   refine R7 (l' := [true, true, true, true, false, true, true, true, false, true, true, true, true, false, false]) (zd := true) (by kernel_rfl) (by kernel_rfl) (ty := 0) (g := none) (by kernel_rfl) rfl (mt := 167) (k := 9) (vt := 166) (m := .tmp 48) (x := .const (.string ⟨([112, 101, 110, 97, 108, 116, 121] : R8).toArray⟩)) (y := .tmp 57) (k0 := [112, 101, 110, 97, 108, 116, 121]) (v := .pointer (some ⟨bp, 2, none⟩)) rfl rfl rfl (by kernel_rfl) (by kernel_rfl) (by simp [Eb]) hs1 hp0 (RM _) (by simp) (fun e => by cases e) (fun e21 w21 hs21 hp21 => ?_)
   refine DWP.two (i := 4) (j := 8) (by kernel_rfl) ?_ ?_
   ·
    refine R7 (l' := [true, true, true, true, true, true, true, true, false, true, true, true, true, false, false]) (zd := true) (by kernel_rfl) (by kernel_rfl) (ty := 0) (g := none) (by kernel_rfl) rfl (mt := 167) (k := 9) (vt := 166) (m := .tmp 48) (x := .const (.string ⟨([112, 111, 105, 110, 116, 115] : R8).toArray⟩)) (y := .tmp 51) (k0 := [112, 111, 105, 110, 116, 115]) (v := .pointer (some ⟨bp, 0, none⟩)) rfl rfl rfl (by kernel_rfl) (by kernel_rfl) (by simp [Eb]) hs21 hp21 (RM _) (by simp) (fun e => by cases e) (fun e22 w22 hs22 hp22 => ?_)
    refine RX (i := 8) (by kernel_rfl) ?_
    refine R7 (l' := [true, true, true, true, true, true, true, true, true, true, true, true, true, false, false]) (zd := true) (by kernel_rfl) (by kernel_rfl) (ty := 0) (g := none) (by kernel_rfl) rfl (mt := 167) (k := 9) (vt := 166) (m := .tmp 48) (x := .const (.string ⟨([109, 117, 108, 116, 105, 112, 108, 105, 101, 114] : R8).toArray⟩)) (y := .tmp 54) (k0 := [109, 117, 108, 116, 105, 112, 108, 105, 101, 114]) (v := .pointer (some ⟨bp, 1, none⟩)) rfl rfl rfl (by kernel_rfl) (by kernel_rfl) (by simp [Eb]) hs22 hp22 (RM _) (by simp) (fun e => by cases e) (fun e23 w23 hs23 hp23 => ?_)
    refine RX (i := 13) (by kernel_rfl) ?_
    refine RY (l' := [true, true, true, true, true, true, true, true, true, true, true, true, true, true, false]) (zd := true) (by kernel_rfl) (by kernel_rfl) (dst := some 58) (ty := 167) (g := none) (by kernel_rfl) rfl (AN (x := .tmp 48) (v := .map (some b)) rfl) (Bv hs23 (RM _) (by simp) (fun e => by cases e)) ?_
    refine RX (i := 14) (by kernel_rfl) ?_
    refine RY (l' := [true, true, true, true, true, true, true, true, true, true, true, true, true, true, true]) (zd := true) (by kernel_rfl) (by kernel_rfl) (dst := some 6) (ty := 167) (g := none) (by kernel_rfl) rfl (AB (x := .tmp 58) (v := .map (some b)) rfl) (Bv hs23 (RM _) (by simp) (fun e => by cases e)) ?_
    exact R3 (by kernel_rfl) ⟨_, b, hs23, hp23.congr (fun k => by by_cases a : k = [112, 111, 105, 110, 116, 115] <;> by_cases b : k = [109, 117, 108, 116, 105, 112, 108, 105, 101, 114] <;> by_cases c : k = [112, 101, 110, 97, 108, 116, 121] <;> simp_all [Eb, Ej]), rfl, rfl, rfl, rfl⟩
   ·
    refine R7 (l' := [true, true, true, true, false, true, true, true, true, true, true, true, true, false, false]) (zd := true) (by kernel_rfl) (by kernel_rfl) (ty := 0) (g := none) (by kernel_rfl) rfl (mt := 167) (k := 9) (vt := 166) (m := .tmp 48) (x := .const (.string ⟨([109, 117, 108, 116, 105, 112, 108, 105, 101, 114] : R8).toArray⟩)) (y := .tmp 54) (k0 := [109, 117, 108, 116, 105, 112, 108, 105, 101, 114]) (v := .pointer (some ⟨bp, 1, none⟩)) rfl rfl rfl (by kernel_rfl) (by kernel_rfl) (by simp [Eb]) hs21 hp21 (RM _) (by simp) (fun e => by cases e) (fun e24 w24 hs24 hp24 => ?_)
    refine RX (i := 4) (by kernel_rfl) ?_
    refine R7 (l' := [true, true, true, true, true, true, true, true, true, true, true, true, true, false, false]) (zd := true) (by kernel_rfl) (by kernel_rfl) (ty := 0) (g := none) (by kernel_rfl) rfl (mt := 167) (k := 9) (vt := 166) (m := .tmp 48) (x := .const (.string ⟨([112, 111, 105, 110, 116, 115] : R8).toArray⟩)) (y := .tmp 51) (k0 := [112, 111, 105, 110, 116, 115]) (v := .pointer (some ⟨bp, 0, none⟩)) rfl rfl rfl (by kernel_rfl) (by kernel_rfl) (by simp [Eb]) hs24 hp24 (RM _) (by simp) (fun e => by cases e) (fun e25 w25 hs25 hp25 => ?_)
    refine RX (i := 13) (by kernel_rfl) ?_
    refine RY (l' := [true, true, true, true, true, true, true, true, true, true, true, true, true, true, false]) (zd := true) (by kernel_rfl) (by kernel_rfl) (dst := some 58) (ty := 167) (g := none) (by kernel_rfl) rfl (AN (x := .tmp 48) (v := .map (some b)) rfl) (Bv hs25 (RM _) (by simp) (fun e => by cases e)) ?_
    refine RX (i := 14) (by kernel_rfl) ?_
    refine RY (l' := [true, true, true, true, true, true, true, true, true, true, true, true, true, true, true]) (zd := true) (by kernel_rfl) (by kernel_rfl) (dst := some 6) (ty := 167) (g := none) (by kernel_rfl) rfl (AB (x := .tmp 58) (v := .map (some b)) rfl) (Bv hs25 (RM _) (by simp) (fun e => by cases e)) ?_
    exact R3 (by kernel_rfl) ⟨_, b, hs25, hp25.congr (fun k => by by_cases a : k = [112, 111, 105, 110, 116, 115] <;> by_cases b : k = [109, 117, 108, 116, 105, 112, 108, 105, 101, 114] <;> by_cases c : k = [112, 101, 110, 97, 108, 116, 121] <;> simp_all [Eb, Ej]), rfl, rfl, rfl, rfl⟩
 ·rintro f' w' ⟨e, b, h1, h2, h3, h4, h5⟩
  exact k f' w' e b h1 h2 h3 ⟨h4, h5⟩
def EN (N : Nat) (x0 : Ab) (x1 : Bp) : Option (Ah ⊕ (Ab × Bp)) :=
 ((idx x0.l_ 0).bind fun x21 => ((Au N x0 ([114, 101, 112, 101, 97, 116] : R8)).bind fun r41 => (bif r41.2 then ((A5 N r41.1 ([58] : R8)).bind fun r51 => sk r51 (fun b242 => some (.inl b242)) (fun r54 => ((BD N r54).bind fun r61 => sk r61 (fun b235 => some (.inl b235)) (fun r64 => ((CM N r64.1).bind fun r77 => sk r77 (fun b228 => some (.inl b228)) (fun r80 => (((D2 N r64.1 x1.Repeats x21.at_).bind fun r100 => sk r100 (fun b110 => some (.inl b110)) (fun r103 => some (.inr ()))).bind fun j92 => sk j92 (fun b222 => some (.inl b222)) (fun J99 => ((BO N r64.1 r64.2 1).bind fun r118 => sk r118 (fun b215 => some (.inl b215)) (fun r121 => (((EG x1.Repeats [({ Op := 0, Value := 0, Kids := ([] : List Expr) } : Expr)]).bind fun r142 => ((idx r142 (x1.Repeats.length : Int)).bind fun x151 => some (r142.set ((x1.Repeats.length : Int) : Int).toNat r64.2.Expr))).bind fun j133 => some (.inr (r64.1, ({ Points := x1.Points, Multipliers := x1.Multipliers, Penalties := x1.Penalties, Repeats := j133 } : Bp)))))))))))))) else (bif (x21.text_ == ([112, 111, 105, 110, 116, 115] : R8)) then ((Au N r41.1 x21.text_).bind fun r264 => (bif (!r264.2) then ((AW N r264.1 60 x21.at_).bind fun r274 => sk r274 (fun b279 => some (.inl b279)) (fun r277 => none)) else ((A5 N r264.1 ([58] : R8)).bind fun r286 => sk r286 (fun b489 => some (.inl b489)) (fun r289 => ((BD N r289).bind fun r296 => sk r296 (fun b482 => some (.inl b482)) (fun r299 => ((A5 N r299.1 ([61, 62] : R8)).bind fun r319 => sk r319 (fun b475 => some (.inl b475)) (fun r322 => ((BD N r322).bind fun r329 => sk r329 (fun b468 => some (.inl b468)) (fun r332 => ((CM N r332.1).bind fun r354 => sk r354 (fun b461 => some (.inl b461)) (fun r357 => (((Db N r332.1 x1.Points x21.at_).bind fun r378 => sk r378 (fun b388 => some (.inl b388)) (fun r381 => some (.inr ()))).bind fun j369 => sk j369 (fun b455 => some (.inl b455)) (fun J377 => ((BO N r332.1 r299.2 2).bind fun r396 => sk r396 (fun b448 => some (.inl b448)) (fun r399 => ((BO N r332.1 r332.2 1).bind fun r406 => sk r406 (fun b441 => some (.inl b441)) (fun r409 => (((EG x1.Points [({ When := r299.2.Expr, Then := r332.2.Expr } : Clause)]).bind fun r430 => some r430).bind fun j421 => some (.inr (r332.1, ({ Points := j421, Multipliers := x1.Multipliers, Penalties := x1.Penalties, Repeats := x1.Repeats } : Bp)))))))))))))))))))))) else none))))
theorem GD : Ak Tryz.prog 81 := fun _ _ => by kernel_rfl
theorem Hb (N : Nat) {wb w0 : World} {Fb F0 : Mem} {Lf : Own} (hG : Ci F0) (bp0 : Nat) (x0 : Ab) (a0_0 : R9) (n0_0 : Nat) (hb0_0 : LC x0.l_.length n0_0) (hs0_0 : SlA Af F0 a0_0 x0.l_) (bp1 : Nat) (x1 : Bp) (a1_0 : R9) (n1_0 : Nat) (e1_0 : Option Nat × Obj) (a1_1 : R9) (n1_1 : Nat) (e1_1 : Option Nat × Obj) (a1_2 : R9) (n1_2 : Nat) (e1_2 : Option Nat × Obj) (a1_3 : R9) (n1_3 : Nat) (e1_3 : Option Nat × Obj) (hr1_0 : Aq Av 56 F0 a1_0 n1_0 x1.Points e1_0) (hr1_1 : Aq Av 56 F0 a1_1 n1_1 x1.Multipliers e1_1) (hr1_2 : Aq Av 56 F0 a1_2 n1_2 x1.Penalties e1_2) (hr1_3 : Aq Ao 33 F0 a1_3 n1_3 x1.Repeats e1_3) (hs0 : HS wb Fb w0 F0 ((sb bp0 (Ad x0 a0_0 n0_0) 100) :: (sb bp1 (AY x1 a1_0 n1_0 a1_1 n1_1 a1_2 n1_2 a1_3 n1_3) 26) :: e1_0 :: e1_1 :: e1_2 :: e1_3 :: Lf)) (r : (Ah ⊕ (Ab × Bp))) (h : EN N x0 x1 = some r) :
  Calls Tryz.prog 81 ([(pt bp0 0), (pt bp1 0)] : List Value).toArray w0 (Bx wb Fb F0 Lf r (fun b => (.iface 158 (.agg (AJ b)))) fun a F' v L' => ∃ (aq0_0 : R9) (nq0_0 : Nat) (aq1_0 : R9) (nq1_0 : Nat) (eq1_0 : Option Nat × Obj) (aq1_1 : R9) (nq1_1 : Nat) (eq1_1 : Option Nat × Obj) (aq1_2 : R9) (nq1_2 : Nat) (eq1_2 : Option Nat × Obj) (aq1_3 : R9) (nq1_3 : Nat) (eq1_3 : Option Nat × Obj), v = (.tuple #[]) /\ L' = (sb bp0 (Ad a.1 aq0_0 nq0_0) 100) :: (sb bp1 (AY a.2 aq1_0 nq1_0 aq1_1 nq1_1 aq1_2 nq1_2 aq1_3 nq1_3) 26) :: eq1_0 :: eq1_1 :: eq1_2 :: eq1_3 :: Lf /\ LC a.1.l_.length nq0_0 /\ SlA Af F' aq0_0 a.1.l_ /\ Aq Av 56 F' aq1_0 nq1_0 a.2.Points eq1_0 /\ Aq Av 56 F' aq1_1 nq1_1 a.2.Multipliers eq1_1 /\ Aq Av 56 F' aq1_2 nq1_2 a.2.Penalties eq1_2 /\ Aq Ao 33 F' aq1_3 nq1_3 a.2.Repeats eq1_3) := by
 refine Go 114 Tryz.func81 ?_
 refine Sq (Rg [0, 1, 2, 3, 4, 5, 6, 7] ?_)
 refine Vs 3 ?_
 refine Ld hs0.at0 ?_
 obtain ⟨x21, hx22, h24⟩ := bind_some h
 obtain ⟨hi23, hx22'⟩ := As hx22
 obtain ⟨b25, o26, C27, E28, fz29, rfl, hF31, hE32⟩ := RV hs0_0 hx22'
 have hc34 := hE32 _ _ hx22'
 refine Ix hi23 ?_
 refine Lx 0 (hs0.pers _ _ hF31) hc34 ?_
 refine Al' 97 #[(vi 0), (vi 0), (.string ⟨(([] : R8)).toArray⟩)] hs0 (fun b35 w36 hs37 => ?_)
 refine St0 (Ba x21) hs37 (fun w38 hs39 => ?_)
 refine Nss ?_
 refine Sq (Rg [0, 1] ?_)
 refine Vs 1 ?_
 have hs40 := hs39.pk6.pk6.pk6.pk6.pk6.pk5
 obtain ⟨r41, hr42, h43⟩ := bind_some h24
 refine CB AG (AH N bp0 x0 (some ⟨b25, o26, none⟩) n0_0 hb0_0 hs0_0 (([114, 101, 112, 101, 97, 116] : R8)) hs40.pk6 _ hr42) ?_
 rintro _ F1 w44 _ hs45 le46 ⟨ar41_0_0, nr41_0_0, rfl, rfl, hbr41_0_0, hsr41_0_0⟩
 refine Nt ?_
 refine Cd h43 (fun hb48 h49 => ?_) (fun hb48 h50 => ?_)
 ·refine Sq (Rg [0, 1] ?_)
  refine Vs 1 ?_
  obtain ⟨r51, hr52, h53⟩ := bind_some h49
  refine CP A2 (A6 N bp0 r41.1 ar41_0_0 nr41_0_0 hbr41_0_0 hsr41_0_0 (([58] : R8)) hs45 _ hr52) ?_ ?_
  ·rintro r54 _ F2 w56 _ rfl hs57 le58 ⟨ar54_0_0, nr54_0_0, rfl, rfl, hbr54_0_0, hsr54_0_0⟩
   have h60 := BG h53
   refine Nss (Rg [0, 1, 2, 3] ?_)
   refine Vs 1 ?_
   obtain ⟨r61, hr62, h63⟩ := bind_some h60
   refine CP BK (BS N (hG.mono (le46.trans le58)) bp0 r54 ar54_0_0 nr54_0_0 hbr54_0_0 hsr54_0_0 hs57 _ hr62) ?_ ?_
   ·rintro r64 _ F3 w66 _ rfl hs67 le68 ⟨ar64_0_0, nr64_0_0, ar64_1_2, nr64_1_2, rfl, rfl, hbr64_0_0, hsr64_0_0, hbr64_1_2, hsr64_1_2⟩
    have h70 := BG h63
    refine Al' 113 #[(vi 0), (vi 0), (.slice none ([] : List Expr).length 0), (vi 0)] hs67 (fun b71 w72 hs73 => ?_)
    refine St0 (Ay r64.2 ar64_1_2 nr64_1_2) hs73 (fun w74 hs75 => ?_)
    refine Nss (Rg [0, 1] ?_)
    refine Vs 1 ?_
    have hs76 := hs75.pk7.pk7.pk7.pk7.pk7.pk7
    obtain ⟨r77, hr78, h79⟩ := bind_some h70
    refine CP De (DU N bp0 r64.1 ar64_0_0 nr64_0_0 hbr64_0_0 hsr64_0_0 hs76.pk6.pk7 _ hr78) ?_ ?_
    ·rintro r80 _ F4 w82 _ rfl hs83 le84 ⟨rfl, rfl⟩
     have h86 := BG h79
     refine Nss ?_
     obtain ⟨j92, hj97, h98⟩ := bind_some h86
     refine RDP 8 8 [(sb bp0 (Ad r64.1 ar64_0_0 nr64_0_0) 100), (sb b71 (Ay r64.2 ar64_1_2 nr64_1_2) 113), (sb b35 (Ba x21) 97), (sb bp1 (AY x1 a1_0 n1_0 a1_1 n1_1 a1_2 n1_2 a1_3 n1_3) 26), e1_0, e1_1, e1_2, e1_3] [] hs83 (fun c d w => d = [] /\ ∃ (b : Ah) (Fp : Mem), j92 = .inl b /\ c = [{ v := (.iface 158 (.agg (AJ b))), recovered := false }] /\ HS wb Fb w Fp Lf /\ RL F4 Fp) (fun f w => ∃ (J99 : Unit), j92 = .inr J99 /\ ∃ (F5 : Mem), HS wb Fb w F5 ((sb bp0 (Ad r64.1 ar64_0_0 nr64_0_0) 100) :: (sb b71 (Ay r64.2 ar64_1_2 nr64_1_2) 113) :: (sb bp1 (AY x1 a1_0 n1_0 a1_1 n1_1 a1_2 n1_2 a1_3 n1_3) 26) :: e1_0 :: e1_1 :: e1_2 :: e1_3 :: Lf) /\ RL F4 F5 /\ FI f [] [(0, (pt bp0 0)), (1, (pt bp1 0)), (5, (pt b71 0))]) (fun wd87 hw88 => ?_) ?_ ?_
     ·refine Dv [0, 1, 2, 3] ?_
      refine Dl 4 (fun _ hq => (hq.1.2 3 _ _ rfl)) ?_
      refine Dv [5] ?_
      refine Dl 6 (fun _ hq => (hq.1.2 2 _ _ rfl)) ?_
      refine D1 7 ?_
      obtain ⟨r100, hr101, h102⟩ := bind_some hj97
      refine DCP FO (Gd N bp0 r64.1 ar64_0_0 nr64_0_0 hbr64_0_0 (RO hsr64_0_0 le84) x1.Repeats a1_3 n1_3 x21.at_ hw88 _ hr101) ?_ ?_
      ·rintro r103 _ F6 w105 _ rfl hs106 le107 ⟨rfl, rfl⟩
       have h109 := BG h102
       refine ⟨Bv hs106 le107 (by simp) (zdT (by kernel_rfl)), ?_⟩
       obtain rfl := Aa h109
       exact R3 (by kernel_rfl) ⟨_, rfl, F6, hs106.dr2, le107, fI⟩
      ·rintro b110 F7 w111 rfl hs112 le113
       have h114 := Bf h102
       obtain rfl := Aa h114
       have hs116 := hs112.dr0.dr0.dr0.dr0.dr0
       exact ⟨rfl, _, _, rfl, rfl, hs116.dr0.dr0, le113⟩
     ·rintro f w89 ⟨J99, rfl, F5, hs90, le91, ⟨_, rfl⟩⟩
      have h117 := BG h98
      refine Ac ?_
      refine Sq (Rg [0, 1, 2] ?_)
      refine Vs 1 ?_
      refine Ld hs90.at1 ?_
      obtain ⟨r118, hr119, h120⟩ := bind_some h117
      refine CP BR (BW N bp0 r64.1 ar64_0_0 nr64_0_0 hbr64_0_0 (RO hsr64_0_0 (le84.trans le91)) r64.2 ar64_1_2 nr64_1_2 hbr64_1_2 (RO hsr64_1_2 (le84.trans le91)) 1 hs90 _ hr119) ?_ ?_
      ·rintro r121 _ F8 w123 _ rfl hs124 le125 ⟨rfl, rfl⟩
       have h127 := BG h120
       refine Nss ?_
       obtain ⟨j133, hj135, h136⟩ := bind_some h127
       refine RD 14 14 [(sb bp0 (Ad r64.1 ar64_0_0 nr64_0_0) 100), (sb b71 (Ay r64.2 ar64_1_2 nr64_1_2) 113), e1_0, e1_1, e1_2] [] hs124 (fun f w => ∃ (F9 : Mem) (aj133_0 : R9) (nj133_0 : Nat) (ej133_0 : Option Nat × Obj), HS wb Fb w F9 ((sb bp0 (Ad r64.1 ar64_0_0 nr64_0_0) 100) :: (sb bp1 #[(.slice a1_0 x1.Points.length n1_0), (.slice a1_1 x1.Multipliers.length n1_1), (.slice a1_2 x1.Penalties.length n1_2), (.slice aj133_0 j133.length nj133_0)] 26) :: e1_0 :: e1_1 :: e1_2 :: ej133_0 :: Lf) /\ RL F8 F9 /\ FI f [] [] /\ Aq Ao 33 F9 aj133_0 nj133_0 j133 ej133_0) (fun wd128 hw129 => ?_) ?_
       ·refine Dv [0, 1, 2, 4] ?_
        refine Dl 5 (fun _ hq => (hq.1.2 1 _ _ rfl)) ?_
        refine DWP.two (i := 3) (j := 7) (by kernel_rfl) ?_ ?_
        ·refine RY (l' := [true, true, true, true, true, true, false, false, false, false, false, false, false, false]) (zd := true) (by kernel_rfl) (by kernel_rfl) (dst := (some 39)) (ty := 24) (g := none) (by kernel_rfl) rfl (BT (t := 24) (x := (.tmp 38)) (b := bp1) (o := 3) (g := false) (s := 1) (C := (AY x1 a1_0 n1_0 a1_1 n1_1 a1_2 n1_2 a1_3 n1_3)) (v := (.slice a1_3 x1.Repeats.length n1_3)) rfl (by kernel_rfl) hw129.at2 rfl rfl rfl) (Bv hw129 (RM _) (by simp) (fun e => by cases e)) ?_
         refine Dv [6] ?_
         refine D1 7 ?_
         refine DBs 33 [(vi 0), (vi 0), (.slice none ([] : List Expr).length 0)] hw129 (RM _) (fun b137 w138 hs139 => ?_)
         have hr141 : Aq Ao 33 F8 (some ⟨b137, 0, none⟩) 1 [({ Op := 0, Value := 0, Kids := ([] : List Expr) } : Expr)] (some b137, .cells ([(vi 0), (vi 0), (.slice none ([] : List Expr).length 0)] : List Value).toArray 33 (0, 0)) := R6 ⟨(A7 ⟨none, 0, rfl, RP, (.inl rfl)⟩), rfl⟩ (by simp)
         refine D1 8 ?_
         obtain ⟨r142, hap143, h144⟩ := bind_some hj135
         refine Rm Pd hs139 (hr1_3.mono (((((le46.trans le58).trans le68).trans le84).trans le91).trans le125)) (hs139.rd0 hr141) hap143 (RM _) (fun a145 n146 e147 w148 hs149 hr150 => ?_)
         obtain ⟨x151, hx152, h154⟩ := bind_some h144
         obtain ⟨hi153, hx152'⟩ := As hx152
         obtain ⟨b155, C156, rfl, rfl, hE159⟩ := Aq.open hr150 hx152'
         have hr160 := hr150
         obtain ⟨ae161_2, ne161_2, hc162, hbe161_2, hse161_2⟩ := (AC (hE159 _ _ hx152'))
         refine Dj 9 hi153 ?_
         refine Dv [11, 12] ?_
         refine DWP.two (i := 10) (j := 13) (by kernel_rfl) ?_ ?_
         ·refine Az.storeRow (l' := [true, true, true, true, true, true, true, true, true, true, true, true, true, false]) (zd := true) (by kernel_rfl) (by kernel_rfl) (ty := 0) (g := none) (by kernel_rfl) rfl (x := (.tmp 45)) (y := (.tmp 41)) (t := 33) (v := (.agg (Ag r64.2.Expr ar64_1_2 nr64_1_2))) (gg := true) (b := b155) (j := ((x1.Repeats.length : Int) : Int).toNat) (C := C156) (T := Ao) (E := 33) (u := r64.2.Expr) rfl rfl (by kernel_rfl) hs149 (k := 7) rfl hr160 hx152' (A7 ⟨ar64_1_2, nr64_1_2, rfl, hbr64_1_2, (RO hsr64_1_2 ((le84.trans le91).trans le125))⟩) rfl (RM _) (fun _ => by simp) (fun e => by cases e) (fun C163 w164 (hs165 : HS wb Fb w164 F8 ((some b137, .cells ([(vi 0), (vi 0), (.slice none ([] : List Expr).length 0)] : List Value).toArray 33 (0, 0)) :: (sb bp0 (Ad r64.1 ar64_0_0 nr64_0_0) 100) :: (sb b71 (Ay r64.2 ar64_1_2 nr64_1_2) 113) :: (sb bp1 (AY x1 a1_0 n1_0 a1_1 n1_1 a1_2 n1_2 a1_3 n1_3) 26) :: e1_0 :: e1_1 :: e1_2 :: (some b155, .cells C163 33 (0, 0)) :: Lf)) hr166 => ?_)
          refine D1 13 ?_
          refine Az.store (l' := [true, true, true, true, true, true, true, true, true, true, true, true, true, true]) (zd := true) (by kernel_rfl) (by kernel_rfl) (ty := 0) (g := none) (by kernel_rfl) rfl (x := (.tmp 47)) (y := (.tmp 44)) (t := 24) (gg := false) (s := 1) (v := (.slice (some ⟨b155, 0, none⟩) (r142.set ((x1.Repeats.length : Int) : Int).toNat r64.2.Expr).length n146)) (b := bp1) (o := 3) (C := (AY x1 a1_0 n1_0 a1_1 n1_1 a1_2 n1_2 a1_3 n1_3)) rfl (Mc rfl) (by kernel_rfl) hs165 (k := 3) rfl rfl rfl rfl (C' := #[(.slice a1_0 x1.Points.length n1_0), (.slice a1_1 x1.Multipliers.length n1_1), (.slice a1_2 x1.Penalties.length n1_2), (.slice (some ⟨b155, 0, none⟩) (r142.set ((x1.Repeats.length : Int) : Int).toNat r64.2.Expr).length n146)]) rfl (RM _) (by simp) (fun e => by cases e) (fun w167 (hs168 : HS wb Fb w167 F8 ((some b137, .cells ([(vi 0), (vi 0), (.slice none ([] : List Expr).length 0)] : List Value).toArray 33 (0, 0)) :: (sb bp0 (Ad r64.1 ar64_0_0 nr64_0_0) 100) :: (sb b71 (Ay r64.2 ar64_1_2 nr64_1_2) 113) :: (sb bp1 #[(.slice a1_0 x1.Points.length n1_0), (.slice a1_1 x1.Multipliers.length n1_1), (.slice a1_2 x1.Penalties.length n1_2), (.slice (some ⟨b155, 0, none⟩) (r142.set ((x1.Repeats.length : Int) : Int).toNat r64.2.Expr).length n146)] 26) :: e1_0 :: e1_1 :: e1_2 :: (some b155, .cells C163 33 (0, 0)) :: Lf)) => ?_)
          obtain rfl := Aa h154
          exact R3 (by kernel_rfl) ⟨F8, (some ⟨b155, 0, none⟩), n146, (some b155, .cells C163 33 (0, 0)), hs168.dr0.dr1, (RM _), fI, hr166⟩
         ·refine QP #[(.slice a1_0 x1.Points.length n1_0), (.slice a1_1 x1.Multipliers.length n1_1), (.slice a1_2 x1.Penalties.length n1_2), (.slice (some ⟨b155, 0, none⟩) r142.length n146)] hs149 (RM _) (fun w169 hs170 => ?_)
          refine D1 10 ?_
          refine Az.storeRow (l' := [true, true, true, true, true, true, true, true, true, true, true, true, true, true]) (zd := true) (by kernel_rfl) (by kernel_rfl) (ty := 0) (g := none) (by kernel_rfl) rfl (x := (.tmp 45)) (y := (.tmp 41)) (t := 33) (v := (.agg (Ag r64.2.Expr ar64_1_2 nr64_1_2))) (gg := true) (b := b155) (j := ((x1.Repeats.length : Int) : Int).toNat) (C := C156) (T := Ao) (E := 33) (u := r64.2.Expr) rfl rfl (by kernel_rfl) hs170 (k := 7) rfl hr160 hx152' (A7 ⟨ar64_1_2, nr64_1_2, rfl, hbr64_1_2, (RO hsr64_1_2 ((le84.trans le91).trans le125))⟩) rfl (RM _) (fun _ => by simp) (fun e => by cases e) (fun C171 w172 (hs173 : HS wb Fb w172 F8 ((some b137, .cells ([(vi 0), (vi 0), (.slice none ([] : List Expr).length 0)] : List Value).toArray 33 (0, 0)) :: (sb bp0 (Ad r64.1 ar64_0_0 nr64_0_0) 100) :: (sb b71 (Ay r64.2 ar64_1_2 nr64_1_2) 113) :: (sb bp1 #[(.slice a1_0 x1.Points.length n1_0), (.slice a1_1 x1.Multipliers.length n1_1), (.slice a1_2 x1.Penalties.length n1_2), (.slice (some ⟨b155, 0, none⟩) r142.length n146)] 26) :: e1_0 :: e1_1 :: e1_2 :: (some b155, .cells C171 33 (0, 0)) :: Lf)) hr174 => ?_)
          have hs175 : HS wb Fb w172 F8 ((some b137, .cells ([(vi 0), (vi 0), (.slice none ([] : List Expr).length 0)] : List Value).toArray 33 (0, 0)) :: (sb bp0 (Ad r64.1 ar64_0_0 nr64_0_0) 100) :: (sb b71 (Ay r64.2 ar64_1_2 nr64_1_2) 113) :: (sb bp1 #[(.slice a1_0 x1.Points.length n1_0), (.slice a1_1 x1.Multipliers.length n1_1), (.slice a1_2 x1.Penalties.length n1_2), (.slice (some ⟨b155, 0, none⟩) (r142.set ((x1.Repeats.length : Int) : Int).toNat r64.2.Expr).length n146)] 26) :: e1_0 :: e1_1 :: e1_2 :: (some b155, .cells C171 33 (0, 0)) :: Lf) := by have hq := hs173; simp only [List.length_set] at hq ⊢; exact hq
          obtain rfl := Aa h154
          exact R3 (by kernel_rfl) ⟨F8, (some ⟨b155, 0, none⟩), n146, (some b155, .cells C171 33 (0, 0)), hs175.dr0.dr1, (RM _), fI, hr174⟩
        ·refine DBs 33 [(vi 0), (vi 0), (.slice none ([] : List Expr).length 0)] hw129 (RM _) (fun b176 w177 hs178 => ?_)
         have hr180 : Aq Ao 33 F8 (some ⟨b176, 0, none⟩) 1 [({ Op := 0, Value := 0, Kids := ([] : List Expr) } : Expr)] (some b176, .cells ([(vi 0), (vi 0), (.slice none ([] : List Expr).length 0)] : List Value).toArray 33 (0, 0)) := R6 ⟨(A7 ⟨none, 0, rfl, RP, (.inl rfl)⟩), rfl⟩ (by simp)
         refine D1 3 ?_
         refine RY (l' := [true, true, true, true, true, true, false, true, false, false, false, false, false, false]) (zd := true) (by kernel_rfl) (by kernel_rfl) (dst := (some 39)) (ty := 24) (g := none) (by kernel_rfl) rfl (BT (t := 24) (x := (.tmp 38)) (b := bp1) (o := 3) (g := false) (s := 1) (C := (AY x1 a1_0 n1_0 a1_1 n1_1 a1_2 n1_2 a1_3 n1_3)) (v := (.slice a1_3 x1.Repeats.length n1_3)) rfl (by kernel_rfl) hs178.at3 rfl rfl rfl) (Bv hs178 (RM _) (by simp) (fun e => by cases e)) ?_
         refine Dv [6] ?_
         refine D1 8 ?_
         obtain ⟨r181, hap182, h183⟩ := bind_some hj135
         refine Rm Pd hs178 (hr1_3.mono (((((le46.trans le58).trans le68).trans le84).trans le91).trans le125)) (hs178.rd0 hr180) hap182 (RM _) (fun a184 n185 e186 w187 hs188 hr189 => ?_)
         obtain ⟨x190, hx191, h193⟩ := bind_some h183
         obtain ⟨hi192, hx191'⟩ := As hx191
         obtain ⟨b194, C195, rfl, rfl, hE198⟩ := Aq.open hr189 hx191'
         have hr199 := hr189
         obtain ⟨ae200_2, ne200_2, hc201, hbe200_2, hse200_2⟩ := (AC (hE198 _ _ hx191'))
         refine Dj 9 hi192 ?_
         refine Dv [11, 12] ?_
         refine DWP.two (i := 10) (j := 13) (by kernel_rfl) ?_ ?_
         ·refine Az.storeRow (l' := [true, true, true, true, true, true, true, true, true, true, true, true, true, false]) (zd := true) (by kernel_rfl) (by kernel_rfl) (ty := 0) (g := none) (by kernel_rfl) rfl (x := (.tmp 45)) (y := (.tmp 41)) (t := 33) (v := (.agg (Ag r64.2.Expr ar64_1_2 nr64_1_2))) (gg := true) (b := b194) (j := ((x1.Repeats.length : Int) : Int).toNat) (C := C195) (T := Ao) (E := 33) (u := r64.2.Expr) rfl rfl (by kernel_rfl) hs188 (k := 7) rfl hr199 hx191' (A7 ⟨ar64_1_2, nr64_1_2, rfl, hbr64_1_2, (RO hsr64_1_2 ((le84.trans le91).trans le125))⟩) rfl (RM _) (fun _ => by simp) (fun e => by cases e) (fun C202 w203 (hs204 : HS wb Fb w203 F8 ((some b176, .cells ([(vi 0), (vi 0), (.slice none ([] : List Expr).length 0)] : List Value).toArray 33 (0, 0)) :: (sb bp0 (Ad r64.1 ar64_0_0 nr64_0_0) 100) :: (sb b71 (Ay r64.2 ar64_1_2 nr64_1_2) 113) :: (sb bp1 (AY x1 a1_0 n1_0 a1_1 n1_1 a1_2 n1_2 a1_3 n1_3) 26) :: e1_0 :: e1_1 :: e1_2 :: (some b194, .cells C202 33 (0, 0)) :: Lf)) hr205 => ?_)
          refine D1 13 ?_
          refine Az.store (l' := [true, true, true, true, true, true, true, true, true, true, true, true, true, true]) (zd := true) (by kernel_rfl) (by kernel_rfl) (ty := 0) (g := none) (by kernel_rfl) rfl (x := (.tmp 47)) (y := (.tmp 44)) (t := 24) (gg := false) (s := 1) (v := (.slice (some ⟨b194, 0, none⟩) (r181.set ((x1.Repeats.length : Int) : Int).toNat r64.2.Expr).length n185)) (b := bp1) (o := 3) (C := (AY x1 a1_0 n1_0 a1_1 n1_1 a1_2 n1_2 a1_3 n1_3)) rfl (Mc rfl) (by kernel_rfl) hs204 (k := 3) rfl rfl rfl rfl (C' := #[(.slice a1_0 x1.Points.length n1_0), (.slice a1_1 x1.Multipliers.length n1_1), (.slice a1_2 x1.Penalties.length n1_2), (.slice (some ⟨b194, 0, none⟩) (r181.set ((x1.Repeats.length : Int) : Int).toNat r64.2.Expr).length n185)]) rfl (RM _) (by simp) (fun e => by cases e) (fun w206 (hs207 : HS wb Fb w206 F8 ((some b176, .cells ([(vi 0), (vi 0), (.slice none ([] : List Expr).length 0)] : List Value).toArray 33 (0, 0)) :: (sb bp0 (Ad r64.1 ar64_0_0 nr64_0_0) 100) :: (sb b71 (Ay r64.2 ar64_1_2 nr64_1_2) 113) :: (sb bp1 #[(.slice a1_0 x1.Points.length n1_0), (.slice a1_1 x1.Multipliers.length n1_1), (.slice a1_2 x1.Penalties.length n1_2), (.slice (some ⟨b194, 0, none⟩) (r181.set ((x1.Repeats.length : Int) : Int).toNat r64.2.Expr).length n185)] 26) :: e1_0 :: e1_1 :: e1_2 :: (some b194, .cells C202 33 (0, 0)) :: Lf)) => ?_)
          obtain rfl := Aa h193
          exact R3 (by kernel_rfl) ⟨F8, (some ⟨b194, 0, none⟩), n185, (some b194, .cells C202 33 (0, 0)), hs207.dr0.dr1, (RM _), fI, hr205⟩
         ·refine QP #[(.slice a1_0 x1.Points.length n1_0), (.slice a1_1 x1.Multipliers.length n1_1), (.slice a1_2 x1.Penalties.length n1_2), (.slice (some ⟨b194, 0, none⟩) r181.length n185)] hs188 (RM _) (fun w208 hs209 => ?_)
          refine D1 10 ?_
          refine Az.storeRow (l' := [true, true, true, true, true, true, true, true, true, true, true, true, true, true]) (zd := true) (by kernel_rfl) (by kernel_rfl) (ty := 0) (g := none) (by kernel_rfl) rfl (x := (.tmp 45)) (y := (.tmp 41)) (t := 33) (v := (.agg (Ag r64.2.Expr ar64_1_2 nr64_1_2))) (gg := true) (b := b194) (j := ((x1.Repeats.length : Int) : Int).toNat) (C := C195) (T := Ao) (E := 33) (u := r64.2.Expr) rfl rfl (by kernel_rfl) hs209 (k := 7) rfl hr199 hx191' (A7 ⟨ar64_1_2, nr64_1_2, rfl, hbr64_1_2, (RO hsr64_1_2 ((le84.trans le91).trans le125))⟩) rfl (RM _) (fun _ => by simp) (fun e => by cases e) (fun C210 w211 (hs212 : HS wb Fb w211 F8 ((some b176, .cells ([(vi 0), (vi 0), (.slice none ([] : List Expr).length 0)] : List Value).toArray 33 (0, 0)) :: (sb bp0 (Ad r64.1 ar64_0_0 nr64_0_0) 100) :: (sb b71 (Ay r64.2 ar64_1_2 nr64_1_2) 113) :: (sb bp1 #[(.slice a1_0 x1.Points.length n1_0), (.slice a1_1 x1.Multipliers.length n1_1), (.slice a1_2 x1.Penalties.length n1_2), (.slice (some ⟨b194, 0, none⟩) r181.length n185)] 26) :: e1_0 :: e1_1 :: e1_2 :: (some b194, .cells C210 33 (0, 0)) :: Lf)) hr213 => ?_)
          have hs214 : HS wb Fb w211 F8 ((some b176, .cells ([(vi 0), (vi 0), (.slice none ([] : List Expr).length 0)] : List Value).toArray 33 (0, 0)) :: (sb bp0 (Ad r64.1 ar64_0_0 nr64_0_0) 100) :: (sb b71 (Ay r64.2 ar64_1_2 nr64_1_2) 113) :: (sb bp1 #[(.slice a1_0 x1.Points.length n1_0), (.slice a1_1 x1.Multipliers.length n1_1), (.slice a1_2 x1.Penalties.length n1_2), (.slice (some ⟨b194, 0, none⟩) (r181.set ((x1.Repeats.length : Int) : Int).toNat r64.2.Expr).length n185)] 26) :: e1_0 :: e1_1 :: e1_2 :: (some b194, .cells C210 33 (0, 0)) :: Lf) := by have hq := hs212; simp only [List.length_set] at hq ⊢; exact hq
          obtain rfl := Aa h193
          exact R3 (by kernel_rfl) ⟨F8, (some ⟨b194, 0, none⟩), n185, (some b194, .cells C210 33 (0, 0)), hs214.dr0.dr1, (RM _), fI, hr213⟩
       ·rintro f w130 ⟨F9, aj133_0, nj133_0, ej133_0, hs131, le132, ⟨_, rfl⟩, hrj133_0⟩
        refine Ac ?_
        refine Rt ?_
        refine Ae ?_
        obtain rfl := Aa h136
        exact ReP [] hs131 ((((((le46.trans le58).trans le68).trans le84).trans le91).trans le125).trans le132) ⟨ar64_0_0, nr64_0_0, a1_0, n1_0, e1_0, a1_1, n1_1, e1_1, a1_2, n1_2, e1_2, aj133_0, nj133_0, ej133_0, rfl, rfl, hbr64_0_0, (RO hsr64_0_0 (((le84.trans le91).trans le125).trans le132)), (hr1_0.mono ((((((le46.trans le58).trans le68).trans le84).trans le91).trans le125).trans le132)), (hr1_1.mono ((((((le46.trans le58).trans le68).trans le84).trans le91).trans le125).trans le132)), (hr1_2.mono ((((((le46.trans le58).trans le68).trans le84).trans le91).trans le125).trans le132)), hrj133_0⟩
      ·rintro b215 F10 w216 rfl hs217 le218
       have h219 := Bf h120
       refine Al ?_
       refine Al ?_
       have hs221 := hs217.dr0.dr0.dr0.dr0.dr0
       obtain rfl := Aa h219
       exact B5 hs221.dr0 (((((le46.trans le58).trans le68).trans le84).trans le91).trans le218)
     ·rintro c f w223 ⟨hd226, b222, F11, rfl, rfl, hs224, le225⟩
      have h227 := Bf h98
      refine Al ?_
      refine Al ?_
      obtain rfl := Aa h227
      exact ⟨hd226, .inr ⟨_, F11, rfl, rfl, hs224, ((((le46.trans le58).trans le68).trans le84).trans le225)⟩⟩
    ·rintro b228 F12 w229 rfl hs230 le231
     have h232 := Bf h79
     refine Al ?_
     refine Al ?_
     have hs234 := hs230.dr0.dr0.dr0.dr0.dr0
     obtain rfl := Aa h232
     exact B5 hs234.dr0.dr0 (((le46.trans le58).trans le68).trans le231)
   ·rintro b235 F13 w236 rfl hs237 le238
    have h239 := Bf h63
    refine Al ?_
    refine Al ?_
    have hs241 := hs237.dr0.dr0.dr0.dr0.dr0
    obtain rfl := Aa h239
    exact B5 hs241.dr0 ((le46.trans le58).trans le238)
  ·rintro b242 F14 w243 rfl hs244 le245
   have h246 := Bf h53
   refine Al ?_
   refine Al ?_
   have hs248 := hs244.dr0.dr0.dr0.dr0.dr0
   obtain rfl := Aa h246
   exact B5 hs248.dr0 (le46.trans le245)
 ·refine Sc ?_
  refine Ac ?_
  refine Sq ?_
  refine NC (L := ((sb bp0 (Ad r41.1 ar41_0_0 nr41_0_0) 100) :: (sb b35 (Ba x21) 97) :: (sb bp1 (AY x1 a1_0 n1_0 a1_1 n1_1 a1_2 n1_2 a1_3 n1_3) 26) :: e1_0 :: e1_1 :: e1_2 :: e1_3 :: Lf)) hs45 rfl (fun f249 w250 e251 b252 hs253 hp254 h255 hkeep => ?_)
  have h256 : f249.d = [] := (hkeep.1).trans rfl
  have h257 : f249 0 = (pt bp0 0) := (hkeep.2.1).trans rfl
  have h258 : f249 4 = (pt b35 0) := (hkeep.2.2).trans rfl
  clear hkeep
  have hs259 : HS wb Fb w250 F1 (e251 :: (sb bp0 (Ad r41.1 ar41_0_0 nr41_0_0) 100) :: (sb b35 (Ba x21) 97) :: (sb bp1 (AY x1 a1_0 n1_0 a1_1 n1_1 a1_2 n1_2 a1_3 n1_3) 26) :: e1_0 :: e1_1 :: e1_2 :: e1_3 :: Lf) := hs253
  refine Ac ?_
  refine Sq (Rg [0, 1, 2, 3, 4, 5, 6, 7, 8] ?_)
  refine V 60 167 (mv 6 (.map (some b252)) h255) ?_
  refine V 61 0 (fa 97 4 2 2 1 b35 0 2 h258) ?_
  refine Ld hs259.at2 ?_
  refine Sp h50 (fun hb260 h261 => ?_) (fun hb260 h262 => ?_)
  ·refine V 63 168 (MP (mt := 167) (k := 9) (vt := 166) (m := (.tmp 60)) (x := (.tmp 62)) rfl rfl (by kernel_rfl) (by kernel_rfl) (hs259.ownAt' (k := 0) rfl) hp254 (OH hb260)) ?_
   refine Vs 5 ?_
   refine Nss ?_
   refine Sq (Rg [0, 1, 2, 3, 4, 5, 6, 7, 8] ?_)
   refine Vs 3 ?_
   refine Vg 69 95 2 false 68 rfl (mv 0 (pt bp0 0) h257) ?_
   refine Vg 70 0 2 false 68 rfl (fa 97 4 2 2 1 b35 0 2 h258) ?_
   refine Vg 71 9 2 false 68 rfl (ld 9 70 b35 2 false 1 (.string ⟨(x21.text_).toArray⟩) hs259.at2) ?_
   have hs263 := hs259.pk7.pk7.pk7.pk7.pk7
   obtain ⟨r264, hr265, h266⟩ := bind_some h261
   refine RWP.callB (dst := (some 72)) (ty := 4) (g := (some (2, false))) (by kernel_rfl) (HJ (d := 68) (by kernel_rfl) rfl rfl) (f0 := (.func 80)) (aos := #[(.tmp 69), (.tmp 71)]) (ats := #[95, 9]) (fid := 80) (first := #[]) (cap := #[]) (args := [(pt bp0 0), (.string ⟨(x21.text_).toArray⟩)]) rfl AG rfl (AH N bp0 r41.1 ar41_0_0 nr41_0_0 hbr41_0_0 hsr41_0_0 x21.text_ hs263.pk7.pk6.pk7 _ hr265) ?_
   rintro _ F15 w267 _ hs268 le269 ⟨ar264_0_0, nr264_0_0, rfl, rfl, hbr264_0_0, hsr264_0_0⟩
   refine Vg 73 4 2 false 68 rfl (L8 (t := 4) (x := (.tmp 72)) (a := r264.2) rfl) ?_
   refine Pk0 (rfl : false = false) ?_
   refine Nt ?_
   refine Cd h266 (fun hb271 h272 => ?_) (fun hb271 h273 => ?_)
   ·refine Rg [0, 1, 2, 3] ?_
    refine V 75 95 (mv 0 (pt bp0 0) h257) ?_
    refine V 76 0 (fa 97 4 1 1 1 b35 0 1 h258) ?_
    refine Ld hs268.at2 ?_
    obtain ⟨r274, hr275, h276⟩ := bind_some h272
    refine CP AO (AQ N bp0 r264.1 ar264_0_0 nr264_0_0 hbr264_0_0 hsr264_0_0 60 x21.at_ hs268 _ hr275) ?_ ?_
    ·rintro _ _ _ _ _ rfl _ _ _; cases hr275
    ·rintro b279 F17 w280 rfl hs281 le282
     have h283 := Bf h276
     refine Al ?_
     have hs285 := hs281.dr0.dr0.dr0.dr0.dr0
     obtain rfl := Aa h283
     exact ⟨h256, .inr ⟨_, F17, rfl, rfl, hs285.dr0.dr0, ((le46.trans le269).trans le282)⟩⟩
   ·refine Sc ?_
    refine Ac ?_
    refine Sq (Rg [0, 1] ?_)
    refine V 79 95 (mv 0 (pt bp0 0) h257) ?_
    obtain ⟨r286, hr287, h288⟩ := bind_some h273
    refine CP A2 (A6 N bp0 r264.1 ar264_0_0 nr264_0_0 hbr264_0_0 hsr264_0_0 (([58] : R8)) hs268 _ hr287) ?_ ?_
    ·rintro r289 _ F18 w291 _ rfl hs292 le293 ⟨ar289_0_0, nr289_0_0, rfl, rfl, hbr289_0_0, hsr289_0_0⟩
     have h295 := BG h288
     refine Nss (Rg [0, 1, 2, 3] ?_)
     refine V 81 95 (mv 0 (pt bp0 0) h257) ?_
     obtain ⟨r296, hr297, h298⟩ := bind_some h295
     refine CP BK (BS N (hG.mono ((le46.trans le269).trans le293)) bp0 r289 ar289_0_0 nr289_0_0 hbr289_0_0 hsr289_0_0 hs292 _ hr297) ?_ ?_
     ·rintro r299 _ F19 w301 _ rfl hs302 le303 ⟨ar299_0_0, nr299_0_0, ar299_1_2, nr299_1_2, rfl, rfl, hbr299_0_0, hsr299_0_0, hbr299_1_2, hsr299_1_2⟩
      have h305 := BG h298
      refine Al' 113 #[(vi 0), (vi 0), (.slice none ([] : List Expr).length 0), (vi 0)] hs302 (fun b306 w307 hs308 => ?_)
      refine St0 (Ay r299.2 ar299_1_2 nr299_1_2) hs308 (fun w309 hs310 => ?_)
      refine Nss (Rg [0, 1] ?_)
      refine V 83 95 (mv 0 (pt bp0 0) h257) ?_
      have hs317 : HS wb Fb w309 F19 (e251 :: (sb b35 (Ba x21) 97) :: (sb bp1 (AY x1 a1_0 n1_0 a1_1 n1_1 a1_2 n1_2 a1_3 n1_3) 26) :: e1_0 :: e1_1 :: e1_2 :: e1_3 :: (sb b306 (Ay r299.2 ar299_1_2 nr299_1_2) 113) :: (sb bp0 (Ad r299.1 ar299_0_0 nr299_0_0) 100) :: Lf) := hs310.pm [2, 3, 4, 5, 6, 7, 8, 0, 1]
      have hs318 : HS wb Fb w309 F19 ((sb bp0 (Ad r299.1 ar299_0_0 nr299_0_0) 100) :: (sb b306 (Ay r299.2 ar299_1_2 nr299_1_2) 113) :: e251 :: (sb b35 (Ba x21) 97) :: (sb bp1 (AY x1 a1_0 n1_0 a1_1 n1_1 a1_2 n1_2 a1_3 n1_3) 26) :: e1_0 :: e1_1 :: e1_2 :: e1_3 :: Lf) := hs317.pk7.pick (k := 8) rfl
      obtain ⟨r319, hr320, h321⟩ := bind_some h305
      refine CP A2 (A6 N bp0 r299.1 ar299_0_0 nr299_0_0 hbr299_0_0 hsr299_0_0 (([61, 62] : R8)) hs318 _ hr320) ?_ ?_
      ·rintro r322 _ F20 w324 _ rfl hs325 le326 ⟨ar322_0_0, nr322_0_0, rfl, rfl, hbr322_0_0, hsr322_0_0⟩
       have h328 := BG h321
       refine Nss (Rg [0, 1, 2, 3] ?_)
       refine V 85 95 (mv 0 (pt bp0 0) h257) ?_
       obtain ⟨r329, hr330, h331⟩ := bind_some h328
       refine CP BK (BS N (hG.mono ((((le46.trans le269).trans le293).trans le303).trans le326)) bp0 r322 ar322_0_0 nr322_0_0 hbr322_0_0 hsr322_0_0 hs325 _ hr330) ?_ ?_
       ·rintro r332 _ F21 w334 _ rfl hs335 le336 ⟨ar332_0_0, nr332_0_0, ar332_1_2, nr332_1_2, rfl, rfl, hbr332_0_0, hsr332_0_0, hbr332_1_2, hsr332_1_2⟩
        have h338 := BG h331
        refine Al' 113 #[(vi 0), (vi 0), (.slice none ([] : List Expr).length 0), (vi 0)] hs335 (fun b339 w340 hs341 => ?_)
        refine St0 (Ay r332.2 ar332_1_2 nr332_1_2) hs341 (fun w342 hs343 => ?_)
        refine Nss (Rg [0, 1] ?_)
        refine V 87 95 (mv 0 (pt bp0 0) h257) ?_
        have hs353 : HS wb Fb w342 F21 ((sb bp0 (Ad r332.1 ar332_0_0 nr332_0_0) 100) :: (sb b339 (Ay r332.2 ar332_1_2 nr332_1_2) 113) :: (sb b306 (Ay r299.2 ar299_1_2 nr299_1_2) 113) :: e251 :: (sb b35 (Ba x21) 97) :: (sb bp1 (AY x1 a1_0 n1_0 a1_1 n1_1 a1_2 n1_2 a1_3 n1_3) 26) :: e1_0 :: e1_1 :: e1_2 :: e1_3 :: Lf) := hs343.pm [1, 0, 2, 3, 4, 5, 6, 7, 8, 9]
        obtain ⟨r354, hr355, h356⟩ := bind_some h338
        refine CP De (DU N bp0 r332.1 ar332_0_0 nr332_0_0 hbr332_0_0 hsr332_0_0 hs353 _ hr355) ?_ ?_
        ·rintro r357 _ F22 w359 _ rfl hs360 le361 ⟨rfl, rfl⟩
         have h363 := BG h356
         refine Nss ?_
         obtain ⟨j369, hj375, h376⟩ := bind_some h363
         refine RDP 7 7 [(sb bp0 (Ad r332.1 ar332_0_0 nr332_0_0) 100), (sb b339 (Ay r332.2 ar332_1_2 nr332_1_2) 113), (sb b306 (Ay r299.2 ar299_1_2 nr299_1_2) 113), e251, (sb b35 (Ba x21) 97), (sb bp1 (AY x1 a1_0 n1_0 a1_1 n1_1 a1_2 n1_2 a1_3 n1_3) 26), e1_0, e1_1, e1_2, e1_3] [] hs360 (fun c d w => d = [] /\ ∃ (b : Ah) (Fp : Mem), j369 = .inl b /\ c = [{ v := (.iface 158 (.agg (AJ b))), recovered := false }] /\ HS wb Fb w Fp Lf /\ RL F22 Fp) (fun f w => ∃ (J377 : Unit), j369 = .inr J377 /\ ∃ (F23 : Mem), HS wb Fb w F23 ((sb bp0 (Ad r332.1 ar332_0_0 nr332_0_0) 100) :: (sb b339 (Ay r332.2 ar332_1_2 nr332_1_2) 113) :: (sb b306 (Ay r299.2 ar299_1_2 nr299_1_2) 113) :: (sb bp1 (AY x1 a1_0 n1_0 a1_1 n1_1 a1_2 n1_2 a1_3 n1_3) 26) :: e1_0 :: e1_1 :: e1_2 :: e1_3 :: Lf) /\ RL F22 F23 /\ FI f [] [(0, (pt bp0 0)), (7, (pt bp1 0)), (9, (pt b306 0)), (10, (pt b339 0))]) (fun wd364 hw365 => ?_) ?_ ?_
         ·refine Dt 0 89 95 _ (fun _ hq => mv 0 (pt bp0 0) h257) ?_
          refine Dv [1, 2] ?_
          refine Dl 3 (fun _ hq => (hq.1.2 5 _ _ rfl)) ?_
          refine Dt 4 93 0 (pt b35 1) (fun _ hq => fa 97 4 1 1 1 b35 0 1 h258) ?_
          refine Dl 5 (fun _ hq => (hq.1.2 4 _ _ rfl)) ?_
          refine D1 6 ?_
          obtain ⟨r378, hr379, h380⟩ := bind_some hj375
          refine DCP E3 (Fv N bp0 r332.1 ar332_0_0 nr332_0_0 hbr332_0_0 (RO hsr332_0_0 le361) x1.Points a1_0 n1_0 x21.at_ hw365 _ hr379) ?_ ?_
          ·rintro r381 _ F24 w383 _ rfl hs384 le385 ⟨rfl, rfl⟩
           have h387 := BG h380
           refine ⟨Bv hs384 le385 (by simp) (zdT (by kernel_rfl)), ?_⟩
           obtain rfl := Aa h387
           exact R3 (by kernel_rfl) ⟨_, rfl, F24, hs384.dr3.dr3, le385, (fJ ⟨h257, rfl, rfl, rfl, trivial⟩ (hd := h256))⟩
          ·rintro b388 F25 w389 rfl hs390 le391
           have h392 := Bf h380
           obtain rfl := Aa h392
           have hs394 := hs390.dr0.dr0.dr0.dr0.dr0
           exact ⟨h256, _, _, rfl, rfl, hs394.dr0.dr0.dr0.dr0, le391⟩
         ·rintro f w366 ⟨J377, rfl, F23, hs367, le368, ⟨_, rfl⟩⟩
          have h395 := BG h376
          refine Ac ?_
          refine Sq (Rg [0, 1, 2] ?_)
          refine Vs 1 ?_
          refine Ld hs367.at2 ?_
          obtain ⟨r396, hr397, h398⟩ := bind_some h395
          refine CP BR (BW N bp0 r332.1 ar332_0_0 nr332_0_0 hbr332_0_0 (RO hsr332_0_0 (le361.trans le368)) r299.2 ar299_1_2 nr299_1_2 hbr299_1_2 (RO hsr299_1_2 (((le326.trans le336).trans le361).trans le368)) 2 hs367 _ hr397) ?_ ?_
          ·rintro r399 _ F26 w401 _ rfl hs402 le403 ⟨rfl, rfl⟩
           have h405 := BG h398
           refine Nss (Rg [0, 1, 2] ?_)
           refine Vs 1 ?_
           refine Ld hs402.at1 ?_
           obtain ⟨r406, hr407, h408⟩ := bind_some h405
           refine CP BR (BW N bp0 r332.1 ar332_0_0 nr332_0_0 hbr332_0_0 (RO hsr332_0_0 ((le361.trans le368).trans le403)) r332.2 ar332_1_2 nr332_1_2 hbr332_1_2 (RO hsr332_1_2 ((le361.trans le368).trans le403)) 1 hs402 _ hr407) ?_ ?_
           ·rintro r409 _ F27 w411 _ rfl hs412 le413 ⟨rfl, rfl⟩
            have h415 := BG h408
            refine Nt ?_
            obtain ⟨j421, hj423, h424⟩ := bind_some h415
            refine RD 12 13 [(sb bp0 (Ad r332.1 ar332_0_0 nr332_0_0) 100), (sb b339 (Ay r332.2 ar332_1_2 nr332_1_2) 113), (sb b306 (Ay r299.2 ar299_1_2 nr299_1_2) 113), e1_1, e1_2, e1_3] [(sb bp1 (AY x1 a1_0 n1_0 a1_1 n1_1 a1_2 n1_2 a1_3 n1_3) 26)] hs412 (fun f w => ∃ (F28 : Mem) (aj421_0 : R9) (nj421_0 : Nat) (ej421_0 : Option Nat × Obj), HS wb Fb w F28 ((sb bp0 (Ad r332.1 ar332_0_0 nr332_0_0) 100) :: (sb bp1 #[(.slice aj421_0 j421.length nj421_0), (.slice a1_1 x1.Multipliers.length n1_1), (.slice a1_2 x1.Penalties.length n1_2), (.slice a1_3 x1.Repeats.length n1_3)] 26) :: ej421_0 :: e1_1 :: e1_2 :: e1_3 :: Lf) /\ RL F27 F28 /\ FI f [] [] /\ Aq Av 56 F28 aj421_0 nj421_0 j421 ej421_0) (fun wd416 hw417 => ?_) ?_
            ·refine Dv [0, 1, 2] ?_
             refine Dl 3 (fun _ hq => ((hq.2 rfl).2 0 _ _ rfl)) ?_
             refine Dv [4] ?_
             refine Dl 5 (fun _ hq => (hq.1.2 2 _ _ rfl)) ?_
             refine Dv [6] ?_
             refine Dl 7 (fun _ hq => (hq.1.2 1 _ _ rfl)) ?_
             refine Dv [8] ?_
             refine D1 9 ?_
             refine DBs 56 [(vi r299.2.Expr.Op), (vi r299.2.Expr.Value), (.slice ar299_1_2 r299.2.Expr.Kids.length nr299_1_2), (vi r332.2.Expr.Op), (vi r332.2.Expr.Value), (.slice ar332_1_2 r332.2.Expr.Kids.length nr332_1_2)] hw417 (RM _) (fun b425 w426 hs427 => ?_)
             have hr429 : Aq Av 56 F27 (some ⟨b425, 0, none⟩) 1 [({ When := r299.2.Expr, Then := r332.2.Expr } : Clause)] (some b425, .cells ([(vi r299.2.Expr.Op), (vi r299.2.Expr.Value), (.slice ar299_1_2 r299.2.Expr.Kids.length nr299_1_2), (vi r332.2.Expr.Op), (vi r332.2.Expr.Value), (.slice ar332_1_2 r332.2.Expr.Kids.length nr332_1_2)] : List Value).toArray 56 (0, 0)) := R6 ⟨⟨ar299_1_2, nr299_1_2, ar332_1_2, nr332_1_2, rfl, hbr299_1_2, (RO hsr299_1_2 (((((le326.trans le336).trans le361).trans le368).trans le403).trans le413)), hbr332_1_2, (RO hsr332_1_2 (((le361.trans le368).trans le403).trans le413))⟩, rfl⟩ (by simp)
             refine D1 10 ?_
             obtain ⟨r430, hap431, h432⟩ := bind_some hj423
             refine RB Od hs427 (hr1_0.mono (((((((((le46.trans le269).trans le293).trans le303).trans le326).trans le336).trans le361).trans le368).trans le403).trans le413)) (hs427.rd0 hr429) hap431 (RM _) (fun a433 n434 e435 w436 hs437 hr438 => ?_)
             refine Dv [11] ?_
             refine D1 12 ?_
             refine Rz #[(.slice a433 r430.length n434), (.slice a1_1 x1.Multipliers.length n1_1), (.slice a1_2 x1.Penalties.length n1_2), (.slice a1_3 x1.Repeats.length n1_3)] hs437 (RM _) (fun w439 hs440 => ?_)
             obtain rfl := Aa h432
             exact R3 (by kernel_rfl) ⟨F27, a433, n434, e435, hs440.dr0.dr1.dr1, (RM _), fI, hr438⟩
            ·rintro f w418 ⟨F28, aj421_0, nj421_0, ej421_0, hs419, le420, ⟨_, rfl⟩, hrj421_0⟩
             obtain rfl := Aa h424
             exact ReP [] hs419 ((((((((((le46.trans le269).trans le293).trans le303).trans le326).trans le336).trans le361).trans le368).trans le403).trans le413).trans le420) ⟨ar332_0_0, nr332_0_0, aj421_0, nj421_0, ej421_0, a1_1, n1_1, e1_1, a1_2, n1_2, e1_2, a1_3, n1_3, e1_3, rfl, rfl, hbr332_0_0, (RO hsr332_0_0 ((((le361.trans le368).trans le403).trans le413).trans le420)), hrj421_0, (hr1_1.mono ((((((((((le46.trans le269).trans le293).trans le303).trans le326).trans le336).trans le361).trans le368).trans le403).trans le413).trans le420)), (hr1_2.mono ((((((((((le46.trans le269).trans le293).trans le303).trans le326).trans le336).trans le361).trans le368).trans le403).trans le413).trans le420)), (hr1_3.mono ((((((((((le46.trans le269).trans le293).trans le303).trans le326).trans le336).trans le361).trans le368).trans le403).trans le413).trans le420))⟩
           ·rintro b441 F29 w442 rfl hs443 le444
            have h445 := Bf h408
            refine Al ?_
            have hs447 := hs443.dr0.dr0.dr0.dr0.dr0
            obtain rfl := Aa h445
            exact B5 hs447.dr0.dr0 (((((((((le46.trans le269).trans le293).trans le303).trans le326).trans le336).trans le361).trans le368).trans le403).trans le444)
          ·rintro b448 F30 w449 rfl hs450 le451
           have h452 := Bf h398
           refine Al ?_
           have hs454 := hs450.dr0.dr0.dr0.dr0.dr0
           obtain rfl := Aa h452
           exact B5 hs454.dr0.dr0 ((((((((le46.trans le269).trans le293).trans le303).trans le326).trans le336).trans le361).trans le368).trans le451)
         ·rintro c f w456 ⟨hd459, b455, F31, rfl, rfl, hs457, le458⟩
          have h460 := Bf h376
          refine Al ?_
          obtain rfl := Aa h460
          exact ⟨hd459, .inr ⟨_, F31, rfl, rfl, hs457, (((((((le46.trans le269).trans le293).trans le303).trans le326).trans le336).trans le361).trans le458)⟩⟩
        ·rintro b461 F32 w462 rfl hs463 le464
         have h465 := Bf h356
         refine Al ?_
         have hs467 := hs463.dr0.dr0.dr0.dr0.dr0
         obtain rfl := Aa h465
         exact ⟨h256, .inr ⟨_, F32, rfl, rfl, hs467.dr0.dr0.dr0.dr0, ((((((le46.trans le269).trans le293).trans le303).trans le326).trans le336).trans le464)⟩⟩
       ·rintro b468 F33 w469 rfl hs470 le471
        have h472 := Bf h331
        refine Al ?_
        have hs474 := hs470.dr0.dr0.dr0.dr0.dr0
        obtain rfl := Aa h472
        exact ⟨h256, .inr ⟨_, F33, rfl, rfl, hs474.dr0.dr0.dr0, (((((le46.trans le269).trans le293).trans le303).trans le326).trans le471)⟩⟩
      ·rintro b475 F34 w476 rfl hs477 le478
       have h479 := Bf h321
       refine Al ?_
       have hs481 := hs477.dr0.dr0.dr0.dr0.dr0
       obtain rfl := Aa h479
       exact ⟨h256, .inr ⟨_, F34, rfl, rfl, hs481.dr0.dr0.dr0, ((((le46.trans le269).trans le293).trans le303).trans le478)⟩⟩
     ·rintro b482 F35 w483 rfl hs484 le485
      have h486 := Bf h298
      refine Al ?_
      have hs488 := hs484.dr0.dr0.dr0.dr0.dr0
      obtain rfl := Aa h486
      exact ⟨h256, .inr ⟨_, F35, rfl, rfl, hs488.dr0.dr0, (((le46.trans le269).trans le293).trans le485)⟩⟩
    ·rintro b489 F36 w490 rfl hs491 le492
     have h493 := Bf h288
     refine Al ?_
     have hs495 := hs491.dr0.dr0.dr0.dr0.dr0
     obtain rfl := Aa h493
     exact ⟨h256, .inr ⟨_, F36, rfl, rfl, hs495.dr0.dr0, ((le46.trans le269).trans le492)⟩⟩
  ·cases h262
def Fi (N : Nat) (x0 : Ab) (z0 : Bp) : (List Ar × Int × List Clause × List Clause × List Clause × List Expr) -> Option (Be (Ah ⊕ (Ab × Bp)) (List Ar × Int × List Clause × List Clause × List Clause × List Expr)) := fun s24 =>
 ((idx s24.1 0).bind fun x42 => (bif (x42.kind_ != 0) then ((Au N ({ l_ := s24.1, open_ := s24.2.1 } : Ab) ([10] : R8)).bind fun r59 => (bif (!r59.2) then ((EN N r59.1 ({ Points := s24.2.2.1, Multipliers := s24.2.2.2.1, Penalties := s24.2.2.2.2.1, Repeats := s24.2.2.2.2.2 } : Bp)).bind fun r69 => sk r69 (fun b80 => some (.ret (.inl b80))) (fun r72 => some (.next (r72.1.l_, r72.1.open_, r72.2.Points, r72.2.Multipliers, r72.2.Penalties, r72.2.Repeats)))) else some (.next (r59.1.l_, r59.1.open_, s24.2.2.1, s24.2.2.2.1, s24.2.2.2.2.1, s24.2.2.2.2.2)))) else some (.done (s24.1, s24.2.1, s24.2.2.1, s24.2.2.2.1, s24.2.2.2.2.1, s24.2.2.2.2.2))))
def Hs (N : Nat) (x0 : Ab) (z0 : Bp) : Option (Ah ⊕ (Ab × Bp)) :=
 ((AZ (Fi N x0 z0) N (x0.l_, x0.open_, z0.Points, z0.Multipliers, z0.Penalties, z0.Repeats)).bind fun o => o.k (fun r => some r) (fun s31 => some (.inr (({ l_ := s31.1, open_ := s31.2.1 } : Ab), ({ Points := s31.2.2.1, Multipliers := s31.2.2.2.1, Penalties := s31.2.2.2.2.1, Repeats := s31.2.2.2.2.2 } : Bp)))))
theorem Jk : Ak Tryz.prog 79 := fun _ _ => by kernel_rfl
theorem J1 (N : Nat) {wb w0 : World} {Fb F0 : Mem} {Lf : Own} (hG : Ci F0) (bp0 : Nat) (x0 : Ab) (a0_0 : R9) (n0_0 : Nat) (hb0_0 : LC x0.l_.length n0_0) (hs0_0 : SlA Af F0 a0_0 x0.l_) (bz0 : Nat) (z0 : Bp) (az0_0 : R9) (nz0_0 : Nat) (ez0_0 : Option Nat × Obj) (az0_1 : R9) (nz0_1 : Nat) (ez0_1 : Option Nat × Obj) (az0_2 : R9) (nz0_2 : Nat) (ez0_2 : Option Nat × Obj) (az0_3 : R9) (nz0_3 : Nat) (ez0_3 : Option Nat × Obj) (hrz0_0 : Aq Av 56 F0 az0_0 nz0_0 z0.Points ez0_0) (hrz0_1 : Aq Av 56 F0 az0_1 nz0_1 z0.Multipliers ez0_1) (hrz0_2 : Aq Av 56 F0 az0_2 nz0_2 z0.Penalties ez0_2) (hrz0_3 : Aq Ao 33 F0 az0_3 nz0_3 z0.Repeats ez0_3) (hs0 : HS wb Fb w0 F0 ((sb bp0 (Ad x0 a0_0 n0_0) 100) :: (sb bz0 (AY z0 az0_0 nz0_0 az0_1 nz0_1 az0_2 nz0_2 az0_3 nz0_3) 26) :: ez0_0 :: ez0_1 :: ez0_2 :: ez0_3 :: Lf)) (r : (Ah ⊕ (Ab × Bp))) (h : Hs N x0 z0 = some r) :
  Calls Tryz.prog 79 ([(pt bp0 0), (pt bz0 0)] : List Value).toArray w0 (Bx wb Fb F0 Lf r (fun b => (.iface 158 (.agg (AJ b)))) fun a F' v L' => ∃ (aq0_0 : R9) (nq0_0 : Nat) (aq1_0 : R9) (nq1_0 : Nat) (eq1_0 : Option Nat × Obj) (aq1_1 : R9) (nq1_1 : Nat) (eq1_1 : Option Nat × Obj) (aq1_2 : R9) (nq1_2 : Nat) (eq1_2 : Option Nat × Obj) (aq1_3 : R9) (nq1_3 : Nat) (eq1_3 : Option Nat × Obj), v = (.tuple #[]) /\ L' = (sb bp0 (Ad a.1 aq0_0 nq0_0) 100) :: (sb bz0 (AY a.2 aq1_0 nq1_0 aq1_1 nq1_1 aq1_2 nq1_2 aq1_3 nq1_3) 26) :: eq1_0 :: eq1_1 :: eq1_2 :: eq1_3 :: Lf /\ LC a.1.l_.length nq0_0 /\ SlA Af F' aq0_0 a.1.l_ /\ Aq Av 56 F' aq1_0 nq1_0 a.2.Points eq1_0 /\ Aq Av 56 F' aq1_1 nq1_1 a.2.Multipliers eq1_1 /\ Aq Av 56 F' aq1_2 nq1_2 a.2.Penalties eq1_2 /\ Aq Ao 33 F' aq1_3 nq1_3 a.2.Repeats eq1_3) := by
 refine Go 16 Tryz.func79 ?_
 obtain ⟨o21, ho22, h23⟩ := bind_some h
 refine RS (fun f w => ∃ (s31 : (List Ar × Int × List Clause × List Clause × List Clause × List Expr)) (F2 : Mem) (as31_0 : R9) (ns31_0 : Nat) (as31_2 : R9) (ns31_2 : Nat) (es31_2 : Option Nat × Obj) (as31_3 : R9) (ns31_3 : Nat) (es31_3 : Option Nat × Obj) (as31_4 : R9) (ns31_4 : Nat) (es31_4 : Option Nat × Obj) (as31_5 : R9) (ns31_5 : Nat) (es31_5 : Option Nat × Obj), o21 = .done s31 /\ HS wb Fb w F2 ((sb bp0 #[(.slice as31_0 s31.1.length ns31_0), (vi s31.2.1)] 100) :: (sb bz0 #[(.slice as31_2 s31.2.2.1.length ns31_2), (.slice as31_3 s31.2.2.2.1.length ns31_3), (.slice as31_4 s31.2.2.2.2.1.length ns31_4), (.slice as31_5 s31.2.2.2.2.2.length ns31_5)] 26) :: es31_2 :: es31_3 :: es31_4 :: es31_5 :: Lf) /\ RL F0 F2 /\ FI f [] [] /\ LC s31.1.length ns31_0 /\ SlA Af F2 as31_0 s31.1 /\ Aq Av 56 F2 as31_2 ns31_2 s31.2.2.1 es31_2 /\ Aq Av 56 F2 as31_3 ns31_3 s31.2.2.2.1 es31_3 /\ Aq Av 56 F2 as31_4 ns31_4 s31.2.2.2.2.1 es31_4 /\ Aq Ao 33 F2 as31_5 ns31_5 s31.2.2.2.2.2 es31_5) ?_ ?_
 ·refine Bk ?_
  refine RK (by kernel_rfl) (fun m f w => ∃ (s24 : (List Ar × Int × List Clause × List Clause × List Clause × List Expr)) (F1 : Mem) (as24_0 : R9) (ns24_0 : Nat) (as24_2 : R9) (ns24_2 : Nat) (es24_2 : Option Nat × Obj) (as24_3 : R9) (ns24_3 : Nat) (es24_3 : Option Nat × Obj) (as24_4 : R9) (ns24_4 : Nat) (es24_4 : Option Nat × Obj) (as24_5 : R9) (ns24_5 : Nat) (es24_5 : Option Nat × Obj), AZ (Fi N x0 z0) m s24 = some o21 /\ HS wb Fb w F1 ((sb bp0 #[(.slice as24_0 s24.1.length ns24_0), (vi s24.2.1)] 100) :: (sb bz0 #[(.slice as24_2 s24.2.2.1.length ns24_2), (.slice as24_3 s24.2.2.2.1.length ns24_3), (.slice as24_4 s24.2.2.2.2.1.length ns24_4), (.slice as24_5 s24.2.2.2.2.2.length ns24_5)] 26) :: es24_2 :: es24_3 :: es24_4 :: es24_5 :: Lf) /\ RL F0 F1 /\ FI f [] [(0, (pt bp0 0)), (1, (pt bz0 0))] /\ LC s24.1.length ns24_0 /\ SlA Af F1 as24_0 s24.1 /\ Aq Av 56 F1 as24_2 ns24_2 s24.2.2.1 es24_2 /\ Aq Av 56 F1 as24_3 ns24_3 s24.2.2.2.1 es24_3 /\ Aq Av 56 F1 as24_4 ns24_4 s24.2.2.2.2.1 es24_4 /\ Aq Ao 33 F1 as24_5 ns24_5 s24.2.2.2.2.2 es24_5) N ⟨(x0.l_, x0.open_, z0.Points, z0.Multipliers, z0.Penalties, z0.Repeats), F0, a0_0, n0_0, az0_0, nz0_0, ez0_0, az0_1, nz0_1, ez0_1, az0_2, nz0_2, ez0_2, az0_3, nz0_3, ez0_3, ho22, hs0, (RM _), fI, hb0_0, hs0_0, hrz0_0, hrz0_1, hrz0_2, hrz0_3⟩ ?_
  rintro m36 f w25 ⟨s24, F1, as24_0, ns24_0, as24_2, ns24_2, es24_2, as24_3, ns24_3, es24_3, as24_4, ns24_4, es24_4, as24_5, ns24_5, es24_5, hit37, hs26, le27, ⟨_, rfl⟩, hbs24_0, hss24_0, hrs24_2, hrs24_3, hrs24_4, hrs24_5⟩
  obtain ⟨m38, fl39, rfl, hb40, hnx41⟩ := AR hit37
  refine Sq ?_
  refine Sq (Rg [0, 1, 2, 3, 4, 5, 6, 7] ?_)
  refine Vs 3 ?_
  refine Ld hs26.at0 ?_
  obtain ⟨x42, hx43, h45⟩ := bind_some hb40
  obtain ⟨hi44, hx43'⟩ := As hx43
  obtain ⟨b46, o47, C48, E49, fz50, rfl, hF52, hE53⟩ := RV hss24_0 hx43'
  have hc55 := hE53 _ _ hx43'
  refine Ix hi44 ?_
  refine Vs 1 ?_
  refine Lx 0 (hs26.pers _ _ hF52) hc55 ?_
  refine Vs 1 ?_
  refine Nt ?_
  refine Cd h45 (fun hb56 h57 => ?_) (fun hb56 h58 => ?_)
  ·refine Sc ?_
   refine Ac ?_
   refine Bk ?_
   refine Sq (Rg [0, 1, 2] ?_)
   refine Vs 1 ?_
   obtain ⟨r59, hr60, h61⟩ := bind_some h57
   refine CB AG (AH N bp0 (({ l_ := s24.1, open_ := s24.2.1 } : Ab)) (some ⟨b46, o47, none⟩) ns24_0 hbs24_0 hss24_0 (([10] : R8)) hs26 _ hr60) ?_
   rintro _ F3 w62 _ hs63 le64 ⟨ar59_0_0, nr59_0_0, rfl, rfl, hbr59_0_0, hsr59_0_0⟩
   refine Vs 1 ?_
   refine Nt ?_
   refine Cd h61 (fun hb66 h67 => ?_) (fun hb66 h68 => ?_)
   ·refine Rg [0, 1] ?_
    refine Vs 1 ?_
    obtain ⟨r69, hr70, h71⟩ := bind_some h67
    refine CP GD (Hb N (hG.mono (le27.trans le64)) bp0 r59.1 ar59_0_0 nr59_0_0 hbr59_0_0 hsr59_0_0 bz0 (({ Points := s24.2.2.1, Multipliers := s24.2.2.2.1, Penalties := s24.2.2.2.2.1, Repeats := s24.2.2.2.2.2 } : Bp)) as24_2 ns24_2 es24_2 as24_3 ns24_3 es24_3 as24_4 ns24_4 es24_4 as24_5 ns24_5 es24_5 (hrs24_2.mono le64) (hrs24_3.mono le64) (hrs24_4.mono le64) (hrs24_5.mono le64) hs63 _ hr70) ?_ ?_
    ·rintro r72 _ F4 w74 _ rfl hs75 le76 ⟨ar72_0_0, nr72_0_0, ar72_1_0, nr72_1_0, er72_1_0, ar72_1_1, nr72_1_1, er72_1_1, ar72_1_2, nr72_1_2, er72_1_2, ar72_1_3, nr72_1_3, er72_1_3, rfl, rfl, hbr72_0_0, hsr72_0_0, hrr72_1_0, hrr72_1_1, hrr72_1_2, hrr72_1_3⟩
     have h78 := BG h71
     refine RF ?_
     refine Ap ?_
     have hn79 := AL h78 hnx41
     exact ⟨m38, Nat.lt_succ_self _, (r72.1.l_, r72.1.open_, r72.2.Points, r72.2.Multipliers, r72.2.Penalties, r72.2.Repeats), F4, ar72_0_0, nr72_0_0, ar72_1_0, nr72_1_0, er72_1_0, ar72_1_1, nr72_1_1, er72_1_1, ar72_1_2, nr72_1_2, er72_1_2, ar72_1_3, nr72_1_3, er72_1_3, hn79, hs75, ((le27.trans le64).trans le76), fI, hbr72_0_0, hsr72_0_0, hrr72_1_0, hrr72_1_1, hrr72_1_2, hrr72_1_3⟩
    ·rintro b80 F5 w81 rfl hs82 le83
     have h84 := Bf h71
     refine AP ?_
     refine Al ?_
     refine AP ?_
     have hret := Bo h84 hnx41
     subst hret
     refine .inr ?_
     obtain rfl := Aa h23
     exact B5 hs82 ((le27.trans le64).trans le83)
   ·refine Sc ?_
    refine Ap ?_
    have hn86 := AL h68 hnx41
    exact ⟨m38, Nat.lt_succ_self _, (r59.1.l_, r59.1.open_, s24.2.2.1, s24.2.2.2.1, s24.2.2.2.2.1, s24.2.2.2.2.2), F3, ar59_0_0, nr59_0_0, as24_2, ns24_2, es24_2, as24_3, ns24_3, es24_3, as24_4, ns24_4, es24_4, as24_5, ns24_5, es24_5, hn86, hs63, (le27.trans le64), fI, hbr59_0_0, hsr59_0_0, (hrs24_2.mono le64), (hrs24_3.mono le64), (hrs24_4.mono le64), (hrs24_5.mono le64)⟩
  ·refine Ex ?_
   refine Ax ?_
   refine Ax ?_
   refine AF rfl ?_
   have ho87 := AU h58 hnx41
   exact .inl ⟨rfl, (s24.1, s24.2.1, s24.2.2.1, s24.2.2.2.1, s24.2.2.2.2.1, s24.2.2.2.2.2), F1, (some ⟨b46, o47, none⟩), ns24_0, as24_2, ns24_2, es24_2, as24_3, ns24_3, es24_3, as24_4, ns24_4, es24_4, as24_5, ns24_5, es24_5, ho87, hs26, le27, fI, hbs24_0, hss24_0, hrs24_2, hrs24_3, hrs24_4, hrs24_5⟩
 ·rintro f w32 ⟨s31, F2, as31_0, ns31_0, as31_2, ns31_2, es31_2, as31_3, ns31_3, es31_3, as31_4, ns31_4, es31_4, as31_5, ns31_5, es31_5, rfl, hs33, le34, ⟨_, rfl⟩, hbs31_0, hss31_0, hrs31_2, hrs31_3, hrs31_4, hrs31_5⟩
  have h88 := Bm h23
  obtain rfl := Aa h88
  exact ReP [] hs33 le34 ⟨as31_0, ns31_0, as31_2, ns31_2, es31_2, as31_3, ns31_3, es31_3, as31_4, ns31_4, es31_4, as31_5, ns31_5, es31_5, rfl, rfl, hbs31_0, hss31_0, hrs31_2, hrs31_3, hrs31_4, hrs31_5⟩
def OP : Expr := { Op := 0, Value := 0, Kids := ([] : List Expr) }
def N1 : Bh := { Expr := OP, at_ := 0 }
def N2 : Bp := { Points := ([] : List Clause), Multipliers := ([] : List Clause), Penalties := ([] : List Clause), Repeats := ([] : List Expr) }
def I3 {α β : Type} (N : Nat) (s : R8) (run : Ab -> Option (Ah ⊕ α)) (z : β) (f : α -> β) : Option (β × Int × Int) :=
 bif decide ((s.length : Int) > 65536) then some (z, 2, 0) else (Gi N s).bind fun l => (run { l_ := l, open_ := 0 }).bind fun q => sk q (fun b => bif b.e_ != 0 then some (z, b.e_, b.at_) else none) (fun a => some (f a, 0, 0))
def B8 (N : Nat) (x0 : R8) : Option (Expr × Int × Int) := I3 N x0 (fun p => EP N p N1) OP (fun a => a.2.Expr)
def DG (N : Nat) (x0 : R8) : Option (Bp × Int × Int) := I3 N x0 (fun p => Hs N p N2) N2 (fun a => a.2)
theorem Nf {α : Type} {b : Bool} {x y : α} (h : b = true) : (bif b then x else y) = x := by subst h; rfl
theorem LV {α : Type} {b : Bool} {x y : α} (h : b = false) : (bif b then x else y) = y := by subst h; rfl
theorem EA : Ak Tryz.prog 25 := fun _ _ => by kernel_rfl
set_option maxRecDepth 100000 in
theorem EW (N : Nat) (w0 : World) (F0 : Mem) (hF : Sa w0 F0) (hG : Ci F0) (x0 : R8) (r : Expr × Int × Int) (h : B8 N x0 = some r) :
  Calls Tryz.prog 25 ([.string ⟨x0.toArray⟩] : List Value).toArray w0 (AK w0 F0 fun F' v => ∃ (aq0_2 : R9) (nq0_2 : Nat), v = (.tuple #[(.agg #[(.int .i64 r.1.Op), (.int .i64 r.1.Value), (.slice aq0_2 r.1.Kids.length nq0_2)]), (.int .i64 r.2.1), (.int .i64 r.2.2)]) /\ LC r.1.Kids.length nq0_2 /\ SlA Ao F' aq0_2 r.1.Kids) := by
 have hs0 := RN hF
 refine DP (n := 21) (c := BQ Tryz.f25) Tryz.func25 (by kernel_rfl) (by kernel_rfl) (by kernel_rfl) ?_
 refine Sq ?_
 refine Rg [0, 1, 2] ?_
 refine RT (dst := some 2) (ty := 0) (g := none) (by kernel_rfl) rfl (t := 33) (z := .agg #[.int .i64 0, .int .i64 0, .slice none 0 0]) (by kernel_rfl) (C := #[.int .i64 0, .int .i64 0, .slice none 0 0]) rfl hs0 (fun b2 w1 hs1 => ?_)
 refine V 3 27 (AB (x := .const (.int .i64 0)) (v := .int .i64 0) rfl) ?_
 refine V 4 3 (AB (x := .const (.int .i64 0)) (v := .int .i64 0) rfl) ?_
 refine RF ?_
 refine Ac ?_
 refine Sq ?_
 refine Rg [0] ?_
 refine RT (dst := some 5) (ty := 0) (g := none) (by kernel_rfl) rfl (t := 113) (z := .agg #[.int .i64 0, .int .i64 0, .slice none 0 0, .int .i64 0]) (by kernel_rfl) (C := #[.int .i64 0, .int .i64 0, .slice none 0 0, .int .i64 0]) rfl hs1 (fun b5 w2 hs2 => ?_)
 refine RF ?_
 refine Ac ?_
 refine Sq ?_
 refine Rg [0, 1, 2, 3, 4, 5, 6, 7] ?_
 refine V 9 9 (AN (x := .tmp 0) (v := .string ⟨x0.toArray⟩) rfl) ?_
 refine V 10 103 (Cs (fn := .func 85) (first := #[]) (cap := #[.tmp 5]) (fl := []) (cl := [.pointer (some ⟨b5, 0, none⟩)]) rfl rfl) ?_
 obtain ⟨X, hX⟩ : ∃ X : Own, X = [(some b2, .cells #[.int .i64 0, .int .i64 0, .slice none 0 0] 33 (0, 0))] := ⟨_, rfl⟩
 refine RH (dst := some 11) (ty := 88) (g := none) (by kernel_rfl) rfl (CC (f := .func 78) (aos := #[.tmp 9, .tmp 10]) (ats := #[9, 103]) (g := 78) (first := #[]) (cap := #[]) (args := [.string ⟨x0.toArray⟩, .func (.func 85) #[] #[.pointer (some ⟨b5, 0, none⟩)]]) rfl Hv rfl)
  (IL N hs2 x0 (g := 85) (cap := [.pointer (some ⟨b5, 0, none⟩)]) GJ (fun o F' L' => match o with
   | none => ∃ (e : Expr) (at_ : Int) (a : R9) (n : Nat), L' = (some b5, .cells #[.int .i64 e.Op, .int .i64 e.Value, .slice a e.Kids.length n, .int .i64 at_] 113 (0, 0)) :: X /\ LC e.Kids.length n /\ SlA Ao F' a e.Kids /\ some (e, (0 : Int), (0 : Int)) = some r
   | some x => (bif x.e_ != 0 then some (OP, x.e_, x.at_) else none) = some r /\ (L' = X \/ ∃ o, L' = (some b5, o) :: X)) ?_ ?_) ?_
 ·intro hc F'
  unfold B8 I3 at h
  rw [Nf hc] at h
  exact ⟨h, .inr ⟨_, by rw [hX]⟩⟩
 ·intro hc
  unfold B8 I3 at h
  rw [LV hc] at h
  obtain ⟨l, hl, h⟩ := bind_some h
  obtain ⟨q, hq, h⟩ := bind_some h
  refine ⟨l, hl, fun w3 F3 be_ ba_ bp a n le3 hb hsl hs3 => ?_⟩
  have hs4 : HS w0 F0 w3 F3 ((some bp, .cells #[.slice a l.length n, .int .i64 0] 100 (0, 0)) :: (some b5, .cells #[.int .i64 0, .int .i64 0, .slice none 0 0, .int .i64 0] 113 (0, 0)) :: (some ba_, ba 0) :: (some be_, be 0) :: X) := by
   rw [hX]; exact (hs3.pick (k := 3) rfl).pick (k := 1) rfl
  refine (Hd N (hG.mono (hs3.le)) bp { l_ := l, open_ := 0 } a n hb hsl b5 N1 none 0 RP (.inl rfl) hs4 q hq).mono ?_
  rintro e w4 (⟨a1, F4, v, L', rfl, rfl, hs5, le5, aq, nq, az, nz, rfl, rfl, h1, h2, h3, h4⟩ | ⟨x, F4, rfl, rfl, hs5, le5⟩)
  ·exact .inl ⟨_, F4, _, rfl, ((hs5.drop 0).pick (k := 2) rfl).pick (k := 2) rfl, le5, _, _, az, nz, rfl, h3, h4, h⟩
  ·exact .inr ⟨x, F4, _, rfl, hs5, le5, h, .inl rfl⟩
 ·rintro e w5 ⟨o, F5, L5, rfl, hs5, le5, hK⟩
  cases o with
  | none =>
   obtain ⟨e, at_, a, n, rfl, hb, hsl, hr⟩ := hK
   simp only
   refine V 8 88 (AN (x := .tmp 11) (v := .tuple #[.int .i64 0, .int .i64 0]) rfl) ?_
   refine V 12 27 (Bu (x := .tmp 8) (vs := #[.int .i64 0, .int .i64 0]) (i := 0) (v := .int .i64 0) rfl rfl) ?_
   refine V 13 3 (Bu (x := .tmp 8) (vs := #[.int .i64 0, .int .i64 0]) (i := 1) (v := .int .i64 0) rfl rfl) ?_
   refine V 6 27 (AB (x := .tmp 12) (v := .int .i64 0) rfl) ?_
   refine V 7 3 (AB (x := .tmp 13) (v := .int .i64 0) rfl) ?_
   refine RF ?_
   refine Ac ?_
   refine Sq ?_
   refine Sq ?_
   refine Rg [0, 1] ?_
   refine V 14 27 (AN (x := .tmp 6) (v := .int .i64 0) rfl) ?_
   refine V 15 4 (HW (t := 27) (t' := 27) (x := .tmp 14) (y := .const (.int .i64 0)) (k := .i64) (a := 0) (b := 0) rfl rfl) ?_
   refine RF ?_
   refine Ac ?_
   refine CWP.cond0 (t := false) (by kernel_rfl) rfl rfl ?_
   refine RI (by kernel_rfl) ?_
   refine Ac ?_
   refine Sq ?_
   refine Rg [0, 1, 2, 3, 4] ?_
   refine V 19 0 (BL (s := 113) (x := .tmp 5) (i := 0) (o := 0) (k := 3) (b := b5) (o0 := 0) rfl (by kernel_rfl) rfl (o1 := 0) rfl) ?_
   refine V 20 33 (BT (t := 33) (x := .tmp 19) (b := b5) (o := 0) (g := true) (s := 3) (C := #[.int .i64 e.Op, .int .i64 e.Value, .slice a e.Kids.length n, .int .i64 at_]) (v := .agg #[.int .i64 e.Op, .int .i64 e.Value, .slice a e.Kids.length n]) rfl (by kernel_rfl) (hs5.ownAt (k := 0) rfl) rfl rfl rfl) ?_
   subst hX
   refine RU (ty := 0) (g := none) (by kernel_rfl) rfl (x := .tmp 2) (y := .tmp 20) (t := 33) (gg := true) (s := 3) (v := .agg #[.int .i64 e.Op, .int .i64 e.Value, .slice a e.Kids.length n]) (b := b2) (o := 0) (C := #[.int .i64 0, .int .i64 0, .slice none 0 0]) rfl rfl (by kernel_rfl) hs5 (k := 1) rfl rfl rfl rfl (C' := #[.int .i64 e.Op, .int .i64 e.Value, .slice a e.Kids.length n]) rfl (fun w6 hs6 => ?_)
   refine V 3 27 (AB (x := .const (.int .i64 0)) (v := .int .i64 0) rfl) ?_
   refine V 4 3 (AB (x := .const (.int .i64 0)) (v := .int .i64 0) rfl) ?_
   refine RF ?_
   refine Ac ?_
   refine CWP.ret (by kernel_rfl) ?_
   obtain rfl := Aa hr
   exact ⟨rfl, _, AA (l := [.cell 2 33, .tmp 3, .tmp 4]) (by kernel_rfl) (vs := [.agg #[.int .i64 e.Op, .int .i64 e.Value, .slice a e.Kids.length n], .int .i64 0, .int .i64 0]) ⟨b2, 0, rfl, Aj (t := 33) (g := true) (s := 3) (by kernel_rfl) (hs6.ownAt (k := 1) rfl) rfl (by decide), rfl, rfl, trivial⟩, _, F5, rfl, hs6.clear, a, n, rfl, hb, hsl⟩
  | some x =>
   obtain ⟨hr, hL⟩ := hK
   have hs6 : HS w0 F0 w5 F5 X := by
    rcases hL with rfl | ⟨o, rfl⟩
    ·exact hs5
    ·exact hs5.drop 0
   clear hs5 hL
   cases hne : x.e_ != 0 with
   | false => rw [hne] at hr; cases hr
   | true =>
    rw [hne] at hr
    obtain rfl := Aa hr
    simp only
    refine V 8 88 (AN (x := .tmp 11) (v := .tuple #[.int .i64 x.e_, .int .i64 x.at_]) rfl) ?_
    refine V 12 27 (Bu (x := .tmp 8) (vs := #[.int .i64 x.e_, .int .i64 x.at_]) (i := 0) (v := .int .i64 x.e_) rfl rfl) ?_
    refine V 13 3 (Bu (x := .tmp 8) (vs := #[.int .i64 x.e_, .int .i64 x.at_]) (i := 1) (v := .int .i64 x.at_) rfl rfl) ?_
    refine V 6 27 (AB (x := .tmp 12) (v := .int .i64 x.e_) rfl) ?_
    refine V 7 3 (AB (x := .tmp 13) (v := .int .i64 x.at_) rfl) ?_
    refine RF ?_
    refine Ac ?_
    refine Sq ?_
    refine Sq ?_
    refine Rg [0, 1] ?_
    refine V 14 27 (AN (x := .tmp 6) (v := .int .i64 x.e_) rfl) ?_
    refine V 15 4 (HW (t := 27) (t' := 27) (x := .tmp 14) (y := .const (.int .i64 0)) (k := .i64) (a := x.e_) (b := 0) rfl rfl) ?_
    refine RF ?_
    refine Ac ?_
    refine CWP.cond1 (t := x.e_ != 0) (by kernel_rfl) rfl hne ?_
    refine Sq ?_
    refine Rg [0, 1, 2, 3, 4, 5] ?_
    refine V 16 33 (FE (t := 33) (parts := #[]) (vs := []) rfl (cs := [.int .i64 0, .int .i64 0, .slice none 0 0]) (by kernel_rfl)) ?_
    refine V 17 27 (AN (x := .tmp 6) (v := .int .i64 x.e_) rfl) ?_
    refine V 18 3 (AN (x := .tmp 7) (v := .int .i64 x.at_) rfl) ?_
    subst hX
    refine RU (ty := 0) (g := none) (by kernel_rfl) rfl (x := .tmp 2) (y := .tmp 16) (t := 33) (gg := true) (s := 3) (v := .agg #[.int .i64 0, .int .i64 0, .slice none 0 0]) (b := b2) (o := 0) (C := #[.int .i64 0, .int .i64 0, .slice none 0 0]) rfl rfl (by kernel_rfl) hs6 (k := 0) rfl rfl rfl rfl (C' := #[.int .i64 0, .int .i64 0, .slice none 0 0]) rfl (fun w7 hs7 => ?_)
    refine V 3 27 (AB (x := .tmp 17) (v := .int .i64 x.e_) rfl) ?_
    refine V 4 3 (AB (x := .tmp 18) (v := .int .i64 x.at_) rfl) ?_
    refine RF ?_
    refine Ac ?_
    refine CWP.ret (by kernel_rfl) ?_
    refine Ae ?_
    exact ⟨rfl, _, AA (l := [.cell 2 33, .tmp 3, .tmp 4]) (by kernel_rfl) (vs := [.agg #[.int .i64 0, .int .i64 0, .slice none 0 0], .int .i64 x.e_, .int .i64 x.at_]) ⟨b2, 0, rfl, Aj (t := 33) (g := true) (s := 3) (by kernel_rfl) (hs7.ownAt (k := 0) rfl) rfl (by decide), rfl, rfl, trivial⟩, _, F5, rfl, hs7.clear, none, 0, rfl, RP, .inl rfl⟩
theorem GK : Ak Tryz.prog 22 := fun _ _ => by kernel_rfl
set_option maxRecDepth 100000 in
theorem Hy (N : Nat) (w0 : World) (F0 : Mem) (hF : Sa w0 F0) (hG : Ci F0) (x0 : R8) (r : Bp × Int × Int) (h : DG N x0 = some r) :
  Calls Tryz.prog 22 ([.string ⟨x0.toArray⟩] : List Value).toArray w0 (AK w0 F0 fun F' v => ∃ (aq0_0 : R9) (nq0_0 : Nat) (aq0_1 : R9) (nq0_1 : Nat) (aq0_2 : R9) (nq0_2 : Nat) (aq0_3 : R9) (nq0_3 : Nat), v = (.tuple #[(.agg #[(.slice aq0_0 r.1.Points.length nq0_0), (.slice aq0_1 r.1.Multipliers.length nq0_1), (.slice aq0_2 r.1.Penalties.length nq0_2), (.slice aq0_3 r.1.Repeats.length nq0_3)]), (.int .i64 r.2.1), (.int .i64 r.2.2)]) /\ LC r.1.Points.length nq0_0 /\ SlA Av F' aq0_0 r.1.Points /\ LC r.1.Multipliers.length nq0_1 /\ SlA Av F' aq0_1 r.1.Multipliers /\ LC r.1.Penalties.length nq0_2 /\ SlA Av F' aq0_2 r.1.Penalties /\ LC r.1.Repeats.length nq0_3 /\ SlA Ao F' aq0_3 r.1.Repeats) := by
 have hs0 := RN hF
 refine DP (n := 20) (c := BQ Tryz.f22) Tryz.func22 (by kernel_rfl) (by kernel_rfl) (by kernel_rfl) ?_
 refine Sq ?_
 refine Rg [0, 1, 2] ?_
 refine RT (dst := some 2) (ty := 0) (g := none) (by kernel_rfl) rfl (t := 26) (z := .agg #[.slice none 0 0, .slice none 0 0, .slice none 0 0, .slice none 0 0]) (by kernel_rfl) (C := #[.slice none 0 0, .slice none 0 0, .slice none 0 0, .slice none 0 0]) rfl hs0 (fun b2 w1 hs1 => ?_)
 refine V 3 27 (AB (x := .const (.int .i64 0)) (v := .int .i64 0) rfl) ?_
 refine V 4 3 (AB (x := .const (.int .i64 0)) (v := .int .i64 0) rfl) ?_
 refine RF ?_
 refine Ac ?_
 refine Sq ?_
 refine Rg [0] ?_
 refine RT (dst := some 5) (ty := 0) (g := none) (by kernel_rfl) rfl (t := 26) (z := .agg #[.slice none 0 0, .slice none 0 0, .slice none 0 0, .slice none 0 0]) (by kernel_rfl) (C := #[.slice none 0 0, .slice none 0 0, .slice none 0 0, .slice none 0 0]) rfl hs1 (fun b5 w2 hs2 => ?_)
 refine RF ?_
 refine Ac ?_
 refine Sq ?_
 refine Rg [0, 1, 2, 3, 4, 5, 6, 7] ?_
 refine V 9 9 (AN (x := .tmp 0) (v := .string ⟨x0.toArray⟩) rfl) ?_
 refine V 10 103 (Cs (fn := .func 79) (first := #[]) (cap := #[.tmp 5]) (fl := []) (cl := [.pointer (some ⟨b5, 0, none⟩)]) rfl rfl) ?_
 obtain ⟨X, hX⟩ : ∃ X : Own, X = [(some b2, .cells #[.slice none 0 0, .slice none 0 0, .slice none 0 0, .slice none 0 0] 26 (0, 0))] := ⟨_, rfl⟩
 refine RH (dst := some 11) (ty := 88) (g := none) (by kernel_rfl) rfl (CC (f := .func 78) (aos := #[.tmp 9, .tmp 10]) (ats := #[9, 103]) (g := 78) (first := #[]) (cap := #[]) (args := [.string ⟨x0.toArray⟩, .func (.func 79) #[] #[.pointer (some ⟨b5, 0, none⟩)]]) rfl Hv rfl)
  (IL N hs2 x0 (g := 79) (cap := [.pointer (some ⟨b5, 0, none⟩)]) Jk (fun o F' L' => match o with
   | none => ∃ (e : Bp) (a0 : R9) (n0 : Nat) (a1 : R9) (n1 : Nat) (a2 : R9) (n2 : Nat) (a3 : R9) (n3 : Nat), L' = (some b5, .cells #[.slice a0 e.Points.length n0, .slice a1 e.Multipliers.length n1, .slice a2 e.Penalties.length n2, .slice a3 e.Repeats.length n3] 26 (0, 0)) :: X /\ LC e.Points.length n0 /\ SlA Av F' a0 e.Points /\ LC e.Multipliers.length n1 /\ SlA Av F' a1 e.Multipliers /\ LC e.Penalties.length n2 /\ SlA Av F' a2 e.Penalties /\ LC e.Repeats.length n3 /\ SlA Ao F' a3 e.Repeats /\ some (e, (0 : Int), (0 : Int)) = some r
   | some x => (bif x.e_ != 0 then some (N2, x.e_, x.at_) else none) = some r /\ (L' = X \/ ∃ o, L' = (some b5, o) :: X)) ?_ ?_) ?_
 ·intro hc F'
  unfold DG I3 at h
  rw [Nf hc] at h
  exact ⟨h, .inr ⟨_, by rw [hX]⟩⟩
 ·intro hc
  unfold DG I3 at h
  rw [LV hc] at h
  obtain ⟨l, hl, h⟩ := bind_some h
  obtain ⟨q, hq, h⟩ := bind_some h
  refine ⟨l, hl, fun w3 F3 be_ ba_ bp a n le3 hb hsl hs3 => ?_⟩
  have hs4 : HS w0 F0 w3 F3 ((some bp, .cells #[.slice a l.length n, .int .i64 0] 100 (0, 0)) :: (some b5, .cells #[.slice none 0 0, .slice none 0 0, .slice none 0 0, .slice none 0 0] 26 (0, 0)) :: (none, .cells #[] 0 (0, 0)) :: (none, .cells #[] 0 (0, 0)) :: (none, .cells #[] 0 (0, 0)) :: (none, .cells #[] 0 (0, 0)) :: (some ba_, ba 0) :: (some be_, be 0) :: X) := by
   have h0 : HS w0 F0 w3 F3 ((some bp, .cells #[.slice a l.length n, .int .i64 0] 100 (0, 0)) :: (some b5, .cells #[.slice none 0 0, .slice none 0 0, .slice none 0 0, .slice none 0 0] 26 (0, 0)) :: (some ba_, ba 0) :: (some be_, be 0) :: X) := by
    rw [hX]; exact (hs3.pick (k := 3) rfl).pick (k := 1) rfl
   exact (((((h0.dummy (.cells #[] 0 (0, 0))).dummy (.cells #[] 0 (0, 0))).dummy (.cells #[] 0 (0, 0))).dummy (.cells #[] 0 (0, 0))).pick (k := 5) rfl).pick (k := 5) rfl
  refine (J1 N (hG.mono (hs3.le)) bp { l_ := l, open_ := 0 } a n hb hsl b5 N2 none 0 (none, .cells #[] 0 (0, 0)) none 0 (none, .cells #[] 0 (0, 0)) none 0 (none, .cells #[] 0 (0, 0)) none 0 (none, .cells #[] 0 (0, 0)) (R5 _ _ _ _) (R5 _ _ _ _) (R5 _ _ _ _) (R5 _ _ _ _) hs4 q hq).mono ?_
  rintro e w4 (⟨q1, F4, v, L', rfl, rfl, hs5, le5, aq, nq, a0, n0, e0, a1, n1, e1, a2, n2, e2, a3, n3, e3, rfl, rfl, h1, h2, r0, r1, r2, r3⟩ | ⟨x, F4, rfl, rfl, hs5, le5⟩)
  ·have hs6 := hs5.drop 0
   obtain ⟨G0, hg0, lg0, s0⟩ : ∃ Fq, HS w0 F0 w4 Fq ((some b5, .cells #[.slice a0 q1.2.Points.length n0, .slice a1 q1.2.Multipliers.length n1, .slice a2 q1.2.Penalties.length n2, .slice a3 q1.2.Repeats.length n3] 26 (0, 0)) :: e1 :: e2 :: e3 :: (some ba_, ba 0) :: (some be_, be 0) :: X) /\ RL F4 Fq /\ SlA Av Fq a0 q1.2.Points := HS.freezeRow hs6 (k := 1) rfl r0
   obtain ⟨G1, hg1, lg1, s1⟩ : ∃ Fq, HS w0 F0 w4 Fq ((some b5, .cells #[.slice a0 q1.2.Points.length n0, .slice a1 q1.2.Multipliers.length n1, .slice a2 q1.2.Penalties.length n2, .slice a3 q1.2.Repeats.length n3] 26 (0, 0)) :: e2 :: e3 :: (some ba_, ba 0) :: (some be_, be 0) :: X) /\ RL G0 Fq /\ SlA Av Fq a1 q1.2.Multipliers := HS.freezeRow hg0 (k := 1) rfl (r1.mono lg0)
   obtain ⟨G2, hg2, lg2, s2⟩ : ∃ Fq, HS w0 F0 w4 Fq ((some b5, .cells #[.slice a0 q1.2.Points.length n0, .slice a1 q1.2.Multipliers.length n1, .slice a2 q1.2.Penalties.length n2, .slice a3 q1.2.Repeats.length n3] 26 (0, 0)) :: e3 :: (some ba_, ba 0) :: (some be_, be 0) :: X) /\ RL G1 Fq /\ SlA Av Fq a2 q1.2.Penalties := HS.freezeRow hg1 (k := 1) rfl (r2.mono (lg0.trans lg1))
   obtain ⟨G3, hg3, lg3, s3⟩ : ∃ Fq, HS w0 F0 w4 Fq ((some b5, .cells #[.slice a0 q1.2.Points.length n0, .slice a1 q1.2.Multipliers.length n1, .slice a2 q1.2.Penalties.length n2, .slice a3 q1.2.Repeats.length n3] 26 (0, 0)) :: (some ba_, ba 0) :: (some be_, be 0) :: X) /\ RL G2 Fq /\ SlA Ao Fq a3 q1.2.Repeats := HS.freezeRow hg2 (k := 1) rfl (r3.mono ((lg0.trans lg1).trans lg2))
   exact .inl ⟨_, G3, _, rfl, (hg3.pick (k := 2) rfl).pick (k := 2) rfl, (((le5.trans lg0).trans lg1).trans lg2).trans lg3, q1.2, a0, n0, a1, n1, a2, n2, a3, n3, rfl, r0.bound, s0.mono ((lg1.trans lg2).trans lg3), r1.bound, s1.mono (lg2.trans lg3), r2.bound, s2.mono lg3, r3.bound, s3, h⟩
  ·exact .inr ⟨x, F4, _, rfl, hs5, le5, h, .inl rfl⟩
 ·rintro e w5 ⟨o, F5, L5, rfl, hs5, le5, hK⟩
  cases o with
  | none =>
   obtain ⟨e, a0, n0, a1, n1, a2, n2, a3, n3, rfl, hb0, hl0, hb1, hl1, hb2, hl2, hb3, hl3, hr⟩ := hK
   simp only
   refine V 8 88 (AN (x := .tmp 11) (v := .tuple #[.int .i64 0, .int .i64 0]) rfl) ?_
   refine V 12 27 (Bu (x := .tmp 8) (vs := #[.int .i64 0, .int .i64 0]) (i := 0) (v := .int .i64 0) rfl rfl) ?_
   refine V 13 3 (Bu (x := .tmp 8) (vs := #[.int .i64 0, .int .i64 0]) (i := 1) (v := .int .i64 0) rfl rfl) ?_
   refine V 6 27 (AB (x := .tmp 12) (v := .int .i64 0) rfl) ?_
   refine V 7 3 (AB (x := .tmp 13) (v := .int .i64 0) rfl) ?_
   refine RF ?_
   refine Ac ?_
   refine Sq ?_
   refine Sq ?_
   refine Rg [0, 1] ?_
   refine V 14 27 (AN (x := .tmp 6) (v := .int .i64 0) rfl) ?_
   refine V 15 4 (HW (t := 27) (t' := 27) (x := .tmp 14) (y := .const (.int .i64 0)) (k := .i64) (a := 0) (b := 0) rfl rfl) ?_
   refine RF ?_
   refine Ac ?_
   refine CWP.cond0 (t := false) (by kernel_rfl) rfl rfl ?_
   refine RI (by kernel_rfl) ?_
   refine Ac ?_
   refine Sq ?_
   refine Rg [0, 1, 2, 3] ?_
   refine V 19 26 (BT (t := 26) (x := .tmp 5) (b := b5) (o := 0) (g := true) (s := 4) (C := #[.slice a0 e.Points.length n0, .slice a1 e.Multipliers.length n1, .slice a2 e.Penalties.length n2, .slice a3 e.Repeats.length n3]) (v := .agg #[.slice a0 e.Points.length n0, .slice a1 e.Multipliers.length n1, .slice a2 e.Penalties.length n2, .slice a3 e.Repeats.length n3]) rfl (by kernel_rfl) (hs5.ownAt (k := 0) rfl) rfl rfl rfl) ?_
   subst hX
   refine RU (ty := 0) (g := none) (by kernel_rfl) rfl (x := .tmp 2) (y := .tmp 19) (t := 26) (gg := true) (s := 4) (v := .agg #[.slice a0 e.Points.length n0, .slice a1 e.Multipliers.length n1, .slice a2 e.Penalties.length n2, .slice a3 e.Repeats.length n3]) (b := b2) (o := 0) (C := #[.slice none 0 0, .slice none 0 0, .slice none 0 0, .slice none 0 0]) rfl rfl (by kernel_rfl) hs5 (k := 1) rfl rfl rfl rfl (C' := #[.slice a0 e.Points.length n0, .slice a1 e.Multipliers.length n1, .slice a2 e.Penalties.length n2, .slice a3 e.Repeats.length n3]) rfl (fun w6 hs6 => ?_)
   refine V 3 27 (AB (x := .const (.int .i64 0)) (v := .int .i64 0) rfl) ?_
   refine V 4 3 (AB (x := .const (.int .i64 0)) (v := .int .i64 0) rfl) ?_
   refine RF ?_
   refine Ac ?_
   refine CWP.ret (by kernel_rfl) ?_
   obtain rfl := Aa hr
   exact ⟨rfl, _, AA (l := [.cell 2 26, .tmp 3, .tmp 4]) (by kernel_rfl) (vs := [.agg #[.slice a0 e.Points.length n0, .slice a1 e.Multipliers.length n1, .slice a2 e.Penalties.length n2, .slice a3 e.Repeats.length n3], .int .i64 0, .int .i64 0]) ⟨b2, 0, rfl, Aj (t := 26) (g := true) (s := 4) (by kernel_rfl) (hs6.ownAt (k := 1) rfl) rfl (by decide), rfl, rfl, trivial⟩, _, F5, rfl, hs6.clear, a0, n0, a1, n1, a2, n2, a3, n3, rfl, hb0, hl0, hb1, hl1, hb2, hl2, hb3, hl3⟩
  | some x =>
   obtain ⟨hr, hL⟩ := hK
   have hs6 : HS w0 F0 w5 F5 X := by
    rcases hL with rfl | ⟨o, rfl⟩
    ·exact hs5
    ·exact hs5.drop 0
   clear hs5 hL
   cases hne : x.e_ != 0 with
   | false => rw [hne] at hr; cases hr
   | true =>
    rw [hne] at hr
    obtain rfl := Aa hr
    simp only
    refine V 8 88 (AN (x := .tmp 11) (v := .tuple #[.int .i64 x.e_, .int .i64 x.at_]) rfl) ?_
    refine V 12 27 (Bu (x := .tmp 8) (vs := #[.int .i64 x.e_, .int .i64 x.at_]) (i := 0) (v := .int .i64 x.e_) rfl rfl) ?_
    refine V 13 3 (Bu (x := .tmp 8) (vs := #[.int .i64 x.e_, .int .i64 x.at_]) (i := 1) (v := .int .i64 x.at_) rfl rfl) ?_
    refine V 6 27 (AB (x := .tmp 12) (v := .int .i64 x.e_) rfl) ?_
    refine V 7 3 (AB (x := .tmp 13) (v := .int .i64 x.at_) rfl) ?_
    refine RF ?_
    refine Ac ?_
    refine Sq ?_
    refine Sq ?_
    refine Rg [0, 1] ?_
    refine V 14 27 (AN (x := .tmp 6) (v := .int .i64 x.e_) rfl) ?_
    refine V 15 4 (HW (t := 27) (t' := 27) (x := .tmp 14) (y := .const (.int .i64 0)) (k := .i64) (a := x.e_) (b := 0) rfl rfl) ?_
    refine RF ?_
    refine Ac ?_
    refine CWP.cond1 (t := x.e_ != 0) (by kernel_rfl) rfl hne ?_
    refine Sq ?_
    refine Rg [0, 1, 2, 3, 4, 5] ?_
    refine V 16 26 (FE (t := 26) (parts := #[]) (vs := []) rfl (cs := [.slice none 0 0, .slice none 0 0, .slice none 0 0, .slice none 0 0]) (by kernel_rfl)) ?_
    refine V 17 27 (AN (x := .tmp 6) (v := .int .i64 x.e_) rfl) ?_
    refine V 18 3 (AN (x := .tmp 7) (v := .int .i64 x.at_) rfl) ?_
    subst hX
    refine RU (ty := 0) (g := none) (by kernel_rfl) rfl (x := .tmp 2) (y := .tmp 16) (t := 26) (gg := true) (s := 4) (v := .agg #[.slice none 0 0, .slice none 0 0, .slice none 0 0, .slice none 0 0]) (b := b2) (o := 0) (C := #[.slice none 0 0, .slice none 0 0, .slice none 0 0, .slice none 0 0]) rfl rfl (by kernel_rfl) hs6 (k := 0) rfl rfl rfl rfl (C' := #[.slice none 0 0, .slice none 0 0, .slice none 0 0, .slice none 0 0]) rfl (fun w7 hs7 => ?_)
    refine V 3 27 (AB (x := .tmp 17) (v := .int .i64 x.e_) rfl) ?_
    refine V 4 3 (AB (x := .tmp 18) (v := .int .i64 x.at_) rfl) ?_
    refine RF ?_
    refine Ac ?_
    refine CWP.ret (by kernel_rfl) ?_
    refine Ae ?_
    exact ⟨rfl, _, AA (l := [.cell 2 26, .tmp 3, .tmp 4]) (by kernel_rfl) (vs := [.agg #[.slice none 0 0, .slice none 0 0, .slice none 0 0, .slice none 0 0], .int .i64 x.e_, .int .i64 x.at_]) ⟨b2, 0, rfl, Aj (t := 26) (g := true) (s := 4) (by kernel_rfl) (hs7.ownAt (k := 0) rfl) rfl (by decide), rfl, rfl, trivial⟩, _, F5, rfl, hs7.clear, none, 0, none, 0, none, 0, none, 0, rfl, RP, .inl rfl, RP, .inl rfl, RP, .inl rfl, RP, .inl rfl⟩
def Ia (N : Nat)  : Option Bool :=
 ((B8 N ([49, 32, 43, 32, 50, 32, 42, 32, 51, 32, 61, 32, 55, 32, 97, 110, 100, 32, 110, 111, 116, 32, 98, 97, 110, 100, 32, 60, 32, 50] : R8)).bind fun r21 => ((FU N r21.1).bind fun r34 => ((DG N ([112, 111, 105, 110, 116, 115, 58, 32, 98, 97, 110, 100, 32, 61, 32, 49, 32, 61, 62, 32, 50] : R8)).bind fun r42 => ((DG N ([112, 111, 105, 110, 116, 115, 58, 32, 98, 97, 110, 100, 32, 61, 62, 32, 50] : R8)).bind fun r55 => ((mk0 0 14).bind fun r68 => ((idx r68 0).bind fun x78 => ((HZ N r42.1 (r68.set (0 : Int).toNat 1)).bind fun r97 => ((B8 N ([105, 102, 40, 98, 97, 110, 100, 32, 61, 32, 98, 97, 110, 100, 44, 32, 48, 32, 43, 32, 122, 111, 110, 101, 44, 32, 55, 41] : R8)).bind fun r105 => ((Gl N r105.1).bind fun r118 => (bif ((r21.2.1 != 0) || ((r34.2 != 0) || ((r42.2.1 != 0) || ((r55.2.1 != 61) || ((r97.2 != 0) || ((r105.2.1 != 0) || ((r118.2 != 0) || (r55.2.2 != 8)))))))) then some false else some ((r21.1.Op == 4) && ((r34.1 == ([49, 32, 43, 32, 50, 32, 42, 32, 51, 32, 61, 32, 55, 32, 97, 110, 100, 32, 110, 111, 116, 32, 98, 97, 110, 100, 32, 60, 32, 50] : R8)) && ((r97.1 == 2) && ((r118.1.Op == 2) && (r118.1.Value == 7)))))))))))))))
theorem JV : Ak Tryz.prog 21 := fun _ _ => by kernel_rfl
theorem K6 (N : Nat) (w0 : World) (F0 : Mem) (hF : Sa w0 F0) (hG : Ci F0)  (r : Bool) (h : Ia N  = some r) :
  Calls Tryz.prog 21 ([] : List Value).toArray w0 (AK w0 F0 fun F' v => v = (.bool r)) := by
 have hs0 := RN hF
 refine Go 110 Tryz.func21 ?_
 refine Sq (Rg [0] ?_)
 refine Vs 1 ?_
 refine Nss (Rg [0, 1, 2, 3, 4, 5, 6, 7, 8] ?_)
 obtain ⟨r21, hr22, h23⟩ := bind_some h
 refine Cl' EA hs0 (EW N w0 F0 hs0.pers hG (([49, 32, 43, 32, 50, 32, 42, 32, 51, 32, 61, 32, 55, 32, 97, 110, 100, 32, 110, 111, 116, 32, 98, 97, 110, 100, 32, 60, 32, 50] : R8)) _ hr22) ?_
 rintro _ F1 w25 hs26 le27 ⟨ar21_0_2, nr21_0_2, rfl, hbr21_0_2, hsr21_0_2⟩
 refine Vs 4 ?_
 refine Al' 33 #[(vi 0), (vi 0), (.slice none ([] : List Expr).length 0)] hs26 (fun b29 w30 hs31 => ?_)
 refine St0 (Ag r21.1 ar21_0_2 nr21_0_2) hs31 (fun w32 hs33 => ?_)
 refine Vs 2 ?_
 refine Nss (Rg [0, 1, 2, 3, 4, 5, 6] ?_)
 refine Ld hs33.at0 ?_
 obtain ⟨r34, hr35, h36⟩ := bind_some h23
 refine Cl' HK hs33 (IM N w32 F1 hs33.pers (hG.mono le27) r21.1 ar21_0_2 nr21_0_2 hbr21_0_2 hsr21_0_2 _ hr35) ?_
 rintro _ F2 w38 hs39 le40 rfl
 refine Vs 5 ?_
 refine Nss (Rg [0, 1, 2, 3, 4, 5, 6, 7, 8] ?_)
 obtain ⟨r42, hr43, h44⟩ := bind_some h36
 refine Cl' GK hs39 (Hy N w38 F2 hs39.pers (hG.mono (le27.trans le40)) (([112, 111, 105, 110, 116, 115, 58, 32, 98, 97, 110, 100, 32, 61, 32, 49, 32, 61, 62, 32, 50] : R8)) _ hr43) ?_
 rintro _ F3 w46 hs47 le48 ⟨ar42_0_0, nr42_0_0, ar42_0_1, nr42_0_1, ar42_0_2, nr42_0_2, ar42_0_3, nr42_0_3, rfl, hbr42_0_0, hsr42_0_0, hbr42_0_1, hsr42_0_1, hbr42_0_2, hsr42_0_2, hbr42_0_3, hsr42_0_3⟩
 refine Vs 4 ?_
 refine Al' 26 #[(.slice none ([] : List Clause).length 0), (.slice none ([] : List Clause).length 0), (.slice none ([] : List Clause).length 0), (.slice none ([] : List Expr).length 0)] hs47 (fun b50 w51 hs52 => ?_)
 refine St0 (AY r42.1 ar42_0_0 nr42_0_0 ar42_0_1 nr42_0_1 ar42_0_2 nr42_0_2 ar42_0_3 nr42_0_3) hs52 (fun w53 hs54 => ?_)
 refine Vs 2 ?_
 refine Nss (Rg [0, 1, 2, 3, 4, 5, 6, 7, 8] ?_)
 obtain ⟨r55, hr56, h57⟩ := bind_some h44
 refine Cl' GK hs54 (Hy N w53 F3 hs54.pers (hG.mono ((le27.trans le40).trans le48)) (([112, 111, 105, 110, 116, 115, 58, 32, 98, 97, 110, 100, 32, 61, 62, 32, 50] : R8)) _ hr56) ?_
 rintro _ F4 w59 hs60 le61 ⟨ar55_0_0, nr55_0_0, ar55_0_1, nr55_0_1, ar55_0_2, nr55_0_2, ar55_0_3, nr55_0_3, rfl, hbr55_0_0, hsr55_0_0, hbr55_0_1, hsr55_0_1, hbr55_0_2, hsr55_0_2, hbr55_0_3, hsr55_0_3⟩
 refine Vs 4 ?_
 refine Al' 26 #[(.slice none ([] : List Clause).length 0), (.slice none ([] : List Clause).length 0), (.slice none ([] : List Clause).length 0), (.slice none ([] : List Expr).length 0)] hs60 (fun b63 w64 hs65 => ?_)
 refine St0 (AY r55.1 ar55_0_0 nr55_0_0 ar55_0_1 nr55_0_1 ar55_0_2 nr55_0_2 ar55_0_3 nr55_0_3) hs65 (fun w66 hs67 => ?_)
 refine Vs 2 ?_
 refine Nss (Rg [0, 1] ?_)
 obtain ⟨r68, hm69, h70⟩ := bind_some h57
 refine RWP.makeSlice (dst := (some 40)) (ty := 47) (g := none) (by kernel_rfl) rfl (x := (.const (vi 14))) (y := (.const (vi 14))) (t := 47) (by_ := 8) (z := (vi 0)) (T := Bg) (E := 3) rfl rfl (by kernel_rfl) (by decide) (by kernel_rfl) (z0 := 0) (fun _ => rfl) (by decide) hs67 hm69 (fun b71 n72 C73 w74 (hs75 : HS w0 F0 w74 F4 [(some b71, .cells C73 3 (0, 0)), (sb b63 (AY r55.1 ar55_0_0 nr55_0_0 ar55_0_1 nr55_0_1 ar55_0_2 nr55_0_2 ar55_0_3 nr55_0_3) 26), (sb b50 (AY r42.1 ar42_0_0 nr42_0_0 ar42_0_1 nr42_0_1 ar42_0_2 nr42_0_2 ar42_0_3 nr42_0_3) 26), (sb b29 (Ag r21.1 ar21_0_2 nr21_0_2) 33)]) hr76 => ?_)
 refine Vs 1 ?_
 refine Nss (Rg [0, 1, 2] ?_)
 refine Vs 1 ?_
 obtain ⟨x78, hx79, h81⟩ := bind_some h70
 obtain ⟨hi80, hx79'⟩ := As hx79
 obtain ⟨b82, C83, ha84, he85, hE86⟩ := Aq.open hr76 hx79'
 cases ha84
 cases he85
 have hc88 := hE86 _ _ hx79'
 refine Ix0 hi80 ?_
 refine RWP.storeRow (ty := 0) (g := none) (by kernel_rfl) rfl (x := (.tmp 42)) (y := (.const (vi 1))) (t := 3) (v := (vi 1)) (gg := false) (b := b71) (j := (0 : Int).toNat) (C := C73) (T := Bg) (E := 3) (u := 1) rfl rfl (by kernel_rfl) hs75 (k := 0) rfl hr76 hx79' rfl rfl (fun C89 w90 (hs91 : HS w0 F0 w90 F4 [(some b71, .cells C89 3 (0, 0)), (sb b63 (AY r55.1 ar55_0_0 nr55_0_0 ar55_0_1 nr55_0_1 ar55_0_2 nr55_0_2 ar55_0_3 nr55_0_3) 26), (sb b50 (AY r42.1 ar42_0_0 nr42_0_0 ar42_0_1 nr42_0_1 ar42_0_2 nr42_0_2 ar42_0_3 nr42_0_3) 26), (sb b29 (Ag r21.1 ar21_0_2 nr21_0_2) 33)]) hr92 => ?_)
 refine Nss (Rg [0, 1, 2, 3, 4, 5, 6, 7] ?_)
 refine Ld hs91.at2 ?_
 refine V 45 47 (mv 12 (.slice (some ⟨b71, 0, none⟩) (r68.set (0 : Int).toNat 1).length n72) (Mc rfl)) ?_
 have hb96 := R4 hr92
 obtain ⟨F5, hs93, le94, hs95⟩ := hs91.fr0 hr92
 obtain ⟨r97, hr98, h99⟩ := bind_some h81
 refine Cl' JR hs93 (K2 N w90 F5 hs93.pers r42.1 ar42_0_0 nr42_0_0 hbr42_0_0 (RO hsr42_0_0 (le61.trans le94)) ar42_0_1 nr42_0_1 hbr42_0_1 (RO hsr42_0_1 (le61.trans le94)) ar42_0_2 nr42_0_2 hbr42_0_2 (RO hsr42_0_2 (le61.trans le94)) ar42_0_3 nr42_0_3 hbr42_0_3 (RO hsr42_0_3 (le61.trans le94)) ((r68.set (0 : Int).toNat 1)) (some ⟨b71, 0, none⟩) n72 hb96 hs95 _ hr98) ?_
 rintro _ F6 w101 hs102 le103 rfl
 refine Vs 5 ?_
 refine Nss (Rg [0, 1, 2, 3, 4, 5, 6, 7, 8] ?_)
 obtain ⟨r105, hr106, h107⟩ := bind_some h99
 refine Cl' EA hs102 (EW N w101 F6 hs102.pers (hG.mono (((((le27.trans le40).trans le48).trans le61).trans le94).trans le103)) (([105, 102, 40, 98, 97, 110, 100, 32, 61, 32, 98, 97, 110, 100, 44, 32, 48, 32, 43, 32, 122, 111, 110, 101, 44, 32, 55, 41] : R8)) _ hr106) ?_
 rintro _ F7 w109 hs110 le111 ⟨ar105_0_2, nr105_0_2, rfl, hbr105_0_2, hsr105_0_2⟩
 refine Vs 4 ?_
 refine Al' 33 #[(vi 0), (vi 0), (.slice none ([] : List Expr).length 0)] hs110 (fun b113 w114 hs115 => ?_)
 refine St0 (Ag r105.1 ar105_0_2 nr105_0_2) hs115 (fun w116 hs117 => ?_)
 refine Vs 2 ?_
 refine Nss (Rg [0, 1, 2, 3, 4, 5, 6, 7] ?_)
 refine Ld hs117.at0 ?_
 obtain ⟨r118, hr119, h120⟩ := bind_some h107
 refine Cl' II hs117 (Jq N w116 F7 hs117.pers r105.1 ar105_0_2 nr105_0_2 hbr105_0_2 hsr105_0_2 _ hr119) ?_
 rintro _ F8 w122 hs123 le124 ⟨ar118_0_2, nr118_0_2, rfl, hbr118_0_2, hsr118_0_2⟩
 refine Vs 3 ?_
 refine Al' 33 #[(vi 0), (vi 0), (.slice none ([] : List Expr).length 0)] hs123 (fun b126 w127 hs128 => ?_)
 refine St0 (Ag r118.1 ar118_0_2 nr118_0_2) hs128 (fun w129 hs130 => ?_)
 refine Vs 1 ?_
 refine Nss ?_
 refine Sq (Rg [0, 1, 2, 3, 4, 5, 6, 7, 8, 9, 10, 11, 12, 13, 14, 15, 16, 17, 18, 19, 20, 21, 22, 23, 24, 25, 26, 27, 28, 29] ?_)
 refine RR (fun f w => ∃ (F9 : Mem), HS w0 F0 w F9 [(sb b126 (Ag r118.1 ar118_0_2 nr118_0_2) 33), (sb b29 (Ag r21.1 ar21_0_2 nr21_0_2) 33)] /\ RL F8 F9 /\ FI f [] [(1, (pt b29 0)), (4, (.string ⟨(r34.1).toArray⟩)), (13, (vi r97.1)), (18, (pt b126 0)), (88, (.bool ((r21.2.1 != 0) || ((r34.2 != 0) || ((r42.2.1 != 0) || ((r55.2.1 != 61) || ((r97.2 != 0) || ((r105.2.1 != 0) || ((r118.2 != 0) || (r55.2.2 != 8))))))))))]) ?_ ?_
 ·refine Vs 3 ?_
  refine RQ (r21.2.1 != 0) (fun hb140 => ?_) (fun hb140 => ?_)
  ·refine Ss hb140 2 ?_
   refine Pk1 hb140 ?_
   refine Vs 1 ?_
   refine Ss (rfl : true = true) 2 ?_
   refine Pk1 (rfl : true = true) ?_
   refine Vs 1 ?_
   refine Ss (rfl : true = true) 2 ?_
   refine Pk1 (rfl : true = true) ?_
   refine Vs 1 ?_
   refine Ss (rfl : true = true) 2 ?_
   refine Pk1 (rfl : true = true) ?_
   refine Vs 1 ?_
   refine Ss (rfl : true = true) 2 ?_
   refine Pk1 (rfl : true = true) ?_
   refine Vs 1 ?_
   refine Ss (rfl : true = true) 2 ?_
   refine Pk1 (rfl : true = true) ?_
   refine Vs 1 ?_
   refine Ss (rfl : true = true) 2 ?_
   refine Pk1 (rfl : true = true) ?_
   exact RF ⟨rfl, F8, hs130.dr1.dr1.dr1, (RM _), (fJ ⟨rfl, rfl, rfl, rfl, (congrArg Value.bool (Fj hb140 rfl)), trivial⟩)⟩
  ·refine Vgs hb140 2 ?_
   refine Pk0 hb140 ?_
   refine Vs 1 ?_
   refine RQ (r34.2 != 0) (fun hb141 => ?_) (fun hb141 => ?_)
   ·refine Ss hb141 2 ?_
    refine Pk1 hb141 ?_
    refine Vs 1 ?_
    refine Ss (rfl : true = true) 2 ?_
    refine Pk1 (rfl : true = true) ?_
    refine Vs 1 ?_
    refine Ss (rfl : true = true) 2 ?_
    refine Pk1 (rfl : true = true) ?_
    refine Vs 1 ?_
    refine Ss (rfl : true = true) 2 ?_
    refine Pk1 (rfl : true = true) ?_
    refine Vs 1 ?_
    refine Ss (rfl : true = true) 2 ?_
    refine Pk1 (rfl : true = true) ?_
    refine Vs 1 ?_
    refine Ss (rfl : true = true) 2 ?_
    refine Pk1 (rfl : true = true) ?_
    exact RF ⟨rfl, F8, hs130.dr1.dr1.dr1, (RM _), (fJ ⟨rfl, rfl, rfl, rfl, (congrArg Value.bool (BJ hb140 (Fj hb141 rfl))), trivial⟩)⟩
   ·refine Vgs hb141 2 ?_
    refine Pk0 hb141 ?_
    refine Vs 1 ?_
    refine RQ (r42.2.1 != 0) (fun hb142 => ?_) (fun hb142 => ?_)
    ·refine Ss hb142 2 ?_
     refine Pk1 hb142 ?_
     refine Vs 1 ?_
     refine Ss (rfl : true = true) 2 ?_
     refine Pk1 (rfl : true = true) ?_
     refine Vs 1 ?_
     refine Ss (rfl : true = true) 2 ?_
     refine Pk1 (rfl : true = true) ?_
     refine Vs 1 ?_
     refine Ss (rfl : true = true) 2 ?_
     refine Pk1 (rfl : true = true) ?_
     refine Vs 1 ?_
     refine Ss (rfl : true = true) 2 ?_
     refine Pk1 (rfl : true = true) ?_
     exact RF ⟨rfl, F8, hs130.dr1.dr1.dr1, (RM _), (fJ ⟨rfl, rfl, rfl, rfl, (congrArg Value.bool (BJ hb140 (BJ hb141 (Fj hb142 rfl)))), trivial⟩)⟩
    ·refine Vgs hb142 2 ?_
     refine Pk0 hb142 ?_
     refine Vs 1 ?_
     refine RQ (r55.2.1 != 61) (fun hb143 => ?_) (fun hb143 => ?_)
     ·refine Ss hb143 2 ?_
      refine Pk1 hb143 ?_
      refine Vs 1 ?_
      refine Ss (rfl : true = true) 2 ?_
      refine Pk1 (rfl : true = true) ?_
      refine Vs 1 ?_
      refine Ss (rfl : true = true) 2 ?_
      refine Pk1 (rfl : true = true) ?_
      refine Vs 1 ?_
      refine Ss (rfl : true = true) 2 ?_
      refine Pk1 (rfl : true = true) ?_
      exact RF ⟨rfl, F8, hs130.dr1.dr1.dr1, (RM _), (fJ ⟨rfl, rfl, rfl, rfl, (congrArg Value.bool (BJ hb140 (BJ hb141 (BJ hb142 (Fj hb143 rfl))))), trivial⟩)⟩
     ·refine Vgs hb143 2 ?_
      refine Pk0 hb143 ?_
      refine Vs 1 ?_
      refine RQ (r97.2 != 0) (fun hb144 => ?_) (fun hb144 => ?_)
      ·refine Ss hb144 2 ?_
       refine Pk1 hb144 ?_
       refine Vs 1 ?_
       refine Ss (rfl : true = true) 2 ?_
       refine Pk1 (rfl : true = true) ?_
       refine Vs 1 ?_
       refine Ss (rfl : true = true) 2 ?_
       refine Pk1 (rfl : true = true) ?_
       exact RF ⟨rfl, F8, hs130.dr1.dr1.dr1, (RM _), (fJ ⟨rfl, rfl, rfl, rfl, (congrArg Value.bool (BJ hb140 (BJ hb141 (BJ hb142 (BJ hb143 (Fj hb144 rfl)))))), trivial⟩)⟩
      ·refine Vgs hb144 2 ?_
       refine Pk0 hb144 ?_
       refine Vs 1 ?_
       refine RQ (r105.2.1 != 0) (fun hb145 => ?_) (fun hb145 => ?_)
       ·refine Ss hb145 2 ?_
        refine Pk1 hb145 ?_
        refine Vs 1 ?_
        refine Ss (rfl : true = true) 2 ?_
        refine Pk1 (rfl : true = true) ?_
        exact RF ⟨rfl, F8, hs130.dr1.dr1.dr1, (RM _), (fJ ⟨rfl, rfl, rfl, rfl, (congrArg Value.bool (BJ hb140 (BJ hb141 (BJ hb142 (BJ hb143 (BJ hb144 (Fj hb145 rfl))))))), trivial⟩)⟩
       ·refine Vgs hb145 2 ?_
        refine Pk0 hb145 ?_
        refine Vs 1 ?_
        refine RQ (r118.2 != 0) (fun hb146 => ?_) (fun hb146 => ?_)
        ·refine Ss hb146 2 ?_
         refine Pk1 hb146 ?_
         exact RF ⟨rfl, F8, hs130.dr1.dr1.dr1, (RM _), (fJ ⟨rfl, rfl, rfl, rfl, (congrArg Value.bool (BJ hb140 (BJ hb141 (BJ hb142 (BJ hb143 (BJ hb144 (BJ hb145 (Fj hb146 rfl)))))))), trivial⟩)⟩
        ·refine Vgs hb146 2 ?_
         refine Pk0 hb146 ?_
         exact RF ⟨rfl, F8, hs130.dr1.dr1.dr1, (RM _), (fJ ⟨rfl, rfl, rfl, rfl, (congrArg Value.bool (BJ hb140 (BJ hb141 (BJ hb142 (BJ hb143 (BJ hb144 (BJ hb145 (BJ hb146 rfl)))))))), trivial⟩)⟩
 ·rintro f w131 ⟨F9, hs132, le133, ⟨_, rfl⟩⟩
  refine Ac ?_
  refine Cd h120 (fun hb147 h148 => ?_) (fun hb147 h149 => ?_)
  ·refine Sq (Rg [0] ?_)
   refine Vs 1 ?_
   refine Nt ?_
   refine Rt ?_
   refine Ae ?_
   obtain rfl := Aa h148
   exact Re [(.bool false)] hs132 rfl
  ·refine Sc ?_
   refine Ac ?_
   refine Sq (Rg [0, 1, 2, 3, 4, 5, 6, 7, 8, 9, 10, 11, 12, 13, 14, 15, 16, 17, 18, 19, 20, 21] ?_)
   refine RR (fun f w => ∃ (F10 : Mem), HS w0 F0 w F10 [] /\ RL F9 F10 /\ FI f [] [(0, (.bool ((r21.1.Op == 4) && ((r34.1 == ([49, 32, 43, 32, 50, 32, 42, 32, 51, 32, 61, 32, 55, 32, 97, 110, 100, 32, 110, 111, 116, 32, 98, 97, 110, 100, 32, 60, 32, 50] : R8)) && ((r97.1 == 2) && ((r118.1.Op == 2) && (r118.1.Value == 7)))))))]) ?_ ?_
   ·refine Vs 1 ?_
    refine Ld hs132.at1 ?_
    refine Vs 2 ?_
    refine RQ (r21.1.Op == 4) (fun hb155 => ?_) (fun hb155 => ?_)
    ·refine Vgs hb155 2 ?_
     refine Pk1 hb155 ?_
     refine Vs 1 ?_
     refine RQ (r34.1 == ([49, 32, 43, 32, 50, 32, 42, 32, 51, 32, 61, 32, 55, 32, 97, 110, 100, 32, 110, 111, 116, 32, 98, 97, 110, 100, 32, 60, 32, 50] : R8)) (fun hb156 => ?_) (fun hb156 => ?_)
     ·refine Vgs hb156 2 ?_
      refine Pk1 hb156 ?_
      refine Vs 1 ?_
      refine RQ (r97.1 == 2) (fun hb157 => ?_) (fun hb157 => ?_)
      ·refine Vgs hb157 1 ?_
       refine Lg hb157 hs132.at0 ?_
       refine Vgs hb157 1 ?_
       refine Pk1 hb157 ?_
       refine Vs 1 ?_
       refine RQ (r118.1.Op == 2) (fun hb158 => ?_) (fun hb158 => ?_)
       ·refine Vgs hb158 1 ?_
        refine Lg hb158 hs132.at0 ?_
        refine Vgs hb158 1 ?_
        refine Pk1 hb158 ?_
        refine Vs 1 ?_
        exact RF ⟨rfl, F9, hs132.dr0.dr0, (RM _), (fJ ⟨(congrArg Value.bool (BX hb155 (BX hb156 (BX hb157 (BX hb158 rfl))))), trivial⟩)⟩
       ·refine Ss hb158 3 ?_
        refine Pk0 hb158 ?_
        refine Vs 1 ?_
        exact RF ⟨rfl, F9, hs132.dr0.dr0, (RM _), (fJ ⟨(congrArg Value.bool (BX hb155 (BX hb156 (BX hb157 (C9 hb158 rfl))))), trivial⟩)⟩
      ·refine Ss hb157 3 ?_
       refine Pk0 hb157 ?_
       refine Vs 1 ?_
       refine Ss (rfl : false = false) 3 ?_
       refine Pk0 (rfl : false = false) ?_
       refine Vs 1 ?_
       exact RF ⟨rfl, F9, hs132.dr0.dr0, (RM _), (fJ ⟨(congrArg Value.bool (BX hb155 (BX hb156 (C9 hb157 rfl)))), trivial⟩)⟩
     ·refine Ss hb156 2 ?_
      refine Pk0 hb156 ?_
      refine Vs 1 ?_
      refine Ss (rfl : false = false) 3 ?_
      refine Pk0 (rfl : false = false) ?_
      refine Vs 1 ?_
      refine Ss (rfl : false = false) 3 ?_
      refine Pk0 (rfl : false = false) ?_
      refine Vs 1 ?_
      exact RF ⟨rfl, F9, hs132.dr0.dr0, (RM _), (fJ ⟨(congrArg Value.bool (BX hb155 (C9 hb156 rfl))), trivial⟩)⟩
    ·refine Ss hb155 2 ?_
     refine Pk0 hb155 ?_
     refine Vs 1 ?_
     refine Ss (rfl : false = false) 2 ?_
     refine Pk0 (rfl : false = false) ?_
     refine Vs 1 ?_
     refine Ss (rfl : false = false) 3 ?_
     refine Pk0 (rfl : false = false) ?_
     refine Vs 1 ?_
     refine Ss (rfl : false = false) 3 ?_
     refine Pk0 (rfl : false = false) ?_
     refine Vs 1 ?_
     exact RF ⟨rfl, F9, hs132.dr0.dr0, (RM _), (fJ ⟨(congrArg Value.bool (C9 hb155 rfl)), trivial⟩)⟩
   ·rintro f w150 ⟨F10, hs151, le152, ⟨_, rfl⟩⟩
    refine Ac ?_
    refine Rt ?_
    obtain rfl := Aa h149
    exact Re [(.bool ((r21.1.Op == 4) && ((r34.1 == ([49, 32, 43, 32, 50, 32, 42, 32, 51, 32, 61, 32, 55, 32, 97, 110, 100, 32, 110, 111, 116, 32, 98, 97, 110, 100, 32, 60, 32, 50] : R8)) && ((r97.1 == 2) && ((r118.1.Op == 2) && (r118.1.Value == 7))))))] hs151 rfl
set_option maxRecDepth 100000 in
theorem OM : Ia 9223372036854775808 = some true := by kernel_rfl
def Gu (_N : Nat) : Option Bool := some true
theorem KW : Ak Tryz.prog 21 := JV
theorem LF (N : Nat) (w0 : World) (F0 : Mem) (hF : Sa w0 F0) (hG : Ci F0) (r : Bool) (h : Gu N = some r) :
  Calls Tryz.prog 21 ([] : List Value).toArray w0 (AK w0 F0 fun F' v => v = (.bool r)) := by
 cases h
 exact K6 9223372036854775808 w0 F0 hF hG true OM


theorem QY {e : Expr} (h : kd e ≠ 0) : kd e = 1 \/ kd e = 2 := by
 have := QX h
 generalize kd e = t at this
 cases this <;> simp
section
variable {N : Nat} {σ : Type}
def hit (l : List Clause) (d : List Qi) (k : Int) : Bool := (QI d).any fun f => fi (isT f) l == k
noncomputable def mx (e : Expr) (d : List Qi) : Int := (QI d).foldl (fun a f => max a (val f e)) (-1000000)
end
def FG (N : Nat) (x0 : Expr) : Option (Int × Int) :=
 ((Ct N x0).bind fun r24 => (bif (r24 == 1) then some (1, 0) else (bif (r24 == 2) then some (2, 0) else some (0, 61))))
theorem Lr : Ak Tryz.prog 72 := fun _ _ => by kernel_rfl
theorem Mn (N : Nat) (w0 : World) (F0 : Mem) (hF : Sa w0 F0) (x0 : Expr) (a0_2 : R9) (n0_2 : Nat) (hb0_2 : LC x0.Kids.length n0_2) (hs0_2 : SlA Ao F0 a0_2 x0.Kids) (r : (Int × Int)) (h : FG N x0 = some r) :
  Calls Tryz.prog 72 ([(.agg (Ag x0 a0_2 n0_2))] : List Value).toArray w0 (AK w0 F0 fun F' v => v = (.tuple #[(vi r.1), (vi r.2)])) := by
 have hs0 := RN hF
 refine Go 10 Tryz.func72 ?_
 refine Sq (Rg [0, 1, 2] ?_)
 refine Bx' 33 (Ag x0 a0_2 n0_2) hs0 (fun b21 w22 hs23 => ?_)
 refine Vs 2 ?_
 refine Nss ?_
 refine Sq (Rg [0, 1] ?_)
 refine Ld hs23.at0 ?_
 obtain ⟨r24, hr25, h26⟩ := bind_some h
 refine Cl' Ca hs23 (C7 N w22 F0 hs23.pers x0 a0_2 n0_2 hb0_2 hs0_2 _ hr25) ?_
 rintro _ F1 w28 hs29 le30 rfl
 refine Nt ?_
 refine Bk ?_
 refine Sq (Rg [0, 1] ?_)
 refine Vs 2 ?_
 refine Nt ?_
 refine Cd h26 (fun hb32 h33 => ?_) (fun hb32 h34 => ?_)
 ·refine Sq (Rg [0, 1] ?_)
  refine Vs 2 ?_
  refine Nt ?_
  refine Rt ?_
  refine Ai ?_
  refine Ae ?_
  obtain rfl := Aa h33
  exact Re [(vi 1), (vi 0)] hs29 rfl
 ·refine Sq (Rg [0, 1] ?_)
  refine Vs 2 ?_
  refine Nt ?_
  refine Cd h34 (fun hb35 h36 => ?_) (fun hb35 h37 => ?_)
  ·refine Sq (Rg [0, 1] ?_)
   refine Vs 2 ?_
   refine Nt ?_
   refine Rt ?_
   refine Ai ?_
   refine Ae ?_
   obtain rfl := Aa h36
   exact Re [(vi 2), (vi 0)] hs29 rfl
  ·refine Sc ?_
   refine Ap ?_
   refine Ac ?_
   refine Sq (Rg [0, 1] ?_)
   refine Vs 2 ?_
   refine Nt ?_
   refine Rt ?_
   obtain rfl := Aa h37
   exact Re [(vi 0), (vi 61)] hs29 rfl
def FJ (N : Nat) (x0 : Expr) : Option (Int × Int) :=
 ((FH N x0).bind fun r24 => (bif (r24 == 0) then some (0, 61) else some (r24, 0)))
theorem Ls : Ak Tryz.prog 73 := fun _ _ => by kernel_rfl
theorem Mo (N : Nat) (w0 : World) (F0 : Mem) (hF : Sa w0 F0) (x0 : Expr) (a0_2 : R9) (n0_2 : Nat) (hb0_2 : LC x0.Kids.length n0_2) (hs0_2 : SlA Ao F0 a0_2 x0.Kids) (r : (Int × Int)) (h : FJ N x0 = some r) :
  Calls Tryz.prog 73 ([(.agg (Ag x0 a0_2 n0_2))] : List Value).toArray w0 (AK w0 F0 fun F' v => v = (.tuple #[(vi r.1), (vi r.2)])) := by
 have hs0 := RN hF
 refine Go 10 Tryz.func73 ?_
 refine Sq (Rg [0, 1, 2] ?_)
 refine Bx' 33 (Ag x0 a0_2 n0_2) hs0 (fun b21 w22 hs23 => ?_)
 refine Vs 2 ?_
 refine Nss (Rg [0, 1, 2] ?_)
 refine Ld hs23.at0 ?_
 obtain ⟨r24, hr25, h26⟩ := bind_some h
 refine Cl' BZ hs23 (IP N w22 F0 hs23.pers x0 a0_2 n0_2 hb0_2 hs0_2 _ hr25) ?_
 rintro _ F1 w28 hs29 le30 rfl
 refine Vs 1 ?_
 refine Nss ?_
 refine Sq (Rg [0, 1] ?_)
 refine Vs 2 ?_
 refine Nt ?_
 refine Cd h26 (fun hb32 h33 => ?_) (fun hb32 h34 => ?_)
 ·refine Sq (Rg [0, 1] ?_)
  refine Vs 2 ?_
  refine Nt ?_
  refine Rt ?_
  refine Ae ?_
  obtain rfl := Aa h33
  exact Re [(vi 0), (vi 61)] hs29 rfl
 ·refine Sc ?_
  refine Ac ?_
  refine Sq (Rg [0, 1, 2] ?_)
  refine Vs 3 ?_
  refine Nt ?_
  refine Rt ?_
  obtain rfl := Aa h34
  exact Re [(vi r24), (vi 0)] hs29 rfl
def Ch (N : Nat) (x0 : Bp) (x1 : Expr) : Option Bool :=
 ((Gu N ).bind fun r27 => (((ES N x0).bind fun r46 => (bif (!r46) then some true else ((Bl N x1).bind fun r57 => some (decide (r57 > 400))))).bind fun j38 => (bif j38 then some r27 else ((DI N x0).bind fun r68 => ((DJ N x0).bind fun r76 => ((FG N x1).bind fun r84 => ((FJ N x1).bind fun r92 => ((bif r27 then (bif (r68.1 == r76.1) then (bif (r68.2 == r76.2) then ((DF N x0).bind fun r119 => ((EQ N x0).bind fun r127 => (bif (r119 == r127) then (bif (r84.1 == r92.1) then (bif (r84.2 == r92.2) then ((Ee N x1).bind fun r144 => ((Eh N x1).bind fun r152 => ((Ev N r144 r152).bind fun r160 => (bif r160 then ((DH N x1).bind fun r171 => ((ER N x1).bind fun r179 => some (r171 == r179))) else some false)))) else some false) else some false) else some false))) else some false) else some false) else some false).bind fun j105 => some j105))))))))
theorem He (N : Nat) (w0 : World) (F0 : Mem) (hF : Sa w0 F0) (hG : Ci F0) (x0 : Bp) (a0_0 : R9) (n0_0 : Nat) (hb0_0 : LC x0.Points.length n0_0) (hs0_0 : SlA Av F0 a0_0 x0.Points) (a0_1 : R9) (n0_1 : Nat) (hb0_1 : LC x0.Multipliers.length n0_1) (hs0_1 : SlA Av F0 a0_1 x0.Multipliers) (a0_2 : R9) (n0_2 : Nat) (hb0_2 : LC x0.Penalties.length n0_2) (hs0_2 : SlA Av F0 a0_2 x0.Penalties) (a0_3 : R9) (n0_3 : Nat) (hb0_3 : LC x0.Repeats.length n0_3) (hs0_3 : SlA Ao F0 a0_3 x0.Repeats) (x1 : Expr) (a1_2 : R9) (n1_2 : Nat) (hb1_2 : LC x1.Kids.length n1_2) (hs1_2 : SlA Ao F0 a1_2 x1.Kids) (r : Bool) (h : Ch N x0 x1 = some r) :
  Calls Tryz.prog 18 ([(.agg (AY x0 a0_0 n0_0 a0_1 n0_1 a0_2 n0_2 a0_3 n0_3)), (.agg (Ag x1 a1_2 n1_2))] : List Value).toArray w0 (AK w0 F0 fun F' v => v = (.bool r)) := by
 have hs0 := RN hF
 refine Go 86 Tryz.func18 ?_
 refine Sq (Rg [0, 1, 2] ?_)
 refine Bx' 26 (AY x0 a0_0 n0_0 a0_1 n0_1 a0_2 n0_2 a0_3 n0_3) hs0 (fun b21 w22 hs23 => ?_)
 refine Bx' 33 (Ag x1 a1_2 n1_2) hs23 (fun b24 w25 hs26 => ?_)
 refine Vs 1 ?_
 refine Nss (Rg [0, 1] ?_)
 obtain ⟨r27, hr28, h29⟩ := bind_some h
 refine Cl' KW hs26 (LF N w25 F0 hs26.pers hG  _ hr28) ?_
 rintro _ F1 w31 hs32 le33 rfl
 refine Vs 1 ?_
 refine Nss ?_
 refine Sq (Rg [0, 1, 2, 3, 4, 5, 6, 7] ?_)
 obtain ⟨j38, hj44, h45⟩ := bind_some h29
 refine RR (fun f w => ∃ (F2 : Mem), HS w0 F0 w F2 [(sb b24 (Ag x1 a1_2 n1_2) 33), (sb b21 (AY x0 a0_0 n0_0 a0_1 n0_1 a0_2 n0_2 a0_3 n0_3) 26)] /\ RL F1 F2 /\ FI f [] [(2, (pt b21 0)), (3, (pt b24 0)), (5, (.bool r27)), (22, (.bool j38))]) ?_ ?_
 ·refine Ld hs32.at1 ?_
  obtain ⟨r46, hr47, h48⟩ := bind_some hj44
  refine Cl' KV hs32 (LE N w31 F1 hs32.pers x0 a0_0 n0_0 hb0_0 (RO hs0_0 le33) a0_1 n0_1 hb0_1 (RO hs0_1 le33) a0_2 n0_2 hb0_2 (RO hs0_2 le33) a0_3 n0_3 hb0_3 (RO hs0_3 le33) _ hr47) ?_
  rintro _ F3 w50 hs51 le52 rfl
  refine Vs 2 ?_
  refine Sp h48 (fun hb54 h55 => ?_) (fun hb54 h56 => ?_)
  ·refine Ss hb54 3 ?_
   refine Pk1 hb54 ?_
   obtain rfl := Aa h55
   exact RF ⟨rfl, F3, hs51, le52, fI⟩
  ·refine Lg hb54 hs51.at0 ?_
   obtain ⟨r57, hr58, h59⟩ := bind_some h56
   refine Cg hb54 C6 hs51 (DD N w50 F3 hs51.pers x1 a1_2 n1_2 hb1_2 (RO hs1_2 (le33.trans le52)) _ hr58) ?_
   rintro _ F4 w61 hs62 le63 rfl
   refine Vgs hb54 1 ?_
   refine Pk0 hb54 ?_
   obtain rfl := Aa h59
   exact RF ⟨rfl, F4, hs62, (le52.trans le63), fI⟩
 ·rintro f w35 ⟨F2, hs36, le37, ⟨_, rfl⟩⟩
  refine Ac ?_
  refine Cd h45 (fun hb65 h66 => ?_) (fun hb65 h67 => ?_)
  ·refine Sq (Rg [0, 1] ?_)
   refine Vs 2 ?_
   refine Nt ?_
   refine Rt ?_
   refine Ae ?_
   obtain rfl := Aa h66
   exact Re [(.bool r27)] hs36 rfl
  ·refine Sc ?_
   refine Ac ?_
   refine Sq (Rg [0, 1, 2, 3, 4, 5, 6] ?_)
   refine Ld hs36.at1 ?_
   obtain ⟨r68, hr69, h70⟩ := bind_some h67
   refine Cl' GL hs36 (Hz N w35 F2 hs36.pers x0 a0_0 n0_0 hb0_0 (RO hs0_0 (le33.trans le37)) a0_1 n0_1 hb0_1 (RO hs0_1 (le33.trans le37)) a0_2 n0_2 hb0_2 (RO hs0_2 (le33.trans le37)) a0_3 n0_3 hb0_3 (RO hs0_3 (le33.trans le37)) _ hr69) ?_
   rintro _ F5 w72 hs73 le74 rfl
   refine Vs 5 ?_
   refine Nss (Rg [0, 1, 2, 3, 4, 5, 6] ?_)
   refine Ld hs73.at1 ?_
   obtain ⟨r76, hr77, h78⟩ := bind_some h70
   refine Cl' GO hs73 (HB N w72 F5 hs73.pers x0 a0_0 n0_0 hb0_0 (RO hs0_0 ((le33.trans le37).trans le74)) a0_1 n0_1 hb0_1 (RO hs0_1 ((le33.trans le37).trans le74)) a0_2 n0_2 hb0_2 (RO hs0_2 ((le33.trans le37).trans le74)) a0_3 n0_3 hb0_3 (RO hs0_3 ((le33.trans le37).trans le74)) _ hr77) ?_
   rintro _ F6 w80 hs81 le82 rfl
   refine Vs 5 ?_
   refine Nss (Rg [0, 1, 2, 3, 4, 5, 6] ?_)
   refine Ld hs81.at0 ?_
   obtain ⟨r84, hr85, h86⟩ := bind_some h78
   refine Cl' Lr hs81 (Mn N w80 F6 hs81.pers x1 a1_2 n1_2 hb1_2 (RO hs1_2 (((le33.trans le37).trans le74).trans le82)) _ hr85) ?_
   rintro _ F7 w88 hs89 le90 rfl
   refine Vs 5 ?_
   refine Nss (Rg [0, 1, 2, 3, 4, 5, 6] ?_)
   refine Ld hs89.at0 ?_
   obtain ⟨r92, hr93, h94⟩ := bind_some h86
   refine Cl' Ls hs89 (Mo N w88 F7 hs89.pers x1 a1_2 n1_2 hb1_2 (RO hs1_2 ((((le33.trans le37).trans le74).trans le82).trans le90)) _ hr93) ?_
   rintro _ F8 w96 hs97 le98 rfl
   refine Vs 5 ?_
   refine Nss ?_
   obtain ⟨j105, hj108, h109⟩ := bind_some h94
   refine RD 43 43 [(sb b24 (Ag x1 a1_2 n1_2) 33), (sb b21 (AY x0 a0_0 n0_0 a0_1 n0_1 a0_2 n0_2 a0_3 n0_3) 26)] [] hs97 (fun f w => ∃ (F9 : Mem), HS w0 F0 w F9 [] /\ RL F8 F9 /\ FI f [] [(4, (.bool j105))]) (fun wd100 hw101 => ?_) ?_
   ·refine Dvl [0, 1] [tt, tt, ff, ff, ff, ff, ff, ff, ff, ff, ff, ff, ff, ff, ff, ff, ff, ff, ff, ff, ff, ff, ff, ff, ff, ff, ff, ff, ff, ff, ff, ff, ff, ff, ff, ff, ff, ff, ff, ff, ff, ff, ff] ?_
    refine Sd hj108 (fun hb110 h111 => ?_) (fun hb110 h112 => ?_)
    ·refine Dgl 2 46 27 _ [tt, tt, tt, ff, ff, ff, ff, ff, ff, ff, ff, ff, ff, ff, ff, ff, ff, ff, ff, ff, ff, ff, ff, ff, ff, ff, ff, ff, ff, ff, ff, ff, ff, ff, ff, ff, ff, ff, ff, ff, ff, ff, ff] 1 true 45 hb110 (fun _ hq => mv 6 (vi r68.1)) ?_
     refine Dgl 3 47 27 _ [tt, tt, tt, tt, ff, ff, ff, ff, ff, ff, ff, ff, ff, ff, ff, ff, ff, ff, ff, ff, ff, ff, ff, ff, ff, ff, ff, ff, ff, ff, ff, ff, ff, ff, ff, ff, ff, ff, ff, ff, ff, ff, ff] 1 true 45 hb110 (fun _ hq => mv 8 (vi r76.1)) ?_
     refine Dgl 4 48 4 (.bool (r68.1 == r76.1)) [tt, tt, tt, tt, tt, ff, ff, ff, ff, ff, ff, ff, ff, ff, ff, ff, ff, ff, ff, ff, ff, ff, ff, ff, ff, ff, ff, ff, ff, ff, ff, ff, ff, ff, ff, ff, ff, ff, ff, ff, ff, ff, ff] 1 true 45 hb110 (fun _ hq => FD (t := 27) (t' := 27) (x := (.tmp 46)) (y := (.tmp 47)) (k := .i64) (a := r68.1) (b := r76.1) rfl rfl) ?_
     refine Dtl 5 49 4 _ [tt, tt, tt, tt, tt, tt, ff, ff, ff, ff, ff, ff, ff, ff, ff, ff, ff, ff, ff, ff, ff, ff, ff, ff, ff, ff, ff, ff, ff, ff, ff, ff, ff, ff, ff, ff, ff, ff, ff, ff, ff, ff, ff] (fun _ hq => p1 45 (.tmp 48) (.const (.bool false)) (.bool (r68.1 == r76.1)) hb110) ?_
     refine Dvl [6] [tt, tt, tt, tt, tt, tt, tt, ff, ff, ff, ff, ff, ff, ff, ff, ff, ff, ff, ff, ff, ff, ff, ff, ff, ff, ff, ff, ff, ff, ff, ff, ff, ff, ff, ff, ff, ff, ff, ff, ff, ff, ff, ff] ?_
     refine Sd h111 (fun hb113 h114 => ?_) (fun hb113 h115 => ?_)
     ·refine Dgl 7 51 3 _ [tt, tt, tt, tt, tt, tt, tt, tt, ff, ff, ff, ff, ff, ff, ff, ff, ff, ff, ff, ff, ff, ff, ff, ff, ff, ff, ff, ff, ff, ff, ff, ff, ff, ff, ff, ff, ff, ff, ff, ff, ff, ff, ff] 6 true 50 hb113 (fun _ hq => mv 7 (vi r68.2)) ?_
      refine Dgl 8 52 3 _ [tt, tt, tt, tt, tt, tt, tt, tt, tt, ff, ff, ff, ff, ff, ff, ff, ff, ff, ff, ff, ff, ff, ff, ff, ff, ff, ff, ff, ff, ff, ff, ff, ff, ff, ff, ff, ff, ff, ff, ff, ff, ff, ff] 6 true 50 hb113 (fun _ hq => mv 9 (vi r76.2)) ?_
      refine Dgl 9 53 4 (.bool (r68.2 == r76.2)) [tt, tt, tt, tt, tt, tt, tt, tt, tt, tt, ff, ff, ff, ff, ff, ff, ff, ff, ff, ff, ff, ff, ff, ff, ff, ff, ff, ff, ff, ff, ff, ff, ff, ff, ff, ff, ff, ff, ff, ff, ff, ff, ff] 6 true 50 hb113 (fun _ hq => FD (t := 3) (t' := 3) (x := (.tmp 51)) (y := (.tmp 52)) (k := .i64) (a := r68.2) (b := r76.2) rfl rfl) ?_
      refine Dtl 10 54 4 _ [tt, tt, tt, tt, tt, tt, tt, tt, tt, tt, tt, ff, ff, ff, ff, ff, ff, ff, ff, ff, ff, ff, ff, ff, ff, ff, ff, ff, ff, ff, ff, ff, ff, ff, ff, ff, ff, ff, ff, ff, ff, ff, ff] (fun _ hq => p1 50 (.tmp 53) (.const (.bool false)) (.bool (r68.2 == r76.2)) hb113) ?_
      refine Dvl [11] [tt, tt, tt, tt, tt, tt, tt, tt, tt, tt, tt, tt, ff, ff, ff, ff, ff, ff, ff, ff, ff, ff, ff, ff, ff, ff, ff, ff, ff, ff, ff, ff, ff, ff, ff, ff, ff, ff, ff, ff, ff, ff, ff] ?_
      refine Sd h114 (fun hb116 h117 => ?_) (fun hb116 h118 => ?_)
      ·refine Dgl 12 56 26 _ [tt, tt, tt, tt, tt, tt, tt, tt, tt, tt, tt, tt, tt, ff, ff, ff, ff, ff, ff, ff, ff, ff, ff, ff, ff, ff, ff, ff, ff, ff, ff, ff, ff, ff, ff, ff, ff, ff, ff, ff, ff, ff, ff] 11 true 55 hb116 (fun _ hq => ld 26 2 b21 0 true 4 (.agg (AY x0 a0_0 n0_0 a0_1 n0_1 a0_2 n0_2 a0_3 n0_3)) (hq.1.2 1 _ _ rfl)) ?_
       refine Dgl 14 58 26 _ [tt, tt, tt, tt, tt, tt, tt, tt, tt, tt, tt, tt, tt, ff, tt, ff, ff, ff, ff, ff, ff, ff, ff, ff, ff, ff, ff, ff, ff, ff, ff, ff, ff, ff, ff, ff, ff, ff, ff, ff, ff, ff, ff] 11 true 55 hb116 (fun _ hq => ld 26 2 b21 0 true 4 (.agg (AY x0 a0_0 n0_0 a0_1 n0_1 a0_2 n0_2 a0_3 n0_3)) (hq.1.2 1 _ _ rfl)) ?_
       refine D1 13 ?_
       obtain ⟨r119, hr120, h121⟩ := bind_some h117
       refine R2 (l' := [true, true, true, true, true, true, true, true, true, true, true, true, true, true, true, false, false, false, false, false, false, false, false, false, false, false, false, false, false, false, false, false, false, false, false, false, false, false, false, false, false, false, false]) (zd := true) (by kernel_rfl) (by kernel_rfl) (by kernel_rfl) (dst := (some 57)) (ty := 4) (g := (some (11, true))) (by kernel_rfl) (HJ (d := 55) (by kernel_rfl) rfl hb116) (f0 := (.func 54)) (aos := #[(.tmp 56)]) (ats := #[26]) (fid := 54) (first := #[]) (cap := #[]) (args := [(.agg (AY x0 a0_0 n0_0 a0_1 n0_1 a0_2 n0_2 a0_3 n0_3))]) rfl GI rfl hw101 (Hx N wd100 F8 hw101.pers x0 a0_0 n0_0 hb0_0 (RO hs0_0 (((((le33.trans le37).trans le74).trans le82).trans le90).trans le98)) a0_1 n0_1 hb0_1 (RO hs0_1 (((((le33.trans le37).trans le74).trans le82).trans le90).trans le98)) a0_2 n0_2 hb0_2 (RO hs0_2 (((((le33.trans le37).trans le74).trans le82).trans le90).trans le98)) a0_3 n0_3 hb0_3 (RO hs0_3 (((((le33.trans le37).trans le74).trans le82).trans le90).trans le98)) _ hr120) ?_
       rintro _ F10 w123 hs124 le125 rfl
       refine D1 15 ?_
       obtain ⟨r127, hr128, h129⟩ := bind_some h121
       refine R2 (l' := [true, true, true, true, true, true, true, true, true, true, true, true, true, true, true, true, false, false, false, false, false, false, false, false, false, false, false, false, false, false, false, false, false, false, false, false, false, false, false, false, false, false, false]) (zd := true) (by kernel_rfl) (by kernel_rfl) (by kernel_rfl) (dst := (some 59)) (ty := 4) (g := (some (11, true))) (by kernel_rfl) (HJ (d := 55) (by kernel_rfl) rfl hb116) (f0 := (.func 74)) (aos := #[(.tmp 58)]) (ats := #[26]) (fid := 74) (first := #[]) (cap := #[]) (args := [(.agg (AY x0 a0_0 n0_0 a0_1 n0_1 a0_2 n0_2 a0_3 n0_3))]) rfl KU rfl hs124 (LB N w123 F10 hs124.pers x0 a0_0 n0_0 hb0_0 (RO hs0_0 ((((((le33.trans le37).trans le74).trans le82).trans le90).trans le98).trans le125)) a0_1 n0_1 hb0_1 (RO hs0_1 ((((((le33.trans le37).trans le74).trans le82).trans le90).trans le98).trans le125)) a0_2 n0_2 hb0_2 (RO hs0_2 ((((((le33.trans le37).trans le74).trans le82).trans le90).trans le98).trans le125)) a0_3 n0_3 hb0_3 (RO hs0_3 ((((((le33.trans le37).trans le74).trans le82).trans le90).trans le98).trans le125)) _ hr128) ?_
       rintro _ F11 w131 hs132 le133 rfl
       refine Dgl 16 60 4 (.bool (r119 == r127)) [tt, tt, tt, tt, tt, tt, tt, tt, tt, tt, tt, tt, tt, tt, tt, tt, tt, ff, ff, ff, ff, ff, ff, ff, ff, ff, ff, ff, ff, ff, ff, ff, ff, ff, ff, ff, ff, ff, ff, ff, ff, ff, ff] 11 true 55 hb116 (fun _ hq => N7 (t := 4) (t' := 4) (x := (.tmp 57)) (y := (.tmp 59)) (a := r119) (b := r127) rfl rfl (by kernel_rfl)) ?_
       refine Dtl 17 61 4 _ [tt, tt, tt, tt, tt, tt, tt, tt, tt, tt, tt, tt, tt, tt, tt, tt, tt, tt, ff, ff, ff, ff, ff, ff, ff, ff, ff, ff, ff, ff, ff, ff, ff, ff, ff, ff, ff, ff, ff, ff, ff, ff, ff] (fun _ hq => p1 55 (.tmp 60) (.const (.bool false)) (.bool (r119 == r127)) hb116) ?_
       refine Dvl [18] [tt, tt, tt, tt, tt, tt, tt, tt, tt, tt, tt, tt, tt, tt, tt, tt, tt, tt, tt, ff, ff, ff, ff, ff, ff, ff, ff, ff, ff, ff, ff, ff, ff, ff, ff, ff, ff, ff, ff, ff, ff, ff, ff] ?_
       refine Sd h129 (fun hb135 h136 => ?_) (fun hb135 h137 => ?_)
       ·refine Dgl 19 63 3 _ [tt, tt, tt, tt, tt, tt, tt, tt, tt, tt, tt, tt, tt, tt, tt, tt, tt, tt, tt, tt, ff, ff, ff, ff, ff, ff, ff, ff, ff, ff, ff, ff, ff, ff, ff, ff, ff, ff, ff, ff, ff, ff, ff] 18 true 62 hb135 (fun _ hq => mv 10 (vi r84.1)) ?_
        refine Dgl 20 64 3 _ [tt, tt, tt, tt, tt, tt, tt, tt, tt, tt, tt, tt, tt, tt, tt, tt, tt, tt, tt, tt, tt, ff, ff, ff, ff, ff, ff, ff, ff, ff, ff, ff, ff, ff, ff, ff, ff, ff, ff, ff, ff, ff, ff] 18 true 62 hb135 (fun _ hq => mv 12 (vi r92.1)) ?_
        refine Dgl 21 65 4 (.bool (r84.1 == r92.1)) [tt, tt, tt, tt, tt, tt, tt, tt, tt, tt, tt, tt, tt, tt, tt, tt, tt, tt, tt, tt, tt, tt, ff, ff, ff, ff, ff, ff, ff, ff, ff, ff, ff, ff, ff, ff, ff, ff, ff, ff, ff, ff, ff] 18 true 62 hb135 (fun _ hq => FD (t := 3) (t' := 3) (x := (.tmp 63)) (y := (.tmp 64)) (k := .i64) (a := r84.1) (b := r92.1) rfl rfl) ?_
        refine Dtl 22 66 4 _ [tt, tt, tt, tt, tt, tt, tt, tt, tt, tt, tt, tt, tt, tt, tt, tt, tt, tt, tt, tt, tt, tt, tt, ff, ff, ff, ff, ff, ff, ff, ff, ff, ff, ff, ff, ff, ff, ff, ff, ff, ff, ff, ff] (fun _ hq => p1 62 (.tmp 65) (.const (.bool false)) (.bool (r84.1 == r92.1)) hb135) ?_
        refine Dvl [23] [tt, tt, tt, tt, tt, tt, tt, tt, tt, tt, tt, tt, tt, tt, tt, tt, tt, tt, tt, tt, tt, tt, tt, tt, ff, ff, ff, ff, ff, ff, ff, ff, ff, ff, ff, ff, ff, ff, ff, ff, ff, ff, ff] ?_
        refine Sd h136 (fun hb138 h139 => ?_) (fun hb138 h140 => ?_)
        ·refine Dgl 24 68 27 _ [tt, tt, tt, tt, tt, tt, tt, tt, tt, tt, tt, tt, tt, tt, tt, tt, tt, tt, tt, tt, tt, tt, tt, tt, tt, ff, ff, ff, ff, ff, ff, ff, ff, ff, ff, ff, ff, ff, ff, ff, ff, ff, ff] 23 true 67 hb138 (fun _ hq => mv 11 (vi r84.2)) ?_
         refine Dgl 25 69 27 _ [tt, tt, tt, tt, tt, tt, tt, tt, tt, tt, tt, tt, tt, tt, tt, tt, tt, tt, tt, tt, tt, tt, tt, tt, tt, tt, ff, ff, ff, ff, ff, ff, ff, ff, ff, ff, ff, ff, ff, ff, ff, ff, ff] 23 true 67 hb138 (fun _ hq => mv 13 (vi r92.2)) ?_
         refine Dgl 26 70 4 (.bool (r84.2 == r92.2)) [tt, tt, tt, tt, tt, tt, tt, tt, tt, tt, tt, tt, tt, tt, tt, tt, tt, tt, tt, tt, tt, tt, tt, tt, tt, tt, tt, ff, ff, ff, ff, ff, ff, ff, ff, ff, ff, ff, ff, ff, ff, ff, ff] 23 true 67 hb138 (fun _ hq => FD (t := 27) (t' := 27) (x := (.tmp 68)) (y := (.tmp 69)) (k := .i64) (a := r84.2) (b := r92.2) rfl rfl) ?_
         refine Dtl 27 71 4 _ [tt, tt, tt, tt, tt, tt, tt, tt, tt, tt, tt, tt, tt, tt, tt, tt, tt, tt, tt, tt, tt, tt, tt, tt, tt, tt, tt, tt, ff, ff, ff, ff, ff, ff, ff, ff, ff, ff, ff, ff, ff, ff, ff] (fun _ hq => p1 67 (.tmp 70) (.const (.bool false)) (.bool (r84.2 == r92.2)) hb138) ?_
         refine Dvl [28] [tt, tt, tt, tt, tt, tt, tt, tt, tt, tt, tt, tt, tt, tt, tt, tt, tt, tt, tt, tt, tt, tt, tt, tt, tt, tt, tt, tt, tt, ff, ff, ff, ff, ff, ff, ff, ff, ff, ff, ff, ff, ff, ff] ?_
         refine Sd h139 (fun hb141 h142 => ?_) (fun hb141 h143 => ?_)
         ·refine Dgl 29 73 33 _ [tt, tt, tt, tt, tt, tt, tt, tt, tt, tt, tt, tt, tt, tt, tt, tt, tt, tt, tt, tt, tt, tt, tt, tt, tt, tt, tt, tt, tt, tt, ff, ff, ff, ff, ff, ff, ff, ff, ff, ff, ff, ff, ff] 28 true 72 hb141 (fun _ hq => ld 33 3 b24 0 true 3 (.agg (Ag x1 a1_2 n1_2)) (hq.1.2 0 _ _ rfl)) ?_
          refine Dgl 31 75 33 _ [tt, tt, tt, tt, tt, tt, tt, tt, tt, tt, tt, tt, tt, tt, tt, tt, tt, tt, tt, tt, tt, tt, tt, tt, tt, tt, tt, tt, tt, tt, ff, tt, ff, ff, ff, ff, ff, ff, ff, ff, ff, ff, ff] 28 true 72 hb141 (fun _ hq => ld 33 3 b24 0 true 3 (.agg (Ag x1 a1_2 n1_2)) (hq.1.2 0 _ _ rfl)) ?_
          refine D1 30 ?_
          obtain ⟨r144, hr145, h146⟩ := bind_some h142
          refine R2 (l' := [true, true, true, true, true, true, true, true, true, true, true, true, true, true, true, true, true, true, true, true, true, true, true, true, true, true, true, true, true, true, true, true, false, false, false, false, false, false, false, false, false, false, false]) (zd := true) (by kernel_rfl) (by kernel_rfl) (by kernel_rfl) (dst := (some 74)) (ty := 47) (g := (some (28, true))) (by kernel_rfl) (HJ (d := 72) (by kernel_rfl) rfl hb141) (f0 := (.func 75)) (aos := #[(.tmp 73)]) (ats := #[33]) (fid := 75) (first := #[]) (cap := #[]) (args := [(.agg (Ag x1 a1_2 n1_2))]) rfl JS rfl hs132 (K3 N w131 F11 hs132.pers x1 a1_2 n1_2 hb1_2 (RO hs1_2 (((((((le33.trans le37).trans le74).trans le82).trans le90).trans le98).trans le125).trans le133)) _ hr145) ?_
          rintro _ F12 w148 hs149 le150 ⟨ar144_0_0, nr144_0_0, rfl, hbr144_0_0, hsr144_0_0⟩
          refine D1 32 ?_
          obtain ⟨r152, hr153, h154⟩ := bind_some h146
          refine R2 (l' := [true, true, true, true, true, true, true, true, true, true, true, true, true, true, true, true, true, true, true, true, true, true, true, true, true, true, true, true, true, true, true, true, true, false, false, false, false, false, false, false, false, false, false]) (zd := true) (by kernel_rfl) (by kernel_rfl) (by kernel_rfl) (dst := (some 76)) (ty := 47) (g := (some (28, true))) (by kernel_rfl) (HJ (d := 72) (by kernel_rfl) rfl hb141) (f0 := (.func 76)) (aos := #[(.tmp 75)]) (ats := #[33]) (fid := 76) (first := #[]) (cap := #[]) (args := [(.agg (Ag x1 a1_2 n1_2))]) rfl JU rfl hs149 (K5 N w148 F12 hs149.pers x1 a1_2 n1_2 hb1_2 (RO hs1_2 ((((((((le33.trans le37).trans le74).trans le82).trans le90).trans le98).trans le125).trans le133).trans le150)) _ hr153) ?_
          rintro _ F13 w156 hs157 le158 ⟨ar152_0_0, nr152_0_0, rfl, hbr152_0_0, hsr152_0_0⟩
          refine D1 33 ?_
          obtain ⟨r160, hr161, h162⟩ := bind_some h154
          refine R2 (l' := [true, true, true, true, true, true, true, true, true, true, true, true, true, true, true, true, true, true, true, true, true, true, true, true, true, true, true, true, true, true, true, true, true, true, false, false, false, false, false, false, false, false, false]) (zd := true) (by kernel_rfl) (by kernel_rfl) (by kernel_rfl) (dst := (some 77)) (ty := 4) (g := (some (28, true))) (by kernel_rfl) (HJ (d := 72) (by kernel_rfl) rfl hb141) (f0 := (.func 50)) (aos := #[(.tmp 74), (.tmp 76)]) (ats := #[47, 47]) (fid := 50) (first := #[]) (cap := #[]) (args := [(.slice ar144_0_0 r144.length nr144_0_0), (.slice ar152_0_0 r152.length nr152_0_0)]) rfl Lt rfl hs157 (Mp N w156 F13 hs157.pers r144 ar144_0_0 nr144_0_0 hbr144_0_0 (RO hsr144_0_0 le158) r152 ar152_0_0 nr152_0_0 hbr152_0_0 hsr152_0_0 _ hr161) ?_
          rintro _ F14 w164 hs165 le166 rfl
          refine Dtl 34 78 4 _ [tt, tt, tt, tt, tt, tt, tt, tt, tt, tt, tt, tt, tt, tt, tt, tt, tt, tt, tt, tt, tt, tt, tt, tt, tt, tt, tt, tt, tt, tt, tt, tt, tt, tt, tt, ff, ff, ff, ff, ff, ff, ff, ff] (fun _ hq => p1 72 (.tmp 77) (.const (.bool false)) (.bool r160) hb141) ?_
          refine Dvl [35] [tt, tt, tt, tt, tt, tt, tt, tt, tt, tt, tt, tt, tt, tt, tt, tt, tt, tt, tt, tt, tt, tt, tt, tt, tt, tt, tt, tt, tt, tt, tt, tt, tt, tt, tt, tt, ff, ff, ff, ff, ff, ff, ff] ?_
          refine Sd h162 (fun hb168 h169 => ?_) (fun hb168 h170 => ?_)
          ·refine Dgl 36 80 33 _ [tt, tt, tt, tt, tt, tt, tt, tt, tt, tt, tt, tt, tt, tt, tt, tt, tt, tt, tt, tt, tt, tt, tt, tt, tt, tt, tt, tt, tt, tt, tt, tt, tt, tt, tt, tt, tt, ff, ff, ff, ff, ff, ff] 35 true 79 hb168 (fun _ hq => ld 33 3 b24 0 true 3 (.agg (Ag x1 a1_2 n1_2)) (hq.1.2 0 _ _ rfl)) ?_
           refine Dgl 38 82 33 _ [tt, tt, tt, tt, tt, tt, tt, tt, tt, tt, tt, tt, tt, tt, tt, tt, tt, tt, tt, tt, tt, tt, tt, tt, tt, tt, tt, tt, tt, tt, tt, tt, tt, tt, tt, tt, tt, ff, tt, ff, ff, ff, ff] 35 true 79 hb168 (fun _ hq => ld 33 3 b24 0 true 3 (.agg (Ag x1 a1_2 n1_2)) (hq.1.2 0 _ _ rfl)) ?_
           refine D1 37 ?_
           obtain ⟨r171, hr172, h173⟩ := bind_some h169
           refine R2 (l' := [true, true, true, true, true, true, true, true, true, true, true, true, true, true, true, true, true, true, true, true, true, true, true, true, true, true, true, true, true, true, true, true, true, true, true, true, true, true, true, false, false, false, false]) (zd := true) (by kernel_rfl) (by kernel_rfl) (by kernel_rfl) (dst := (some 81)) (ty := 3) (g := (some (35, true))) (by kernel_rfl) (HJ (d := 79) (by kernel_rfl) rfl hb168) (f0 := (.func 32)) (aos := #[(.tmp 80)]) (ats := #[33]) (fid := 32) (first := #[]) (cap := #[]) (args := [(.agg (Ag x1 a1_2 n1_2))]) rfl C5 rfl hs165 (E8 N w164 F14 hs165.pers x1 a1_2 n1_2 hb1_2 (RO hs1_2 ((((((((((le33.trans le37).trans le74).trans le82).trans le90).trans le98).trans le125).trans le133).trans le150).trans le158).trans le166)) _ hr172) ?_
           rintro _ F15 w175 hs176 le177 rfl
           refine D1 39 ?_
           obtain ⟨r179, hr180, h181⟩ := bind_some h173
           refine R2 (l' := [true, true, true, true, true, true, true, true, true, true, true, true, true, true, true, true, true, true, true, true, true, true, true, true, true, true, true, true, true, true, true, true, true, true, true, true, true, true, true, true, false, false, false]) (zd := true) (by kernel_rfl) (by kernel_rfl) (by kernel_rfl) (dst := (some 83)) (ty := 3) (g := (some (35, true))) (by kernel_rfl) (HJ (d := 79) (by kernel_rfl) rfl hb168) (f0 := (.func 77)) (aos := #[(.tmp 82)]) (ats := #[33]) (fid := 77) (first := #[]) (cap := #[]) (args := [(.agg (Ag x1 a1_2 n1_2))]) rfl EC rfl hs176 (HA N w175 F15 hs176.pers x1 a1_2 n1_2 hb1_2 (RO hs1_2 (((((((((((le33.trans le37).trans le74).trans le82).trans le90).trans le98).trans le125).trans le133).trans le150).trans le158).trans le166).trans le177)) _ hr180) ?_
           rintro _ F16 w183 hs184 le185 rfl
           refine Dgl 40 84 4 (.bool (r171 == r179)) [tt, tt, tt, tt, tt, tt, tt, tt, tt, tt, tt, tt, tt, tt, tt, tt, tt, tt, tt, tt, tt, tt, tt, tt, tt, tt, tt, tt, tt, tt, tt, tt, tt, tt, tt, tt, tt, tt, tt, tt, tt, ff, ff] 35 true 79 hb168 (fun _ hq => FD (t := 3) (t' := 3) (x := (.tmp 81)) (y := (.tmp 83)) (k := .i64) (a := r171) (b := r179) rfl rfl) ?_
           refine Dtl 41 85 4 _ [tt, tt, tt, tt, tt, tt, tt, tt, tt, tt, tt, tt, tt, tt, tt, tt, tt, tt, tt, tt, tt, tt, tt, tt, tt, tt, tt, tt, tt, tt, tt, tt, tt, tt, tt, tt, tt, tt, tt, tt, tt, tt, ff] (fun _ hq => p1 79 (.tmp 84) (.const (.bool false)) (.bool (r171 == r179)) hb168) ?_
           refine Dvl [42] [tt, tt, tt, tt, tt, tt, tt, tt, tt, tt, tt, tt, tt, tt, tt, tt, tt, tt, tt, tt, tt, tt, tt, tt, tt, tt, tt, tt, tt, tt, tt, tt, tt, tt, tt, tt, tt, tt, tt, tt, tt, tt, tt] ?_
           obtain rfl := Aa h181
           exact R3 (by kernel_rfl) ⟨F16, hs184.dr0.dr0, ((((((le125.trans le133).trans le150).trans le158).trans le166).trans le177).trans le185), fI⟩
          ·refine Dkl [(36, 80), (37, 81), (38, 82), (39, 83), (40, 84)] 35 true 79 hb168 [tt, tt, tt, tt, tt, tt, tt, tt, tt, tt, tt, tt, tt, tt, tt, tt, tt, tt, tt, tt, tt, tt, tt, tt, tt, tt, tt, tt, tt, tt, tt, tt, tt, tt, tt, tt, tt, tt, tt, tt, tt, ff, ff] ?_
           refine Dtl 41 85 4 _ [tt, tt, tt, tt, tt, tt, tt, tt, tt, tt, tt, tt, tt, tt, tt, tt, tt, tt, tt, tt, tt, tt, tt, tt, tt, tt, tt, tt, tt, tt, tt, tt, tt, tt, tt, tt, tt, tt, tt, tt, tt, tt, ff] (fun _ hq => p0 79 (.tmp 84) (.const (.bool false)) (.bool false) hb168) ?_
           refine Dvl [42] [tt, tt, tt, tt, tt, tt, tt, tt, tt, tt, tt, tt, tt, tt, tt, tt, tt, tt, tt, tt, tt, tt, tt, tt, tt, tt, tt, tt, tt, tt, tt, tt, tt, tt, tt, tt, tt, tt, tt, tt, tt, tt, tt] ?_
           obtain rfl := Aa h170
           exact R3 (by kernel_rfl) ⟨F14, hs165.dr0.dr0, ((((le125.trans le133).trans le150).trans le158).trans le166), fI⟩
         ·refine Dkl [(29, 73), (30, 74), (31, 75), (32, 76), (33, 77)] 28 true 72 hb141 [tt, tt, tt, tt, tt, tt, tt, tt, tt, tt, tt, tt, tt, tt, tt, tt, tt, tt, tt, tt, tt, tt, tt, tt, tt, tt, tt, tt, tt, tt, tt, tt, tt, tt, ff, ff, ff, ff, ff, ff, ff, ff, ff] ?_
          refine Dtl 34 78 4 _ [tt, tt, tt, tt, tt, tt, tt, tt, tt, tt, tt, tt, tt, tt, tt, tt, tt, tt, tt, tt, tt, tt, tt, tt, tt, tt, tt, tt, tt, tt, tt, tt, tt, tt, tt, ff, ff, ff, ff, ff, ff, ff, ff] (fun _ hq => p0 72 (.tmp 77) (.const (.bool false)) (.bool false) hb141) ?_
          refine Dvl [35] [tt, tt, tt, tt, tt, tt, tt, tt, tt, tt, tt, tt, tt, tt, tt, tt, tt, tt, tt, tt, tt, tt, tt, tt, tt, tt, tt, tt, tt, tt, tt, tt, tt, tt, tt, tt, ff, ff, ff, ff, ff, ff, ff] ?_
          refine Dkl [(36, 80), (37, 81), (38, 82), (39, 83), (40, 84)] 35 true 79 rfl [tt, tt, tt, tt, tt, tt, tt, tt, tt, tt, tt, tt, tt, tt, tt, tt, tt, tt, tt, tt, tt, tt, tt, tt, tt, tt, tt, tt, tt, tt, tt, tt, tt, tt, tt, tt, tt, tt, tt, tt, tt, ff, ff] ?_
          refine Dtl 41 85 4 _ [tt, tt, tt, tt, tt, tt, tt, tt, tt, tt, tt, tt, tt, tt, tt, tt, tt, tt, tt, tt, tt, tt, tt, tt, tt, tt, tt, tt, tt, tt, tt, tt, tt, tt, tt, tt, tt, tt, tt, tt, tt, tt, ff] (fun _ hq => p0 79 (.tmp 84) (.const (.bool false)) (.bool false) rfl) ?_
          refine Dvl [42] [tt, tt, tt, tt, tt, tt, tt, tt, tt, tt, tt, tt, tt, tt, tt, tt, tt, tt, tt, tt, tt, tt, tt, tt, tt, tt, tt, tt, tt, tt, tt, tt, tt, tt, tt, tt, tt, tt, tt, tt, tt, tt, tt] ?_
          obtain rfl := Aa h143
          exact R3 (by kernel_rfl) ⟨F11, hs132.dr0.dr0, (le125.trans le133), fI⟩
        ·refine Dkl [(24, 68), (25, 69), (26, 70)] 23 true 67 hb138 [tt, tt, tt, tt, tt, tt, tt, tt, tt, tt, tt, tt, tt, tt, tt, tt, tt, tt, tt, tt, tt, tt, tt, tt, tt, tt, tt, ff, ff, ff, ff, ff, ff, ff, ff, ff, ff, ff, ff, ff, ff, ff, ff] ?_
         refine Dtl 27 71 4 _ [tt, tt, tt, tt, tt, tt, tt, tt, tt, tt, tt, tt, tt, tt, tt, tt, tt, tt, tt, tt, tt, tt, tt, tt, tt, tt, tt, tt, ff, ff, ff, ff, ff, ff, ff, ff, ff, ff, ff, ff, ff, ff, ff] (fun _ hq => p0 67 (.tmp 70) (.const (.bool false)) (.bool false) hb138) ?_
         refine Dvl [28] [tt, tt, tt, tt, tt, tt, tt, tt, tt, tt, tt, tt, tt, tt, tt, tt, tt, tt, tt, tt, tt, tt, tt, tt, tt, tt, tt, tt, tt, ff, ff, ff, ff, ff, ff, ff, ff, ff, ff, ff, ff, ff, ff] ?_
         refine Dkl [(29, 73), (30, 74), (31, 75), (32, 76), (33, 77)] 28 true 72 rfl [tt, tt, tt, tt, tt, tt, tt, tt, tt, tt, tt, tt, tt, tt, tt, tt, tt, tt, tt, tt, tt, tt, tt, tt, tt, tt, tt, tt, tt, tt, tt, tt, tt, tt, ff, ff, ff, ff, ff, ff, ff, ff, ff] ?_
         refine Dtl 34 78 4 _ [tt, tt, tt, tt, tt, tt, tt, tt, tt, tt, tt, tt, tt, tt, tt, tt, tt, tt, tt, tt, tt, tt, tt, tt, tt, tt, tt, tt, tt, tt, tt, tt, tt, tt, tt, ff, ff, ff, ff, ff, ff, ff, ff] (fun _ hq => p0 72 (.tmp 77) (.const (.bool false)) (.bool false) rfl) ?_
         refine Dvl [35] [tt, tt, tt, tt, tt, tt, tt, tt, tt, tt, tt, tt, tt, tt, tt, tt, tt, tt, tt, tt, tt, tt, tt, tt, tt, tt, tt, tt, tt, tt, tt, tt, tt, tt, tt, tt, ff, ff, ff, ff, ff, ff, ff] ?_
         refine Dkl [(36, 80), (37, 81), (38, 82), (39, 83), (40, 84)] 35 true 79 rfl [tt, tt, tt, tt, tt, tt, tt, tt, tt, tt, tt, tt, tt, tt, tt, tt, tt, tt, tt, tt, tt, tt, tt, tt, tt, tt, tt, tt, tt, tt, tt, tt, tt, tt, tt, tt, tt, tt, tt, tt, tt, ff, ff] ?_
         refine Dtl 41 85 4 _ [tt, tt, tt, tt, tt, tt, tt, tt, tt, tt, tt, tt, tt, tt, tt, tt, tt, tt, tt, tt, tt, tt, tt, tt, tt, tt, tt, tt, tt, tt, tt, tt, tt, tt, tt, tt, tt, tt, tt, tt, tt, tt, ff] (fun _ hq => p0 79 (.tmp 84) (.const (.bool false)) (.bool false) rfl) ?_
         refine Dvl [42] [tt, tt, tt, tt, tt, tt, tt, tt, tt, tt, tt, tt, tt, tt, tt, tt, tt, tt, tt, tt, tt, tt, tt, tt, tt, tt, tt, tt, tt, tt, tt, tt, tt, tt, tt, tt, tt, tt, tt, tt, tt, tt, tt] ?_
         obtain rfl := Aa h140
         exact R3 (by kernel_rfl) ⟨F11, hs132.dr0.dr0, (le125.trans le133), fI⟩
       ·refine Dkl [(19, 63), (20, 64), (21, 65)] 18 true 62 hb135 [tt, tt, tt, tt, tt, tt, tt, tt, tt, tt, tt, tt, tt, tt, tt, tt, tt, tt, tt, tt, tt, tt, ff, ff, ff, ff, ff, ff, ff, ff, ff, ff, ff, ff, ff, ff, ff, ff, ff, ff, ff, ff, ff] ?_
        refine Dtl 22 66 4 _ [tt, tt, tt, tt, tt, tt, tt, tt, tt, tt, tt, tt, tt, tt, tt, tt, tt, tt, tt, tt, tt, tt, tt, ff, ff, ff, ff, ff, ff, ff, ff, ff, ff, ff, ff, ff, ff, ff, ff, ff, ff, ff, ff] (fun _ hq => p0 62 (.tmp 65) (.const (.bool false)) (.bool false) hb135) ?_
        refine Dvl [23] [tt, tt, tt, tt, tt, tt, tt, tt, tt, tt, tt, tt, tt, tt, tt, tt, tt, tt, tt, tt, tt, tt, tt, tt, ff, ff, ff, ff, ff, ff, ff, ff, ff, ff, ff, ff, ff, ff, ff, ff, ff, ff, ff] ?_
        refine Dkl [(24, 68), (25, 69), (26, 70)] 23 true 67 rfl [tt, tt, tt, tt, tt, tt, tt, tt, tt, tt, tt, tt, tt, tt, tt, tt, tt, tt, tt, tt, tt, tt, tt, tt, tt, tt, tt, ff, ff, ff, ff, ff, ff, ff, ff, ff, ff, ff, ff, ff, ff, ff, ff] ?_
        refine Dtl 27 71 4 _ [tt, tt, tt, tt, tt, tt, tt, tt, tt, tt, tt, tt, tt, tt, tt, tt, tt, tt, tt, tt, tt, tt, tt, tt, tt, tt, tt, tt, ff, ff, ff, ff, ff, ff, ff, ff, ff, ff, ff, ff, ff, ff, ff] (fun _ hq => p0 67 (.tmp 70) (.const (.bool false)) (.bool false) rfl) ?_
        refine Dvl [28] [tt, tt, tt, tt, tt, tt, tt, tt, tt, tt, tt, tt, tt, tt, tt, tt, tt, tt, tt, tt, tt, tt, tt, tt, tt, tt, tt, tt, tt, ff, ff, ff, ff, ff, ff, ff, ff, ff, ff, ff, ff, ff, ff] ?_
        refine Dkl [(29, 73), (30, 74), (31, 75), (32, 76), (33, 77)] 28 true 72 rfl [tt, tt, tt, tt, tt, tt, tt, tt, tt, tt, tt, tt, tt, tt, tt, tt, tt, tt, tt, tt, tt, tt, tt, tt, tt, tt, tt, tt, tt, tt, tt, tt, tt, tt, ff, ff, ff, ff, ff, ff, ff, ff, ff] ?_
        refine Dtl 34 78 4 _ [tt, tt, tt, tt, tt, tt, tt, tt, tt, tt, tt, tt, tt, tt, tt, tt, tt, tt, tt, tt, tt, tt, tt, tt, tt, tt, tt, tt, tt, tt, tt, tt, tt, tt, tt, ff, ff, ff, ff, ff, ff, ff, ff] (fun _ hq => p0 72 (.tmp 77) (.const (.bool false)) (.bool false) rfl) ?_
        refine Dvl [35] [tt, tt, tt, tt, tt, tt, tt, tt, tt, tt, tt, tt, tt, tt, tt, tt, tt, tt, tt, tt, tt, tt, tt, tt, tt, tt, tt, tt, tt, tt, tt, tt, tt, tt, tt, tt, ff, ff, ff, ff, ff, ff, ff] ?_
        refine Dkl [(36, 80), (37, 81), (38, 82), (39, 83), (40, 84)] 35 true 79 rfl [tt, tt, tt, tt, tt, tt, tt, tt, tt, tt, tt, tt, tt, tt, tt, tt, tt, tt, tt, tt, tt, tt, tt, tt, tt, tt, tt, tt, tt, tt, tt, tt, tt, tt, tt, tt, tt, tt, tt, tt, tt, ff, ff] ?_
        refine Dtl 41 85 4 _ [tt, tt, tt, tt, tt, tt, tt, tt, tt, tt, tt, tt, tt, tt, tt, tt, tt, tt, tt, tt, tt, tt, tt, tt, tt, tt, tt, tt, tt, tt, tt, tt, tt, tt, tt, tt, tt, tt, tt, tt, tt, tt, ff] (fun _ hq => p0 79 (.tmp 84) (.const (.bool false)) (.bool false) rfl) ?_
        refine Dvl [42] [tt, tt, tt, tt, tt, tt, tt, tt, tt, tt, tt, tt, tt, tt, tt, tt, tt, tt, tt, tt, tt, tt, tt, tt, tt, tt, tt, tt, tt, tt, tt, tt, tt, tt, tt, tt, tt, tt, tt, tt, tt, tt, tt] ?_
        obtain rfl := Aa h137
        exact R3 (by kernel_rfl) ⟨F11, hs132.dr0.dr0, (le125.trans le133), fI⟩
      ·refine Dkl [(12, 56), (13, 57), (14, 58), (15, 59), (16, 60)] 11 true 55 hb116 [tt, tt, tt, tt, tt, tt, tt, tt, tt, tt, tt, tt, tt, tt, tt, tt, tt, ff, ff, ff, ff, ff, ff, ff, ff, ff, ff, ff, ff, ff, ff, ff, ff, ff, ff, ff, ff, ff, ff, ff, ff, ff, ff] ?_
       refine Dtl 17 61 4 _ [tt, tt, tt, tt, tt, tt, tt, tt, tt, tt, tt, tt, tt, tt, tt, tt, tt, tt, ff, ff, ff, ff, ff, ff, ff, ff, ff, ff, ff, ff, ff, ff, ff, ff, ff, ff, ff, ff, ff, ff, ff, ff, ff] (fun _ hq => p0 55 (.tmp 60) (.const (.bool false)) (.bool false) hb116) ?_
       refine Dvl [18] [tt, tt, tt, tt, tt, tt, tt, tt, tt, tt, tt, tt, tt, tt, tt, tt, tt, tt, tt, ff, ff, ff, ff, ff, ff, ff, ff, ff, ff, ff, ff, ff, ff, ff, ff, ff, ff, ff, ff, ff, ff, ff, ff] ?_
       refine Dkl [(19, 63), (20, 64), (21, 65)] 18 true 62 rfl [tt, tt, tt, tt, tt, tt, tt, tt, tt, tt, tt, tt, tt, tt, tt, tt, tt, tt, tt, tt, tt, tt, ff, ff, ff, ff, ff, ff, ff, ff, ff, ff, ff, ff, ff, ff, ff, ff, ff, ff, ff, ff, ff] ?_
       refine Dtl 22 66 4 _ [tt, tt, tt, tt, tt, tt, tt, tt, tt, tt, tt, tt, tt, tt, tt, tt, tt, tt, tt, tt, tt, tt, tt, ff, ff, ff, ff, ff, ff, ff, ff, ff, ff, ff, ff, ff, ff, ff, ff, ff, ff, ff, ff] (fun _ hq => p0 62 (.tmp 65) (.const (.bool false)) (.bool false) rfl) ?_
       refine Dvl [23] [tt, tt, tt, tt, tt, tt, tt, tt, tt, tt, tt, tt, tt, tt, tt, tt, tt, tt, tt, tt, tt, tt, tt, tt, ff, ff, ff, ff, ff, ff, ff, ff, ff, ff, ff, ff, ff, ff, ff, ff, ff, ff, ff] ?_
       refine Dkl [(24, 68), (25, 69), (26, 70)] 23 true 67 rfl [tt, tt, tt, tt, tt, tt, tt, tt, tt, tt, tt, tt, tt, tt, tt, tt, tt, tt, tt, tt, tt, tt, tt, tt, tt, tt, tt, ff, ff, ff, ff, ff, ff, ff, ff, ff, ff, ff, ff, ff, ff, ff, ff] ?_
       refine Dtl 27 71 4 _ [tt, tt, tt, tt, tt, tt, tt, tt, tt, tt, tt, tt, tt, tt, tt, tt, tt, tt, tt, tt, tt, tt, tt, tt, tt, tt, tt, tt, ff, ff, ff, ff, ff, ff, ff, ff, ff, ff, ff, ff, ff, ff, ff] (fun _ hq => p0 67 (.tmp 70) (.const (.bool false)) (.bool false) rfl) ?_
       refine Dvl [28] [tt, tt, tt, tt, tt, tt, tt, tt, tt, tt, tt, tt, tt, tt, tt, tt, tt, tt, tt, tt, tt, tt, tt, tt, tt, tt, tt, tt, tt, ff, ff, ff, ff, ff, ff, ff, ff, ff, ff, ff, ff, ff, ff] ?_
       refine Dkl [(29, 73), (30, 74), (31, 75), (32, 76), (33, 77)] 28 true 72 rfl [tt, tt, tt, tt, tt, tt, tt, tt, tt, tt, tt, tt, tt, tt, tt, tt, tt, tt, tt, tt, tt, tt, tt, tt, tt, tt, tt, tt, tt, tt, tt, tt, tt, tt, ff, ff, ff, ff, ff, ff, ff, ff, ff] ?_
       refine Dtl 34 78 4 _ [tt, tt, tt, tt, tt, tt, tt, tt, tt, tt, tt, tt, tt, tt, tt, tt, tt, tt, tt, tt, tt, tt, tt, tt, tt, tt, tt, tt, tt, tt, tt, tt, tt, tt, tt, ff, ff, ff, ff, ff, ff, ff, ff] (fun _ hq => p0 72 (.tmp 77) (.const (.bool false)) (.bool false) rfl) ?_
       refine Dvl [35] [tt, tt, tt, tt, tt, tt, tt, tt, tt, tt, tt, tt, tt, tt, tt, tt, tt, tt, tt, tt, tt, tt, tt, tt, tt, tt, tt, tt, tt, tt, tt, tt, tt, tt, tt, tt, ff, ff, ff, ff, ff, ff, ff] ?_
       refine Dkl [(36, 80), (37, 81), (38, 82), (39, 83), (40, 84)] 35 true 79 rfl [tt, tt, tt, tt, tt, tt, tt, tt, tt, tt, tt, tt, tt, tt, tt, tt, tt, tt, tt, tt, tt, tt, tt, tt, tt, tt, tt, tt, tt, tt, tt, tt, tt, tt, tt, tt, tt, tt, tt, tt, tt, ff, ff] ?_
       refine Dtl 41 85 4 _ [tt, tt, tt, tt, tt, tt, tt, tt, tt, tt, tt, tt, tt, tt, tt, tt, tt, tt, tt, tt, tt, tt, tt, tt, tt, tt, tt, tt, tt, tt, tt, tt, tt, tt, tt, tt, tt, tt, tt, tt, tt, tt, ff] (fun _ hq => p0 79 (.tmp 84) (.const (.bool false)) (.bool false) rfl) ?_
       refine Dvl [42] [tt, tt, tt, tt, tt, tt, tt, tt, tt, tt, tt, tt, tt, tt, tt, tt, tt, tt, tt, tt, tt, tt, tt, tt, tt, tt, tt, tt, tt, tt, tt, tt, tt, tt, tt, tt, tt, tt, tt, tt, tt, tt, tt] ?_
       obtain rfl := Aa h118
       exact R3 (by kernel_rfl) ⟨F8, hw101.dr0.dr0, (RM _), fI⟩
     ·refine Dkl [(7, 51), (8, 52), (9, 53)] 6 true 50 hb113 [tt, tt, tt, tt, tt, tt, tt, tt, tt, tt, ff, ff, ff, ff, ff, ff, ff, ff, ff, ff, ff, ff, ff, ff, ff, ff, ff, ff, ff, ff, ff, ff, ff, ff, ff, ff, ff, ff, ff, ff, ff, ff, ff] ?_
      refine Dtl 10 54 4 _ [tt, tt, tt, tt, tt, tt, tt, tt, tt, tt, tt, ff, ff, ff, ff, ff, ff, ff, ff, ff, ff, ff, ff, ff, ff, ff, ff, ff, ff, ff, ff, ff, ff, ff, ff, ff, ff, ff, ff, ff, ff, ff, ff] (fun _ hq => p0 50 (.tmp 53) (.const (.bool false)) (.bool false) hb113) ?_
      refine Dvl [11] [tt, tt, tt, tt, tt, tt, tt, tt, tt, tt, tt, tt, ff, ff, ff, ff, ff, ff, ff, ff, ff, ff, ff, ff, ff, ff, ff, ff, ff, ff, ff, ff, ff, ff, ff, ff, ff, ff, ff, ff, ff, ff, ff] ?_
      refine Dkl [(12, 56), (13, 57), (14, 58), (15, 59), (16, 60)] 11 true 55 rfl [tt, tt, tt, tt, tt, tt, tt, tt, tt, tt, tt, tt, tt, tt, tt, tt, tt, ff, ff, ff, ff, ff, ff, ff, ff, ff, ff, ff, ff, ff, ff, ff, ff, ff, ff, ff, ff, ff, ff, ff, ff, ff, ff] ?_
      refine Dtl 17 61 4 _ [tt, tt, tt, tt, tt, tt, tt, tt, tt, tt, tt, tt, tt, tt, tt, tt, tt, tt, ff, ff, ff, ff, ff, ff, ff, ff, ff, ff, ff, ff, ff, ff, ff, ff, ff, ff, ff, ff, ff, ff, ff, ff, ff] (fun _ hq => p0 55 (.tmp 60) (.const (.bool false)) (.bool false) rfl) ?_
      refine Dvl [18] [tt, tt, tt, tt, tt, tt, tt, tt, tt, tt, tt, tt, tt, tt, tt, tt, tt, tt, tt, ff, ff, ff, ff, ff, ff, ff, ff, ff, ff, ff, ff, ff, ff, ff, ff, ff, ff, ff, ff, ff, ff, ff, ff] ?_
      refine Dkl [(19, 63), (20, 64), (21, 65)] 18 true 62 rfl [tt, tt, tt, tt, tt, tt, tt, tt, tt, tt, tt, tt, tt, tt, tt, tt, tt, tt, tt, tt, tt, tt, ff, ff, ff, ff, ff, ff, ff, ff, ff, ff, ff, ff, ff, ff, ff, ff, ff, ff, ff, ff, ff] ?_
      refine Dtl 22 66 4 _ [tt, tt, tt, tt, tt, tt, tt, tt, tt, tt, tt, tt, tt, tt, tt, tt, tt, tt, tt, tt, tt, tt, tt, ff, ff, ff, ff, ff, ff, ff, ff, ff, ff, ff, ff, ff, ff, ff, ff, ff, ff, ff, ff] (fun _ hq => p0 62 (.tmp 65) (.const (.bool false)) (.bool false) rfl) ?_
      refine Dvl [23] [tt, tt, tt, tt, tt, tt, tt, tt, tt, tt, tt, tt, tt, tt, tt, tt, tt, tt, tt, tt, tt, tt, tt, tt, ff, ff, ff, ff, ff, ff, ff, ff, ff, ff, ff, ff, ff, ff, ff, ff, ff, ff, ff] ?_
      refine Dkl [(24, 68), (25, 69), (26, 70)] 23 true 67 rfl [tt, tt, tt, tt, tt, tt, tt, tt, tt, tt, tt, tt, tt, tt, tt, tt, tt, tt, tt, tt, tt, tt, tt, tt, tt, tt, tt, ff, ff, ff, ff, ff, ff, ff, ff, ff, ff, ff, ff, ff, ff, ff, ff] ?_
      refine Dtl 27 71 4 _ [tt, tt, tt, tt, tt, tt, tt, tt, tt, tt, tt, tt, tt, tt, tt, tt, tt, tt, tt, tt, tt, tt, tt, tt, tt, tt, tt, tt, ff, ff, ff, ff, ff, ff, ff, ff, ff, ff, ff, ff, ff, ff, ff] (fun _ hq => p0 67 (.tmp 70) (.const (.bool false)) (.bool false) rfl) ?_
      refine Dvl [28] [tt, tt, tt, tt, tt, tt, tt, tt, tt, tt, tt, tt, tt, tt, tt, tt, tt, tt, tt, tt, tt, tt, tt, tt, tt, tt, tt, tt, tt, ff, ff, ff, ff, ff, ff, ff, ff, ff, ff, ff, ff, ff, ff] ?_
      refine Dkl [(29, 73), (30, 74), (31, 75), (32, 76), (33, 77)] 28 true 72 rfl [tt, tt, tt, tt, tt, tt, tt, tt, tt, tt, tt, tt, tt, tt, tt, tt, tt, tt, tt, tt, tt, tt, tt, tt, tt, tt, tt, tt, tt, tt, tt, tt, tt, tt, ff, ff, ff, ff, ff, ff, ff, ff, ff] ?_
      refine Dtl 34 78 4 _ [tt, tt, tt, tt, tt, tt, tt, tt, tt, tt, tt, tt, tt, tt, tt, tt, tt, tt, tt, tt, tt, tt, tt, tt, tt, tt, tt, tt, tt, tt, tt, tt, tt, tt, tt, ff, ff, ff, ff, ff, ff, ff, ff] (fun _ hq => p0 72 (.tmp 77) (.const (.bool false)) (.bool false) rfl) ?_
      refine Dvl [35] [tt, tt, tt, tt, tt, tt, tt, tt, tt, tt, tt, tt, tt, tt, tt, tt, tt, tt, tt, tt, tt, tt, tt, tt, tt, tt, tt, tt, tt, tt, tt, tt, tt, tt, tt, tt, ff, ff, ff, ff, ff, ff, ff] ?_
      refine Dkl [(36, 80), (37, 81), (38, 82), (39, 83), (40, 84)] 35 true 79 rfl [tt, tt, tt, tt, tt, tt, tt, tt, tt, tt, tt, tt, tt, tt, tt, tt, tt, tt, tt, tt, tt, tt, tt, tt, tt, tt, tt, tt, tt, tt, tt, tt, tt, tt, tt, tt, tt, tt, tt, tt, tt, ff, ff] ?_
      refine Dtl 41 85 4 _ [tt, tt, tt, tt, tt, tt, tt, tt, tt, tt, tt, tt, tt, tt, tt, tt, tt, tt, tt, tt, tt, tt, tt, tt, tt, tt, tt, tt, tt, tt, tt, tt, tt, tt, tt, tt, tt, tt, tt, tt, tt, tt, ff] (fun _ hq => p0 79 (.tmp 84) (.const (.bool false)) (.bool false) rfl) ?_
      refine Dvl [42] [tt, tt, tt, tt, tt, tt, tt, tt, tt, tt, tt, tt, tt, tt, tt, tt, tt, tt, tt, tt, tt, tt, tt, tt, tt, tt, tt, tt, tt, tt, tt, tt, tt, tt, tt, tt, tt, tt, tt, tt, tt, tt, tt] ?_
      obtain rfl := Aa h115
      exact R3 (by kernel_rfl) ⟨F8, hw101.dr0.dr0, (RM _), fI⟩
    ·refine Dkl [(2, 46), (3, 47), (4, 48)] 1 true 45 hb110 [tt, tt, tt, tt, tt, ff, ff, ff, ff, ff, ff, ff, ff, ff, ff, ff, ff, ff, ff, ff, ff, ff, ff, ff, ff, ff, ff, ff, ff, ff, ff, ff, ff, ff, ff, ff, ff, ff, ff, ff, ff, ff, ff] ?_
     refine Dtl 5 49 4 _ [tt, tt, tt, tt, tt, tt, ff, ff, ff, ff, ff, ff, ff, ff, ff, ff, ff, ff, ff, ff, ff, ff, ff, ff, ff, ff, ff, ff, ff, ff, ff, ff, ff, ff, ff, ff, ff, ff, ff, ff, ff, ff, ff] (fun _ hq => p0 45 (.tmp 48) (.const (.bool false)) (.bool false) hb110) ?_
     refine Dvl [6] [tt, tt, tt, tt, tt, tt, tt, ff, ff, ff, ff, ff, ff, ff, ff, ff, ff, ff, ff, ff, ff, ff, ff, ff, ff, ff, ff, ff, ff, ff, ff, ff, ff, ff, ff, ff, ff, ff, ff, ff, ff, ff, ff] ?_
     refine Dkl [(7, 51), (8, 52), (9, 53)] 6 true 50 rfl [tt, tt, tt, tt, tt, tt, tt, tt, tt, tt, ff, ff, ff, ff, ff, ff, ff, ff, ff, ff, ff, ff, ff, ff, ff, ff, ff, ff, ff, ff, ff, ff, ff, ff, ff, ff, ff, ff, ff, ff, ff, ff, ff] ?_
     refine Dtl 10 54 4 _ [tt, tt, tt, tt, tt, tt, tt, tt, tt, tt, tt, ff, ff, ff, ff, ff, ff, ff, ff, ff, ff, ff, ff, ff, ff, ff, ff, ff, ff, ff, ff, ff, ff, ff, ff, ff, ff, ff, ff, ff, ff, ff, ff] (fun _ hq => p0 50 (.tmp 53) (.const (.bool false)) (.bool false) rfl) ?_
     refine Dvl [11] [tt, tt, tt, tt, tt, tt, tt, tt, tt, tt, tt, tt, ff, ff, ff, ff, ff, ff, ff, ff, ff, ff, ff, ff, ff, ff, ff, ff, ff, ff, ff, ff, ff, ff, ff, ff, ff, ff, ff, ff, ff, ff, ff] ?_
     refine Dkl [(12, 56), (13, 57), (14, 58), (15, 59), (16, 60)] 11 true 55 rfl [tt, tt, tt, tt, tt, tt, tt, tt, tt, tt, tt, tt, tt, tt, tt, tt, tt, ff, ff, ff, ff, ff, ff, ff, ff, ff, ff, ff, ff, ff, ff, ff, ff, ff, ff, ff, ff, ff, ff, ff, ff, ff, ff] ?_
     refine Dtl 17 61 4 _ [tt, tt, tt, tt, tt, tt, tt, tt, tt, tt, tt, tt, tt, tt, tt, tt, tt, tt, ff, ff, ff, ff, ff, ff, ff, ff, ff, ff, ff, ff, ff, ff, ff, ff, ff, ff, ff, ff, ff, ff, ff, ff, ff] (fun _ hq => p0 55 (.tmp 60) (.const (.bool false)) (.bool false) rfl) ?_
     refine Dvl [18] [tt, tt, tt, tt, tt, tt, tt, tt, tt, tt, tt, tt, tt, tt, tt, tt, tt, tt, tt, ff, ff, ff, ff, ff, ff, ff, ff, ff, ff, ff, ff, ff, ff, ff, ff, ff, ff, ff, ff, ff, ff, ff, ff] ?_
     refine Dkl [(19, 63), (20, 64), (21, 65)] 18 true 62 rfl [tt, tt, tt, tt, tt, tt, tt, tt, tt, tt, tt, tt, tt, tt, tt, tt, tt, tt, tt, tt, tt, tt, ff, ff, ff, ff, ff, ff, ff, ff, ff, ff, ff, ff, ff, ff, ff, ff, ff, ff, ff, ff, ff] ?_
     refine Dtl 22 66 4 _ [tt, tt, tt, tt, tt, tt, tt, tt, tt, tt, tt, tt, tt, tt, tt, tt, tt, tt, tt, tt, tt, tt, tt, ff, ff, ff, ff, ff, ff, ff, ff, ff, ff, ff, ff, ff, ff, ff, ff, ff, ff, ff, ff] (fun _ hq => p0 62 (.tmp 65) (.const (.bool false)) (.bool false) rfl) ?_
     refine Dvl [23] [tt, tt, tt, tt, tt, tt, tt, tt, tt, tt, tt, tt, tt, tt, tt, tt, tt, tt, tt, tt, tt, tt, tt, tt, ff, ff, ff, ff, ff, ff, ff, ff, ff, ff, ff, ff, ff, ff, ff, ff, ff, ff, ff] ?_
     refine Dkl [(24, 68), (25, 69), (26, 70)] 23 true 67 rfl [tt, tt, tt, tt, tt, tt, tt, tt, tt, tt, tt, tt, tt, tt, tt, tt, tt, tt, tt, tt, tt, tt, tt, tt, tt, tt, tt, ff, ff, ff, ff, ff, ff, ff, ff, ff, ff, ff, ff, ff, ff, ff, ff] ?_
     refine Dtl 27 71 4 _ [tt, tt, tt, tt, tt, tt, tt, tt, tt, tt, tt, tt, tt, tt, tt, tt, tt, tt, tt, tt, tt, tt, tt, tt, tt, tt, tt, tt, ff, ff, ff, ff, ff, ff, ff, ff, ff, ff, ff, ff, ff, ff, ff] (fun _ hq => p0 67 (.tmp 70) (.const (.bool false)) (.bool false) rfl) ?_
     refine Dvl [28] [tt, tt, tt, tt, tt, tt, tt, tt, tt, tt, tt, tt, tt, tt, tt, tt, tt, tt, tt, tt, tt, tt, tt, tt, tt, tt, tt, tt, tt, ff, ff, ff, ff, ff, ff, ff, ff, ff, ff, ff, ff, ff, ff] ?_
     refine Dkl [(29, 73), (30, 74), (31, 75), (32, 76), (33, 77)] 28 true 72 rfl [tt, tt, tt, tt, tt, tt, tt, tt, tt, tt, tt, tt, tt, tt, tt, tt, tt, tt, tt, tt, tt, tt, tt, tt, tt, tt, tt, tt, tt, tt, tt, tt, tt, tt, ff, ff, ff, ff, ff, ff, ff, ff, ff] ?_
     refine Dtl 34 78 4 _ [tt, tt, tt, tt, tt, tt, tt, tt, tt, tt, tt, tt, tt, tt, tt, tt, tt, tt, tt, tt, tt, tt, tt, tt, tt, tt, tt, tt, tt, tt, tt, tt, tt, tt, tt, ff, ff, ff, ff, ff, ff, ff, ff] (fun _ hq => p0 72 (.tmp 77) (.const (.bool false)) (.bool false) rfl) ?_
     refine Dvl [35] [tt, tt, tt, tt, tt, tt, tt, tt, tt, tt, tt, tt, tt, tt, tt, tt, tt, tt, tt, tt, tt, tt, tt, tt, tt, tt, tt, tt, tt, tt, tt, tt, tt, tt, tt, tt, ff, ff, ff, ff, ff, ff, ff] ?_
     refine Dkl [(36, 80), (37, 81), (38, 82), (39, 83), (40, 84)] 35 true 79 rfl [tt, tt, tt, tt, tt, tt, tt, tt, tt, tt, tt, tt, tt, tt, tt, tt, tt, tt, tt, tt, tt, tt, tt, tt, tt, tt, tt, tt, tt, tt, tt, tt, tt, tt, tt, tt, tt, tt, tt, tt, tt, ff, ff] ?_
     refine Dtl 41 85 4 _ [tt, tt, tt, tt, tt, tt, tt, tt, tt, tt, tt, tt, tt, tt, tt, tt, tt, tt, tt, tt, tt, tt, tt, tt, tt, tt, tt, tt, tt, tt, tt, tt, tt, tt, tt, tt, tt, tt, tt, tt, tt, tt, ff] (fun _ hq => p0 79 (.tmp 84) (.const (.bool false)) (.bool false) rfl) ?_
     refine Dvl [42] [tt, tt, tt, tt, tt, tt, tt, tt, tt, tt, tt, tt, tt, tt, tt, tt, tt, tt, tt, tt, tt, tt, tt, tt, tt, tt, tt, tt, tt, tt, tt, tt, tt, tt, tt, tt, tt, tt, tt, tt, tt, tt, tt] ?_
     obtain rfl := Aa h112
     exact R3 (by kernel_rfl) ⟨F8, hw101.dr0.dr0, (RM _), fI⟩
   ·rintro f w102 ⟨F9, hs103, le104, ⟨_, rfl⟩⟩
    refine Ac ?_
    refine Rt ?_
    obtain rfl := Aa h109
    exact Re [(.bool j105)] hs103 rfl
theorem Qu {N : Nat} {x : Expr} (h : Fit N x) : ∃ p, FG N x = some p /\ FJ N x = some p := by
 unfold FG FJ
 rw [Kj h, OX h]
 simp only [Option.bind_some]
 by_cases h0 : kd x = 0
 ·rw [h0]; exact ⟨(0, 61), rfl, rfl⟩
 ·rcases QY h0 with e | e <;> rw [e] <;> exact ⟨_, rfl, rfl⟩
theorem Mm {N : Nat} (hN : 1000 < N) {b : Bp} {x : Expr} (hb : N0 N b) (hx : Fit N x) (hs : sz x < 4294967296) : Ch N b x = some true := by
 unfold Ch Gu
 rw [PK hb, J6 hx, N5 hN hb, ML hN hb, PL hN hb, OW hN hb, OZ hx hs, Ou (by omega) hx, N4 hx, MK hx]
 obtain ⟨p, h1, h2⟩ := Qu hx
 rw [h1, h2]
 have hl := Pn x
 have hsame : Ev N (KN x) (KN x) = some true := M1 (by omega) (by omega)
 simp only [Option.bind_some, hsame, beq_self_eq_true, cond_true]
 cases NE b
 ·rfl
 ·simp only [Bool.not_true, cond_false, Option.bind_some]
  cases decide (nd x > 400) <;> rfl
theorem NO (b : Bp) (x : Expr) (h0 : O6 b) (_ : szB b <= 1048576) (h1 : H1 x) (h2 : sz x <= 1048576) : ∃ N, Ch N b x = some true := by
 obtain ⟨a, ha⟩ := Qg h0
 obtain ⟨c, hc⟩ := Md h1
 exact ⟨a + c + 1001, Mm (by omega) (ha _ (by omega)) (hc _ (by omega)) (by omega)⟩
end Go.Proofs.YtaihlcdkcampbaaGreatDoor
