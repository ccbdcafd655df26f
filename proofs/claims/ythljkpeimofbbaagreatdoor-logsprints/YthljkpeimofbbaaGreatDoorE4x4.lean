/- Lemmas of the claim LogsPrints, printed by a program of the claimant and by hand. No statement of the seat is proved here. -/
import Derived.Test.YthljkpeimofbbaaGreatDoorE4x3
set_option linter.unusedVariables false
set_option linter.unusedSimpArgs false
set_option linter.unusedSectionVars false
set_option maxHeartbeats 4000000
set_option maxRecDepth 100000
namespace Go.Proofs.YthljkpeimofbbaaGreatDoor
theorem G2 {P : Program} {w : World} {ρ : Operand -> Value} {ty t E : TypeId} {len s : Nat} {x y : Operand} {k : IntKind} {i : Int} {cs C : List Value} (hx : ρ x = .agg cs.toArray) (hy : ρ y = .int k i) (hu : P.underlying t = some (.array len E)) (ht : ED P E = some (true, s)) (hi : 0 <= i /\ i < (len : Int)) (hc : Aq cs.toArray (i.toNat * s) s = C) (hl : C.length = s) :
  (Ak ρ (.index t x y) ty).run P w = .ok (.value (.agg C.toArray)) w := by
 have hp := G0 (P := P) (t := E) (C := cs.toArray) (o := i.toNat * s) ht (by rw [hc]; exact hl) (.inl rfl) w
 rw [hc] at hp
 simp only [Ak, execOp, hx, hy, Instr.index, asIntOf, Sem.run_bind, Sem.run_pure, Result.andThen_ok, run_underlying hu, CH ht]
 rw [if_pos hi]
 simp only [Sem.run_bind, CH ht, Result.andThen_ok]
 rw [hp]
 rfl
theorem G1 {P : Program} {w : World} {ρ : Operand -> Value} {ty t E : TypeId} {len s : Nat} {x y : Operand} {k : IntKind} {i n : Int} {cs C : List Value} (hx : ρ x = .agg cs.toArray) (hy : ρ y = .int k i) (hu : P.underlying t = some (.array len E)) (ht : ED P E = some (true, s)) (hd : decide (i = n) = true) (hi : 0 <= n /\ n < (len : Int)) (hc : Aq cs.toArray (n.toNat * s) s = C) (hl : C.length = s) :
  (Ak ρ (.index t x y) ty).run P w = .ok (.value (.agg C.toArray)) w := by
 have e := of_decide_eq_true hd
 subst e
 exact G2 hx hy hu ht hi hc hl
theorem Kk {P : Program} {w : World} {ρ : Operand -> Value} {ty t E : TypeId} {len s b o0 o1 : Nat} {g : Bool} {x y : Operand} {k : IntKind} {i n : Int} (hx : ρ x = .pointer (some ⟨b, o0, none⟩)) (hy : ρ y = .int k i) (hu : P.underlying t = some (.array len E)) (ht : ED P E = some (g, s)) (hd : decide (i = n) = true) (hi : 0 <= n /\ n < (len : Int)) (ho : o0 + n.toNat * s = o1) :
  (Ak ρ (.indexAddr t x y) ty).run P w = .ok (.value (.pointer (some ⟨b, o1, none⟩))) w := by
 have e := of_decide_eq_true hd
 subst e
 subst ho
 have hdo : Ak ρ (.indexAddr t x y) ty = (do pure (Next.value (<- Instr.indexAt t (ρ x) (ρ y)))) := rfl
 rw [hdo, hx, hy]
 have e2 : (Instr.sureAddr (.pointer (some ⟨b, o0, none⟩))).run P w = .ok ⟨b, o0, none⟩ w := rfl
 simp only [Instr.indexAt, asIntOf, Sem.run_bind, Sem.run_pure, Result.andThen_ok, run_underlying hu, e2, hi, and_self, if_true, CH ht, Addr.add]
 first | rfl | (split <;> simp_all)
section
variable {P : Program} {n : Nat} {Q : Exit -> Fr -> World -> Prop} {f : Fr} {w w0 : World} {F0 F : Mem} {L : Own}
theorem CWP.rangeRet {X α σ : Type} {enc : X -> List Value} {ok : Mem -> X -> Prop} {px : X -> α} {m : ∀ {σ : Type}, (σ -> α -> Option (Bool × σ)) -> σ -> Option σ} {c : Code} (hk : Uj c = 1) {gf : FuncId} {cap : List Value} {B : Own}
  (hg : fev f (TQ c) = .func (.func gf) #[] cap.toArray) (hgf : Af P gf) (hd : f.d = []) {ps : List Nat} (hps0 : rps c = ps) (hps : ps.all (· < n) = true) (hlen : ∀ x, (enc x).length = ps.length) (hs : HS w0 F0 w F (B ++ L)) (hseq : RL P gf cap F B enc ok px m)
  (lp : σ -> α -> Option (σ × Bool)) (J : σ -> Mem -> Own -> Prop) (hJm : O4 J) {s : σ} {r : σ × Bool} (hJ : J s F L) (hm : m (Tl lp) (s, true) = some r)
  (hround : ∀ (l : Nat) (s : σ) (x : X) (w' : World) (F' : Mem) (Lf Rf : Own) (t : σ × Bool), V2 F F' -> ok F' x -> J s F' Lf -> HS w0 F0 w' F' (Lf ++ Rf) -> lp s (px x) = some t ->
   CWP P (some l) n (TS c) (fun e f1 w1 => e = .normal /\ ∃ F1 Lu, HS w0 F0 w1 F1 (Lu ++ Rf) /\ ∀ w2 Rg, HS w0 F0 w2 F1 (Lu ++ Rg) -> CWP P (some l) n (Rj c) (fun e f2 w3 => ((e = .normal /\ t.2 = true) \/ (e = .ret /\ t.2 = false)) /\ ∃ F2 Lf2, HS w0 F0 w3 F2 (Lf2 ++ Rg) /\ V2 F' F2 /\ J t.1 F2 Lf2) f1 w2) (setps f ps (enc x)) w')
  (hdone : r.2 = true -> ∀ (D : Nat) (w' : World) (F' : Mem) (Lf : Own), HS w0 F0 w' F' ((some D, .deferred (some [])) :: Lf) -> V2 F F' -> J r.1 F' Lf -> Q .normal ⟨f.v, [{ target := .collected D, args := #[] }]⟩ w')
  (hstop : r.2 = false -> ∀ (D : Nat) (w' : World) (F' : Mem) (Lf : Own), HS w0 F0 w' F' ((some D, .deferred (some [])) :: Lf) -> V2 F F' -> J r.1 F' Lf -> Q .ret ⟨f.v, [{ target := .collected D, args := #[] }]⟩ w') : CWP P none n c Q f w := by
 refine CWP.rangeFunc2 hk hg hgf hd hps0 hps hlen hs hseq (Tl lp) (fun s => s.2) (fun s F L => J s.1 F L) (fun s F F' L h hl => hJm s.1 F F' L h hl) (s := (s, true)) (r := r) hJ rfl hm (fun s x q h => ⟨(LZ h).1, (LZ h).2.1⟩) ?_ (fun D w' F' Lf h0 h1 h2 h3 => hdone h0 D w' F' Lf h1 h2 h3) (fun D w' F' Lf h0 h1 h2 h3 => hstop h0 D w' F' Lf h1 h2 h3)
 intro l s x w' F' Lf Rf q hle hok hJ hs hyq
 obtain ⟨h1, h2, h3⟩ := LZ hyq
 refine (hround l s.1 x w' F' Lf Rf q.2 hle hok hJ hs h3).mono ?_
 rintro e f1 w1 ⟨rfl, F1, Lu, hs1, h⟩
 refine ⟨rfl, F1, Lu, hs1, fun w2 Rg hs2 => (h w2 Rg hs2).mono ?_⟩
 rintro e f2 w3 ⟨he, h⟩
 rw [h2]
 exact ⟨he, h⟩
end
def osk {α τ : Type} (q : Option α) (f : τ) (g : α -> τ) : τ := match q with
 | none => f
 | some a => g a
theorem Uy {α τ : Type} {f : τ} {g : α -> τ} {r : τ} (h : osk none f g = r) : f = r := h
theorem Ux {α τ : Type} {x : α} {f : τ} {g : α -> τ} {r : τ} (h : osk (some x) f g = r) : g x = r := h
structure As where
 o_ : Ac
 l_ : Log
 done_ : Int
 ended_ : Bool
abbrev rdv (b1 b2 b3 b4 : Nat) : Value := .func (.func 190) #[] #[.pointer (some ⟨b1, 0, none⟩), .pointer (some ⟨b2, 0, none⟩), .pointer (some ⟨b3, 0, none⟩), .pointer (some ⟨b4, 0, none⟩)]
abbrev wrv (b1 b4 : Nat) : Value := .func (.func 191) #[] #[.pointer (some ⟨b1, 0, none⟩), .pointer (some ⟨b4, 0, none⟩)]
abbrev fcv (k : FuncId) : Value := .func (.func k) #[] #[]
theorem Fk : Af Tryz.prog 155 := fun _ _ => by kernel_rfl
set_option maxRecDepth 100000 in
theorem FZ (w0 : World) (F0 : Mem) (hF : Wp w0 F0) (s : Wn) (lo hi : Int) (k : FuncId) : Calls Tryz.prog 155 ([(.string ⟨s.toArray⟩), (.int .i64 lo), (.int .i64 hi), fcv k] : List Value).toArray w0 (AA w0 F0 fun F' v => ∃ b1 b2 b3 b4, v = .agg #[rdv b1 b2 b3 b4, wrv b1 b4] /\
  F' b1 = some (.cells #[.string ⟨s.toArray⟩] 9 (0, 0)) /\ F' b2 = some (.cells #[.int .i64 lo] 3 (0, 0)) /\ F' b3 = some (.cells #[.int .i64 hi] 3 (0, 0)) /\ F' b4 = some (.cells #[fcv k] 195 (0, 0))) := by
 have hs0 := V4 hF
 refine Go 12 Tryz.func155 <| Sq <| Rg [0, 1, 2, 3, 4] <| Bx' 9 #[(.string ⟨s.toArray⟩)] hs0 (fun b1 w1 hs1 => ?_)
 refine Bx' 3 #[(.int .i64 lo)] hs1 (fun b2 w2 hs2 => ?_)
 refine Bx' 3 #[(.int .i64 hi)] hs2 (fun b3 w3 hs3 => ?_)
 refine Bx' 195 #[fcv k] hs3 (fun b4 w4 hs4 => ?_)
 refine Al' 109 #[.nilFunc, .nilFunc] hs4 (fun b5 w5 hs5 => ?_)
 refine VY <| Ab <| Sq <| Rg [0, 1, 2, 3] <| Vs 3 <| St0 #[rdv b1 b2 b3 b4, wrv b1 b4] hs5 (fun w6 hs6 => ?_)
 refine VY <| Ab <| Rt ?_
 obtain ⟨F1, hs7, le1, f4⟩ := hs6.fc1
 obtain ⟨F2, hs8, le2, f3⟩ := hs7.fc1
 obtain ⟨F3, hs9, le3, f2⟩ := hs8.fc1
 obtain ⟨F4, hs10, le4, f1⟩ := hs9.fc1
 exact ⟨rfl, (.agg #[rdv b1 b2 b3 b4, wrv b1 b4]), AW (l := [.cell 8 109]) (by kernel_rfl) (vs := [(.agg #[rdv b1 b2 b3 b4, wrv b1 b4])]) ⟨b5, 0, rfl, An (t := 109) (g := true) (s := 2) (by kernel_rfl) hs10.at0 rfl (by decide), trivial⟩, (.agg #[rdv b1 b2 b3 b4, wrv b1 b4]), F4, rfl, hs10.clear, b1, b2, b3, b4, rfl, f1, le4 _ _ f2, le4 _ _ (le3 _ _ f3), le4 _ _ (le3 _ _ (le2 _ _ f4))⟩
theorem EY : Af Tryz.prog 89 := fun _ _ => by kernel_rfl
set_option maxRecDepth 100000 in
theorem FA (w0 : World) (F0 : Mem) (hF : Wp w0 F0) : Calls Tryz.prog 89 ([] : List Value).toArray w0 (AA w0 F0 fun F' v => ∃ (b1 b2 b3 b4 b5 b6 b7 b8 b9 b10 b11 b12 : Nat), v = .agg #[fcv 153, fcv 154, rdv b1 b2 b3 b4, wrv b1 b4, rdv b5 b6 b7 b8, wrv b5 b8, rdv b9 b10 b11 b12, wrv b9 b12, fcv 159, fcv 160] /\ F' b1 = some (.cells #[(.string ⟨([67, 65, 84, 69, 71, 79, 82, 89] : Wn).toArray⟩)] 9 (0, 0)) /\ F' b2 = some (.cells #[.int .i64 1] 3 (0, 0)) /\ F' b3 = some (.cells #[.int .i64 9] 3 (0, 0)) /\ F' b4 = some (.cells #[fcv 156] 195 (0, 0)) /\ F' b5 = some (.cells #[(.string ⟨([80, 79, 87, 69, 82] : Wn).toArray⟩)] 9 (0, 0)) /\ F' b6 = some (.cells #[.int .i64 1] 3 (0, 0)) /\ F' b7 = some (.cells #[.int .i64 9999] 3 (0, 0)) /\ F' b8 = some (.cells #[fcv 157] 195 (0, 0)) /\ F' b9 = some (.cells #[(.string ⟨([67, 76, 65, 73, 77, 69, 68] : Wn).toArray⟩)] 9 (0, 0)) /\ F' b10 = some (.cells #[.int .i64 0] 3 (0, 0)) /\ F' b11 = some (.cells #[.int .i64 1000000] 3 (0, 0)) /\ F' b12 = some (.cells #[fcv 158] 195 (0, 0))) := by
 have hs0 := V4 hF
 refine Go 7 Tryz.func89 <| Sq <| Rg [0] <| Al' 110 #[.nilFunc, .nilFunc, .nilFunc, .nilFunc, .nilFunc, .nilFunc, .nilFunc, .nilFunc, .nilFunc, .nilFunc] hs0 (fun b0 w1 hs1 => ?_)
 refine VY <| Ab <| Sq <| Rg [0, 1, 2, 3, 4, 5, 6] <| Vs 1 <| Cl' Fk hs1 (FZ w1 F0 hs1.pers [67, 65, 84, 69, 71, 79, 82, 89] 1 9 156) ?_
 rintro _ F1 w2 hs2 le1 ⟨b1, b2, b3, b4, rfl, f1, f2, f3, f4⟩
 refine Cl' Fk hs2 (FZ w2 F1 hs2.pers [80, 79, 87, 69, 82] 1 9999 157) ?_
 rintro _ F2 w3 hs3 le2 ⟨b5, b6, b7, b8, rfl, f5, f6, f7, f8⟩
 refine Cl' Fk hs3 (FZ w3 F2 hs3.pers [67, 76, 65, 73, 77, 69, 68] 0 1000000 158) ?_
 rintro _ F3 w4 hs4 le3 ⟨b9, b10, b11, b12, rfl, f9, f10, f11, f12⟩
 refine Vs 1 <| V 6 110 (JQ (t := 110) (parts := #[(0, .tmp 1), (1, .tmp 2), (2, .tmp 3), (3, .tmp 4), (4, .tmp 5)]) (vs := [(0, .agg #[fcv 153, fcv 154]), (1, .agg #[rdv b1 b2 b3 b4, wrv b1 b4]), (2, .agg #[rdv b5 b6 b7 b8, wrv b5 b8]), (3, .agg #[rdv b9 b10 b11 b12, wrv b9 b12]), (4, .agg #[fcv 159, fcv 160])]) rfl (cs := [fcv 153, fcv 154, rdv b1 b2 b3 b4, wrv b1 b4, rdv b5 b6 b7 b8, wrv b5 b8, rdv b9 b10 b11 b12, wrv b9 b12, fcv 159, fcv 160]) (by kernel_rfl)) <| St0 #[fcv 153, fcv 154, rdv b1 b2 b3 b4, wrv b1 b4, rdv b5 b6 b7 b8, wrv b5 b8, rdv b9 b10 b11 b12, wrv b9 b12, fcv 159, fcv 160] hs4 (fun w5 hs5 => ?_)
 refine VY <| Ab <| Rt ?_
 exact ⟨rfl, (.agg #[fcv 153, fcv 154, rdv b1 b2 b3 b4, wrv b1 b4, rdv b5 b6 b7 b8, wrv b5 b8, rdv b9 b10 b11 b12, wrv b9 b12, fcv 159, fcv 160]), AW (l := [.cell 0 110]) (by kernel_rfl) (vs := [(.agg #[fcv 153, fcv 154, rdv b1 b2 b3 b4, wrv b1 b4, rdv b5 b6 b7 b8, wrv b5 b8, rdv b9 b10 b11 b12, wrv b9 b12, fcv 159, fcv 160])]) ⟨b0, 0, rfl, An (t := 110) (g := true) (s := 10) (by kernel_rfl) hs5.at0 rfl (by decide), trivial⟩, (.agg #[fcv 153, fcv 154, rdv b1 b2 b3 b4, wrv b1 b4, rdv b5 b6 b7 b8, wrv b5 b8, rdv b9 b10 b11 b12, wrv b9 b12, fcv 159, fcv 160]), F3, rfl, hs5.clear, b1, b2, b3, b4, b5, b6, b7, b8, b9, b10, b11, b12, rfl, le3 _ _ (le2 _ _ f1), le3 _ _ (le2 _ _ f2), le3 _ _ (le2 _ _ f3), le3 _ _ (le2 _ _ f4), le3 _ _ f5, le3 _ _ f6, le3 _ _ f7, le3 _ _ f8, f9, f10, f11, f12⟩
def GJ (N : Nat) (x0 : Ac) (x1 : Log) (r27 : (Int × Int)) (r54 : Wn) (r62 : Wn) (t68 : Wn) (r79 : Wn) (r87 : Wn) (t93 : Wn) (r104 : Wn) (r112 : Wn) (t118 : Wn) (r129 : Wn) (r137 : Wn) (t143 : Wn) (r154 : Wn) (r162 : Wn) (t168 : Wn) : (Int × Wn) -> Option (A4 (Wn × Int) (Int × Wn)) := fun s178 =>
 (bif (decide (s178.1 < (x1.Lines.length : Int))) then ((idx x1.Lines s178.1).bind fun x207 => ((BR N ({ Report := x0.Report, Serial := x0.Serial, Zone := x0.Zone } : Ac) x207).bind fun r226 => ((AZ r226.1 ([10] : Wn)).bind fun r234 => ((HM s178.2 r234).bind fun t240 => some (.next ((W64 (s178.1 + 1)), t240)))))) else some (.done (s178.1, s178.2)))
def EM (N : Nat) (x0 : Ac) (x1 : Log) : Option (Wn × Int) :=
 ((D0 N ({ Report := x0.Report, Serial := x0.Serial, Zone := x0.Zone } : Ac) x1).bind fun r27 => (bif (r27.1 != 0) then some (([] : Wn), r27.1) else ((Fx N x1).bind fun r54 => ((AZ r54 ([10] : Wn)).bind fun r62 => ((HM ([] : Wn) r62).bind fun t68 => ((Dr N x1 ([67, 65, 84, 69, 71, 79, 82, 89] : Wn)).bind fun r79 => ((AZ r79 ([10] : Wn)).bind fun r87 => ((HM t68 r87).bind fun t93 => ((Dp N x1 ([80, 79, 87, 69, 82] : Wn)).bind fun r104 => ((AZ r104 ([10] : Wn)).bind fun r112 => ((HM t93 r112).bind fun t118 => ((Dq N x1 ([67, 76, 65, 73, 77, 69, 68] : Wn)).bind fun r129 => ((AZ r129 ([10] : Wn)).bind fun r137 => ((HM t118 r137).bind fun t143 => ((DU N x1).bind fun r154 => ((AZ r154 ([10] : Wn)).bind fun r162 => ((HM t143 r162).bind fun t168 => ((AJ (GJ N x0 x1 r27 r54 r62 t68 r79 r87 t93 r104 r112 t118 r129 r137 t143 r154 r162 t168) N (0, t168)).bind fun o => o.k (fun r => some r) (fun s190 => ((HM s190.2 ([69, 78, 68, 10] : Wn)).bind fun t252 => some (t252, 0)))))))))))))))))))))
theorem JJ : Af Tryz.prog 29 := fun _ _ => by kernel_rfl
theorem KW (N : Nat) (w0 : World) (F0 : Mem) (hF : Wp w0 F0) (hG : Br F0) (x0 : Ac) (x1 : Log) (a1_4 : Wo) (n1_4 : Nat) (hb1_4 : LC x1.Jumps.length n1_4) (hs1_4 : SlA AM F0 a1_4 x1.Jumps) (a1_5 : Wo) (n1_5 : Nat) (hb1_5 : LC x1.Lines.length n1_5) (hs1_5 : SlA AL F0 a1_5 x1.Lines) (r : (Wn × Int)) (h : EM N x0 x1 = some r) :
  Calls Tryz.prog 29 ([(.agg (Ag x0)), (.agg (AF x1 a1_4 n1_4 a1_5 n1_5))] : List Value).toArray w0 (AA w0 F0 fun F' v => v = (.tuple #[(sv r.1), (vi r.2)])) := by
 have hs0 := V4 hF
 refine Go 54 Tryz.func29 <| Sq (Rg (rG 4) ?_)
 refine Bx' 23 (Ag x0) hs0 (fun b21 w22 hs23 => ?_)
 refine Bx' 27 (AF x1 a1_4 n1_4 a1_5 n1_5) hs23 (fun b24 w25 hs26 => ?_)
 refine Vs 2 <| Nss <| Sq (Rg (rG 8) ?_)
 refine Ld hs26.at1 <| Ld hs26.at0 ?_
 obtain ⟨r27, hr28, h29⟩ := bind_some h
 refine Cl' GP hs26 (HH N w25 F0 hs26.pers hG (({ Report := x0.Report, Serial := x0.Serial, Zone := x0.Zone } : Ac)) x1 a1_4 n1_4 hb1_4 hs1_4 a1_5 n1_5 hb1_5 hs1_5 _ hr28) ?_
 rintro _ F1 w31 hs32 le33 rfl
 refine Vs 5 <| Nss (Rg [0, 1] ?_)
 refine Vs 2 <| Nt <| Cd h29 (fun hb35 h36 => ?_) (fun hb35 h37 => ?_)
 ·refine Sq (Rg [0, 1, 2] ?_)
  refine Vs 3 <| Nt <| Rt <| Ae ?_
  obtain rfl := Aa h36
  exact Re [(sv (([] : Wn))), (vi r27.1)] hs32 rfl
 ·refine Sc ?_
  refine Ab <| Sq (Rg [0] ?_)
  refine Al' 105 #[.pointer none, .slice none 0 0] hs32 (fun b38 w39 hs40 => ?_)
  obtain ⟨Lf41, hs42, hJ43⟩ := FD.new hs40
  have hs44 : HS w0 F0 w39 F1 ((sb b24 (AF x1 a1_4 n1_4 a1_5 n1_5) 27) :: (sb b21 (Ag x0) 23) :: Lf41) := hs42
  refine Nss <| Sq (Rg [0, 1] ?_)
  refine Cl' EY hs44 (FA w39 F1 hs44.pers) ?_
  rintro _ F2 w45 hs46 le47 ⟨tbt48_0_0, tbt48_0_1, tbt48_0_2, tbt48_0_3, tbt48_0_4, tbt48_0_5, tbt48_0_6, tbt48_0_7, tbt48_0_8, tbt48_0_9, tbt48_0_10, tbt48_0_11, rfl, htbt48_0_0, htbt48_0_1, htbt48_0_2, htbt48_0_3, htbt48_0_4, htbt48_0_5, htbt48_0_6, htbt48_0_7, htbt48_0_8, htbt48_0_9, htbt48_0_10, htbt48_0_11⟩
  refine Vs 1 <| Nt <| Bk <| CWP.unroll (by kernel_rfl) 6 <| URL.step <| Sq (Rg [0] ?_)
  refine Vs 1 <| Nss <| C1 (rfl : true = true) <| Sc <| Ab <| Sq <| Bk <| Sq (Rg [0, 1, 2] ?_)
  refine V 27 109 (G2 (t := 110) (E := 109) (len := 5) (s := 2) (x := (.tmp 24)) (y := (.tmp 25)) (k := .i64) (i := 0) (cs := [(fV 153 #[]), (fV 154 #[]), (fV 190 #[(pt tbt48_0_0 0), (pt tbt48_0_1 0), (pt tbt48_0_2 0), (pt tbt48_0_3 0)]), (fV 191 #[(pt tbt48_0_0 0), (pt tbt48_0_3 0)]), (fV 190 #[(pt tbt48_0_4 0), (pt tbt48_0_5 0), (pt tbt48_0_6 0), (pt tbt48_0_7 0)]), (fV 191 #[(pt tbt48_0_4 0), (pt tbt48_0_7 0)]), (fV 190 #[(pt tbt48_0_8 0), (pt tbt48_0_9 0), (pt tbt48_0_10 0), (pt tbt48_0_11 0)]), (fV 191 #[(pt tbt48_0_8 0), (pt tbt48_0_11 0)]), (fV 159 #[]), (fV 160 #[])]) (C := [(fV 153 #[]), (fV 154 #[])]) rfl rfl (by kernel_rfl) (by kernel_rfl) (by decide) rfl rfl) <| Al' 109 #[.nilFunc, .nilFunc] hs46 (fun b49 w50 hs51 => ?_)
  refine St0 #[(fV 153 #[]), (fV 154 #[])] hs51 (fun w52 hs53 => ?_)
  refine Nt <| Rg (rG 6) <| Vs 1 <| Ld hs53.at0 <| Ld hs53.at1 ?_
  obtain ⟨r54, hr55, h56⟩ := bind_some h37
  refine Cl' MC hs53 (NY N w52 F2 hs53.pers x1 a1_4 n1_4 hb1_4 (V5 hs1_4 (le33.t le47)) a1_5 n1_5 hb1_5 (V5 hs1_5 (le33.t le47)) _ hr55) ?_
  rintro _ F3 w58 hs59 le60 rfl
  obtain ⟨r62, hr63, h64⟩ := bind_some h56
  refine V 32 9 (Av (t := 9) (t' := 9) (x := (.tmp 31)) (y := (.const (sv ([10] : Wn)))) (a := r54) (b := ([10] : Wn)) (v := r62) rfl rfl hr63) ?_
  obtain ⟨t68, ht69, h70⟩ := bind_some h64
  refine CB Bp (DN (L := [(sb b49 #[(fV 153 #[]), (fV 154 #[])] 109), (sb b24 (AF x1 a1_4 n1_4 a1_5 n1_5) 27), (sb b21 (Ag x0) 23)]) ht69 (FD.mono _ _ _ _ hJ43 (le47.t le60)) hs59) ?_
  rintro _ F4 w65 _ hs66 le67 ⟨rfl, Lf71, rfl, hJ72⟩
  have hs73 : HS w0 F0 w65 F4 ((sb b49 #[(fV 153 #[]), (fV 154 #[])] 109) :: (sb b24 (AF x1 a1_4 n1_4 a1_5 n1_5) 27) :: (sb b21 (Ag x0) 23) :: Lf71) := hs66
  refine VY <| Ap <| Ab <| Rg [0, 1] <| Vs 2 <| Nt <| URL.step <| Sq (Rg [0] ?_)
  refine Vs 1 <| Nss <| C1 (rfl : true = true) <| Sc <| Ab <| Sq <| Bk <| Sq (Rg [0, 1, 2] ?_)
  refine V 27 109 (G2 (t := 110) (E := 109) (len := 5) (s := 2) (x := (.tmp 24)) (y := (.tmp 25)) (k := .i64) (i := 1) (cs := [(fV 153 #[]), (fV 154 #[]), (fV 190 #[(pt tbt48_0_0 0), (pt tbt48_0_1 0), (pt tbt48_0_2 0), (pt tbt48_0_3 0)]), (fV 191 #[(pt tbt48_0_0 0), (pt tbt48_0_3 0)]), (fV 190 #[(pt tbt48_0_4 0), (pt tbt48_0_5 0), (pt tbt48_0_6 0), (pt tbt48_0_7 0)]), (fV 191 #[(pt tbt48_0_4 0), (pt tbt48_0_7 0)]), (fV 190 #[(pt tbt48_0_8 0), (pt tbt48_0_9 0), (pt tbt48_0_10 0), (pt tbt48_0_11 0)]), (fV 191 #[(pt tbt48_0_8 0), (pt tbt48_0_11 0)]), (fV 159 #[]), (fV 160 #[])]) (C := [(fV 190 #[(pt tbt48_0_0 0), (pt tbt48_0_1 0), (pt tbt48_0_2 0), (pt tbt48_0_3 0)]), (fV 191 #[(pt tbt48_0_0 0), (pt tbt48_0_3 0)])]) rfl rfl (by kernel_rfl) (by kernel_rfl) (by decide) rfl rfl) <| Al' 109 #[.nilFunc, .nilFunc] hs73 (fun b74 w75 hs76 => ?_)
  refine St0 #[(fV 190 #[(pt tbt48_0_0 0), (pt tbt48_0_1 0), (pt tbt48_0_2 0), (pt tbt48_0_3 0)]), (fV 191 #[(pt tbt48_0_0 0), (pt tbt48_0_3 0)])] hs76 (fun w77 hs78 => ?_)
  refine Nt <| Rg (rG 6) <| Vs 1 <| Ld hs78.at0 <| Ld hs78.at2 ?_
  obtain ⟨r79, hr80, h81⟩ := bind_some h70
  refine Cl' Jk hs78 (J6 N w77 F4 hs78.pers (hG.mono (((le33.t le47).trans le60).trans le67)) x1 a1_4 n1_4 hb1_4 (V5 hs1_4 (((le33.t le47).trans le60).trans le67)) a1_5 n1_5 hb1_5 (V5 hs1_5 (((le33.t le47).trans le60).trans le67)) tbt48_0_0 ([67, 65, 84, 69, 71, 79, 82, 89] : Wn) ((le60.t le67) _ _ htbt48_0_0) tbt48_0_3 ((le60.t le67) _ _ htbt48_0_3) _ hr80) ?_
  rintro _ F5 w83 hs84 le85 rfl
  obtain ⟨r87, hr88, h89⟩ := bind_some h81
  refine V 32 9 (Av (t := 9) (t' := 9) (x := (.tmp 31)) (y := (.const (sv ([10] : Wn)))) (a := r79) (b := ([10] : Wn)) (v := r87) rfl rfl hr88) ?_
  obtain ⟨t93, ht94, h95⟩ := bind_some h89
  refine CB Bp (DN (L := [(sb b74 #[(fV 190 #[(pt tbt48_0_0 0), (pt tbt48_0_1 0), (pt tbt48_0_2 0), (pt tbt48_0_3 0)]), (fV 191 #[(pt tbt48_0_0 0), (pt tbt48_0_3 0)])] 109), (sb b49 #[(fV 153 #[]), (fV 154 #[])] 109), (sb b24 (AF x1 a1_4 n1_4 a1_5 n1_5) 27), (sb b21 (Ag x0) 23)]) ht94 (FD.mono _ _ _ _ hJ72 le85) hs84) ?_
  rintro _ F6 w90 _ hs91 le92 ⟨rfl, Lf96, rfl, hJ97⟩
  have hs98 : HS w0 F0 w90 F6 ((sb b74 #[(fV 190 #[(pt tbt48_0_0 0), (pt tbt48_0_1 0), (pt tbt48_0_2 0), (pt tbt48_0_3 0)]), (fV 191 #[(pt tbt48_0_0 0), (pt tbt48_0_3 0)])] 109) :: (sb b49 #[(fV 153 #[]), (fV 154 #[])] 109) :: (sb b24 (AF x1 a1_4 n1_4 a1_5 n1_5) 27) :: (sb b21 (Ag x0) 23) :: Lf96) := hs91
  refine VY <| Ap <| Ab <| Rg [0, 1] <| Vs 2 <| Nt <| URL.step <| Sq (Rg [0] ?_)
  refine Vs 1 <| Nss <| C1 (rfl : true = true) <| Sc <| Ab <| Sq <| Bk <| Sq (Rg [0, 1, 2] ?_)
  refine V 27 109 (G2 (t := 110) (E := 109) (len := 5) (s := 2) (x := (.tmp 24)) (y := (.tmp 25)) (k := .i64) (i := 2) (cs := [(fV 153 #[]), (fV 154 #[]), (fV 190 #[(pt tbt48_0_0 0), (pt tbt48_0_1 0), (pt tbt48_0_2 0), (pt tbt48_0_3 0)]), (fV 191 #[(pt tbt48_0_0 0), (pt tbt48_0_3 0)]), (fV 190 #[(pt tbt48_0_4 0), (pt tbt48_0_5 0), (pt tbt48_0_6 0), (pt tbt48_0_7 0)]), (fV 191 #[(pt tbt48_0_4 0), (pt tbt48_0_7 0)]), (fV 190 #[(pt tbt48_0_8 0), (pt tbt48_0_9 0), (pt tbt48_0_10 0), (pt tbt48_0_11 0)]), (fV 191 #[(pt tbt48_0_8 0), (pt tbt48_0_11 0)]), (fV 159 #[]), (fV 160 #[])]) (C := [(fV 190 #[(pt tbt48_0_4 0), (pt tbt48_0_5 0), (pt tbt48_0_6 0), (pt tbt48_0_7 0)]), (fV 191 #[(pt tbt48_0_4 0), (pt tbt48_0_7 0)])]) rfl rfl (by kernel_rfl) (by kernel_rfl) (by decide) rfl rfl) <| Al' 109 #[.nilFunc, .nilFunc] hs98 (fun b99 w100 hs101 => ?_)
  refine St0 #[(fV 190 #[(pt tbt48_0_4 0), (pt tbt48_0_5 0), (pt tbt48_0_6 0), (pt tbt48_0_7 0)]), (fV 191 #[(pt tbt48_0_4 0), (pt tbt48_0_7 0)])] hs101 (fun w102 hs103 => ?_)
  refine Nt <| Rg (rG 6) <| Vs 1 <| Ld hs103.at0 <| Ld hs103.at3 ?_
  obtain ⟨r104, hr105, h106⟩ := bind_some h95
  refine Cl' Ji hs103 (J4 N w102 F6 hs103.pers (hG.mono (((((le33.t le47).trans le60).trans le67).trans le85).trans le92)) x1 a1_4 n1_4 hb1_4 (V5 hs1_4 (((((le33.t le47).trans le60).trans le67).trans le85).trans le92)) a1_5 n1_5 hb1_5 (V5 hs1_5 (((((le33.t le47).trans le60).trans le67).trans le85).trans le92)) tbt48_0_4 ([80, 79, 87, 69, 82] : Wn) ((((le60.t le67).trans le85).trans le92) _ _ htbt48_0_4) tbt48_0_7 ((((le60.t le67).trans le85).trans le92) _ _ htbt48_0_7) _ hr105) ?_
  rintro _ F7 w108 hs109 le110 rfl
  obtain ⟨r112, hr113, h114⟩ := bind_some h106
  refine V 32 9 (Av (t := 9) (t' := 9) (x := (.tmp 31)) (y := (.const (sv ([10] : Wn)))) (a := r104) (b := ([10] : Wn)) (v := r112) rfl rfl hr113) ?_
  obtain ⟨t118, ht119, h120⟩ := bind_some h114
  refine CB Bp (DN (L := [(sb b99 #[(fV 190 #[(pt tbt48_0_4 0), (pt tbt48_0_5 0), (pt tbt48_0_6 0), (pt tbt48_0_7 0)]), (fV 191 #[(pt tbt48_0_4 0), (pt tbt48_0_7 0)])] 109), (sb b74 #[(fV 190 #[(pt tbt48_0_0 0), (pt tbt48_0_1 0), (pt tbt48_0_2 0), (pt tbt48_0_3 0)]), (fV 191 #[(pt tbt48_0_0 0), (pt tbt48_0_3 0)])] 109), (sb b49 #[(fV 153 #[]), (fV 154 #[])] 109), (sb b24 (AF x1 a1_4 n1_4 a1_5 n1_5) 27), (sb b21 (Ag x0) 23)]) ht119 (FD.mono _ _ _ _ hJ97 le110) hs109) ?_
  rintro _ F8 w115 _ hs116 le117 ⟨rfl, Lf121, rfl, hJ122⟩
  have hs123 : HS w0 F0 w115 F8 ((sb b99 #[(fV 190 #[(pt tbt48_0_4 0), (pt tbt48_0_5 0), (pt tbt48_0_6 0), (pt tbt48_0_7 0)]), (fV 191 #[(pt tbt48_0_4 0), (pt tbt48_0_7 0)])] 109) :: (sb b74 #[(fV 190 #[(pt tbt48_0_0 0), (pt tbt48_0_1 0), (pt tbt48_0_2 0), (pt tbt48_0_3 0)]), (fV 191 #[(pt tbt48_0_0 0), (pt tbt48_0_3 0)])] 109) :: (sb b49 #[(fV 153 #[]), (fV 154 #[])] 109) :: (sb b24 (AF x1 a1_4 n1_4 a1_5 n1_5) 27) :: (sb b21 (Ag x0) 23) :: Lf121) := hs116
  refine VY <| Ap <| Ab <| Rg [0, 1] <| Vs 2 <| Nt <| URL.step <| Sq (Rg [0] ?_)
  refine Vs 1 <| Nss <| C1 (rfl : true = true) <| Sc <| Ab <| Sq <| Bk <| Sq (Rg [0, 1, 2] ?_)
  refine V 27 109 (G2 (t := 110) (E := 109) (len := 5) (s := 2) (x := (.tmp 24)) (y := (.tmp 25)) (k := .i64) (i := 3) (cs := [(fV 153 #[]), (fV 154 #[]), (fV 190 #[(pt tbt48_0_0 0), (pt tbt48_0_1 0), (pt tbt48_0_2 0), (pt tbt48_0_3 0)]), (fV 191 #[(pt tbt48_0_0 0), (pt tbt48_0_3 0)]), (fV 190 #[(pt tbt48_0_4 0), (pt tbt48_0_5 0), (pt tbt48_0_6 0), (pt tbt48_0_7 0)]), (fV 191 #[(pt tbt48_0_4 0), (pt tbt48_0_7 0)]), (fV 190 #[(pt tbt48_0_8 0), (pt tbt48_0_9 0), (pt tbt48_0_10 0), (pt tbt48_0_11 0)]), (fV 191 #[(pt tbt48_0_8 0), (pt tbt48_0_11 0)]), (fV 159 #[]), (fV 160 #[])]) (C := [(fV 190 #[(pt tbt48_0_8 0), (pt tbt48_0_9 0), (pt tbt48_0_10 0), (pt tbt48_0_11 0)]), (fV 191 #[(pt tbt48_0_8 0), (pt tbt48_0_11 0)])]) rfl rfl (by kernel_rfl) (by kernel_rfl) (by decide) rfl rfl) <| Al' 109 #[.nilFunc, .nilFunc] hs123 (fun b124 w125 hs126 => ?_)
  refine St0 #[(fV 190 #[(pt tbt48_0_8 0), (pt tbt48_0_9 0), (pt tbt48_0_10 0), (pt tbt48_0_11 0)]), (fV 191 #[(pt tbt48_0_8 0), (pt tbt48_0_11 0)])] hs126 (fun w127 hs128 => ?_)
  refine Nt <| Rg (rG 6) <| Vs 1 <| Ld hs128.at0 <| Ld hs128.at4 ?_
  obtain ⟨r129, hr130, h131⟩ := bind_some h120
  refine Cl' Jj hs128 (J5 N w127 F8 hs128.pers (hG.mono (((((((le33.t le47).trans le60).trans le67).trans le85).trans le92).trans le110).trans le117)) x1 a1_4 n1_4 hb1_4 (V5 hs1_4 (((((((le33.t le47).trans le60).trans le67).trans le85).trans le92).trans le110).trans le117)) a1_5 n1_5 hb1_5 (V5 hs1_5 (((((((le33.t le47).trans le60).trans le67).trans le85).trans le92).trans le110).trans le117)) tbt48_0_8 ([67, 76, 65, 73, 77, 69, 68] : Wn) ((((((le60.t le67).trans le85).trans le92).trans le110).trans le117) _ _ htbt48_0_8) tbt48_0_11 ((((((le60.t le67).trans le85).trans le92).trans le110).trans le117) _ _ htbt48_0_11) _ hr130) ?_
  rintro _ F9 w133 hs134 le135 rfl
  obtain ⟨r137, hr138, h139⟩ := bind_some h131
  refine V 32 9 (Av (t := 9) (t' := 9) (x := (.tmp 31)) (y := (.const (sv ([10] : Wn)))) (a := r129) (b := ([10] : Wn)) (v := r137) rfl rfl hr138) ?_
  obtain ⟨t143, ht144, h145⟩ := bind_some h139
  refine CB Bp (DN (L := [(sb b124 #[(fV 190 #[(pt tbt48_0_8 0), (pt tbt48_0_9 0), (pt tbt48_0_10 0), (pt tbt48_0_11 0)]), (fV 191 #[(pt tbt48_0_8 0), (pt tbt48_0_11 0)])] 109), (sb b99 #[(fV 190 #[(pt tbt48_0_4 0), (pt tbt48_0_5 0), (pt tbt48_0_6 0), (pt tbt48_0_7 0)]), (fV 191 #[(pt tbt48_0_4 0), (pt tbt48_0_7 0)])] 109), (sb b74 #[(fV 190 #[(pt tbt48_0_0 0), (pt tbt48_0_1 0), (pt tbt48_0_2 0), (pt tbt48_0_3 0)]), (fV 191 #[(pt tbt48_0_0 0), (pt tbt48_0_3 0)])] 109), (sb b49 #[(fV 153 #[]), (fV 154 #[])] 109), (sb b24 (AF x1 a1_4 n1_4 a1_5 n1_5) 27), (sb b21 (Ag x0) 23)]) ht144 (FD.mono _ _ _ _ hJ122 le135) hs134) ?_
  rintro _ F10 w140 _ hs141 le142 ⟨rfl, Lf146, rfl, hJ147⟩
  have hs148 : HS w0 F0 w140 F10 ((sb b124 #[(fV 190 #[(pt tbt48_0_8 0), (pt tbt48_0_9 0), (pt tbt48_0_10 0), (pt tbt48_0_11 0)]), (fV 191 #[(pt tbt48_0_8 0), (pt tbt48_0_11 0)])] 109) :: (sb b99 #[(fV 190 #[(pt tbt48_0_4 0), (pt tbt48_0_5 0), (pt tbt48_0_6 0), (pt tbt48_0_7 0)]), (fV 191 #[(pt tbt48_0_4 0), (pt tbt48_0_7 0)])] 109) :: (sb b74 #[(fV 190 #[(pt tbt48_0_0 0), (pt tbt48_0_1 0), (pt tbt48_0_2 0), (pt tbt48_0_3 0)]), (fV 191 #[(pt tbt48_0_0 0), (pt tbt48_0_3 0)])] 109) :: (sb b49 #[(fV 153 #[]), (fV 154 #[])] 109) :: (sb b24 (AF x1 a1_4 n1_4 a1_5 n1_5) 27) :: (sb b21 (Ag x0) 23) :: Lf146) := hs141
  refine VY <| Ap <| Ab <| Rg [0, 1] <| Vs 2 <| Nt <| URL.step <| Sq (Rg [0] ?_)
  refine Vs 1 <| Nss <| C1 (rfl : true = true) <| Sc <| Ab <| Sq <| Bk <| Sq (Rg [0, 1, 2] ?_)
  refine V 27 109 (G2 (t := 110) (E := 109) (len := 5) (s := 2) (x := (.tmp 24)) (y := (.tmp 25)) (k := .i64) (i := 4) (cs := [(fV 153 #[]), (fV 154 #[]), (fV 190 #[(pt tbt48_0_0 0), (pt tbt48_0_1 0), (pt tbt48_0_2 0), (pt tbt48_0_3 0)]), (fV 191 #[(pt tbt48_0_0 0), (pt tbt48_0_3 0)]), (fV 190 #[(pt tbt48_0_4 0), (pt tbt48_0_5 0), (pt tbt48_0_6 0), (pt tbt48_0_7 0)]), (fV 191 #[(pt tbt48_0_4 0), (pt tbt48_0_7 0)]), (fV 190 #[(pt tbt48_0_8 0), (pt tbt48_0_9 0), (pt tbt48_0_10 0), (pt tbt48_0_11 0)]), (fV 191 #[(pt tbt48_0_8 0), (pt tbt48_0_11 0)]), (fV 159 #[]), (fV 160 #[])]) (C := [(fV 159 #[]), (fV 160 #[])]) rfl rfl (by kernel_rfl) (by kernel_rfl) (by decide) rfl rfl) <| Al' 109 #[.nilFunc, .nilFunc] hs148 (fun b149 w150 hs151 => ?_)
  refine St0 #[(fV 159 #[]), (fV 160 #[])] hs151 (fun w152 hs153 => ?_)
  refine Nt <| Rg (rG 6) <| Vs 1 <| Ld hs153.at0 <| Ld hs153.at5 ?_
  obtain ⟨r154, hr155, h156⟩ := bind_some h145
  refine Cl' J1 hs153 (KS N w152 F10 hs153.pers (hG.mono (((((((((le33.t le47).trans le60).trans le67).trans le85).trans le92).trans le110).trans le117).trans le135).trans le142)) x1 a1_4 n1_4 hb1_4 (V5 hs1_4 (((((((((le33.t le47).trans le60).trans le67).trans le85).trans le92).trans le110).trans le117).trans le135).trans le142)) a1_5 n1_5 hb1_5 (V5 hs1_5 (((((((((le33.t le47).trans le60).trans le67).trans le85).trans le92).trans le110).trans le117).trans le135).trans le142)) _ hr155) ?_
  rintro _ F11 w158 hs159 le160 rfl
  obtain ⟨r162, hr163, h164⟩ := bind_some h156
  refine V 32 9 (Av (t := 9) (t' := 9) (x := (.tmp 31)) (y := (.const (sv ([10] : Wn)))) (a := r154) (b := ([10] : Wn)) (v := r162) rfl rfl hr163) ?_
  obtain ⟨t168, ht169, h170⟩ := bind_some h164
  refine CB Bp (DN (L := [(sb b149 #[(fV 159 #[]), (fV 160 #[])] 109), (sb b124 #[(fV 190 #[(pt tbt48_0_8 0), (pt tbt48_0_9 0), (pt tbt48_0_10 0), (pt tbt48_0_11 0)]), (fV 191 #[(pt tbt48_0_8 0), (pt tbt48_0_11 0)])] 109), (sb b99 #[(fV 190 #[(pt tbt48_0_4 0), (pt tbt48_0_5 0), (pt tbt48_0_6 0), (pt tbt48_0_7 0)]), (fV 191 #[(pt tbt48_0_4 0), (pt tbt48_0_7 0)])] 109), (sb b74 #[(fV 190 #[(pt tbt48_0_0 0), (pt tbt48_0_1 0), (pt tbt48_0_2 0), (pt tbt48_0_3 0)]), (fV 191 #[(pt tbt48_0_0 0), (pt tbt48_0_3 0)])] 109), (sb b49 #[(fV 153 #[]), (fV 154 #[])] 109), (sb b24 (AF x1 a1_4 n1_4 a1_5 n1_5) 27), (sb b21 (Ag x0) 23)]) ht169 (FD.mono _ _ _ _ hJ147 le160) hs159) ?_
  rintro _ F12 w165 _ hs166 le167 ⟨rfl, Lf171, rfl, hJ172⟩
  have hs173 : HS w0 F0 w165 F12 ((sb b149 #[(fV 159 #[]), (fV 160 #[])] 109) :: (sb b124 #[(fV 190 #[(pt tbt48_0_8 0), (pt tbt48_0_9 0), (pt tbt48_0_10 0), (pt tbt48_0_11 0)]), (fV 191 #[(pt tbt48_0_8 0), (pt tbt48_0_11 0)])] 109) :: (sb b99 #[(fV 190 #[(pt tbt48_0_4 0), (pt tbt48_0_5 0), (pt tbt48_0_6 0), (pt tbt48_0_7 0)]), (fV 191 #[(pt tbt48_0_4 0), (pt tbt48_0_7 0)])] 109) :: (sb b74 #[(fV 190 #[(pt tbt48_0_0 0), (pt tbt48_0_1 0), (pt tbt48_0_2 0), (pt tbt48_0_3 0)]), (fV 191 #[(pt tbt48_0_0 0), (pt tbt48_0_3 0)])] 109) :: (sb b49 #[(fV 153 #[]), (fV 154 #[])] 109) :: (sb b24 (AF x1 a1_4 n1_4 a1_5 n1_5) 27) :: (sb b21 (Ag x0) 23) :: Lf171) := hs166
  refine VY <| Ap <| Ab <| Rg [0, 1] <| Vs 2 <| Nt <| URL.step <| Sq (Rg [0] ?_)
  refine Vs 1 <| Nss <| C0 (rfl : false = false) <| Ex <| Al <| Al <| Ay rfl <| Ab <| Sq <| Sq (Rg (rG 4) ?_)
  refine Vs 1 <| Ld hs173.at5 <| Vs 2 <| Nt ?_
  have hs174 := hs173.dr0.dr0.dr0.dr0.dr0
  obtain ⟨o175, ho176, h177⟩ := bind_some h170
  refine V9 (fun f w => ∃ (s190 : (Int × Wn)) (F14 : Mem) (Lf194 : Own), o175 = .done s190 /\ HS w0 F0 w F14 Lf194 /\ V2 F12 F14 /\ FI f [] [(8, (pt b38 0))] /\ FD b38 s190.2 F14 Lf194) ?_ ?_
  ·refine Bk ?_
   refine V1 (by kernel_rfl) (fun m f w => ∃ (s178 : (Int × Wn)) (F13 : Mem) (Lf182 : Own), AJ (GJ N x0 x1 r27 r54 r62 t68 r79 r87 t93 r104 r112 t118 r129 r137 t143 r154 r162 t168) m s178 = some o175 /\ HS w0 F0 w F13 ((sb b21 (Ag x0) 23) :: Lf182) /\ V2 F12 F13 /\ FI f [] [(2, (pt b21 0)), (8, (pt b38 0)), (36, (.slice a1_5 x1.Lines.length n1_5)), (37, (vi (x1.Lines.length : Int))), (38, (vi s178.1))] /\ FD b38 s178.2 F13 Lf182) N ⟨(0, t168), F12, Lf171, ho176, hs174.dr0, (V3 _), fI, hJ172⟩ ?_
   rintro m198 f w179 ⟨s178, F13, Lf182, hit199, hs180, le181, ⟨_, rfl⟩, hJ183⟩
   obtain ⟨m200, fl201, rfl, hb202, hnx203⟩ := AC hit199
   refine Sq (Rg [0] ?_)
   refine Vs 1 <| Nss <| Cd hb202 (fun hb204 h205 => ?_) (fun hb204 h206 => ?_)
   ·refine Sc ?_
    refine Ab <| Sq <| Bk <| Sq (Rg (rG 4) ?_)
    obtain ⟨x207, hx208, h210⟩ := bind_some h205
    obtain ⟨hi209, hx208'⟩ := Aj hx208
    obtain ⟨b211, o212, C213, E214, fz215, rfl, hF217, hE218⟩ := Wa (V5 hs1_5 ((((((((((((le33.t le47).trans le60).trans le67).trans le85).trans le92).trans le110).trans le117).trans le135).trans le142).trans le160).trans le167).trans le181)) hx208'
    have hc220 := hE218 _ _ hx208'
    refine Ix hi209 <| Lx 0 (hs180.pers _ _ hF217) hc220 <| Al' 34 #[(vi 0), (vi 0), (vi 0), (vi 0), (sv (([] : Wn))), (vi 0), (vi 0), (vi 0), (vi 0), (vi 0), (vi 0)] hs180 (fun b221 w222 hs223 => ?_)
    refine St0 (BL x207) hs223 (fun w224 hs225 => ?_)
    refine Nss (Rg (rG 8) ?_)
    refine Ld hs225.at1 <| Ld hs225.at0 ?_
    obtain ⟨r226, hr227, h228⟩ := bind_some h210
    refine Cl' Eu hs225 (EO N w224 F13 hs225.pers (hG.mono ((((((((((((le33.t le47).trans le60).trans le67).trans le85).trans le92).trans le110).trans le117).trans le135).trans le142).trans le160).trans le167).trans le181)) (({ Report := x0.Report, Serial := x0.Serial, Zone := x0.Zone } : Ac)) x207 _ hr227) ?_
    rintro _ F15 w230 hs231 le232 rfl
    refine Vs 5 <| Nt <| Rg [0, 1, 2] <| Vs 1 ?_
    obtain ⟨r234, hr235, h236⟩ := bind_some h228
    refine V 49 9 (Av (t := 9) (t' := 9) (x := (.tmp 48)) (y := (.const (sv ([10] : Wn)))) (a := r226.1) (b := ([10] : Wn)) (v := r234) rfl rfl hr235) ?_
    obtain ⟨t240, ht241, h242⟩ := bind_some h236
    refine CB Bp (DN (L := [(sb b221 (BL x207) 34), (sb b21 (Ag x0) 23)]) ht241 (FD.mono _ _ _ _ hJ183 le232) hs231) ?_
    rintro _ F16 w237 _ hs238 le239 ⟨rfl, Lf243, rfl, hJ244⟩
    have hs245 : HS w0 F0 w237 F16 ((sb b221 (BL x207) 34) :: (sb b21 (Ag x0) 23) :: Lf243) := hs238
    refine VY <| Ap <| Ab <| Rg [0, 1] <| Vs 2 <| VY ?_
    have hn246 := AD h242 hnx203
    exact ⟨m200, Nat.lt_succ_self _, ((W64 (s178.1 + 1)), t240), F16, Lf243, hn246, hs245.dr0, ((le181.t le232).trans le239), fI, hJ244⟩
   ·refine Ex ?_
    refine Al <| Al <| Ay rfl ?_
    have ho247 := AE h206 hnx203
    exact .inl ⟨rfl, (s178.1, s178.2), F13, Lf182, ho247, hs180.dr0, le181, fI, hJ183⟩
  ·rintro f w191 ⟨s190, F14, Lf194, rfl, hs192, le193, ⟨_, rfl⟩, hJ195⟩
   have h248 := A6 h177
   refine Ab <| Sq (Rg [0] ?_)
   obtain ⟨t252, ht253, h254⟩ := bind_some h248
   refine CB Bp (DN (L := []) ht253 hJ195 hs192) ?_
   rintro _ F17 w249 Lf255 hs250 le251 ⟨rfl, _, rfl, hJ256⟩
   have hs257 : HS w0 F0 w249 F17 Lf255 := hs250
   refine Nss (Rg [0, 1, 2] ?_)
   refine CB NL (O3 (L := []) hJ256 hs257) ?_
   rintro _ _ w258 _ hs259 _ ⟨rfl, rfl, rfl⟩
   refine Vs 2 <| Nt <| Rt ?_
   obtain rfl := Aa h254
   exact Re [(sv t252), (vi 0)] hs259 rfl
def Bz (N : Nat) (x0 : Wn) : Option (Int × Bool) :=
 ((Ed N x0).bind fun r21 => ((bif (!r21.2) then ((strconv_Itoa N r21.1).bind fun r41 => some (r41 == x0)) else some false).bind fun j32 => some (r21.1, j32)))
theorem Be : Af Tryz.prog 95 := fun _ _ => by kernel_rfl
theorem Bq (N : Nat) (w0 : World) (F0 : Mem) (hF : Wp w0 F0) (hG : Br F0) (x0 : Wn) (r : (Int × Bool)) (h : Bz N x0 = some r) :
  Calls Tryz.prog 95 ([(sv x0)] : List Value).toArray w0 (AA w0 F0 fun F' v => v = (.tuple #[(vi r.1), (.bool r.2)])) := by
 have hs0 := V4 hF
 refine Go 20 Tryz.func95 <| Sq (Rg [0, 1] ?_)
 refine Vs 2 <| Nss (Rg (rG 7) ?_)
 refine Vs 1 ?_
 obtain ⟨r21, hr22, h23⟩ := bind_some h
 refine Cl' HU hs0 (IV N w0 F0 hs0.pers hG x0 _ hr22) ?_
 rintro _ F1 w25 hs26 le27 ⟨vr21_1_0, rfl, her21_1_0⟩
 refine Vs 5 <| Nss (Rg (rG 11) ?_)
 obtain ⟨j32, hj36, h37⟩ := bind_some h23
 refine V8 (fun f w => ∃ (F2 : Mem), HS w0 F0 w F2 [] /\ V2 F1 F2 /\ FI f [] [(2, (vi r21.1)), (3, (.bool j32))]) ?_ ?_
 ·refine Vs 2 ?_
  refine V 13 4 (QI (t := 113) (t' := 113) (x := (.tmp 12)) (c := .nilIface) her21_1_0 rfl rfl (by kernel_rfl)) <| Vs 1 <| Sp hj36 (fun hb38 h39 => ?_) (fun hb38 h40 => ?_)
  ·refine Vgs hb38 1 ?_
   obtain ⟨r41, hr42, h43⟩ := bind_some h39
   refine Cg hb38 AR hs26 (AU N w25 F1 hs26.pers (hG.mono le27) r21.1 _ hr42) ?_
   rintro _ F3 w45 hs46 le47 rfl
   refine Vgs hb38 2 <| Pk1 hb38 <| Vs 2 ?_
   obtain rfl := Aa h43
   exact VY ⟨rfl, F3, hs46, le47, fI⟩
  ·refine Ss hb38 4 ?_
   refine Pk0 hb38 <| Vs 2 ?_
   obtain rfl := Aa h40
   exact VY ⟨rfl, F1, hs26, (V3 _), fI⟩
 ·rintro f w29 ⟨F2, hs30, le31, ⟨_, rfl⟩⟩
  refine Ab <| Rt ?_
  obtain rfl := Aa h37
  exact Re [(vi r21.1), (.bool j32)] hs30 rfl
def FQ (N : Nat) (x0 : Ac) (x1 : Wn) : Option (Line × Int) :=
 ((strings_Split N x1 ([32] : Wn)).bind fun r27 => ((B3 N r27 ([60] : Wn)).bind fun r35 => ((bif (decide ((r27.length : Int) < 9)) then some true else (bif (decide (r35 < 8)) then none else ((idx r27 7).bind fun x62 => some (x62 != ([62] : Wn))))).bind fun j46 => (bif j46 then some (({ Num := 0, Khz := 0, Mode := 0, Minute := 0, Call := ([] : Wn), Sent := ({ Report := 0, Serial := 0, Zone := 0 } : Ad), Got := ({ Report := 0, Serial := 0, Zone := 0 } : Ad) } : Line), 20) else ((idx r27 1).bind fun x81 => ((Bz N x81).bind fun r95 => ((idx r27 2).bind fun x103 => ((Bz N x103).bind fun r109 => (((idx r27 4).bind fun x134 => ((AZ x134 ([32] : Wn)).bind fun r140 => ((idx r27 5).bind fun x143 => ((AZ r140 x143).bind fun r149 => ((GV N r149).bind fun r152 => some r152.1))))).bind fun j122 => (((sub r27 8 r35).bind fun r179 => ((strings_Join N r179 ([32] : Wn)).bind fun r187 => ((C5 N ({ Report := x0.Report, Serial := x0.Serial, Zone := x0.Zone } : Ac) r187).bind fun r195 => some (r195.1.Report, r195.1.Serial, r195.1.Zone)))).bind fun j166 => (((sub r27 (W64 (r35 + 1)) (r27.length : Int)).bind fun r261 => ((strings_Join N r261 ([32] : Wn)).bind fun r269 => ((C5 N ({ Report := x0.Report, Serial := x0.Serial, Zone := x0.Zone } : Ac) r269).bind fun r277 => some (r277.1.Report, r277.1.Serial, r277.1.Zone)))).bind fun j248 => (((idx r27 3).bind fun x338 => ((idx r27 6).bind fun x344 => ((strings_Index N ([32, 77, 86, 68] : Wn) x338).bind fun r350 => some (r350, x344)))).bind fun j330 => ((BR N ({ Report := x0.Report, Serial := x0.Serial, Zone := x0.Zone } : Ac) ({ Num := r95.1, Khz := r109.1, Mode := j330.1, Minute := j122, Call := j330.2, Sent := ({ Report := j166.1, Serial := j166.2.1, Zone := j166.2.2 } : Ad), Got := ({ Report := j248.1, Serial := j248.2.1, Zone := j248.2.2 } : Ad) } : Line)).bind fun r376 => (bif ((r376.2 != 0) || (r376.1 != x1)) then none else some (({ Num := r95.1, Khz := r109.1, Mode := j330.1, Minute := j122, Call := j330.2, Sent := ({ Report := j166.1, Serial := j166.2.1, Zone := j166.2.2 } : Ad), Got := ({ Report := j248.1, Serial := j248.2.1, Zone := j248.2.2 } : Ad) } : Line), 0)))))))))))))))
theorem GE : Af Tryz.prog 31 := fun _ _ => by kernel_rfl
theorem Hj (N : Nat) (w0 : World) (F0 : Mem) (hF : Wp w0 F0) (hG : Br F0) (x0 : Ac) (x1 : Wn) (r : (Line × Int)) (h : FQ N x0 x1 = some r) :
  Calls Tryz.prog 31 ([(.agg (Ag x0)), (sv x1)] : List Value).toArray w0 (AA w0 F0 fun F' v => v = (.tuple #[(.agg (BL r.1)), (vi r.2)])) := by
 have hs0 := V4 hF
 refine Go 112 Tryz.func31 <| Sq (Rg [0, 1, 2] ?_)
 refine Bx' 23 (Ag x0) hs0 (fun b21 w22 hs23 => ?_)
 refine Al' 34 #[(vi 0), (vi 0), (vi 0), (vi 0), (sv (([] : Wn))), (vi 0), (vi 0), (vi 0), (vi 0), (vi 0), (vi 0)] hs23 (fun b24 w25 hs26 => ?_)
 refine Vs 1 <| Nss (Rg [0, 1, 2] ?_)
 refine Vs 1 ?_
 obtain ⟨r27, hr28, h29⟩ := bind_some h
 refine Cl' Cx hs26 (CR N w25 F0 hs26.pers hG x1 (([32] : Wn)) _ hr28) ?_
 rintro _ F1 w31 hs32 le33 ⟨ar27_0_0, nr27_0_0, rfl, hbr27_0_0, hsr27_0_0⟩
 refine Vs 1 <| Nss (Rg [0, 1, 2] ?_)
 refine Vs 1 ?_
 obtain ⟨r35, hr36, h37⟩ := bind_some h29
 refine Cl' CI hs32 (CS N w31 F1 hs32.pers r27 ar27_0_0 nr27_0_0 hbr27_0_0 hsr27_0_0 (([60] : Wn)) _ hr36) ?_
 rintro _ F2 w39 hs40 le41 rfl
 refine Vs 1 <| Nss <| Sq (Rg (rG 13) ?_)
 obtain ⟨j46, hj54, h55⟩ := bind_some h37
 refine V8 (fun f w => ∃ (F3 : Mem), HS w0 F0 w F3 [(sb b24 #[(vi 0), (vi 0), (vi 0), (vi 0), (sv (([] : Wn))), (vi 0), (vi 0), (vi 0), (vi 0), (vi 0), (vi 0)] 34), (sb b21 (Ag x0) 23)] /\ V2 F2 F3 /\ FI f [] [(1, (sv x1)), (2, (pt b21 0)), (4, (pt b24 0)), (6, (.slice ar27_0_0 r27.length nr27_0_0)), (7, (vi r35)), (37, (.bool j46))]) ?_ ?_
 ·refine Vs 4 ?_
  refine Sp hj54 (fun hb56 h57 => ?_) (fun hb56 h58 => ?_)
  ·refine Ss hb56 2 ?_
   refine Pk1 hb56 <| Vs 1 <| Ss (rfl : true = true) 4 <| Pk1 (rfl : true = true) ?_
   obtain rfl := Aa h57
   exact VY ⟨rfl, F2, hs40, (V3 _), fI⟩
  ·refine Vgs hb56 2 ?_
   refine Pk0 hb56 <| Vs 1 <| Sp h58 (fun hb59 h60 => ?_) (fun hb59 h61 => ?_)
   ·cases h60
   ·refine Vgs hb59 1 ?_
    obtain ⟨x62, hx63, h65⟩ := bind_some h61
    obtain ⟨hi64, hx63'⟩ := Aj hx63
    obtain ⟨b66, o67, C68, E69, fz70, rfl, hF72, hE73⟩ := Wa (V5 hsr27_0_0 le41) hx63'
    have hc75 := hE73 _ _ hx63'
    refine Ixg hb59 hi64 <| Lxg hb59 0 (hs40.pers _ _ hF72) hc75 <| Vgs hb59 1 <| Pk0 hb59 ?_
    obtain rfl := Aa h65
    exact VY ⟨rfl, F2, hs40, (V3 _), fI⟩
 ·rintro f w43 ⟨F3, hs44, le45, ⟨_, rfl⟩⟩
  refine Ab <| Cd h55 (fun hb76 h77 => ?_) (fun hb76 h78 => ?_)
  ·refine Sq (Rg [0, 1, 2] ?_)
   refine Vs 1 <| St0 #[(vi 0), (vi 0), (vi 0), (vi 0), (sv (([] : Wn))), (vi 0), (vi 0), (vi 0), (vi 0), (vi 0), (vi 0)] hs44 (fun w79 hs80 => ?_)
   refine Vs 1 <| Nt <| Rt <| Ae ?_
   obtain rfl := Aa h77
   exact ⟨rfl, (.tuple #[(.agg #[(vi 0), (vi 0), (vi 0), (vi 0), (sv (([] : Wn))), (vi 0), (vi 0), (vi 0), (vi 0), (vi 0), (vi 0)]), (vi 20)]), AW (l := [.cell 4 34, .tmp 5]) (by kernel_rfl) (vs := [(.agg #[(vi 0), (vi 0), (vi 0), (vi 0), (sv (([] : Wn))), (vi 0), (vi 0), (vi 0), (vi 0), (vi 0), (vi 0)]), (vi 20)]) ⟨b24, 0, rfl, An (t := 34) (g := true) (s := 11) (by kernel_rfl) hs80.at0 rfl (by decide), ⟨rfl, trivial⟩⟩, (.tuple #[(.agg #[(vi 0), (vi 0), (vi 0), (vi 0), (sv (([] : Wn))), (vi 0), (vi 0), (vi 0), (vi 0), (vi 0), (vi 0)]), (vi 20)]), F3, rfl, hs80.clear, rfl⟩
  ·refine Sc ?_
   refine Ab <| Sq (Rg (rG 9) ?_)
   refine Vs 1 ?_
   obtain ⟨x81, hx82, h84⟩ := bind_some h78
   obtain ⟨hi83, hx82'⟩ := Aj hx82
   obtain ⟨b85, o86, C87, E88, fz89, rfl, hF91, hE92⟩ := Wa (V5 hsr27_0_0 (le41.t le45)) hx82'
   have hc94 := hE92 _ _ hx82'
   refine Ix hi83 <| Lx 0 (hs44.pers _ _ hF91) hc94 ?_
   obtain ⟨r95, hr96, h97⟩ := bind_some h84
   refine Cl' Be hs44 (Bq N w43 F3 hs44.pers (hG.mono ((le33.t le41).trans le45)) x81 _ hr96) ?_
   rintro _ F4 w99 hs100 le101 rfl
   refine Vs 5 <| Nss (Rg (rG 9) ?_)
   refine Vs 1 ?_
   obtain ⟨x103, hx104, h106⟩ := bind_some h97
   obtain ⟨hi105, hx104'⟩ := Aj hx104
   have hc108 := hE92 _ _ hx104'
   refine Ix hi105 <| Lx 0 (hs100.pers _ _ (le101 _ _ hF91)) hc108 ?_
   obtain ⟨r109, hr110, h111⟩ := bind_some h106
   refine Cl' Be hs100 (Bq N w99 F4 hs100.pers (hG.mono (((le33.t le41).trans le45).trans le101)) x103 _ hr110) ?_
   rintro _ F5 w113 hs114 le115 rfl
   refine Vs 5 <| Nss ?_
   obtain ⟨j122, hj132, h133⟩ := bind_some h111
   refine RD 14 14 [(sb b24 #[(vi 0), (vi 0), (vi 0), (vi 0), (sv (([] : Wn))), (vi 0), (vi 0), (vi 0), (vi 0), (vi 0), (vi 0)] 34), (sb b21 (Ag x0) 23)] [] hs114 (fun f w => ∃ (F6 : Mem), HS w0 F0 w F6 [(sb b24 #[(vi 0), (vi 0), (vi 0), (vi 0), (sv (([] : Wn))), (vi 0), (vi 0), (vi 0), (vi 0), (vi 0), (vi 0)] 34), (sb b21 (Ag x0) 23)] /\ V2 F5 F6 /\ FI f [] [(1, (sv x1)), (2, (pt b21 0)), (4, (pt b24 0)), (6, (.slice (some ⟨b85, o86, none⟩) r27.length nr27_0_0)), (7, (vi r35)), (8, (vi r95.1)), (10, (vi r109.1)), (12, (vi j122))]) (fun wd117 hw118 => ?_) ?_
   ·refine Dv [0] ?_
    obtain ⟨x134, hx135, h137⟩ := bind_some hj132
    obtain ⟨hi136, hx135'⟩ := Aj hx135
    have hc139 := hE92 _ _ hx135'
    refine Di 1 hi136 <| Dx 2 0 (fun _ hq => hq.1.1 _ _ ((le101.t le115) _ _ hF91)) hc139 ?_
    obtain ⟨r140, hr141, h142⟩ := bind_some h137
    refine Dt 3 57 9 (sv r140) (fun _ hq => Av (t := 9) (t' := 9) (x := (.tmp 56)) (y := (.const (sv ([32] : Wn)))) (a := x134) (b := ([32] : Wn)) (v := r140) rfl rfl hr141) <| Dv [4] ?_
    obtain ⟨x143, hx144, h146⟩ := bind_some h142
    obtain ⟨hi145, hx144'⟩ := Aj hx144
    have hc148 := hE92 _ _ hx144'
    refine Di 5 hi145 <| Dx 6 0 (fun _ hq => hq.1.1 _ _ ((le101.t le115) _ _ hF91)) hc148 ?_
    obtain ⟨r149, hr150, h151⟩ := bind_some h146
    refine Dt 7 61 9 (sv r149) (fun _ hq => Av (t := 9) (t' := 9) (x := (.tmp 57)) (y := (.tmp 60)) (a := r140) (b := x143) (v := r149) rfl rfl hr150) <| D1 8 ?_
    obtain ⟨r152, hr153, h154⟩ := bind_some h151
    refine DCl LR hw118 (MJ N wd117 F5 hw118.pers (hG.mono ((((le33.t le41).trans le45).trans le101).trans le115)) r149 _ hr153) ?_
    rintro _ F7 w156 hs157 le158 rfl
    refine Dv [9, 10, 11, 12, 13] ?_
    obtain rfl := Aa h154
    exact Wf (by kernel_rfl) ⟨F7, hs157, le158, fI⟩
   ·rintro f w119 ⟨F6, hs120, le121, ⟨_, rfl⟩⟩
    refine Ab <| Sq ?_
    obtain ⟨j166, hj177, h178⟩ := bind_some h133
    refine RD 12 12 [(sb b24 #[(vi 0), (vi 0), (vi 0), (vi 0), (sv (([] : Wn))), (vi 0), (vi 0), (vi 0), (vi 0), (vi 0), (vi 0)] 34), (sb b21 (Ag x0) 23)] [] hs120 (fun f w => ∃ (F8 : Mem) (b165 : Nat), HS w0 F0 w F8 [(sb b165 #[(vi j166.1), (vi j166.2.1), (vi j166.2.2)] 32), (sb b24 #[(vi 0), (vi 0), (vi 0), (vi 0), (sv (([] : Wn))), (vi 0), (vi 0), (vi 0), (vi 0), (vi 0), (vi 0)] 34), (sb b21 (Ag x0) 23)] /\ V2 F6 F8 /\ FI f [] [(1, (sv x1)), (2, (pt b21 0)), (4, (pt b24 0)), (6, (.slice (some ⟨b85, o86, none⟩) r27.length nr27_0_0)), (7, (vi r35)), (8, (vi r95.1)), (10, (vi r109.1)), (12, (vi j122)), (14, (pt b165 0))]) (fun wd160 hw161 => ?_) ?_
    ·refine Dl 0 (fun _ hq => (hq.1.2 1 _ _ rfl)) ?_
     refine Dv [1, 2] ?_
     obtain ⟨r179, hr180, h181⟩ := bind_some hj177
     obtain ⟨a182, n183, hb184, hs185, hrun186⟩ := FO (P := Tryz.prog) (T := AK) (lo := (some (.const (vi 8)))) (hi := (some (.tmp 68))) (mx := none) (t := 55) (E := 9) (by_ := 16) (c := nr27_0_0) (a := (some ⟨b85, o86, none⟩)) (l := r27) (r := r179) (il := 8) (ih := r35) (im := 0) (by kernel_rfl) (by kernel_rfl) hbr27_0_0 (V5 hsr27_0_0 ((((le41.t le45).trans le101).trans le115).trans le121)) (fun h => by first | rfl | cases h) hr180
     refine Dt 3 69 55 (.slice a182 r179.length n183) (fun _ hq => hrun186 (x := (.tmp 67)) rfl rfl rfl trivial) <| Wb (i := 4) (j := 9) (by kernel_rfl) ?_ ?_
     ·obtain ⟨r187, hr188, h189⟩ := bind_some h181
      refine DCl Ca hw161 (CA N wd160 F6 hw161.pers r179 a182 n183 hb184 hs185 (([32] : Wn)) _ hr188) ?_
      rintro _ F9 w191 hs192 le193 rfl
      refine Wb (i := 5) (j := 9) (by kernel_rfl) ?_ ?_
      ·obtain ⟨r195, hr196, h197⟩ := bind_some h189
       refine DCl Bw hs192 (BG N w191 F9 hs192.pers (hG.mono ((((((le33.t le41).trans le45).trans le101).trans le115).trans le121).trans le193)) (({ Report := x0.Report, Serial := x0.Serial, Zone := x0.Zone } : Ac)) r187 _ hr196) ?_
       rintro _ F10 w199 hs200 le201 rfl
       refine Dv [6, 7, 8] <| D1 9 <| DAl 32 #[(vi 0), (vi 0), (vi 0)] hs200 (le193.t le201) (fun b203 w204 hs205 => ?_)
       refine D1 10 <| GW (Bh r195.1) hs205 (le193.t le201) (fun w206 hs207 => ?_)
       refine Dv [11] ?_
       obtain rfl := Aa h197
       exact Wf (by kernel_rfl) ⟨F10, b203, hs207, (le193.t le201), fI⟩
      ·refine DAl 32 #[(vi 0), (vi 0), (vi 0)] hs192 le193 (fun b208 w209 hs210 => ?_)
       refine D1 5 ?_
       obtain ⟨r211, hr212, h213⟩ := bind_some h189
       refine DCl Bw hs210 (BG N w209 F9 hs210.pers (hG.mono ((((((le33.t le41).trans le45).trans le101).trans le115).trans le121).trans le193)) (({ Report := x0.Report, Serial := x0.Serial, Zone := x0.Zone } : Ac)) r187 _ hr212) ?_
       rintro _ F11 w215 hs216 le217 rfl
       refine Dv [6, 7, 8] <| D1 10 <| GW (Bh r211.1) hs216 (le193.t le217) (fun w219 hs220 => ?_)
       refine Dv [11] ?_
       obtain rfl := Aa h213
       exact Wf (by kernel_rfl) ⟨F11, b208, hs220, (le193.t le217), fI⟩
     ·refine DAl 32 #[(vi 0), (vi 0), (vi 0)] hw161 (V3 _) (fun b221 w222 hs223 => ?_)
      refine D1 4 ?_
      obtain ⟨r224, hr225, h226⟩ := bind_some h181
      refine DCl Ca hs223 (CA N w222 F6 hs223.pers r179 a182 n183 hb184 hs185 (([32] : Wn)) _ hr225) ?_
      rintro _ F12 w228 hs229 le230 rfl
      refine D1 5 ?_
      obtain ⟨r232, hr233, h234⟩ := bind_some h226
      refine DCl Bw hs229 (BG N w228 F12 hs229.pers (hG.mono ((((((le33.t le41).trans le45).trans le101).trans le115).trans le121).trans le230)) (({ Report := x0.Report, Serial := x0.Serial, Zone := x0.Zone } : Ac)) r224 _ hr233) ?_
      rintro _ F13 w236 hs237 le238 rfl
      refine Dv [6, 7, 8] <| D1 10 <| GW (Bh r232.1) hs237 (le230.t le238) (fun w240 hs241 => ?_)
      refine Dv [11] ?_
      obtain rfl := Aa h234
      exact Wf (by kernel_rfl) ⟨F13, b221, hs241, (le230.t le238), fI⟩
    ·rintro f w162 ⟨F8, b165, hs163, le164, ⟨_, rfl⟩⟩
     refine Ab <| Sq ?_
     obtain ⟨j248, hj259, h260⟩ := bind_some h178
     refine RD 13 13 [(sb b165 #[(vi j166.1), (vi j166.2.1), (vi j166.2.2)] 32), (sb b24 #[(vi 0), (vi 0), (vi 0), (vi 0), (sv (([] : Wn))), (vi 0), (vi 0), (vi 0), (vi 0), (vi 0), (vi 0)] 34), (sb b21 (Ag x0) 23)] [] hs163 (fun f w => ∃ (F14 : Mem) (b247 : Nat), HS w0 F0 w F14 [(sb b247 #[(vi j248.1), (vi j248.2.1), (vi j248.2.2)] 32), (sb b165 #[(vi j166.1), (vi j166.2.1), (vi j166.2.2)] 32), (sb b24 #[(vi 0), (vi 0), (vi 0), (vi 0), (sv (([] : Wn))), (vi 0), (vi 0), (vi 0), (vi 0), (vi 0), (vi 0)] 34), (sb b21 (Ag x0) 23)] /\ V2 F8 F14 /\ FI f [] [(1, (sv x1)), (2, (pt b21 0)), (4, (pt b24 0)), (6, (.slice (some ⟨b85, o86, none⟩) r27.length nr27_0_0)), (8, (vi r95.1)), (10, (vi r109.1)), (12, (vi j122)), (14, (pt b165 0)), (16, (pt b247 0))]) (fun wd242 hw243 => ?_) ?_
     ·refine Dl 0 (fun _ hq => (hq.1.2 2 _ _ rfl)) ?_
      refine Dv [1, 2, 3] ?_
      obtain ⟨r261, hr262, h263⟩ := bind_some hj259
      obtain ⟨a264, n265, hb266, hs267, hrun268⟩ := FO (P := Tryz.prog) (T := AK) (lo := (some (.tmp 78))) (hi := none) (mx := none) (t := 55) (E := 9) (by_ := 16) (c := nr27_0_0) (a := (some ⟨b85, o86, none⟩)) (l := r27) (r := r261) (il := (W64 (r35 + 1))) (ih := (r27.length : Int)) (im := 0) (by kernel_rfl) (by kernel_rfl) hbr27_0_0 (V5 hsr27_0_0 (((((le41.t le45).trans le101).trans le115).trans le121).trans le164)) (fun h => by first | rfl | cases h) hr262
      refine Dt 4 79 55 (.slice a264 r261.length n265) (fun _ hq => hrun268 (x := (.tmp 76)) rfl rfl rfl trivial) <| Wb (i := 5) (j := 10) (by kernel_rfl) ?_ ?_
      ·obtain ⟨r269, hr270, h271⟩ := bind_some h263
       refine DCl Ca hw243 (CA N wd242 F8 hw243.pers r261 a264 n265 hb266 hs267 (([32] : Wn)) _ hr270) ?_
       rintro _ F15 w273 hs274 le275 rfl
       refine Wb (i := 6) (j := 10) (by kernel_rfl) ?_ ?_
       ·obtain ⟨r277, hr278, h279⟩ := bind_some h271
        refine DCl Bw hs274 (BG N w273 F15 hs274.pers (hG.mono (((((((le33.t le41).trans le45).trans le101).trans le115).trans le121).trans le164).trans le275)) (({ Report := x0.Report, Serial := x0.Serial, Zone := x0.Zone } : Ac)) r269 _ hr278) ?_
        rintro _ F16 w281 hs282 le283 rfl
        refine Dv [7, 8, 9] <| D1 10 <| DAl 32 #[(vi 0), (vi 0), (vi 0)] hs282 (le275.t le283) (fun b285 w286 hs287 => ?_)
        refine D1 11 <| GW (Bh r277.1) hs287 (le275.t le283) (fun w288 hs289 => ?_)
        refine Dv [12] ?_
        obtain rfl := Aa h279
        exact Wf (by kernel_rfl) ⟨F16, b285, hs289, (le275.t le283), fI⟩
       ·refine DAl 32 #[(vi 0), (vi 0), (vi 0)] hs274 le275 (fun b290 w291 hs292 => ?_)
        refine D1 6 ?_
        obtain ⟨r293, hr294, h295⟩ := bind_some h271
        refine DCl Bw hs292 (BG N w291 F15 hs292.pers (hG.mono (((((((le33.t le41).trans le45).trans le101).trans le115).trans le121).trans le164).trans le275)) (({ Report := x0.Report, Serial := x0.Serial, Zone := x0.Zone } : Ac)) r269 _ hr294) ?_
        rintro _ F17 w297 hs298 le299 rfl
        refine Dv [7, 8, 9] <| D1 11 <| GW (Bh r293.1) hs298 (le275.t le299) (fun w301 hs302 => ?_)
        refine Dv [12] ?_
        obtain rfl := Aa h295
        exact Wf (by kernel_rfl) ⟨F17, b290, hs302, (le275.t le299), fI⟩
      ·refine DAl 32 #[(vi 0), (vi 0), (vi 0)] hw243 (V3 _) (fun b303 w304 hs305 => ?_)
       refine D1 5 ?_
       obtain ⟨r306, hr307, h308⟩ := bind_some h263
       refine DCl Ca hs305 (CA N w304 F8 hs305.pers r261 a264 n265 hb266 hs267 (([32] : Wn)) _ hr307) ?_
       rintro _ F18 w310 hs311 le312 rfl
       refine D1 6 ?_
       obtain ⟨r314, hr315, h316⟩ := bind_some h308
       refine DCl Bw hs311 (BG N w310 F18 hs311.pers (hG.mono (((((((le33.t le41).trans le45).trans le101).trans le115).trans le121).trans le164).trans le312)) (({ Report := x0.Report, Serial := x0.Serial, Zone := x0.Zone } : Ac)) r306 _ hr315) ?_
       rintro _ F19 w318 hs319 le320 rfl
       refine Dv [7, 8, 9] <| D1 11 <| GW (Bh r314.1) hs319 (le312.t le320) (fun w322 hs323 => ?_)
       refine Dv [12] ?_
       obtain rfl := Aa h316
       exact Wf (by kernel_rfl) ⟨F19, b303, hs323, (le312.t le320), fI⟩
     ·rintro f w244 ⟨F14, b247, hs245, le246, ⟨_, rfl⟩⟩
      refine Ab <| Sq ?_
      obtain ⟨j330, hj336, h337⟩ := bind_some h260
      refine RD 14 15 [(sb b247 #[(vi j248.1), (vi j248.2.1), (vi j248.2.2)] 32), (sb b165 #[(vi j166.1), (vi j166.2.1), (vi j166.2.2)] 32), (sb b24 #[(vi 0), (vi 0), (vi 0), (vi 0), (sv (([] : Wn))), (vi 0), (vi 0), (vi 0), (vi 0), (vi 0), (vi 0)] 34), (sb b21 (Ag x0) 23)] [] hs245 (fun f w => ∃ (F20 : Mem) (b329 : Nat), HS w0 F0 w F20 [(sb b329 #[(vi r95.1), (vi r109.1), (vi j330.1), (vi j122), (sv j330.2), (vi j166.1), (vi j166.2.1), (vi j166.2.2), (vi j248.1), (vi j248.2.1), (vi j248.2.2)] 34), (sb b24 #[(vi 0), (vi 0), (vi 0), (vi 0), (sv (([] : Wn))), (vi 0), (vi 0), (vi 0), (vi 0), (vi 0), (vi 0)] 34), (sb b21 (Ag x0) 23)] /\ V2 F14 F20 /\ FI f [] [(1, (sv x1)), (2, (pt b21 0)), (4, (pt b24 0)), (18, (pt b329 0))]) (fun wd324 hw325 => ?_) ?_
      ·refine Dv [0, 1, 2] ?_
       obtain ⟨x338, hx339, h341⟩ := bind_some hj336
       obtain ⟨hi340, hx339'⟩ := Aj hx339
       have hc343 := hE92 _ _ hx339'
       refine Di 3 hi340 <| Dx 4 0 (fun _ hq => hq.1.1 _ _ (((((le101.t le115).trans le121).trans le164).trans le246) _ _ hF91)) hc343 <| Dv [6, 7] ?_
       obtain ⟨x344, hx345, h347⟩ := bind_some h341
       obtain ⟨hi346, hx345'⟩ := Aj hx345
       have hc349 := hE92 _ _ hx345'
       refine Di 8 hi346 <| Dx 9 0 (fun _ hq => hq.1.1 _ _ (((((le101.t le115).trans le121).trans le164).trans le246) _ _ hF91)) hc349 <| Dl 10 (fun _ hq => (hq.1.2 1 _ _ rfl)) <| Dl 11 (fun _ hq => (hq.1.2 0 _ _ rfl)) <| Wb (i := 5) (j := 13) (by kernel_rfl) ?_ ?_
       ·obtain ⟨r350, hr351, h352⟩ := bind_some h347
        refine DCl Ha hw325 (H0 N wd324 F14 hw325.pers (hG.mono (((((((le33.t le41).trans le45).trans le101).trans le115).trans le121).trans le164).trans le246)) (([32, 77, 86, 68] : Wn)) x338 _ hr351) ?_
        rintro _ F21 w354 hs355 le356 rfl
        refine Dv [12] <| D1 13 <| DAl 34 #[(vi 0), (vi 0), (vi 0), (vi 0), (sv (([] : Wn))), (vi 0), (vi 0), (vi 0), (vi 0), (vi 0), (vi 0)] hs355 le356 (fun b358 w359 hs360 => ?_)
        refine D1 14 <| GW #[(vi r95.1), (vi r109.1), (vi r350), (vi j122), (sv x344), (vi j166.1), (vi j166.2.1), (vi j166.2.2), (vi j248.1), (vi j248.2.1), (vi j248.2.2)] hs360 le356 (fun w361 hs362 => ?_)
        obtain rfl := Aa h352
        exact Wf (by kernel_rfl) ⟨F21, b358, hs362.dr1.dr1, le356, fI⟩
       ·refine DAl 34 #[(vi 0), (vi 0), (vi 0), (vi 0), (sv (([] : Wn))), (vi 0), (vi 0), (vi 0), (vi 0), (vi 0), (vi 0)] hw325 (V3 _) (fun b363 w364 hs365 => ?_)
        refine D1 5 ?_
        obtain ⟨r366, hr367, h368⟩ := bind_some h347
        refine DCl Ha hs365 (H0 N w364 F14 hs365.pers (hG.mono (((((((le33.t le41).trans le45).trans le101).trans le115).trans le121).trans le164).trans le246)) (([32, 77, 86, 68] : Wn)) x338 _ hr367) ?_
        rintro _ F22 w370 hs371 le372 rfl
        refine Dv [12] <| D1 14 <| GW #[(vi r95.1), (vi r109.1), (vi r366), (vi j122), (sv x344), (vi j166.1), (vi j166.2.1), (vi j166.2.2), (vi j248.1), (vi j248.2.1), (vi j248.2.2)] hs371 le372 (fun w374 hs375 => ?_)
        obtain rfl := Aa h368
        exact Wf (by kernel_rfl) ⟨F22, b363, hs375.dr1.dr1, le372, fI⟩
      ·rintro f w326 ⟨F20, b329, hs327, le328, ⟨_, rfl⟩⟩
       refine Ab <| Sq <| Sq (Rg (rG 8) ?_)
       refine Ld hs327.at2 <| Ld hs327.at0 ?_
       obtain ⟨r376, hr377, h378⟩ := bind_some h337
       refine Cl' Eu hs327 (EO N w326 F20 hs327.pers (hG.mono ((((((((le33.t le41).trans le45).trans le101).trans le115).trans le121).trans le164).trans le246).trans le328)) (({ Report := x0.Report, Serial := x0.Serial, Zone := x0.Zone } : Ac)) (({ Num := r95.1, Khz := r109.1, Mode := j330.1, Minute := j122, Call := j330.2, Sent := ({ Report := j166.1, Serial := j166.2.1, Zone := j166.2.2 } : Ad), Got := ({ Report := j248.1, Serial := j248.2.1, Zone := j248.2.2 } : Ad) } : Line)) _ hr377) ?_
       rintro _ F23 w380 hs381 le382 rfl
       refine Vs 5 <| Nss (Rg (rG 7) ?_)
       refine V8 (fun f w => ∃ (F24 : Mem), HS w0 F0 w F24 [(sb b329 #[(vi r95.1), (vi r109.1), (vi j330.1), (vi j122), (sv j330.2), (vi j166.1), (vi j166.2.1), (vi j166.2.2), (vi j248.1), (vi j248.2.1), (vi j248.2.2)] 34), (sb b24 #[(vi 0), (vi 0), (vi 0), (vi 0), (sv (([] : Wn))), (vi 0), (vi 0), (vi 0), (vi 0), (vi 0), (vi 0)] 34)] /\ V2 F23 F24 /\ FI f [] [(4, (pt b24 0)), (18, (pt b329 0)), (109, (.bool ((r376.2 != 0) || (r376.1 != x1))))]) ?_ ?_
       ·refine Vs 3 ?_
        refine V7 (r376.2 != 0) (fun hb391 => ?_) (fun hb391 => ?_)
        ·refine Ss hb391 3 ?_
         refine Pk1 hb391 ?_
         exact VY ⟨rfl, F23, hs381.dr2, (V3 _), (fJ ⟨rfl, rfl, (congrArg Value.bool (Fw hb391 rfl)), trivial⟩)⟩
        ·refine Vgs hb391 3 ?_
         refine Pk0 hb391 ?_
         exact VY ⟨rfl, F23, hs381.dr2, (V3 _), (fJ ⟨rfl, rfl, (congrArg Value.bool (Cr hb391 rfl)), trivial⟩)⟩
       ·rintro f w384 ⟨F24, hs385, le386, ⟨_, rfl⟩⟩
        refine Ab <| Cd h378 (fun hb392 h393 => ?_) (fun hb392 h394 => ?_)
        ·cases h393
        ·refine Sc ?_
         refine Ab <| Sq (Rg [0, 1, 2] ?_)
         refine Ld hs385.at0 <| St1 #[(vi r95.1), (vi r109.1), (vi j330.1), (vi j122), (sv j330.2), (vi j166.1), (vi j166.2.1), (vi j166.2.2), (vi j248.1), (vi j248.2.1), (vi j248.2.2)] hs385 (fun w395 hs396 => ?_)
         refine Vs 1 <| Nt <| Rt ?_
         obtain rfl := Aa h394
         exact ⟨rfl, (.tuple #[(.agg #[(vi r95.1), (vi r109.1), (vi j330.1), (vi j122), (sv j330.2), (vi j166.1), (vi j166.2.1), (vi j166.2.2), (vi j248.1), (vi j248.2.1), (vi j248.2.2)]), (vi 0)]), AW (l := [.cell 4 34, .tmp 5]) (by kernel_rfl) (vs := [(.agg #[(vi r95.1), (vi r109.1), (vi j330.1), (vi j122), (sv j330.2), (vi j166.1), (vi j166.2.1), (vi j166.2.2), (vi j248.1), (vi j248.2.1), (vi j248.2.2)]), (vi 0)]) ⟨b24, 0, rfl, An (t := 34) (g := true) (s := 11) (by kernel_rfl) hs396.at1 rfl (by decide), ⟨rfl, trivial⟩⟩, (.tuple #[(.agg #[(vi r95.1), (vi r109.1), (vi j330.1), (vi j122), (sv j330.2), (vi j166.1), (vi j166.2.1), (vi j166.2.2), (vi j248.1), (vi j248.2.1), (vi j248.2.2)]), (vi 0)]), F24, rfl, hs396.clear, rfl⟩
def Is (N : Nat) (x0 : As) (x1 : Wn) : Option (As × Bool) :=
 ((strings_CutPrefix N x1 ([67, 65, 76, 76, 32] : Wn)).bind fun r21 => ((bif r21.2 then ((DO N r21.1).bind fun r42 => some r42) else some false).bind fun j34 => some (({ o_ := ({ Report := x0.o_.Report, Serial := x0.o_.Serial, Zone := x0.o_.Zone } : Ac), l_ := ({ Call := r21.1, Category := x0.l_.Category, Power := x0.l_.Power, Claimed := x0.l_.Claimed, Jumps := x0.l_.Jumps, Lines := x0.l_.Lines } : Log), done_ := x0.done_, ended_ := x0.ended_ } : As), j34)))
theorem KF : Af Tryz.prog 153 := fun _ _ => by kernel_rfl
theorem LV (N : Nat) {wb w0 : World} {Fb F0 : Mem} {Lf : Own} (hG : Br F0) (bp0 : Nat) (x0 : As) (a0_7 : Wo) (n0_7 : Nat) (tb0_9_0 : Nat) (tb0_9_1 : Nat) (tb0_9_2 : Nat) (tb0_9_3 : Nat) (tb0_9_4 : Nat) (tb0_9_5 : Nat) (tb0_9_6 : Nat) (tb0_9_7 : Nat) (tb0_9_8 : Nat) (tb0_9_9 : Nat) (tb0_9_10 : Nat) (tb0_9_11 : Nat) (a0_8 : Wo) (n0_8 : Nat) (e0_8 : Option Nat × Obj) (hb0_7 : LC x0.l_.Jumps.length n0_7) (hs0_7 : SlA AM F0 a0_7 x0.l_.Jumps) (htb0_9_0 : F0 tb0_9_0 = some (oc #[(sv (([67, 65, 84, 69, 71, 79, 82, 89] : Wn)))] 9)) (htb0_9_1 : F0 tb0_9_1 = some (oc #[(vi 1)] 3)) (htb0_9_2 : F0 tb0_9_2 = some (oc #[(vi 9)] 3)) (htb0_9_3 : F0 tb0_9_3 = some (oc #[(fV 156 #[])] 195)) (htb0_9_4 : F0 tb0_9_4 = some (oc #[(sv (([80, 79, 87, 69, 82] : Wn)))] 9)) (htb0_9_5 : F0 tb0_9_5 = some (oc #[(vi 1)] 3)) (htb0_9_6 : F0 tb0_9_6 = some (oc #[(vi 9999)] 3)) (htb0_9_7 : F0 tb0_9_7 = some (oc #[(fV 157 #[])] 195)) (htb0_9_8 : F0 tb0_9_8 = some (oc #[(sv (([67, 76, 65, 73, 77, 69, 68] : Wn)))] 9)) (htb0_9_9 : F0 tb0_9_9 = some (oc #[(vi 0)] 3)) (htb0_9_10 : F0 tb0_9_10 = some (oc #[(vi 1000000)] 3)) (htb0_9_11 : F0 tb0_9_11 = some (oc #[(fV 158 #[])] 195)) (hr0_8 : Ar AL 34 F0 a0_8 n0_8 x0.l_.Lines e0_8) (x1 : Wn) (hs0 : HS wb Fb w0 F0 ((sb bp0 #[(.bool x0.o_.Report), (.bool x0.o_.Serial), (.bool x0.o_.Zone), (sv x0.l_.Call), (vi x0.l_.Category), (vi x0.l_.Power), (vi x0.l_.Claimed), (.slice a0_7 x0.l_.Jumps.length n0_7), (.slice a0_8 x0.l_.Lines.length n0_8), (fV 153 #[]), (fV 154 #[]), (fV 190 #[(pt tb0_9_0 0), (pt tb0_9_1 0), (pt tb0_9_2 0), (pt tb0_9_3 0)]), (fV 191 #[(pt tb0_9_0 0), (pt tb0_9_3 0)]), (fV 190 #[(pt tb0_9_4 0), (pt tb0_9_5 0), (pt tb0_9_6 0), (pt tb0_9_7 0)]), (fV 191 #[(pt tb0_9_4 0), (pt tb0_9_7 0)]), (fV 190 #[(pt tb0_9_8 0), (pt tb0_9_9 0), (pt tb0_9_10 0), (pt tb0_9_11 0)]), (fV 191 #[(pt tb0_9_8 0), (pt tb0_9_11 0)]), (fV 159 #[]), (fV 160 #[]), (vi x0.done_), (.bool x0.ended_)] 130) :: e0_8 :: Lf)) (r : (As × Bool)) (h : Is N x0 x1 = some r) :
  Calls Tryz.prog 153 ([(pt bp0 3), (sv x1)] : List Value).toArray w0 (ER wb Fb F0 fun F' v L' => ∃ (aq0_7 : Wo) (nq0_7 : Nat) (aq0_8 : Wo) (nq0_8 : Nat) (eq0_8 : Option Nat × Obj), v = (.bool r.2) /\ L' = (sb bp0 #[(.bool r.1.o_.Report), (.bool r.1.o_.Serial), (.bool r.1.o_.Zone), (sv r.1.l_.Call), (vi r.1.l_.Category), (vi r.1.l_.Power), (vi r.1.l_.Claimed), (.slice aq0_7 r.1.l_.Jumps.length nq0_7), (.slice aq0_8 r.1.l_.Lines.length nq0_8), (fV 153 #[]), (fV 154 #[]), (fV 190 #[(pt tb0_9_0 0), (pt tb0_9_1 0), (pt tb0_9_2 0), (pt tb0_9_3 0)]), (fV 191 #[(pt tb0_9_0 0), (pt tb0_9_3 0)]), (fV 190 #[(pt tb0_9_4 0), (pt tb0_9_5 0), (pt tb0_9_6 0), (pt tb0_9_7 0)]), (fV 191 #[(pt tb0_9_4 0), (pt tb0_9_7 0)]), (fV 190 #[(pt tb0_9_8 0), (pt tb0_9_9 0), (pt tb0_9_10 0), (pt tb0_9_11 0)]), (fV 191 #[(pt tb0_9_8 0), (pt tb0_9_11 0)]), (fV 159 #[]), (fV 160 #[]), (vi r.1.done_), (.bool r.1.ended_)] 130) :: eq0_8 :: Lf /\ LC r.1.l_.Jumps.length nq0_7 /\ SlA AM F' aq0_7 r.1.l_.Jumps /\ Ar AL 34 F' aq0_8 nq0_8 r.1.l_.Lines eq0_8) := by
 refine Go 21 Tryz.func153 <| Sq (Rg [0] ?_)
 refine Vs 1 <| Nss (Rg (rG 7) ?_)
 refine Vs 1 ?_
 obtain ⟨r21, hr22, h23⟩ := bind_some h
 refine Cl' A1 hs0 (A9 N w0 F0 hs0.pers x1 (([67, 65, 76, 76, 32] : Wn)) _ hr22) ?_
 rintro _ F1 w25 hs26 le27 rfl
 refine Vs 5 <| Nss (Rg (rG 5) ?_)
 refine Vs 4 <| St0 #[(.bool x0.o_.Report), (.bool x0.o_.Serial), (.bool x0.o_.Zone), (sv r21.1), (vi x0.l_.Category), (vi x0.l_.Power), (vi x0.l_.Claimed), (.slice a0_7 x0.l_.Jumps.length n0_7), (.slice a0_8 x0.l_.Lines.length n0_8), (fV 153 #[]), (fV 154 #[]), (fV 190 #[(pt tb0_9_0 0), (pt tb0_9_1 0), (pt tb0_9_2 0), (pt tb0_9_3 0)]), (fV 191 #[(pt tb0_9_0 0), (pt tb0_9_3 0)]), (fV 190 #[(pt tb0_9_4 0), (pt tb0_9_5 0), (pt tb0_9_6 0), (pt tb0_9_7 0)]), (fV 191 #[(pt tb0_9_4 0), (pt tb0_9_7 0)]), (fV 190 #[(pt tb0_9_8 0), (pt tb0_9_9 0), (pt tb0_9_10 0), (pt tb0_9_11 0)]), (fV 191 #[(pt tb0_9_8 0), (pt tb0_9_11 0)]), (fV 159 #[]), (fV 160 #[]), (vi x0.done_), (.bool x0.ended_)] hs26 (fun w29 hs30 => ?_)
 refine Nss (Rg (rG 6) ?_)
 obtain ⟨j34, hj37, h38⟩ := bind_some h23
 refine V8 (fun f w => ∃ (F2 : Mem), HS wb Fb w F2 ((sb bp0 #[(.bool x0.o_.Report), (.bool x0.o_.Serial), (.bool x0.o_.Zone), (sv r21.1), (vi x0.l_.Category), (vi x0.l_.Power), (vi x0.l_.Claimed), (.slice a0_7 x0.l_.Jumps.length n0_7), (.slice a0_8 x0.l_.Lines.length n0_8), (fV 153 #[]), (fV 154 #[]), (fV 190 #[(pt tb0_9_0 0), (pt tb0_9_1 0), (pt tb0_9_2 0), (pt tb0_9_3 0)]), (fV 191 #[(pt tb0_9_0 0), (pt tb0_9_3 0)]), (fV 190 #[(pt tb0_9_4 0), (pt tb0_9_5 0), (pt tb0_9_6 0), (pt tb0_9_7 0)]), (fV 191 #[(pt tb0_9_4 0), (pt tb0_9_7 0)]), (fV 190 #[(pt tb0_9_8 0), (pt tb0_9_9 0), (pt tb0_9_10 0), (pt tb0_9_11 0)]), (fV 191 #[(pt tb0_9_8 0), (pt tb0_9_11 0)]), (fV 159 #[]), (fV 160 #[]), (vi x0.done_), (.bool x0.ended_)] 130) :: e0_8 :: Lf) /\ V2 F1 F2 /\ FI f [] [(4, (.bool j34))]) ?_ ?_
 ·refine Vs 2 ?_
  refine Sp hj37 (fun hb39 h40 => ?_) (fun hb39 h41 => ?_)
  ·refine Vgs hb39 1 ?_
   obtain ⟨r42, hr43, h44⟩ := bind_some h40
   refine Cg hb39 EN hs30 (Fl N w29 F1 hs30.pers (hG.mono le27) r21.1 _ hr43) ?_
   rintro _ F3 w46 hs47 le48 rfl
   refine Pk1 hb39 <| Vs 1 ?_
   obtain rfl := Aa h44
   exact VY ⟨rfl, F3, hs47, le48, fI⟩
  ·refine Ss hb39 2 ?_
   refine Pk0 hb39 <| Vs 1 ?_
   obtain rfl := Aa h41
   exact VY ⟨rfl, F1, hs30, (V3 _), fI⟩
 ·rintro f w31 ⟨F2, hs32, le33, ⟨_, rfl⟩⟩
  refine Ab <| Rt ?_
  obtain rfl := Aa h38
  exact ReB [(.bool j34)] hs32 (le27.t le33) ⟨a0_7, n0_7, a0_8, n0_8, e0_8, rfl, rfl, hb0_7, (V5 hs0_7 (le27.t le33)), (hr0_8.mono (le27.t le33))⟩
def FP (N : Nat) (x0 : As) (x1 : Wn) (r21 : (List Wn)) (r29 : List Wn) : (List Int × Int) -> Option (A4 (As × Bool) (List Int × Int)) := fun s42 =>
 (bif (decide (s42.2 < (r29.length : Int))) then ((idx r29 s42.2).bind fun x70 => ((Bz N x70).bind fun r84 => (bif (!r84.2) then some (.ret (x0, false)) else ((C2 s42.1 [r84.1]).bind fun r100 => some (.next (r100, (W64 (s42.2 + 1)))))))) else some (.done (s42.1, s42.2)))
def HQ (N : Nat) (x0 : As) (x1 : Wn) : Option (As × Bool) :=
 ((strings_Split N x1 ([32] : Wn)).bind fun r21 => ((sub r21 1 (r21.length : Int)).bind fun r29 => ((AJ (FP N x0 x1 r21 r29) N (([] : List Int), 0)).bind fun o => o.k (fun r => some r) (fun s53 => (((idx r21 0).bind fun x126 => (bif (x126 == ([74, 85, 77, 80, 83] : Wn)) then ((EL N s53.1).bind fun r143 => some r143) else some false)).bind fun j121 => some (({ o_ := ({ Report := x0.o_.Report, Serial := x0.o_.Serial, Zone := x0.o_.Zone } : Ac), l_ := ({ Call := x0.l_.Call, Category := x0.l_.Category, Power := x0.l_.Power, Claimed := x0.l_.Claimed, Jumps := s53.1, Lines := x0.l_.Lines } : Log), done_ := x0.done_, ended_ := x0.ended_ } : As), j121))))))
theorem J2 : Af Tryz.prog 159 := fun _ _ => by kernel_rfl
theorem KU (N : Nat) {wb w0 : World} {Fb F0 : Mem} {Lf : Own} (hG : Br F0) (bp0 : Nat) (x0 : As) (a0_7 : Wo) (n0_7 : Nat) (tb0_9_0 : Nat) (tb0_9_1 : Nat) (tb0_9_2 : Nat) (tb0_9_3 : Nat) (tb0_9_4 : Nat) (tb0_9_5 : Nat) (tb0_9_6 : Nat) (tb0_9_7 : Nat) (tb0_9_8 : Nat) (tb0_9_9 : Nat) (tb0_9_10 : Nat) (tb0_9_11 : Nat) (a0_8 : Wo) (n0_8 : Nat) (e0_8 : Option Nat × Obj) (hb0_7 : LC x0.l_.Jumps.length n0_7) (hs0_7 : SlA AM F0 a0_7 x0.l_.Jumps) (htb0_9_0 : F0 tb0_9_0 = some (oc #[(sv (([67, 65, 84, 69, 71, 79, 82, 89] : Wn)))] 9)) (htb0_9_1 : F0 tb0_9_1 = some (oc #[(vi 1)] 3)) (htb0_9_2 : F0 tb0_9_2 = some (oc #[(vi 9)] 3)) (htb0_9_3 : F0 tb0_9_3 = some (oc #[(fV 156 #[])] 195)) (htb0_9_4 : F0 tb0_9_4 = some (oc #[(sv (([80, 79, 87, 69, 82] : Wn)))] 9)) (htb0_9_5 : F0 tb0_9_5 = some (oc #[(vi 1)] 3)) (htb0_9_6 : F0 tb0_9_6 = some (oc #[(vi 9999)] 3)) (htb0_9_7 : F0 tb0_9_7 = some (oc #[(fV 157 #[])] 195)) (htb0_9_8 : F0 tb0_9_8 = some (oc #[(sv (([67, 76, 65, 73, 77, 69, 68] : Wn)))] 9)) (htb0_9_9 : F0 tb0_9_9 = some (oc #[(vi 0)] 3)) (htb0_9_10 : F0 tb0_9_10 = some (oc #[(vi 1000000)] 3)) (htb0_9_11 : F0 tb0_9_11 = some (oc #[(fV 158 #[])] 195)) (hr0_8 : Ar AL 34 F0 a0_8 n0_8 x0.l_.Lines e0_8) (x1 : Wn) (hs0 : HS wb Fb w0 F0 ((sb bp0 #[(.bool x0.o_.Report), (.bool x0.o_.Serial), (.bool x0.o_.Zone), (sv x0.l_.Call), (vi x0.l_.Category), (vi x0.l_.Power), (vi x0.l_.Claimed), (.slice a0_7 x0.l_.Jumps.length n0_7), (.slice a0_8 x0.l_.Lines.length n0_8), (fV 153 #[]), (fV 154 #[]), (fV 190 #[(pt tb0_9_0 0), (pt tb0_9_1 0), (pt tb0_9_2 0), (pt tb0_9_3 0)]), (fV 191 #[(pt tb0_9_0 0), (pt tb0_9_3 0)]), (fV 190 #[(pt tb0_9_4 0), (pt tb0_9_5 0), (pt tb0_9_6 0), (pt tb0_9_7 0)]), (fV 191 #[(pt tb0_9_4 0), (pt tb0_9_7 0)]), (fV 190 #[(pt tb0_9_8 0), (pt tb0_9_9 0), (pt tb0_9_10 0), (pt tb0_9_11 0)]), (fV 191 #[(pt tb0_9_8 0), (pt tb0_9_11 0)]), (fV 159 #[]), (fV 160 #[]), (vi x0.done_), (.bool x0.ended_)] 130) :: e0_8 :: Lf)) (r : (As × Bool)) (h : HQ N x0 x1 = some r) :
  Calls Tryz.prog 159 ([(pt bp0 3), (sv x1)] : List Value).toArray w0 (ER wb Fb F0 fun F' v L' => ∃ (aq0_7 : Wo) (nq0_7 : Nat) (aq0_8 : Wo) (nq0_8 : Nat) (eq0_8 : Option Nat × Obj), v = (.bool r.2) /\ L' = (sb bp0 #[(.bool r.1.o_.Report), (.bool r.1.o_.Serial), (.bool r.1.o_.Zone), (sv r.1.l_.Call), (vi r.1.l_.Category), (vi r.1.l_.Power), (vi r.1.l_.Claimed), (.slice aq0_7 r.1.l_.Jumps.length nq0_7), (.slice aq0_8 r.1.l_.Lines.length nq0_8), (fV 153 #[]), (fV 154 #[]), (fV 190 #[(pt tb0_9_0 0), (pt tb0_9_1 0), (pt tb0_9_2 0), (pt tb0_9_3 0)]), (fV 191 #[(pt tb0_9_0 0), (pt tb0_9_3 0)]), (fV 190 #[(pt tb0_9_4 0), (pt tb0_9_5 0), (pt tb0_9_6 0), (pt tb0_9_7 0)]), (fV 191 #[(pt tb0_9_4 0), (pt tb0_9_7 0)]), (fV 190 #[(pt tb0_9_8 0), (pt tb0_9_9 0), (pt tb0_9_10 0), (pt tb0_9_11 0)]), (fV 191 #[(pt tb0_9_8 0), (pt tb0_9_11 0)]), (fV 159 #[]), (fV 160 #[]), (vi r.1.done_), (.bool r.1.ended_)] 130) :: eq0_8 :: Lf /\ LC r.1.l_.Jumps.length nq0_7 /\ SlA AM F' aq0_7 r.1.l_.Jumps /\ Ar AL 34 F' aq0_8 nq0_8 r.1.l_.Lines eq0_8) := by
 refine Go 44 Tryz.func159 <| Sq (Rg [0] ?_)
 refine Vs 1 <| Nss (Rg [0, 1, 2] ?_)
 refine Vs 1 ?_
 obtain ⟨r21, hr22, h23⟩ := bind_some h
 refine Cl' Cx hs0 (CR N w0 F0 hs0.pers hG x1 (([32] : Wn)) _ hr22) ?_
 rintro _ F1 w25 hs26 le27 ⟨ar21_0_0, nr21_0_0, rfl, hbr21_0_0, hsr21_0_0⟩
 refine Vs 1 <| Nss (Rg [0] ?_)
 refine Vs 1 <| Nss <| Sq (Rg (rG 4) ?_)
 refine Vs 1 ?_
 obtain ⟨r29, hr30, h31⟩ := bind_some h23
 obtain ⟨a32, n33, hb34, hs35, hrun36⟩ := FO (P := Tryz.prog) (T := AK) (lo := (some (.const (vi 1)))) (hi := none) (mx := none) (t := 55) (E := 9) (by_ := 16) (c := nr21_0_0) (a := ar21_0_0) (l := r21) (r := r29) (il := 1) (ih := (r21.length : Int)) (im := 0) (by kernel_rfl) (by kernel_rfl) hbr21_0_0 hsr21_0_0 (fun h => by first | rfl | cases h) hr30
 refine V 14 55 (hrun36 (x := (.tmp 13)) rfl rfl rfl trivial) <| Vs 2 <| Nt ?_
 have hs37 := hs26.dummy (oc #[] 0)
 obtain ⟨o39, ho40, h41⟩ := bind_some h31
 refine V9 (fun f w => ∃ (s53 : (List Int × Int)) (F3 : Mem) (as53_0 : Wo) (ns53_0 : Nat) (es53_0 : Option Nat × Obj), o39 = .done s53 /\ HS wb Fb w F3 (es53_0 :: (sb bp0 #[(.bool x0.o_.Report), (.bool x0.o_.Serial), (.bool x0.o_.Zone), (sv x0.l_.Call), (vi x0.l_.Category), (vi x0.l_.Power), (vi x0.l_.Claimed), (.slice a0_7 x0.l_.Jumps.length n0_7), (.slice a0_8 x0.l_.Lines.length n0_8), (fV 153 #[]), (fV 154 #[]), (fV 190 #[(pt tb0_9_0 0), (pt tb0_9_1 0), (pt tb0_9_2 0), (pt tb0_9_3 0)]), (fV 191 #[(pt tb0_9_0 0), (pt tb0_9_3 0)]), (fV 190 #[(pt tb0_9_4 0), (pt tb0_9_5 0), (pt tb0_9_6 0), (pt tb0_9_7 0)]), (fV 191 #[(pt tb0_9_4 0), (pt tb0_9_7 0)]), (fV 190 #[(pt tb0_9_8 0), (pt tb0_9_9 0), (pt tb0_9_10 0), (pt tb0_9_11 0)]), (fV 191 #[(pt tb0_9_8 0), (pt tb0_9_11 0)]), (fV 159 #[]), (fV 160 #[]), (vi x0.done_), (.bool x0.ended_)] 130) :: e0_8 :: Lf) /\ V2 F1 F3 /\ FI f [] [(0, (pt bp0 3)), (5, (.slice ar21_0_0 r21.length nr21_0_0)), (6, (.slice as53_0 s53.1.length ns53_0))] /\ Ar AM 3 F3 as53_0 ns53_0 s53.1 es53_0) ?_ ?_
 ·refine Bk ?_
  refine V1 (by kernel_rfl) (fun m f w => ∃ (s42 : (List Int × Int)) (F2 : Mem) (as42_0 : Wo) (ns42_0 : Nat) (es42_0 : Option Nat × Obj), AJ (FP N x0 x1 r21 r29) m s42 = some o39 /\ HS wb Fb w F2 (es42_0 :: (sb bp0 #[(.bool x0.o_.Report), (.bool x0.o_.Serial), (.bool x0.o_.Zone), (sv x0.l_.Call), (vi x0.l_.Category), (vi x0.l_.Power), (vi x0.l_.Claimed), (.slice a0_7 x0.l_.Jumps.length n0_7), (.slice a0_8 x0.l_.Lines.length n0_8), (fV 153 #[]), (fV 154 #[]), (fV 190 #[(pt tb0_9_0 0), (pt tb0_9_1 0), (pt tb0_9_2 0), (pt tb0_9_3 0)]), (fV 191 #[(pt tb0_9_0 0), (pt tb0_9_3 0)]), (fV 190 #[(pt tb0_9_4 0), (pt tb0_9_5 0), (pt tb0_9_6 0), (pt tb0_9_7 0)]), (fV 191 #[(pt tb0_9_4 0), (pt tb0_9_7 0)]), (fV 190 #[(pt tb0_9_8 0), (pt tb0_9_9 0), (pt tb0_9_10 0), (pt tb0_9_11 0)]), (fV 191 #[(pt tb0_9_8 0), (pt tb0_9_11 0)]), (fV 159 #[]), (fV 160 #[]), (vi x0.done_), (.bool x0.ended_)] 130) :: e0_8 :: Lf) /\ V2 F1 F2 /\ FI f [] [(0, (pt bp0 3)), (5, (.slice ar21_0_0 r21.length nr21_0_0)), (6, (.slice as42_0 s42.1.length ns42_0)), (14, (.slice a32 r29.length n33)), (15, (vi (r29.length : Int))), (16, (vi s42.2))] /\ Ar AM 3 F2 as42_0 ns42_0 s42.1 es42_0) N ⟨(([] : List Int), 0), F1, none, 0, (none, .cells #[] 0 (0, 0)), ho40, hs37, (V3 _), fI, (Wh AM 3 F1 _)⟩ ?_
  rintro m61 f w43 ⟨s42, F2, as42_0, ns42_0, es42_0, hit62, hs44, le45, ⟨_, rfl⟩, hrs42_0⟩
  obtain ⟨m63, fl64, rfl, hb65, hnx66⟩ := AC hit62
  refine Sq (Rg [0] ?_)
  refine Vs 1 <| Nss <| Cd hb65 (fun hb67 h68 => ?_) (fun hb67 h69 => ?_)
  ·refine Sc ?_
   refine Ab <| Sq <| Bk <| Sq (Rg [0, 1, 2] ?_)
   obtain ⟨x70, hx71, h73⟩ := bind_some h68
   obtain ⟨hi72, hx71'⟩ := Aj hx71
   obtain ⟨b74, o75, C76, E77, fz78, rfl, hF80, hE81⟩ := Wa (V5 hs35 le45) hx71'
   have hc83 := hE81 _ _ hx71'
   refine Ix hi72 <| Lx 0 (hs44.pers _ _ hF80) hc83 <| Vs 1 <| Nss (Rg (rG 7) ?_)
   refine Vs 1 ?_
   obtain ⟨r84, hr85, h86⟩ := bind_some h73
   refine Cl' Be hs44 (Bq N w43 F2 hs44.pers (hG.mono (le27.t le45)) x70 _ hr85) ?_
   rintro _ F4 w88 hs89 le90 rfl
   refine Vs 5 <| Nss <| Sq (Rg [0, 1] ?_)
   refine Vs 2 <| Nt <| Cd h86 (fun hb92 h93 => ?_) (fun hb92 h94 => ?_)
   ·refine Sq (Rg [0] ?_)
    refine Vs 1 <| Nt <| Rt <| Ae <| Ax <| Ae <| Ae <| Ax ?_
    have hret := BZ h93 hnx66
    subst hret
    refine .inr <| Ae ?_
    obtain rfl := Aa h41
    exact ReB [(.bool false)] hs89.dr0 ((le27.t le45).trans le90) ⟨a0_7, n0_7, a0_8, n0_8, e0_8, rfl, rfl, hb0_7, (V5 hs0_7 ((le27.t le45).trans le90)), (hr0_8.mono ((le27.t le45).trans le90))⟩
   ·refine Sc ?_
    refine Ab <| Rg (rG 5) <| Vs 2 <| Bs 3 [(vi r84.1)] hs89 (fun b95 w96 hs97 => ?_)
    have hr99 : Ar AM 3 F4 (some ⟨b95, 0, none⟩) 1 [r84.1] (some b95, .cells ([(vi r84.1)] : List Value).toArray 3 (0, 0)) := Wi ⟨rfl, rfl⟩ (by simp)
    obtain ⟨r100, hap101, h102⟩ := bind_some h94
    refine Ap1 UM hs97 (hrs42_0.mono le90) (hs97.rd0 hr99) hap101 (fun a103 n104 e105 w106 hs107 hr108 => ?_)
    refine Vs 1 <| VY <| Ap <| Ab <| Rg [0, 1] <| Vs 2 <| VY ?_
    have hn109 := AD h102 hnx66
    exact ⟨m63, Nat.lt_succ_self _, (r100, (W64 (s42.2 + 1))), F4, a103, n104, e105, hn109, hs107.dr0, (le45.t le90), fI, hr108⟩
  ·refine Ex ?_
   refine Al <| Al <| Ay rfl ?_
   have ho110 := AE h69 hnx66
   exact .inl ⟨rfl, (s42.1, s42.2), F2, as42_0, ns42_0, es42_0, ho110, hs44, le45, fI, hrs42_0⟩
 ·rintro f w54 ⟨s53, F3, as53_0, ns53_0, es53_0, rfl, hs55, le56, ⟨_, rfl⟩, hrs53_0⟩
  have h111 := A6 h41
  refine Ab <| Sq (Rg (rG 5) ?_)
  refine Vs 4 ?_
  have hb115 := Wg hrs53_0
  obtain ⟨F5, hs112, le113, hs114⟩ := hs55.fr0 hrs53_0
  refine St0 #[(.bool x0.o_.Report), (.bool x0.o_.Serial), (.bool x0.o_.Zone), (sv x0.l_.Call), (vi x0.l_.Category), (vi x0.l_.Power), (vi x0.l_.Claimed), (.slice as53_0 s53.1.length ns53_0), (.slice a0_8 x0.l_.Lines.length n0_8), (fV 153 #[]), (fV 154 #[]), (fV 190 #[(pt tb0_9_0 0), (pt tb0_9_1 0), (pt tb0_9_2 0), (pt tb0_9_3 0)]), (fV 191 #[(pt tb0_9_0 0), (pt tb0_9_3 0)]), (fV 190 #[(pt tb0_9_4 0), (pt tb0_9_5 0), (pt tb0_9_6 0), (pt tb0_9_7 0)]), (fV 191 #[(pt tb0_9_4 0), (pt tb0_9_7 0)]), (fV 190 #[(pt tb0_9_8 0), (pt tb0_9_9 0), (pt tb0_9_10 0), (pt tb0_9_11 0)]), (fV 191 #[(pt tb0_9_8 0), (pt tb0_9_11 0)]), (fV 159 #[]), (fV 160 #[]), (vi x0.done_), (.bool x0.ended_)] hs112 (fun w116 hs117 => ?_)
  refine Nss (Rg (rG 9) ?_)
  obtain ⟨j121, hj124, h125⟩ := bind_some h111
  refine V8 (fun f w => ∃ (F6 : Mem), HS wb Fb w F6 ((sb bp0 #[(.bool x0.o_.Report), (.bool x0.o_.Serial), (.bool x0.o_.Zone), (sv x0.l_.Call), (vi x0.l_.Category), (vi x0.l_.Power), (vi x0.l_.Claimed), (.slice as53_0 s53.1.length ns53_0), (.slice a0_8 x0.l_.Lines.length n0_8), (fV 153 #[]), (fV 154 #[]), (fV 190 #[(pt tb0_9_0 0), (pt tb0_9_1 0), (pt tb0_9_2 0), (pt tb0_9_3 0)]), (fV 191 #[(pt tb0_9_0 0), (pt tb0_9_3 0)]), (fV 190 #[(pt tb0_9_4 0), (pt tb0_9_5 0), (pt tb0_9_6 0), (pt tb0_9_7 0)]), (fV 191 #[(pt tb0_9_4 0), (pt tb0_9_7 0)]), (fV 190 #[(pt tb0_9_8 0), (pt tb0_9_9 0), (pt tb0_9_10 0), (pt tb0_9_11 0)]), (fV 191 #[(pt tb0_9_8 0), (pt tb0_9_11 0)]), (fV 159 #[]), (fV 160 #[]), (vi x0.done_), (.bool x0.ended_)] 130) :: e0_8 :: Lf) /\ V2 F5 F6 /\ FI f [] [(4, (.bool j121))]) ?_ ?_
  ·refine Vs 1 ?_
   obtain ⟨x126, hx127, h129⟩ := bind_some hj124
   obtain ⟨hi128, hx127'⟩ := Aj hx127
   obtain ⟨b130, o131, C132, E133, fz134, rfl, hF136, hE137⟩ := Wa (V5 hsr21_0_0 (le56.t le113)) hx127'
   have hc139 := hE137 _ _ hx127'
   refine Ix hi128 <| Lx 0 (hs117.pers _ _ hF136) hc139 <| Vs 2 <| Sp h129 (fun hb140 h141 => ?_) (fun hb140 h142 => ?_)
   ·refine Vgs hb140 1 ?_
    obtain ⟨r143, hr144, h145⟩ := bind_some h141
    refine Cg hb140 GN hs117 (HG N w116 F5 hs117.pers s53.1 as53_0 ns53_0 hb115 hs114 _ hr144) ?_
    rintro _ F7 w147 hs148 le149 rfl
    refine Pk1 hb140 <| Vs 1 ?_
    obtain rfl := Aa h145
    exact VY ⟨rfl, F7, hs148, le149, fI⟩
   ·refine Ss hb140 2 ?_
    refine Pk0 hb140 <| Vs 1 ?_
    obtain rfl := Aa h142
    exact VY ⟨rfl, F5, hs117, (V3 _), fI⟩
  ·rintro f w118 ⟨F6, hs119, le120, ⟨_, rfl⟩⟩
   refine Ab <| Rt ?_
   obtain rfl := Aa h125
   exact ReB [(.bool j121)] hs119 (((le27.t le56).trans le113).trans le120) ⟨as53_0, ns53_0, a0_8, n0_8, e0_8, rfl, rfl, hb115, (V5 hs114 le120), (hr0_8.mono (((le27.t le56).trans le113).trans le120))⟩
def Gx (N : Nat) (x0 : As) (x1 : Wn) (z0 : Wn) (z1 : Int) (z2 : Int) : Option (As × Bool) :=
 ((AZ z0 ([32] : Wn)).bind fun r21 => ((strings_CutPrefix N x1 r21).bind fun r24 => ((Bz N r24.1).bind fun r32 => (bif (!r24.2) then none else (bif (!r32.2) then none else ((AV N r32.1 z1 z2).bind fun r46 => (bif (!r46) then some (x0, false) else some (({ o_ := ({ Report := x0.o_.Report, Serial := x0.o_.Serial, Zone := x0.o_.Zone } : Ac), l_ := ({ Call := x0.l_.Call, Category := r32.1, Power := x0.l_.Power, Claimed := x0.l_.Claimed, Jumps := x0.l_.Jumps, Lines := x0.l_.Lines } : Log), done_ := x0.done_, ended_ := x0.ended_ } : As), true))))))))
theorem IM : Af Tryz.prog 190 := fun _ _ => by kernel_rfl
theorem Js (N : Nat) {wb w0 : World} {Fb F0 : Mem} {Lf : Own} (hG : Br F0) (bp0 : Nat) (x0 : As) (a0_7 : Wo) (n0_7 : Nat) (tb0_9_0 : Nat) (tb0_9_1 : Nat) (tb0_9_2 : Nat) (tb0_9_3 : Nat) (tb0_9_4 : Nat) (tb0_9_5 : Nat) (tb0_9_6 : Nat) (tb0_9_7 : Nat) (tb0_9_8 : Nat) (tb0_9_9 : Nat) (tb0_9_10 : Nat) (tb0_9_11 : Nat) (a0_8 : Wo) (n0_8 : Nat) (e0_8 : Option Nat × Obj) (hb0_7 : LC x0.l_.Jumps.length n0_7) (hs0_7 : SlA AM F0 a0_7 x0.l_.Jumps) (htb0_9_0 : F0 tb0_9_0 = some (oc #[(sv (([67, 65, 84, 69, 71, 79, 82, 89] : Wn)))] 9)) (htb0_9_1 : F0 tb0_9_1 = some (oc #[(vi 1)] 3)) (htb0_9_2 : F0 tb0_9_2 = some (oc #[(vi 9)] 3)) (htb0_9_3 : F0 tb0_9_3 = some (oc #[(fV 156 #[])] 195)) (htb0_9_4 : F0 tb0_9_4 = some (oc #[(sv (([80, 79, 87, 69, 82] : Wn)))] 9)) (htb0_9_5 : F0 tb0_9_5 = some (oc #[(vi 1)] 3)) (htb0_9_6 : F0 tb0_9_6 = some (oc #[(vi 9999)] 3)) (htb0_9_7 : F0 tb0_9_7 = some (oc #[(fV 157 #[])] 195)) (htb0_9_8 : F0 tb0_9_8 = some (oc #[(sv (([67, 76, 65, 73, 77, 69, 68] : Wn)))] 9)) (htb0_9_9 : F0 tb0_9_9 = some (oc #[(vi 0)] 3)) (htb0_9_10 : F0 tb0_9_10 = some (oc #[(vi 1000000)] 3)) (htb0_9_11 : F0 tb0_9_11 = some (oc #[(fV 158 #[])] 195)) (hr0_8 : Ar AL 34 F0 a0_8 n0_8 x0.l_.Lines e0_8) (x1 : Wn) (bz0 : Nat) (z0 : Wn) (hz0 : F0 bz0 = some (oc #[(sv z0)] 9)) (bz1 : Nat) (z1 : Int) (hz1 : F0 bz1 = some (oc #[(vi z1)] 3)) (bz2 : Nat) (z2 : Int) (hz2 : F0 bz2 = some (oc #[(vi z2)] 3)) (bz3 : Nat) (hz3 : F0 bz3 = some (oc #[(fV 156 #[])] 195)) (hs0 : HS wb Fb w0 F0 ((sb bp0 #[(.bool x0.o_.Report), (.bool x0.o_.Serial), (.bool x0.o_.Zone), (sv x0.l_.Call), (vi x0.l_.Category), (vi x0.l_.Power), (vi x0.l_.Claimed), (.slice a0_7 x0.l_.Jumps.length n0_7), (.slice a0_8 x0.l_.Lines.length n0_8), (fV 153 #[]), (fV 154 #[]), (fV 190 #[(pt tb0_9_0 0), (pt tb0_9_1 0), (pt tb0_9_2 0), (pt tb0_9_3 0)]), (fV 191 #[(pt tb0_9_0 0), (pt tb0_9_3 0)]), (fV 190 #[(pt tb0_9_4 0), (pt tb0_9_5 0), (pt tb0_9_6 0), (pt tb0_9_7 0)]), (fV 191 #[(pt tb0_9_4 0), (pt tb0_9_7 0)]), (fV 190 #[(pt tb0_9_8 0), (pt tb0_9_9 0), (pt tb0_9_10 0), (pt tb0_9_11 0)]), (fV 191 #[(pt tb0_9_8 0), (pt tb0_9_11 0)]), (fV 159 #[]), (fV 160 #[]), (vi x0.done_), (.bool x0.ended_)] 130) :: e0_8 :: Lf)) (r : (As × Bool)) (h : Gx N x0 x1 z0 z1 z2 = some r) :
  Calls Tryz.prog 190 ([(pt bp0 3), (sv x1), (pt bz0 0), (pt bz1 0), (pt bz2 0), (pt bz3 0)] : List Value).toArray w0 (ER wb Fb F0 fun F' v L' => ∃ (aq0_7 : Wo) (nq0_7 : Nat) (aq0_8 : Wo) (nq0_8 : Nat) (eq0_8 : Option Nat × Obj), v = (.bool r.2) /\ L' = (sb bp0 #[(.bool r.1.o_.Report), (.bool r.1.o_.Serial), (.bool r.1.o_.Zone), (sv r.1.l_.Call), (vi r.1.l_.Category), (vi r.1.l_.Power), (vi r.1.l_.Claimed), (.slice aq0_7 r.1.l_.Jumps.length nq0_7), (.slice aq0_8 r.1.l_.Lines.length nq0_8), (fV 153 #[]), (fV 154 #[]), (fV 190 #[(pt tb0_9_0 0), (pt tb0_9_1 0), (pt tb0_9_2 0), (pt tb0_9_3 0)]), (fV 191 #[(pt tb0_9_0 0), (pt tb0_9_3 0)]), (fV 190 #[(pt tb0_9_4 0), (pt tb0_9_5 0), (pt tb0_9_6 0), (pt tb0_9_7 0)]), (fV 191 #[(pt tb0_9_4 0), (pt tb0_9_7 0)]), (fV 190 #[(pt tb0_9_8 0), (pt tb0_9_9 0), (pt tb0_9_10 0), (pt tb0_9_11 0)]), (fV 191 #[(pt tb0_9_8 0), (pt tb0_9_11 0)]), (fV 159 #[]), (fV 160 #[]), (vi r.1.done_), (.bool r.1.ended_)] 130) :: eq0_8 :: Lf /\ LC r.1.l_.Jumps.length nq0_7 /\ SlA AM F' aq0_7 r.1.l_.Jumps /\ Ar AL 34 F' aq0_8 nq0_8 r.1.l_.Lines eq0_8) := by
 refine Go 43 Tryz.func190 <| Sq (Rg [0] ?_)
 refine Vs 1 <| Nss (Rg (rG 9) ?_)
 refine Vs 1 <| Ld (hs0.pers _ _ hz0) ?_
 obtain ⟨r21, hr22, h23⟩ := bind_some h
 refine V 16 9 (Av (t := 9) (t' := 9) (x := (.tmp 15)) (y := (.const (sv ([32] : Wn)))) (a := z0) (b := ([32] : Wn)) (v := r21) rfl rfl hr22) ?_
 obtain ⟨r24, hr25, h26⟩ := bind_some h23
 refine Cl' A1 hs0 (A9 N w0 F0 hs0.pers x1 r21 _ hr25) ?_
 rintro _ F1 w28 hs29 le30 rfl
 refine Vs 5 <| Nss (Rg (rG 7) ?_)
 refine Vs 1 ?_
 obtain ⟨r32, hr33, h34⟩ := bind_some h26
 refine Cl' Be hs29 (Bq N w28 F1 hs29.pers (hG.mono le30) r24.1 _ hr33) ?_
 rintro _ F2 w36 hs37 le38 rfl
 refine Vs 5 <| Nss <| Sq (Rg (rG 13) ?_)
 refine Vs 3 <| Sp h34 (fun hb40 h41 => ?_) (fun hb40 h42 => ?_)
 ·cases h41
 ·refine Vgs hb40 2 ?_
  refine Pk0 hb40 <| Vs 1 <| Sp h42 (fun hb43 h44 => ?_) (fun hb43 h45 => ?_)
  ·cases h44
  ·refine Vgs hb43 1 ?_
   refine Lg hb43 (hs37.pers _ _ ((le30.t le38) _ _ hz1)) <| Lg hb43 (hs37.pers _ _ ((le30.t le38) _ _ hz2)) ?_
   obtain ⟨r46, hr47, h48⟩ := bind_some h45
   refine Cg hb43 AN hs37 (AQ N w36 F2 hs37.pers r32.1 z1 z2 _ hr47) ?_
   rintro _ F3 w50 hs51 le52 rfl
   refine Vgs hb43 1 <| Pk0 hb43 <| Nt <| Cd h48 (fun hb54 h55 => ?_) (fun hb54 h56 => ?_)
   ·refine Sq (Rg [0] ?_)
    refine Vs 1 <| Nt <| Rt <| Ae ?_
    obtain rfl := Aa h55
    exact ReB [(.bool false)] hs51 ((le30.t le38).trans le52) ⟨a0_7, n0_7, a0_8, n0_8, e0_8, rfl, rfl, hb0_7, (V5 hs0_7 ((le30.t le38).trans le52)), (hr0_8.mono ((le30.t le38).trans le52))⟩
   ·refine Sc ?_
    refine Ab <| Sq (Rg (rG 6) ?_)
    refine Ld (hs51.pers _ _ (((le30.t le38).trans le52) _ _ hz3)) <| Vs 1 <| Cl' LN hs51 (NX w50 F3 hs51.pers bp0 3) ?_
    rintro _ F4 w57 hs58 le59 rfl
    refine Vs 2 <| St0 #[(.bool x0.o_.Report), (.bool x0.o_.Serial), (.bool x0.o_.Zone), (sv x0.l_.Call), (vi r32.1), (vi x0.l_.Power), (vi x0.l_.Claimed), (.slice a0_7 x0.l_.Jumps.length n0_7), (.slice a0_8 x0.l_.Lines.length n0_8), (fV 153 #[]), (fV 154 #[]), (fV 190 #[(pt tb0_9_0 0), (pt tb0_9_1 0), (pt tb0_9_2 0), (pt tb0_9_3 0)]), (fV 191 #[(pt tb0_9_0 0), (pt tb0_9_3 0)]), (fV 190 #[(pt tb0_9_4 0), (pt tb0_9_5 0), (pt tb0_9_6 0), (pt tb0_9_7 0)]), (fV 191 #[(pt tb0_9_4 0), (pt tb0_9_7 0)]), (fV 190 #[(pt tb0_9_8 0), (pt tb0_9_9 0), (pt tb0_9_10 0), (pt tb0_9_11 0)]), (fV 191 #[(pt tb0_9_8 0), (pt tb0_9_11 0)]), (fV 159 #[]), (fV 160 #[]), (vi x0.done_), (.bool x0.ended_)] hs58 (fun w60 hs61 => ?_)
    refine Nss (Rg [0] ?_)
    refine Vs 1 <| Nt <| Rt ?_
    obtain rfl := Aa h56
    exact ReB [(.bool true)] hs61 (((le30.t le38).trans le52).trans le59) ⟨a0_7, n0_7, a0_8, n0_8, e0_8, rfl, rfl, hb0_7, (V5 hs0_7 (((le30.t le38).trans le52).trans le59)), (hr0_8.mono (((le30.t le38).trans le52).trans le59))⟩
def Gv (N : Nat) (x0 : As) (x1 : Wn) (z0 : Wn) (z1 : Int) (z2 : Int) : Option (As × Bool) :=
 ((AZ z0 ([32] : Wn)).bind fun r21 => ((strings_CutPrefix N x1 r21).bind fun r24 => ((Bz N r24.1).bind fun r32 => (bif (!r24.2) then none else (bif (!r32.2) then none else ((AV N r32.1 z1 z2).bind fun r46 => (bif (!r46) then some (x0, false) else some (({ o_ := ({ Report := x0.o_.Report, Serial := x0.o_.Serial, Zone := x0.o_.Zone } : Ac), l_ := ({ Call := x0.l_.Call, Category := x0.l_.Category, Power := r32.1, Claimed := x0.l_.Claimed, Jumps := x0.l_.Jumps, Lines := x0.l_.Lines } : Log), done_ := x0.done_, ended_ := x0.ended_ } : As), true))))))))
theorem IK : Af Tryz.prog 190 := fun _ _ => by kernel_rfl
theorem Jq (N : Nat) {wb w0 : World} {Fb F0 : Mem} {Lf : Own} (hG : Br F0) (bp0 : Nat) (x0 : As) (a0_7 : Wo) (n0_7 : Nat) (tb0_9_0 : Nat) (tb0_9_1 : Nat) (tb0_9_2 : Nat) (tb0_9_3 : Nat) (tb0_9_4 : Nat) (tb0_9_5 : Nat) (tb0_9_6 : Nat) (tb0_9_7 : Nat) (tb0_9_8 : Nat) (tb0_9_9 : Nat) (tb0_9_10 : Nat) (tb0_9_11 : Nat) (a0_8 : Wo) (n0_8 : Nat) (e0_8 : Option Nat × Obj) (hb0_7 : LC x0.l_.Jumps.length n0_7) (hs0_7 : SlA AM F0 a0_7 x0.l_.Jumps) (htb0_9_0 : F0 tb0_9_0 = some (oc #[(sv (([67, 65, 84, 69, 71, 79, 82, 89] : Wn)))] 9)) (htb0_9_1 : F0 tb0_9_1 = some (oc #[(vi 1)] 3)) (htb0_9_2 : F0 tb0_9_2 = some (oc #[(vi 9)] 3)) (htb0_9_3 : F0 tb0_9_3 = some (oc #[(fV 156 #[])] 195)) (htb0_9_4 : F0 tb0_9_4 = some (oc #[(sv (([80, 79, 87, 69, 82] : Wn)))] 9)) (htb0_9_5 : F0 tb0_9_5 = some (oc #[(vi 1)] 3)) (htb0_9_6 : F0 tb0_9_6 = some (oc #[(vi 9999)] 3)) (htb0_9_7 : F0 tb0_9_7 = some (oc #[(fV 157 #[])] 195)) (htb0_9_8 : F0 tb0_9_8 = some (oc #[(sv (([67, 76, 65, 73, 77, 69, 68] : Wn)))] 9)) (htb0_9_9 : F0 tb0_9_9 = some (oc #[(vi 0)] 3)) (htb0_9_10 : F0 tb0_9_10 = some (oc #[(vi 1000000)] 3)) (htb0_9_11 : F0 tb0_9_11 = some (oc #[(fV 158 #[])] 195)) (hr0_8 : Ar AL 34 F0 a0_8 n0_8 x0.l_.Lines e0_8) (x1 : Wn) (bz0 : Nat) (z0 : Wn) (hz0 : F0 bz0 = some (oc #[(sv z0)] 9)) (bz1 : Nat) (z1 : Int) (hz1 : F0 bz1 = some (oc #[(vi z1)] 3)) (bz2 : Nat) (z2 : Int) (hz2 : F0 bz2 = some (oc #[(vi z2)] 3)) (bz3 : Nat) (hz3 : F0 bz3 = some (oc #[(fV 157 #[])] 195)) (hs0 : HS wb Fb w0 F0 ((sb bp0 #[(.bool x0.o_.Report), (.bool x0.o_.Serial), (.bool x0.o_.Zone), (sv x0.l_.Call), (vi x0.l_.Category), (vi x0.l_.Power), (vi x0.l_.Claimed), (.slice a0_7 x0.l_.Jumps.length n0_7), (.slice a0_8 x0.l_.Lines.length n0_8), (fV 153 #[]), (fV 154 #[]), (fV 190 #[(pt tb0_9_0 0), (pt tb0_9_1 0), (pt tb0_9_2 0), (pt tb0_9_3 0)]), (fV 191 #[(pt tb0_9_0 0), (pt tb0_9_3 0)]), (fV 190 #[(pt tb0_9_4 0), (pt tb0_9_5 0), (pt tb0_9_6 0), (pt tb0_9_7 0)]), (fV 191 #[(pt tb0_9_4 0), (pt tb0_9_7 0)]), (fV 190 #[(pt tb0_9_8 0), (pt tb0_9_9 0), (pt tb0_9_10 0), (pt tb0_9_11 0)]), (fV 191 #[(pt tb0_9_8 0), (pt tb0_9_11 0)]), (fV 159 #[]), (fV 160 #[]), (vi x0.done_), (.bool x0.ended_)] 130) :: e0_8 :: Lf)) (r : (As × Bool)) (h : Gv N x0 x1 z0 z1 z2 = some r) :
  Calls Tryz.prog 190 ([(pt bp0 3), (sv x1), (pt bz0 0), (pt bz1 0), (pt bz2 0), (pt bz3 0)] : List Value).toArray w0 (ER wb Fb F0 fun F' v L' => ∃ (aq0_7 : Wo) (nq0_7 : Nat) (aq0_8 : Wo) (nq0_8 : Nat) (eq0_8 : Option Nat × Obj), v = (.bool r.2) /\ L' = (sb bp0 #[(.bool r.1.o_.Report), (.bool r.1.o_.Serial), (.bool r.1.o_.Zone), (sv r.1.l_.Call), (vi r.1.l_.Category), (vi r.1.l_.Power), (vi r.1.l_.Claimed), (.slice aq0_7 r.1.l_.Jumps.length nq0_7), (.slice aq0_8 r.1.l_.Lines.length nq0_8), (fV 153 #[]), (fV 154 #[]), (fV 190 #[(pt tb0_9_0 0), (pt tb0_9_1 0), (pt tb0_9_2 0), (pt tb0_9_3 0)]), (fV 191 #[(pt tb0_9_0 0), (pt tb0_9_3 0)]), (fV 190 #[(pt tb0_9_4 0), (pt tb0_9_5 0), (pt tb0_9_6 0), (pt tb0_9_7 0)]), (fV 191 #[(pt tb0_9_4 0), (pt tb0_9_7 0)]), (fV 190 #[(pt tb0_9_8 0), (pt tb0_9_9 0), (pt tb0_9_10 0), (pt tb0_9_11 0)]), (fV 191 #[(pt tb0_9_8 0), (pt tb0_9_11 0)]), (fV 159 #[]), (fV 160 #[]), (vi r.1.done_), (.bool r.1.ended_)] 130) :: eq0_8 :: Lf /\ LC r.1.l_.Jumps.length nq0_7 /\ SlA AM F' aq0_7 r.1.l_.Jumps /\ Ar AL 34 F' aq0_8 nq0_8 r.1.l_.Lines eq0_8) := by
 refine Go 43 Tryz.func190 <| Sq (Rg [0] ?_)
 refine Vs 1 <| Nss (Rg (rG 9) ?_)
 refine Vs 1 <| Ld (hs0.pers _ _ hz0) ?_
 obtain ⟨r21, hr22, h23⟩ := bind_some h
 refine V 16 9 (Av (t := 9) (t' := 9) (x := (.tmp 15)) (y := (.const (sv ([32] : Wn)))) (a := z0) (b := ([32] : Wn)) (v := r21) rfl rfl hr22) ?_
 obtain ⟨r24, hr25, h26⟩ := bind_some h23
 refine Cl' A1 hs0 (A9 N w0 F0 hs0.pers x1 r21 _ hr25) ?_
 rintro _ F1 w28 hs29 le30 rfl
 refine Vs 5 <| Nss (Rg (rG 7) ?_)
 refine Vs 1 ?_
 obtain ⟨r32, hr33, h34⟩ := bind_some h26
 refine Cl' Be hs29 (Bq N w28 F1 hs29.pers (hG.mono le30) r24.1 _ hr33) ?_
 rintro _ F2 w36 hs37 le38 rfl
 refine Vs 5 <| Nss <| Sq (Rg (rG 13) ?_)
 refine Vs 3 <| Sp h34 (fun hb40 h41 => ?_) (fun hb40 h42 => ?_)
 ·cases h41
 ·refine Vgs hb40 2 ?_
  refine Pk0 hb40 <| Vs 1 <| Sp h42 (fun hb43 h44 => ?_) (fun hb43 h45 => ?_)
  ·cases h44
  ·refine Vgs hb43 1 ?_
   refine Lg hb43 (hs37.pers _ _ ((le30.t le38) _ _ hz1)) <| Lg hb43 (hs37.pers _ _ ((le30.t le38) _ _ hz2)) ?_
   obtain ⟨r46, hr47, h48⟩ := bind_some h45
   refine Cg hb43 AN hs37 (AQ N w36 F2 hs37.pers r32.1 z1 z2 _ hr47) ?_
   rintro _ F3 w50 hs51 le52 rfl
   refine Vgs hb43 1 <| Pk0 hb43 <| Nt <| Cd h48 (fun hb54 h55 => ?_) (fun hb54 h56 => ?_)
   ·refine Sq (Rg [0] ?_)
    refine Vs 1 <| Nt <| Rt <| Ae ?_
    obtain rfl := Aa h55
    exact ReB [(.bool false)] hs51 ((le30.t le38).trans le52) ⟨a0_7, n0_7, a0_8, n0_8, e0_8, rfl, rfl, hb0_7, (V5 hs0_7 ((le30.t le38).trans le52)), (hr0_8.mono ((le30.t le38).trans le52))⟩
   ·refine Sc ?_
    refine Ab <| Sq (Rg (rG 6) ?_)
    refine Ld (hs51.pers _ _ (((le30.t le38).trans le52) _ _ hz3)) <| Vs 1 <| Cl' LM hs51 (NW w50 F3 hs51.pers bp0 3) ?_
    rintro _ F4 w57 hs58 le59 rfl
    refine Vs 2 <| St0 #[(.bool x0.o_.Report), (.bool x0.o_.Serial), (.bool x0.o_.Zone), (sv x0.l_.Call), (vi x0.l_.Category), (vi r32.1), (vi x0.l_.Claimed), (.slice a0_7 x0.l_.Jumps.length n0_7), (.slice a0_8 x0.l_.Lines.length n0_8), (fV 153 #[]), (fV 154 #[]), (fV 190 #[(pt tb0_9_0 0), (pt tb0_9_1 0), (pt tb0_9_2 0), (pt tb0_9_3 0)]), (fV 191 #[(pt tb0_9_0 0), (pt tb0_9_3 0)]), (fV 190 #[(pt tb0_9_4 0), (pt tb0_9_5 0), (pt tb0_9_6 0), (pt tb0_9_7 0)]), (fV 191 #[(pt tb0_9_4 0), (pt tb0_9_7 0)]), (fV 190 #[(pt tb0_9_8 0), (pt tb0_9_9 0), (pt tb0_9_10 0), (pt tb0_9_11 0)]), (fV 191 #[(pt tb0_9_8 0), (pt tb0_9_11 0)]), (fV 159 #[]), (fV 160 #[]), (vi x0.done_), (.bool x0.ended_)] hs58 (fun w60 hs61 => ?_)
    refine Nss (Rg [0] ?_)
    refine Vs 1 <| Nt <| Rt ?_
    obtain rfl := Aa h56
    exact ReB [(.bool true)] hs61 (((le30.t le38).trans le52).trans le59) ⟨a0_7, n0_7, a0_8, n0_8, e0_8, rfl, rfl, hb0_7, (V5 hs0_7 (((le30.t le38).trans le52).trans le59)), (hr0_8.mono (((le30.t le38).trans le52).trans le59))⟩
def Gw (N : Nat) (x0 : As) (x1 : Wn) (z0 : Wn) (z1 : Int) (z2 : Int) : Option (As × Bool) :=
 ((AZ z0 ([32] : Wn)).bind fun r21 => ((strings_CutPrefix N x1 r21).bind fun r24 => ((Bz N r24.1).bind fun r32 => (bif (!r24.2) then none else (bif (!r32.2) then none else ((AV N r32.1 z1 z2).bind fun r46 => (bif (!r46) then some (x0, false) else some (({ o_ := ({ Report := x0.o_.Report, Serial := x0.o_.Serial, Zone := x0.o_.Zone } : Ac), l_ := ({ Call := x0.l_.Call, Category := x0.l_.Category, Power := x0.l_.Power, Claimed := r32.1, Jumps := x0.l_.Jumps, Lines := x0.l_.Lines } : Log), done_ := x0.done_, ended_ := x0.ended_ } : As), true))))))))
theorem IL : Af Tryz.prog 190 := fun _ _ => by kernel_rfl
theorem Jr (N : Nat) {wb w0 : World} {Fb F0 : Mem} {Lf : Own} (hG : Br F0) (bp0 : Nat) (x0 : As) (a0_7 : Wo) (n0_7 : Nat) (tb0_9_0 : Nat) (tb0_9_1 : Nat) (tb0_9_2 : Nat) (tb0_9_3 : Nat) (tb0_9_4 : Nat) (tb0_9_5 : Nat) (tb0_9_6 : Nat) (tb0_9_7 : Nat) (tb0_9_8 : Nat) (tb0_9_9 : Nat) (tb0_9_10 : Nat) (tb0_9_11 : Nat) (a0_8 : Wo) (n0_8 : Nat) (e0_8 : Option Nat × Obj) (hb0_7 : LC x0.l_.Jumps.length n0_7) (hs0_7 : SlA AM F0 a0_7 x0.l_.Jumps) (htb0_9_0 : F0 tb0_9_0 = some (oc #[(sv (([67, 65, 84, 69, 71, 79, 82, 89] : Wn)))] 9)) (htb0_9_1 : F0 tb0_9_1 = some (oc #[(vi 1)] 3)) (htb0_9_2 : F0 tb0_9_2 = some (oc #[(vi 9)] 3)) (htb0_9_3 : F0 tb0_9_3 = some (oc #[(fV 156 #[])] 195)) (htb0_9_4 : F0 tb0_9_4 = some (oc #[(sv (([80, 79, 87, 69, 82] : Wn)))] 9)) (htb0_9_5 : F0 tb0_9_5 = some (oc #[(vi 1)] 3)) (htb0_9_6 : F0 tb0_9_6 = some (oc #[(vi 9999)] 3)) (htb0_9_7 : F0 tb0_9_7 = some (oc #[(fV 157 #[])] 195)) (htb0_9_8 : F0 tb0_9_8 = some (oc #[(sv (([67, 76, 65, 73, 77, 69, 68] : Wn)))] 9)) (htb0_9_9 : F0 tb0_9_9 = some (oc #[(vi 0)] 3)) (htb0_9_10 : F0 tb0_9_10 = some (oc #[(vi 1000000)] 3)) (htb0_9_11 : F0 tb0_9_11 = some (oc #[(fV 158 #[])] 195)) (hr0_8 : Ar AL 34 F0 a0_8 n0_8 x0.l_.Lines e0_8) (x1 : Wn) (bz0 : Nat) (z0 : Wn) (hz0 : F0 bz0 = some (oc #[(sv z0)] 9)) (bz1 : Nat) (z1 : Int) (hz1 : F0 bz1 = some (oc #[(vi z1)] 3)) (bz2 : Nat) (z2 : Int) (hz2 : F0 bz2 = some (oc #[(vi z2)] 3)) (bz3 : Nat) (hz3 : F0 bz3 = some (oc #[(fV 158 #[])] 195)) (hs0 : HS wb Fb w0 F0 ((sb bp0 #[(.bool x0.o_.Report), (.bool x0.o_.Serial), (.bool x0.o_.Zone), (sv x0.l_.Call), (vi x0.l_.Category), (vi x0.l_.Power), (vi x0.l_.Claimed), (.slice a0_7 x0.l_.Jumps.length n0_7), (.slice a0_8 x0.l_.Lines.length n0_8), (fV 153 #[]), (fV 154 #[]), (fV 190 #[(pt tb0_9_0 0), (pt tb0_9_1 0), (pt tb0_9_2 0), (pt tb0_9_3 0)]), (fV 191 #[(pt tb0_9_0 0), (pt tb0_9_3 0)]), (fV 190 #[(pt tb0_9_4 0), (pt tb0_9_5 0), (pt tb0_9_6 0), (pt tb0_9_7 0)]), (fV 191 #[(pt tb0_9_4 0), (pt tb0_9_7 0)]), (fV 190 #[(pt tb0_9_8 0), (pt tb0_9_9 0), (pt tb0_9_10 0), (pt tb0_9_11 0)]), (fV 191 #[(pt tb0_9_8 0), (pt tb0_9_11 0)]), (fV 159 #[]), (fV 160 #[]), (vi x0.done_), (.bool x0.ended_)] 130) :: e0_8 :: Lf)) (r : (As × Bool)) (h : Gw N x0 x1 z0 z1 z2 = some r) :
  Calls Tryz.prog 190 ([(pt bp0 3), (sv x1), (pt bz0 0), (pt bz1 0), (pt bz2 0), (pt bz3 0)] : List Value).toArray w0 (ER wb Fb F0 fun F' v L' => ∃ (aq0_7 : Wo) (nq0_7 : Nat) (aq0_8 : Wo) (nq0_8 : Nat) (eq0_8 : Option Nat × Obj), v = (.bool r.2) /\ L' = (sb bp0 #[(.bool r.1.o_.Report), (.bool r.1.o_.Serial), (.bool r.1.o_.Zone), (sv r.1.l_.Call), (vi r.1.l_.Category), (vi r.1.l_.Power), (vi r.1.l_.Claimed), (.slice aq0_7 r.1.l_.Jumps.length nq0_7), (.slice aq0_8 r.1.l_.Lines.length nq0_8), (fV 153 #[]), (fV 154 #[]), (fV 190 #[(pt tb0_9_0 0), (pt tb0_9_1 0), (pt tb0_9_2 0), (pt tb0_9_3 0)]), (fV 191 #[(pt tb0_9_0 0), (pt tb0_9_3 0)]), (fV 190 #[(pt tb0_9_4 0), (pt tb0_9_5 0), (pt tb0_9_6 0), (pt tb0_9_7 0)]), (fV 191 #[(pt tb0_9_4 0), (pt tb0_9_7 0)]), (fV 190 #[(pt tb0_9_8 0), (pt tb0_9_9 0), (pt tb0_9_10 0), (pt tb0_9_11 0)]), (fV 191 #[(pt tb0_9_8 0), (pt tb0_9_11 0)]), (fV 159 #[]), (fV 160 #[]), (vi r.1.done_), (.bool r.1.ended_)] 130) :: eq0_8 :: Lf /\ LC r.1.l_.Jumps.length nq0_7 /\ SlA AM F' aq0_7 r.1.l_.Jumps /\ Ar AL 34 F' aq0_8 nq0_8 r.1.l_.Lines eq0_8) := by
 refine Go 43 Tryz.func190 <| Sq (Rg [0] ?_)
 refine Vs 1 <| Nss (Rg (rG 9) ?_)
 refine Vs 1 <| Ld (hs0.pers _ _ hz0) ?_
 obtain ⟨r21, hr22, h23⟩ := bind_some h
 refine V 16 9 (Av (t := 9) (t' := 9) (x := (.tmp 15)) (y := (.const (sv ([32] : Wn)))) (a := z0) (b := ([32] : Wn)) (v := r21) rfl rfl hr22) ?_
 obtain ⟨r24, hr25, h26⟩ := bind_some h23
 refine Cl' A1 hs0 (A9 N w0 F0 hs0.pers x1 r21 _ hr25) ?_
 rintro _ F1 w28 hs29 le30 rfl
 refine Vs 5 <| Nss (Rg (rG 7) ?_)
 refine Vs 1 ?_
 obtain ⟨r32, hr33, h34⟩ := bind_some h26
 refine Cl' Be hs29 (Bq N w28 F1 hs29.pers (hG.mono le30) r24.1 _ hr33) ?_
 rintro _ F2 w36 hs37 le38 rfl
 refine Vs 5 <| Nss <| Sq (Rg (rG 13) ?_)
 refine Vs 3 <| Sp h34 (fun hb40 h41 => ?_) (fun hb40 h42 => ?_)
 ·cases h41
 ·refine Vgs hb40 2 ?_
  refine Pk0 hb40 <| Vs 1 <| Sp h42 (fun hb43 h44 => ?_) (fun hb43 h45 => ?_)
  ·cases h44
  ·refine Vgs hb43 1 ?_
   refine Lg hb43 (hs37.pers _ _ ((le30.t le38) _ _ hz1)) <| Lg hb43 (hs37.pers _ _ ((le30.t le38) _ _ hz2)) ?_
   obtain ⟨r46, hr47, h48⟩ := bind_some h45
   refine Cg hb43 AN hs37 (AQ N w36 F2 hs37.pers r32.1 z1 z2 _ hr47) ?_
   rintro _ F3 w50 hs51 le52 rfl
   refine Vgs hb43 1 <| Pk0 hb43 <| Nt <| Cd h48 (fun hb54 h55 => ?_) (fun hb54 h56 => ?_)
   ·refine Sq (Rg [0] ?_)
    refine Vs 1 <| Nt <| Rt <| Ae ?_
    obtain rfl := Aa h55
    exact ReB [(.bool false)] hs51 ((le30.t le38).trans le52) ⟨a0_7, n0_7, a0_8, n0_8, e0_8, rfl, rfl, hb0_7, (V5 hs0_7 ((le30.t le38).trans le52)), (hr0_8.mono ((le30.t le38).trans le52))⟩
   ·refine Sc ?_
    refine Ab <| Sq (Rg (rG 6) ?_)
    refine Ld (hs51.pers _ _ (((le30.t le38).trans le52) _ _ hz3)) <| Vs 1 <| Cl' LL hs51 (NV w50 F3 hs51.pers bp0 3) ?_
    rintro _ F4 w57 hs58 le59 rfl
    refine Vs 2 <| St0 #[(.bool x0.o_.Report), (.bool x0.o_.Serial), (.bool x0.o_.Zone), (sv x0.l_.Call), (vi x0.l_.Category), (vi x0.l_.Power), (vi r32.1), (.slice a0_7 x0.l_.Jumps.length n0_7), (.slice a0_8 x0.l_.Lines.length n0_8), (fV 153 #[]), (fV 154 #[]), (fV 190 #[(pt tb0_9_0 0), (pt tb0_9_1 0), (pt tb0_9_2 0), (pt tb0_9_3 0)]), (fV 191 #[(pt tb0_9_0 0), (pt tb0_9_3 0)]), (fV 190 #[(pt tb0_9_4 0), (pt tb0_9_5 0), (pt tb0_9_6 0), (pt tb0_9_7 0)]), (fV 191 #[(pt tb0_9_4 0), (pt tb0_9_7 0)]), (fV 190 #[(pt tb0_9_8 0), (pt tb0_9_9 0), (pt tb0_9_10 0), (pt tb0_9_11 0)]), (fV 191 #[(pt tb0_9_8 0), (pt tb0_9_11 0)]), (fV 159 #[]), (fV 160 #[]), (vi x0.done_), (.bool x0.ended_)] hs58 (fun w60 hs61 => ?_)
    refine Nss (Rg [0] ?_)
    refine Vs 1 <| Nt <| Rt ?_
    obtain rfl := Aa h56
    exact ReB [(.bool true)] hs61 (((le30.t le38).trans le52).trans le59) ⟨a0_7, n0_7, a0_8, n0_8, e0_8, rfl, rfl, hb0_7, (V5 hs0_7 (((le30.t le38).trans le52).trans le59)), (hr0_8.mono (((le30.t le38).trans le52).trans le59))⟩
def Gt (N : Nat) (x0 : As) (x1 : Wn) : Option (As × Bool × Bool) :=
 (bif x0.ended_ then some (x0, false, false) else (bif (decide (x0.done_ < 5)) then ((bif (decide (x0.done_ = 0)) then ((Is N x0 x1).bind fun r41 => some (r41.2, r41.1.o_.Report, r41.1.o_.Serial, r41.1.o_.Zone, r41.1.l_.Call, r41.1.l_.Category, r41.1.l_.Power, r41.1.l_.Claimed, r41.1.l_.Jumps, r41.1.l_.Lines, r41.1.done_, r41.1.ended_)) else (bif (decide (x0.done_ = 1)) then ((Gx N x0 x1 ([67, 65, 84, 69, 71, 79, 82, 89] : Wn) 1 9).bind fun r51 => some (r51.2, r51.1.o_.Report, r51.1.o_.Serial, r51.1.o_.Zone, r51.1.l_.Call, r51.1.l_.Category, r51.1.l_.Power, r51.1.l_.Claimed, r51.1.l_.Jumps, r51.1.l_.Lines, r51.1.done_, r51.1.ended_)) else (bif (decide (x0.done_ = 2)) then ((Gv N x0 x1 ([80, 79, 87, 69, 82] : Wn) 1 9999).bind fun r61 => some (r61.2, r61.1.o_.Report, r61.1.o_.Serial, r61.1.o_.Zone, r61.1.l_.Call, r61.1.l_.Category, r61.1.l_.Power, r61.1.l_.Claimed, r61.1.l_.Jumps, r61.1.l_.Lines, r61.1.done_, r61.1.ended_)) else (bif (decide (x0.done_ = 3)) then ((Gw N x0 x1 ([67, 76, 65, 73, 77, 69, 68] : Wn) 0 1000000).bind fun r71 => some (r71.2, r71.1.o_.Report, r71.1.o_.Serial, r71.1.o_.Zone, r71.1.l_.Call, r71.1.l_.Category, r71.1.l_.Power, r71.1.l_.Claimed, r71.1.l_.Jumps, r71.1.l_.Lines, r71.1.done_, r71.1.ended_)) else (bif (decide (x0.done_ = 4)) then ((HQ N x0 x1).bind fun r81 => some (r81.2, r81.1.o_.Report, r81.1.o_.Serial, r81.1.o_.Zone, r81.1.l_.Call, r81.1.l_.Category, r81.1.l_.Power, r81.1.l_.Claimed, r81.1.l_.Jumps, r81.1.l_.Lines, r81.1.done_, r81.1.ended_)) else none))))).bind fun j32 => ((bif j32.1 then some (W64 (j32.2.2.2.2.2.2.2.2.2.2.1 + 1)) else some j32.2.2.2.2.2.2.2.2.2.2.1).bind fun j91 => some (({ o_ := ({ Report := j32.2.1, Serial := j32.2.2.1, Zone := j32.2.2.2.1 } : Ac), l_ := ({ Call := j32.2.2.2.2.1, Category := j32.2.2.2.2.2.1, Power := j32.2.2.2.2.2.2.1, Claimed := j32.2.2.2.2.2.2.2.1, Jumps := j32.2.2.2.2.2.2.2.2.1, Lines := j32.2.2.2.2.2.2.2.2.2.1 } : Log), done_ := j91, ended_ := j32.2.2.2.2.2.2.2.2.2.2.2 } : As), j32.1, false))) else (bif (x1 == ([69, 78, 68] : Wn)) then some (({ o_ := ({ Report := x0.o_.Report, Serial := x0.o_.Serial, Zone := x0.o_.Zone } : Ac), l_ := x0.l_, done_ := x0.done_, ended_ := true } : As), true, false) else ((FQ N ({ Report := x0.o_.Report, Serial := x0.o_.Serial, Zone := x0.o_.Zone } : Ac) x1).bind fun r106 => ((bif (decide ((x0.l_.Lines.length : Int) > 0)) then ((idx x0.l_.Lines (W64 ((x0.l_.Lines.length : Int) - 1))).bind fun x134 => (bif (decide (r106.1.Num <= x134.Num)) then some true else ((idx x0.l_.Lines (W64 ((x0.l_.Lines.length : Int) - 1))).bind fun x149 => (bif (decide (r106.1.Minute < x149.Minute)) then some true else some (r106.2 != 0))))) else some (r106.2 != 0)).bind fun j124 => (bif j124 then some (x0, false, false) else (bif ((x0.l_.Lines.length : Int) == 400) then some (x0, false, true) else (((C2 x0.l_.Lines [r106.1]).bind fun r183 => some r183).bind fun j174 => some (({ o_ := ({ Report := x0.o_.Report, Serial := x0.o_.Serial, Zone := x0.o_.Zone } : Ac), l_ := ({ Call := x0.l_.Call, Category := x0.l_.Category, Power := x0.l_.Power, Claimed := x0.l_.Claimed, Jumps := x0.l_.Jumps, Lines := j174 } : Log), done_ := x0.done_, ended_ := x0.ended_ } : As), true, false)))))))))
theorem IJ : Af Tryz.prog 106 := fun _ _ => by kernel_rfl
theorem Jp (N : Nat) {wb w0 : World} {Fb F0 : Mem} {Lf : Own} (hG : Br F0) (bp0 : Nat) (x0 : As) (a0_7 : Wo) (n0_7 : Nat) (tb0_9_0 : Nat) (tb0_9_1 : Nat) (tb0_9_2 : Nat) (tb0_9_3 : Nat) (tb0_9_4 : Nat) (tb0_9_5 : Nat) (tb0_9_6 : Nat) (tb0_9_7 : Nat) (tb0_9_8 : Nat) (tb0_9_9 : Nat) (tb0_9_10 : Nat) (tb0_9_11 : Nat) (a0_8 : Wo) (n0_8 : Nat) (e0_8 : Option Nat × Obj) (hb0_7 : LC x0.l_.Jumps.length n0_7) (hs0_7 : SlA AM F0 a0_7 x0.l_.Jumps) (htb0_9_0 : F0 tb0_9_0 = some (oc #[(sv (([67, 65, 84, 69, 71, 79, 82, 89] : Wn)))] 9)) (htb0_9_1 : F0 tb0_9_1 = some (oc #[(vi 1)] 3)) (htb0_9_2 : F0 tb0_9_2 = some (oc #[(vi 9)] 3)) (htb0_9_3 : F0 tb0_9_3 = some (oc #[(fV 156 #[])] 195)) (htb0_9_4 : F0 tb0_9_4 = some (oc #[(sv (([80, 79, 87, 69, 82] : Wn)))] 9)) (htb0_9_5 : F0 tb0_9_5 = some (oc #[(vi 1)] 3)) (htb0_9_6 : F0 tb0_9_6 = some (oc #[(vi 9999)] 3)) (htb0_9_7 : F0 tb0_9_7 = some (oc #[(fV 157 #[])] 195)) (htb0_9_8 : F0 tb0_9_8 = some (oc #[(sv (([67, 76, 65, 73, 77, 69, 68] : Wn)))] 9)) (htb0_9_9 : F0 tb0_9_9 = some (oc #[(vi 0)] 3)) (htb0_9_10 : F0 tb0_9_10 = some (oc #[(vi 1000000)] 3)) (htb0_9_11 : F0 tb0_9_11 = some (oc #[(fV 158 #[])] 195)) (hr0_8 : Ar AL 34 F0 a0_8 n0_8 x0.l_.Lines e0_8) (x1 : Wn) (hs0 : HS wb Fb w0 F0 ((sb bp0 #[(.bool x0.o_.Report), (.bool x0.o_.Serial), (.bool x0.o_.Zone), (sv x0.l_.Call), (vi x0.l_.Category), (vi x0.l_.Power), (vi x0.l_.Claimed), (.slice a0_7 x0.l_.Jumps.length n0_7), (.slice a0_8 x0.l_.Lines.length n0_8), (fV 153 #[]), (fV 154 #[]), (fV 190 #[(pt tb0_9_0 0), (pt tb0_9_1 0), (pt tb0_9_2 0), (pt tb0_9_3 0)]), (fV 191 #[(pt tb0_9_0 0), (pt tb0_9_3 0)]), (fV 190 #[(pt tb0_9_4 0), (pt tb0_9_5 0), (pt tb0_9_6 0), (pt tb0_9_7 0)]), (fV 191 #[(pt tb0_9_4 0), (pt tb0_9_7 0)]), (fV 190 #[(pt tb0_9_8 0), (pt tb0_9_9 0), (pt tb0_9_10 0), (pt tb0_9_11 0)]), (fV 191 #[(pt tb0_9_8 0), (pt tb0_9_11 0)]), (fV 159 #[]), (fV 160 #[]), (vi x0.done_), (.bool x0.ended_)] 130) :: e0_8 :: Lf)) (r : (As × Bool × Bool)) (h : Gt N x0 x1 = some r) :
  Calls Tryz.prog 106 ([(pt bp0 0), (sv x1)] : List Value).toArray w0 (ER wb Fb F0 fun F' v L' => ∃ (aq0_7 : Wo) (nq0_7 : Nat) (aq0_8 : Wo) (nq0_8 : Nat) (eq0_8 : Option Nat × Obj), v = (.tuple #[(.bool r.2.1), (.bool r.2.2)]) /\ L' = (sb bp0 #[(.bool r.1.o_.Report), (.bool r.1.o_.Serial), (.bool r.1.o_.Zone), (sv r.1.l_.Call), (vi r.1.l_.Category), (vi r.1.l_.Power), (vi r.1.l_.Claimed), (.slice aq0_7 r.1.l_.Jumps.length nq0_7), (.slice aq0_8 r.1.l_.Lines.length nq0_8), (fV 153 #[]), (fV 154 #[]), (fV 190 #[(pt tb0_9_0 0), (pt tb0_9_1 0), (pt tb0_9_2 0), (pt tb0_9_3 0)]), (fV 191 #[(pt tb0_9_0 0), (pt tb0_9_3 0)]), (fV 190 #[(pt tb0_9_4 0), (pt tb0_9_5 0), (pt tb0_9_6 0), (pt tb0_9_7 0)]), (fV 191 #[(pt tb0_9_4 0), (pt tb0_9_7 0)]), (fV 190 #[(pt tb0_9_8 0), (pt tb0_9_9 0), (pt tb0_9_10 0), (pt tb0_9_11 0)]), (fV 191 #[(pt tb0_9_8 0), (pt tb0_9_11 0)]), (fV 159 #[]), (fV 160 #[]), (vi r.1.done_), (.bool r.1.ended_)] 130) :: eq0_8 :: Lf /\ LC r.1.l_.Jumps.length nq0_7 /\ SlA AM F' aq0_7 r.1.l_.Jumps /\ Ar AL 34 F' aq0_8 nq0_8 r.1.l_.Lines eq0_8) := by
 refine Go 120 Tryz.func106 <| Sq (Rg [0, 1] ?_)
 refine Vs 2 <| Nss <| Bk <| Sq (Rg (rG 5) ?_)
 refine Vs 3 <| Ld hs0.at0 <| Vs 1 <| Nt <| Cd h (fun hb21 h22 => ?_) (fun hb21 h23 => ?_)
 ·refine Sq (Rg [0, 1] ?_)
  refine Vs 2 <| Nt <| Rt <| Ax <| Ae ?_
  obtain rfl := Aa h22
  exact ReB [(.bool false), (.bool false)] hs0 (V3 _) ⟨a0_7, n0_7, a0_8, n0_8, e0_8, rfl, rfl, hb0_7, hs0_7, hr0_8⟩
 ·refine Sq (Rg (rG 6) ?_)
  refine Vs 3 <| Ld hs0.at0 <| Vs 2 <| Nt <| Cd h23 (fun hb24 h25 => ?_) (fun hb24 h26 => ?_)
  ·refine Sq ?_
   refine Sq ?_
   obtain ⟨j32, hj36, h37⟩ := bind_some h25
   refine RD 16 16 [] [] hs0 (fun f w => ∃ (F1 : Mem) (aj32_8 : Wo) (nj32_8 : Nat) (aj32_9 : Wo) (nj32_9 : Nat) (ej32_9 : Option Nat × Obj), HS wb Fb w F1 ((sb bp0 #[(.bool j32.2.1), (.bool j32.2.2.1), (.bool j32.2.2.2.1), (sv j32.2.2.2.2.1), (vi j32.2.2.2.2.2.1), (vi j32.2.2.2.2.2.2.1), (vi j32.2.2.2.2.2.2.2.1), (.slice aj32_8 j32.2.2.2.2.2.2.2.2.1.length nj32_8), (.slice aj32_9 j32.2.2.2.2.2.2.2.2.2.1.length nj32_9), (fV 153 #[]), (fV 154 #[]), (fV 190 #[(pt tb0_9_0 0), (pt tb0_9_1 0), (pt tb0_9_2 0), (pt tb0_9_3 0)]), (fV 191 #[(pt tb0_9_0 0), (pt tb0_9_3 0)]), (fV 190 #[(pt tb0_9_4 0), (pt tb0_9_5 0), (pt tb0_9_6 0), (pt tb0_9_7 0)]), (fV 191 #[(pt tb0_9_4 0), (pt tb0_9_7 0)]), (fV 190 #[(pt tb0_9_8 0), (pt tb0_9_9 0), (pt tb0_9_10 0), (pt tb0_9_11 0)]), (fV 191 #[(pt tb0_9_8 0), (pt tb0_9_11 0)]), (fV 159 #[]), (fV 160 #[]), (vi j32.2.2.2.2.2.2.2.2.2.2.1), (.bool j32.2.2.2.2.2.2.2.2.2.2.2)] 130) :: ej32_9 :: Lf) /\ V2 F0 F1 /\ FI f [] [(0, (pt bp0 0)), (4, (.bool j32.1))] /\ LC j32.2.2.2.2.2.2.2.2.1.length nj32_8 /\ SlA AM F1 aj32_8 j32.2.2.2.2.2.2.2.2.1 /\ Ar AL 34 F1 aj32_9 nj32_9 j32.2.2.2.2.2.2.2.2.2.1 ej32_9) (fun wd27 hw28 => ?_) ?_
   ·refine Dv [0, 1, 2, 3, 5, 6, 10, 11, 12, 13] ?_
    refine D1 4 <| Wc (l' := [true, true, true, true, true, true, true, false, false, false, true, true, true, true, false, false]) (zd := true) (by kernel_rfl) (by kernel_rfl) (dst := (some 24)) (ty := 3) (g := none) (by kernel_rfl) rfl (BD (t := 3) (x := (.tmp 23)) (b := bp0) (o := 19) (g := false) (s := 1) (C := #[(.bool x0.o_.Report), (.bool x0.o_.Serial), (.bool x0.o_.Zone), (sv x0.l_.Call), (vi x0.l_.Category), (vi x0.l_.Power), (vi x0.l_.Claimed), (.slice a0_7 x0.l_.Jumps.length n0_7), (.slice a0_8 x0.l_.Lines.length n0_8), (fV 153 #[]), (fV 154 #[]), (fV 190 #[(pt tb0_9_0 0), (pt tb0_9_1 0), (pt tb0_9_2 0), (pt tb0_9_3 0)]), (fV 191 #[(pt tb0_9_0 0), (pt tb0_9_3 0)]), (fV 190 #[(pt tb0_9_4 0), (pt tb0_9_5 0), (pt tb0_9_6 0), (pt tb0_9_7 0)]), (fV 191 #[(pt tb0_9_4 0), (pt tb0_9_7 0)]), (fV 190 #[(pt tb0_9_8 0), (pt tb0_9_9 0), (pt tb0_9_10 0), (pt tb0_9_11 0)]), (fV 191 #[(pt tb0_9_8 0), (pt tb0_9_11 0)]), (fV 159 #[]), (fV 160 #[]), (vi x0.done_), (.bool x0.ended_)]) (v := (vi x0.done_)) rfl (by kernel_rfl) hw28.at0 rfl rfl rfl) (Bd hw28 (V3 _) (by simp) (fun e => by cases e)) <| Sd hj36 (fun hb38 h39 => ?_) (fun hb38 h40 => ?_)
    ·refine Dt 7 27 0 (pt bp0 9) (fun _ hq => Kk (t := 110) (E := 109) (len := 5) (s := 2) (g := true) (x := (.tmp 26)) (y := (.tmp 24)) (k := .i64) (b := bp0) (o0 := 9) (o1 := 9) (i := x0.done_) (n := 0) rfl rfl (by kernel_rfl) (by kernel_rfl) hb38 (by decide) rfl) ?_
     refine Dv [8] <| D1 9 <| Wc (l' := [true, true, true, true, true, true, true, true, true, true, true, true, true, true, false, false]) (zd := true) (by kernel_rfl) (by kernel_rfl) (dst := (some 29)) (ty := 106) (g := none) (by kernel_rfl) rfl (BD (t := 106) (x := (.tmp 28)) (b := bp0) (o := 9) (g := false) (s := 1) (C := #[(.bool x0.o_.Report), (.bool x0.o_.Serial), (.bool x0.o_.Zone), (sv x0.l_.Call), (vi x0.l_.Category), (vi x0.l_.Power), (vi x0.l_.Claimed), (.slice a0_7 x0.l_.Jumps.length n0_7), (.slice a0_8 x0.l_.Lines.length n0_8), (fV 153 #[]), (fV 154 #[]), (fV 190 #[(pt tb0_9_0 0), (pt tb0_9_1 0), (pt tb0_9_2 0), (pt tb0_9_3 0)]), (fV 191 #[(pt tb0_9_0 0), (pt tb0_9_3 0)]), (fV 190 #[(pt tb0_9_4 0), (pt tb0_9_5 0), (pt tb0_9_6 0), (pt tb0_9_7 0)]), (fV 191 #[(pt tb0_9_4 0), (pt tb0_9_7 0)]), (fV 190 #[(pt tb0_9_8 0), (pt tb0_9_9 0), (pt tb0_9_10 0), (pt tb0_9_11 0)]), (fV 191 #[(pt tb0_9_8 0), (pt tb0_9_11 0)]), (fV 159 #[]), (fV 160 #[]), (vi x0.done_), (.bool x0.ended_)]) (v := (fV 153 #[])) rfl (by kernel_rfl) hw28.at0 rfl rfl rfl) (Bd hw28 (V3 _) (by simp) (fun e => by cases e)) <| D1 14 ?_
     obtain ⟨r41, hr42, h43⟩ := bind_some h39
     refine DCB KF (LV N hG bp0 x0 a0_7 n0_7 tb0_9_0 tb0_9_1 tb0_9_2 tb0_9_3 tb0_9_4 tb0_9_5 tb0_9_6 tb0_9_7 tb0_9_8 tb0_9_9 tb0_9_10 tb0_9_11 a0_8 n0_8 e0_8 hb0_7 hs0_7 htb0_9_0 htb0_9_1 htb0_9_2 htb0_9_3 htb0_9_4 htb0_9_5 htb0_9_6 htb0_9_7 htb0_9_8 htb0_9_9 htb0_9_10 htb0_9_11 hr0_8 x1 hw28 _ hr42) ?_
     rintro _ F2 w44 _ hs45 le46 ⟨ar41_0_7, nr41_0_7, ar41_0_8, nr41_0_8, er41_0_8, rfl, rfl, hbr41_0_7, hsr41_0_7, hrr41_0_8⟩
     refine ⟨Bd hs45 le46 (by simp) (zdT (by kernel_rfl)), ?_⟩
     refine Dv [15] ?_
     obtain rfl := Aa h43
     exact Wf (by kernel_rfl) ⟨F2, ar41_0_7, nr41_0_7, ar41_0_8, nr41_0_8, er41_0_8, hs45, le46, fI, hbr41_0_7, hsr41_0_7, hrr41_0_8⟩
    ·refine Sd h40 (fun hb48 h49 => ?_) (fun hb48 h50 => ?_)
     ·refine Dt 7 27 0 (pt bp0 11) (fun _ hq => Kk (t := 110) (E := 109) (len := 5) (s := 2) (g := true) (x := (.tmp 26)) (y := (.tmp 24)) (k := .i64) (b := bp0) (o0 := 9) (o1 := 11) (i := x0.done_) (n := 1) rfl rfl (by kernel_rfl) (by kernel_rfl) hb48 (by decide) rfl) ?_
      refine Dv [8] <| D1 9 <| Wc (l' := [true, true, true, true, true, true, true, true, true, true, true, true, true, true, false, false]) (zd := true) (by kernel_rfl) (by kernel_rfl) (dst := (some 29)) (ty := 106) (g := none) (by kernel_rfl) rfl (BD (t := 106) (x := (.tmp 28)) (b := bp0) (o := 11) (g := false) (s := 1) (C := #[(.bool x0.o_.Report), (.bool x0.o_.Serial), (.bool x0.o_.Zone), (sv x0.l_.Call), (vi x0.l_.Category), (vi x0.l_.Power), (vi x0.l_.Claimed), (.slice a0_7 x0.l_.Jumps.length n0_7), (.slice a0_8 x0.l_.Lines.length n0_8), (fV 153 #[]), (fV 154 #[]), (fV 190 #[(pt tb0_9_0 0), (pt tb0_9_1 0), (pt tb0_9_2 0), (pt tb0_9_3 0)]), (fV 191 #[(pt tb0_9_0 0), (pt tb0_9_3 0)]), (fV 190 #[(pt tb0_9_4 0), (pt tb0_9_5 0), (pt tb0_9_6 0), (pt tb0_9_7 0)]), (fV 191 #[(pt tb0_9_4 0), (pt tb0_9_7 0)]), (fV 190 #[(pt tb0_9_8 0), (pt tb0_9_9 0), (pt tb0_9_10 0), (pt tb0_9_11 0)]), (fV 191 #[(pt tb0_9_8 0), (pt tb0_9_11 0)]), (fV 159 #[]), (fV 160 #[]), (vi x0.done_), (.bool x0.ended_)]) (v := (fV 190 #[(pt tb0_9_0 0), (pt tb0_9_1 0), (pt tb0_9_2 0), (pt tb0_9_3 0)])) rfl (by kernel_rfl) hw28.at0 rfl rfl rfl) (Bd hw28 (V3 _) (by simp) (fun e => by cases e)) <| D1 14 ?_
      obtain ⟨r51, hr52, h53⟩ := bind_some h49
      refine DCB IM (Js N hG bp0 x0 a0_7 n0_7 tb0_9_0 tb0_9_1 tb0_9_2 tb0_9_3 tb0_9_4 tb0_9_5 tb0_9_6 tb0_9_7 tb0_9_8 tb0_9_9 tb0_9_10 tb0_9_11 a0_8 n0_8 e0_8 hb0_7 hs0_7 htb0_9_0 htb0_9_1 htb0_9_2 htb0_9_3 htb0_9_4 htb0_9_5 htb0_9_6 htb0_9_7 htb0_9_8 htb0_9_9 htb0_9_10 htb0_9_11 hr0_8 x1 tb0_9_0 ([67, 65, 84, 69, 71, 79, 82, 89] : Wn) htb0_9_0 tb0_9_1 1 htb0_9_1 tb0_9_2 9 htb0_9_2 tb0_9_3 htb0_9_3 hw28 _ hr52) ?_
      rintro _ F3 w54 _ hs55 le56 ⟨ar51_0_7, nr51_0_7, ar51_0_8, nr51_0_8, er51_0_8, rfl, rfl, hbr51_0_7, hsr51_0_7, hrr51_0_8⟩
      refine ⟨Bd hs55 le56 (by simp) (zdT (by kernel_rfl)), ?_⟩
      refine Dv [15] ?_
      obtain rfl := Aa h53
      exact Wf (by kernel_rfl) ⟨F3, ar51_0_7, nr51_0_7, ar51_0_8, nr51_0_8, er51_0_8, hs55, le56, fI, hbr51_0_7, hsr51_0_7, hrr51_0_8⟩
     ·refine Sd h50 (fun hb58 h59 => ?_) (fun hb58 h60 => ?_)
      ·refine Dt 7 27 0 (pt bp0 13) (fun _ hq => Kk (t := 110) (E := 109) (len := 5) (s := 2) (g := true) (x := (.tmp 26)) (y := (.tmp 24)) (k := .i64) (b := bp0) (o0 := 9) (o1 := 13) (i := x0.done_) (n := 2) rfl rfl (by kernel_rfl) (by kernel_rfl) hb58 (by decide) rfl) ?_
       refine Dv [8] <| D1 9 <| Wc (l' := [true, true, true, true, true, true, true, true, true, true, true, true, true, true, false, false]) (zd := true) (by kernel_rfl) (by kernel_rfl) (dst := (some 29)) (ty := 106) (g := none) (by kernel_rfl) rfl (BD (t := 106) (x := (.tmp 28)) (b := bp0) (o := 13) (g := false) (s := 1) (C := #[(.bool x0.o_.Report), (.bool x0.o_.Serial), (.bool x0.o_.Zone), (sv x0.l_.Call), (vi x0.l_.Category), (vi x0.l_.Power), (vi x0.l_.Claimed), (.slice a0_7 x0.l_.Jumps.length n0_7), (.slice a0_8 x0.l_.Lines.length n0_8), (fV 153 #[]), (fV 154 #[]), (fV 190 #[(pt tb0_9_0 0), (pt tb0_9_1 0), (pt tb0_9_2 0), (pt tb0_9_3 0)]), (fV 191 #[(pt tb0_9_0 0), (pt tb0_9_3 0)]), (fV 190 #[(pt tb0_9_4 0), (pt tb0_9_5 0), (pt tb0_9_6 0), (pt tb0_9_7 0)]), (fV 191 #[(pt tb0_9_4 0), (pt tb0_9_7 0)]), (fV 190 #[(pt tb0_9_8 0), (pt tb0_9_9 0), (pt tb0_9_10 0), (pt tb0_9_11 0)]), (fV 191 #[(pt tb0_9_8 0), (pt tb0_9_11 0)]), (fV 159 #[]), (fV 160 #[]), (vi x0.done_), (.bool x0.ended_)]) (v := (fV 190 #[(pt tb0_9_4 0), (pt tb0_9_5 0), (pt tb0_9_6 0), (pt tb0_9_7 0)])) rfl (by kernel_rfl) hw28.at0 rfl rfl rfl) (Bd hw28 (V3 _) (by simp) (fun e => by cases e)) <| D1 14 ?_
       obtain ⟨r61, hr62, h63⟩ := bind_some h59
       refine DCB IK (Jq N hG bp0 x0 a0_7 n0_7 tb0_9_0 tb0_9_1 tb0_9_2 tb0_9_3 tb0_9_4 tb0_9_5 tb0_9_6 tb0_9_7 tb0_9_8 tb0_9_9 tb0_9_10 tb0_9_11 a0_8 n0_8 e0_8 hb0_7 hs0_7 htb0_9_0 htb0_9_1 htb0_9_2 htb0_9_3 htb0_9_4 htb0_9_5 htb0_9_6 htb0_9_7 htb0_9_8 htb0_9_9 htb0_9_10 htb0_9_11 hr0_8 x1 tb0_9_4 ([80, 79, 87, 69, 82] : Wn) htb0_9_4 tb0_9_5 1 htb0_9_5 tb0_9_6 9999 htb0_9_6 tb0_9_7 htb0_9_7 hw28 _ hr62) ?_
       rintro _ F4 w64 _ hs65 le66 ⟨ar61_0_7, nr61_0_7, ar61_0_8, nr61_0_8, er61_0_8, rfl, rfl, hbr61_0_7, hsr61_0_7, hrr61_0_8⟩
       refine ⟨Bd hs65 le66 (by simp) (zdT (by kernel_rfl)), ?_⟩
       refine Dv [15] ?_
       obtain rfl := Aa h63
       exact Wf (by kernel_rfl) ⟨F4, ar61_0_7, nr61_0_7, ar61_0_8, nr61_0_8, er61_0_8, hs65, le66, fI, hbr61_0_7, hsr61_0_7, hrr61_0_8⟩
      ·refine Sd h60 (fun hb68 h69 => ?_) (fun hb68 h70 => ?_)
       ·refine Dt 7 27 0 (pt bp0 15) (fun _ hq => Kk (t := 110) (E := 109) (len := 5) (s := 2) (g := true) (x := (.tmp 26)) (y := (.tmp 24)) (k := .i64) (b := bp0) (o0 := 9) (o1 := 15) (i := x0.done_) (n := 3) rfl rfl (by kernel_rfl) (by kernel_rfl) hb68 (by decide) rfl) ?_
        refine Dv [8] <| D1 9 <| Wc (l' := [true, true, true, true, true, true, true, true, true, true, true, true, true, true, false, false]) (zd := true) (by kernel_rfl) (by kernel_rfl) (dst := (some 29)) (ty := 106) (g := none) (by kernel_rfl) rfl (BD (t := 106) (x := (.tmp 28)) (b := bp0) (o := 15) (g := false) (s := 1) (C := #[(.bool x0.o_.Report), (.bool x0.o_.Serial), (.bool x0.o_.Zone), (sv x0.l_.Call), (vi x0.l_.Category), (vi x0.l_.Power), (vi x0.l_.Claimed), (.slice a0_7 x0.l_.Jumps.length n0_7), (.slice a0_8 x0.l_.Lines.length n0_8), (fV 153 #[]), (fV 154 #[]), (fV 190 #[(pt tb0_9_0 0), (pt tb0_9_1 0), (pt tb0_9_2 0), (pt tb0_9_3 0)]), (fV 191 #[(pt tb0_9_0 0), (pt tb0_9_3 0)]), (fV 190 #[(pt tb0_9_4 0), (pt tb0_9_5 0), (pt tb0_9_6 0), (pt tb0_9_7 0)]), (fV 191 #[(pt tb0_9_4 0), (pt tb0_9_7 0)]), (fV 190 #[(pt tb0_9_8 0), (pt tb0_9_9 0), (pt tb0_9_10 0), (pt tb0_9_11 0)]), (fV 191 #[(pt tb0_9_8 0), (pt tb0_9_11 0)]), (fV 159 #[]), (fV 160 #[]), (vi x0.done_), (.bool x0.ended_)]) (v := (fV 190 #[(pt tb0_9_8 0), (pt tb0_9_9 0), (pt tb0_9_10 0), (pt tb0_9_11 0)])) rfl (by kernel_rfl) hw28.at0 rfl rfl rfl) (Bd hw28 (V3 _) (by simp) (fun e => by cases e)) <| D1 14 ?_
        obtain ⟨r71, hr72, h73⟩ := bind_some h69
        refine DCB IL (Jr N hG bp0 x0 a0_7 n0_7 tb0_9_0 tb0_9_1 tb0_9_2 tb0_9_3 tb0_9_4 tb0_9_5 tb0_9_6 tb0_9_7 tb0_9_8 tb0_9_9 tb0_9_10 tb0_9_11 a0_8 n0_8 e0_8 hb0_7 hs0_7 htb0_9_0 htb0_9_1 htb0_9_2 htb0_9_3 htb0_9_4 htb0_9_5 htb0_9_6 htb0_9_7 htb0_9_8 htb0_9_9 htb0_9_10 htb0_9_11 hr0_8 x1 tb0_9_8 ([67, 76, 65, 73, 77, 69, 68] : Wn) htb0_9_8 tb0_9_9 0 htb0_9_9 tb0_9_10 1000000 htb0_9_10 tb0_9_11 htb0_9_11 hw28 _ hr72) ?_
        rintro _ F5 w74 _ hs75 le76 ⟨ar71_0_7, nr71_0_7, ar71_0_8, nr71_0_8, er71_0_8, rfl, rfl, hbr71_0_7, hsr71_0_7, hrr71_0_8⟩
        refine ⟨Bd hs75 le76 (by simp) (zdT (by kernel_rfl)), ?_⟩
        refine Dv [15] ?_
        obtain rfl := Aa h73
        exact Wf (by kernel_rfl) ⟨F5, ar71_0_7, nr71_0_7, ar71_0_8, nr71_0_8, er71_0_8, hs75, le76, fI, hbr71_0_7, hsr71_0_7, hrr71_0_8⟩
       ·refine Sd h70 (fun hb78 h79 => ?_) (fun hb78 h80 => ?_)
        ·refine Dt 7 27 0 (pt bp0 17) (fun _ hq => Kk (t := 110) (E := 109) (len := 5) (s := 2) (g := true) (x := (.tmp 26)) (y := (.tmp 24)) (k := .i64) (b := bp0) (o0 := 9) (o1 := 17) (i := x0.done_) (n := 4) rfl rfl (by kernel_rfl) (by kernel_rfl) hb78 (by decide) rfl) ?_
         refine Dv [8] <| D1 9 <| Wc (l' := [true, true, true, true, true, true, true, true, true, true, true, true, true, true, false, false]) (zd := true) (by kernel_rfl) (by kernel_rfl) (dst := (some 29)) (ty := 106) (g := none) (by kernel_rfl) rfl (BD (t := 106) (x := (.tmp 28)) (b := bp0) (o := 17) (g := false) (s := 1) (C := #[(.bool x0.o_.Report), (.bool x0.o_.Serial), (.bool x0.o_.Zone), (sv x0.l_.Call), (vi x0.l_.Category), (vi x0.l_.Power), (vi x0.l_.Claimed), (.slice a0_7 x0.l_.Jumps.length n0_7), (.slice a0_8 x0.l_.Lines.length n0_8), (fV 153 #[]), (fV 154 #[]), (fV 190 #[(pt tb0_9_0 0), (pt tb0_9_1 0), (pt tb0_9_2 0), (pt tb0_9_3 0)]), (fV 191 #[(pt tb0_9_0 0), (pt tb0_9_3 0)]), (fV 190 #[(pt tb0_9_4 0), (pt tb0_9_5 0), (pt tb0_9_6 0), (pt tb0_9_7 0)]), (fV 191 #[(pt tb0_9_4 0), (pt tb0_9_7 0)]), (fV 190 #[(pt tb0_9_8 0), (pt tb0_9_9 0), (pt tb0_9_10 0), (pt tb0_9_11 0)]), (fV 191 #[(pt tb0_9_8 0), (pt tb0_9_11 0)]), (fV 159 #[]), (fV 160 #[]), (vi x0.done_), (.bool x0.ended_)]) (v := (fV 159 #[])) rfl (by kernel_rfl) hw28.at0 rfl rfl rfl) (Bd hw28 (V3 _) (by simp) (fun e => by cases e)) <| D1 14 ?_
         obtain ⟨r81, hr82, h83⟩ := bind_some h79
         refine DCB J2 (KU N hG bp0 x0 a0_7 n0_7 tb0_9_0 tb0_9_1 tb0_9_2 tb0_9_3 tb0_9_4 tb0_9_5 tb0_9_6 tb0_9_7 tb0_9_8 tb0_9_9 tb0_9_10 tb0_9_11 a0_8 n0_8 e0_8 hb0_7 hs0_7 htb0_9_0 htb0_9_1 htb0_9_2 htb0_9_3 htb0_9_4 htb0_9_5 htb0_9_6 htb0_9_7 htb0_9_8 htb0_9_9 htb0_9_10 htb0_9_11 hr0_8 x1 hw28 _ hr82) ?_
         rintro _ F6 w84 _ hs85 le86 ⟨ar81_0_7, nr81_0_7, ar81_0_8, nr81_0_8, er81_0_8, rfl, rfl, hbr81_0_7, hsr81_0_7, hrr81_0_8⟩
         refine ⟨Bd hs85 le86 (by simp) (zdT (by kernel_rfl)), ?_⟩
         refine Dv [15] ?_
         obtain rfl := Aa h83
         exact Wf (by kernel_rfl) ⟨F6, ar81_0_7, nr81_0_7, ar81_0_8, nr81_0_8, er81_0_8, hs85, le86, fI, hbr81_0_7, hsr81_0_7, hrr81_0_8⟩
        ·cases h80
   ·rintro f w29 ⟨F1, aj32_8, nj32_8, aj32_9, nj32_9, ej32_9, hs30, le31, ⟨_, rfl⟩, hbj32_8, hsj32_8, hrj32_9⟩
    refine Ab <| Sq (Rg [0] ?_)
    refine Vs 1 <| Nt ?_
    obtain ⟨j91, hj94, h95⟩ := bind_some h37
    refine V9 (fun f w => ∃ (F7 : Mem), HS wb Fb w F7 ((sb bp0 #[(.bool j32.2.1), (.bool j32.2.2.1), (.bool j32.2.2.2.1), (sv j32.2.2.2.2.1), (vi j32.2.2.2.2.2.1), (vi j32.2.2.2.2.2.2.1), (vi j32.2.2.2.2.2.2.2.1), (.slice aj32_8 j32.2.2.2.2.2.2.2.2.1.length nj32_8), (.slice aj32_9 j32.2.2.2.2.2.2.2.2.2.1.length nj32_9), (fV 153 #[]), (fV 154 #[]), (fV 190 #[(pt tb0_9_0 0), (pt tb0_9_1 0), (pt tb0_9_2 0), (pt tb0_9_3 0)]), (fV 191 #[(pt tb0_9_0 0), (pt tb0_9_3 0)]), (fV 190 #[(pt tb0_9_4 0), (pt tb0_9_5 0), (pt tb0_9_6 0), (pt tb0_9_7 0)]), (fV 191 #[(pt tb0_9_4 0), (pt tb0_9_7 0)]), (fV 190 #[(pt tb0_9_8 0), (pt tb0_9_9 0), (pt tb0_9_10 0), (pt tb0_9_11 0)]), (fV 191 #[(pt tb0_9_8 0), (pt tb0_9_11 0)]), (fV 159 #[]), (fV 160 #[]), (vi j91), (.bool j32.2.2.2.2.2.2.2.2.2.2.2)] 130) :: ej32_9 :: Lf) /\ V2 F1 F7 /\ FI f [] [(4, (.bool j32.1))]) ?_ ?_
    ·refine Cd hj94 (fun hb96 h97 => ?_) (fun hb96 h98 => ?_)
     ·refine Rg (rG 8) ?_
      refine Vs 3 <| Ld hs30.at0 <| Vs 3 <| St0 #[(.bool j32.2.1), (.bool j32.2.2.1), (.bool j32.2.2.2.1), (sv j32.2.2.2.2.1), (vi j32.2.2.2.2.2.1), (vi j32.2.2.2.2.2.2.1), (vi j32.2.2.2.2.2.2.2.1), (.slice aj32_8 j32.2.2.2.2.2.2.2.2.1.length nj32_8), (.slice aj32_9 j32.2.2.2.2.2.2.2.2.2.1.length nj32_9), (fV 153 #[]), (fV 154 #[]), (fV 190 #[(pt tb0_9_0 0), (pt tb0_9_1 0), (pt tb0_9_2 0), (pt tb0_9_3 0)]), (fV 191 #[(pt tb0_9_0 0), (pt tb0_9_3 0)]), (fV 190 #[(pt tb0_9_4 0), (pt tb0_9_5 0), (pt tb0_9_6 0), (pt tb0_9_7 0)]), (fV 191 #[(pt tb0_9_4 0), (pt tb0_9_7 0)]), (fV 190 #[(pt tb0_9_8 0), (pt tb0_9_9 0), (pt tb0_9_10 0), (pt tb0_9_11 0)]), (fV 191 #[(pt tb0_9_8 0), (pt tb0_9_11 0)]), (fV 159 #[]), (fV 160 #[]), (vi (W64 (j32.2.2.2.2.2.2.2.2.2.2.1 + 1))), (.bool j32.2.2.2.2.2.2.2.2.2.2.2)] hs30 (fun w99 hs100 => ?_)
      refine VY ?_
      obtain rfl := Aa h97
      exact .inl ⟨rfl, F1, hs100, (V3 _), fI⟩
     ·refine Sc ?_
      obtain rfl := Aa h98
      exact .inl ⟨rfl, F1, hs30, (V3 _), fI⟩
    ·rintro f w88 ⟨F7, hs89, le90, ⟨_, rfl⟩⟩
     refine Ab <| Sq (Rg [0, 1, 2] ?_)
     refine Vs 3 <| Nt <| Rt <| Ax <| Ae ?_
     obtain rfl := Aa h95
     exact ReB [(.bool j32.1), (.bool false)] hs89 (le31.t le90) ⟨aj32_8, nj32_8, aj32_9, nj32_9, ej32_9, rfl, rfl, hbj32_8, (V5 hsj32_8 le90), (hrj32_9.mono le90)⟩
  ·refine Sq (Rg [0, 1, 2] ?_)
   refine Vs 3 <| Nt <| Cd h26 (fun hb101 h102 => ?_) (fun hb101 h103 => ?_)
   ·refine Sq (Rg (rG 4) ?_)
    refine Vs 3 <| St0 #[(.bool x0.o_.Report), (.bool x0.o_.Serial), (.bool x0.o_.Zone), (sv x0.l_.Call), (vi x0.l_.Category), (vi x0.l_.Power), (vi x0.l_.Claimed), (.slice a0_7 x0.l_.Jumps.length n0_7), (.slice a0_8 x0.l_.Lines.length n0_8), (fV 153 #[]), (fV 154 #[]), (fV 190 #[(pt tb0_9_0 0), (pt tb0_9_1 0), (pt tb0_9_2 0), (pt tb0_9_3 0)]), (fV 191 #[(pt tb0_9_0 0), (pt tb0_9_3 0)]), (fV 190 #[(pt tb0_9_4 0), (pt tb0_9_5 0), (pt tb0_9_6 0), (pt tb0_9_7 0)]), (fV 191 #[(pt tb0_9_4 0), (pt tb0_9_7 0)]), (fV 190 #[(pt tb0_9_8 0), (pt tb0_9_9 0), (pt tb0_9_10 0), (pt tb0_9_11 0)]), (fV 191 #[(pt tb0_9_8 0), (pt tb0_9_11 0)]), (fV 159 #[]), (fV 160 #[]), (vi x0.done_), (.bool true)] hs0 (fun w104 hs105 => ?_)
    refine Nss (Rg [0, 1] ?_)
    refine Vs 2 <| Nt <| Rt <| Ax <| Ae ?_
    obtain rfl := Aa h102
    exact ReB [(.bool true), (.bool false)] hs105 (V3 _) ⟨a0_7, n0_7, a0_8, n0_8, e0_8, rfl, rfl, hb0_7, hs0_7, hr0_8⟩
   ·refine Sc ?_
    refine Ap <| Ab <| Sq (Rg (rG 12) ?_)
    refine Vs 3 <| Ld hs0.at0 <| Vs 1 ?_
    obtain ⟨r106, hr107, h108⟩ := bind_some h103
    refine Cl' GE hs0 (Hj N w0 F0 hs0.pers hG (({ Report := x0.o_.Report, Serial := x0.o_.Serial, Zone := x0.o_.Zone } : Ac)) x1 _ hr107) ?_
    rintro _ F8 w110 hs111 le112 rfl
    refine Vs 3 <| Al' 34 #[(vi 0), (vi 0), (vi 0), (vi 0), (sv (([] : Wn))), (vi 0), (vi 0), (vi 0), (vi 0), (vi 0), (vi 0)] hs111 (fun b114 w115 hs116 => ?_)
    refine St0 (BL r106.1) hs116 (fun w117 hs118 => ?_)
    refine Vs 1 <| Nss <| Sq (Rg (rG 7) ?_)
    refine Vs 4 <| Ld hs118.at1 <| Vs 2 <| Nss ?_
    obtain ⟨j124, hj129, h130⟩ := bind_some h108
    refine RD 36 36 [(sb b114 (BL r106.1) 34), (sb bp0 #[(.bool x0.o_.Report), (.bool x0.o_.Serial), (.bool x0.o_.Zone), (sv x0.l_.Call), (vi x0.l_.Category), (vi x0.l_.Power), (vi x0.l_.Claimed), (.slice a0_7 x0.l_.Jumps.length n0_7), (.slice a0_8 x0.l_.Lines.length n0_8), (fV 153 #[]), (fV 154 #[]), (fV 190 #[(pt tb0_9_0 0), (pt tb0_9_1 0), (pt tb0_9_2 0), (pt tb0_9_3 0)]), (fV 191 #[(pt tb0_9_0 0), (pt tb0_9_3 0)]), (fV 190 #[(pt tb0_9_4 0), (pt tb0_9_5 0), (pt tb0_9_6 0), (pt tb0_9_7 0)]), (fV 191 #[(pt tb0_9_4 0), (pt tb0_9_7 0)]), (fV 190 #[(pt tb0_9_8 0), (pt tb0_9_9 0), (pt tb0_9_10 0), (pt tb0_9_11 0)]), (fV 191 #[(pt tb0_9_8 0), (pt tb0_9_11 0)]), (fV 159 #[]), (fV 160 #[]), (vi x0.done_), (.bool x0.ended_)] 130), e0_8] [] hs118 (fun f w => ∃ (F9 : Mem), HS wb Fb w F9 ((sb b114 (BL r106.1) 34) :: (sb bp0 #[(.bool x0.o_.Report), (.bool x0.o_.Serial), (.bool x0.o_.Zone), (sv x0.l_.Call), (vi x0.l_.Category), (vi x0.l_.Power), (vi x0.l_.Claimed), (.slice a0_7 x0.l_.Jumps.length n0_7), (.slice a0_8 x0.l_.Lines.length n0_8), (fV 153 #[]), (fV 154 #[]), (fV 190 #[(pt tb0_9_0 0), (pt tb0_9_1 0), (pt tb0_9_2 0), (pt tb0_9_3 0)]), (fV 191 #[(pt tb0_9_0 0), (pt tb0_9_3 0)]), (fV 190 #[(pt tb0_9_4 0), (pt tb0_9_5 0), (pt tb0_9_6 0), (pt tb0_9_7 0)]), (fV 191 #[(pt tb0_9_4 0), (pt tb0_9_7 0)]), (fV 190 #[(pt tb0_9_8 0), (pt tb0_9_9 0), (pt tb0_9_10 0), (pt tb0_9_11 0)]), (fV 191 #[(pt tb0_9_8 0), (pt tb0_9_11 0)]), (fV 159 #[]), (fV 160 #[]), (vi x0.done_), (.bool x0.ended_)] 130) :: e0_8 :: Lf) /\ V2 F8 F9 /\ FI f [] [(0, (pt bp0 0)), (6, (pt b114 0)), (100, (.bool j124))]) (fun wd119 hw120 => ?_) ?_
    ·refine Dvl [0, 1, 2] (tf 3 33) ?_
     refine Sd hj129 (fun hb131 h132 => ?_) (fun hb131 h133 => ?_)
     ·refine Dgl 3 68 0 (pt b114 0) (tf 4 32) 2 true 67 hb131 (fun _ hq => fa 34 6 0 0 1 b114 0 0) ?_
      refine Dgl 4 69 3 _ (tf 5 31) 2 true 67 hb131 (fun _ hq => ld 3 68 b114 0 false 1 (vi r106.1.Num) (hq.1.2 0 _ _ rfl)) <| Dgl 5 70 128 _ (tf 6 30) 2 true 67 hb131 (fun _ hq => mv 0 (pt bp0 0)) <| Dgl 6 71 0 (pt bp0 0) (tf 7 29) 2 true 67 hb131 (fun _ hq => Eh (x := (.tmp 70)) (a := ⟨bp0, 0, none⟩) rfl) <| Dgl 7 72 0 (pt bp0 3) (tf 8 28) 2 true 67 hb131 (fun _ hq => fa 130 71 1 3 6 bp0 0 3) <| Dgl 8 73 0 (pt bp0 8) (tf 9 27) 2 true 67 hb131 (fun _ hq => fa 27 72 5 5 1 bp0 3 8) <| Dgl 9 74 25 _ (tf 10 26) 2 true 67 hb131 (fun _ hq => ld 25 73 bp0 8 false 1 (.slice a0_8 x0.l_.Lines.length n0_8) (hq.1.2 1 _ _ rfl)) <| Dgl 10 75 3 _ (tf 11 25) 2 true 67 hb131 (fun _ hq => mv 8 (vi (x0.l_.Lines.length : Int))) <| Dgl 11 76 3 (vi (W64 ((x0.l_.Lines.length : Int) - 1))) (tf 12 24) 2 true 67 hb131 (fun _ hq => Gl (t := 3) (t' := 3) (x := (.tmp 75)) (y := (.const (vi 1))) (k := .i64) (a := (x0.l_.Lines.length : Int)) (b := 1) rfl rfl) ?_
      obtain ⟨x134, hx135, h137⟩ := bind_some h132
      obtain ⟨hi136, hx135'⟩ := Aj hx135
      obtain ⟨b138, C139, rfl, rfl, hE142⟩ := Ar.open (hr0_8.mono le112) hx135'
      have hr143 := (hr0_8.mono le112)
      have hc145 := hE142 _ _ hx135'
      refine Dgl 12 77 0 (.pointer (some ⟨b138, (((W64 ((x0.l_.Lines.length : Int) - 1)) : Int).toNat * 11), none⟩)) (tf 13 23) 2 true 67 hb131 (fun _ hq => DW (t := 25) (x := (.tmp 74)) (y := (.tmp 76)) (b := b138) (E := 34) (s := 11) (by_ := 96) rfl rfl (by kernel_rfl) hi136) <| Dgl 13 78 0 (.pointer (some ⟨b138, (((W64 ((x0.l_.Lines.length : Int) - 1)) : Int).toNat * 11), none⟩)) (tf 14 22) 2 true 67 hb131 (fun _ hq => fa 34 77 0 0 1 b138 (((W64 ((x0.l_.Lines.length : Int) - 1)) : Int).toNat * 11) (((W64 ((x0.l_.Lines.length : Int) - 1)) : Int).toNat * 11)) <| Dgl 14 79 3 _ (tf 15 21) 2 true 67 hb131 (fun _ hq => lx 3 78 0 11 false 1 (vi x134.Num) (hq.1.2 2 _ _ rfl) hc145) <| Dgl 15 80 4 (.bool (decide (r106.1.Num <= x134.Num))) (tf 16 20) 2 true 67 hb131 (fun _ hq => I7 (t := 3) (t' := 3) (x := (.tmp 69)) (y := (.tmp 79)) (k := .i64) (a := r106.1.Num) (b := x134.Num) rfl rfl) <| Dgl 16 81 4 _ (tf 17 19) 2 true 67 hb131 (fun _ hq => mv 80 (.bool (decide (r106.1.Num <= x134.Num)))) <| Sd h137 (fun hb146 h147 => ?_) (fun hb146 h148 => ?_)
      ·refine Dkl [(17, 82), (18, 83), (19, 84), (20, 85), (21, 86), (22, 87)] 16 false 81 hb146 (tf 23 13) ?_
       refine Dkl [(23, 88), (24, 89), (25, 90), (26, 91), (27, 92), (28, 93)] 16 false 81 hb146 (tf 29 7) <| Dkl [(29, 94)] 16 false 81 hb146 (tf 30 6) <| Dgl 30 95 4 _ (tf 31 5) 2 true 67 hb131 (fun _ hq => p1 81 (.const (.bool true)) (.tmp 94) (.bool true) hb146) <| Dtl 31 96 4 _ (tf 32 4) (fun _ hq => p1 67 (.tmp 95) (.const (.bool false)) (.bool true) hb131) <| Dvl [32] (tf 33 3) <| Dkl [(33, 98), (34, 99)] 32 false 97 rfl (tf 35 1) <| Dtl 35 100 4 _ (tf 36 0) (fun _ hq => p1 97 (.const (.bool true)) (.tmp 99) (.bool true) rfl) ?_
       obtain rfl := Aa h147
       exact Wf (by kernel_rfl) ⟨F8, hw120, (V3 _), fI⟩
      ·refine Dgl 17 82 0 (pt b114 3) (tf 18 18) 16 false 81 hb146 (fun _ hq => fa 34 6 3 3 1 b114 0 3) ?_
       refine Dgl 18 83 3 _ (tf 19 17) 16 false 81 hb146 (fun _ hq => ld 3 82 b114 3 false 1 (vi r106.1.Minute) (hq.1.2 0 _ _ rfl)) <| Dgl 19 84 128 _ (tf 20 16) 16 false 81 hb146 (fun _ hq => mv 0 (pt bp0 0)) <| Dgl 20 85 0 (pt bp0 0) (tf 21 15) 16 false 81 hb146 (fun _ hq => Eh (x := (.tmp 84)) (a := ⟨bp0, 0, none⟩) rfl) <| Dgl 21 86 0 (pt bp0 3) (tf 22 14) 16 false 81 hb146 (fun _ hq => fa 130 85 1 3 6 bp0 0 3) <| Dgl 22 87 0 (pt bp0 8) (tf 23 13) 16 false 81 hb146 (fun _ hq => fa 27 86 5 5 1 bp0 3 8) <| Dgl 23 88 25 _ (tf 24 12) 16 false 81 hb146 (fun _ hq => ld 25 87 bp0 8 false 1 (.slice (some ⟨b138, 0, none⟩) x0.l_.Lines.length n0_8) (hq.1.2 1 _ _ rfl)) <| Dgl 24 89 3 _ (tf 25 11) 16 false 81 hb146 (fun _ hq => mv 8 (vi (x0.l_.Lines.length : Int))) <| Dgl 25 90 3 (vi (W64 ((x0.l_.Lines.length : Int) - 1))) (tf 26 10) 16 false 81 hb146 (fun _ hq => Gl (t := 3) (t' := 3) (x := (.tmp 89)) (y := (.const (vi 1))) (k := .i64) (a := (x0.l_.Lines.length : Int)) (b := 1) rfl rfl) ?_
       obtain ⟨x149, hx150, h152⟩ := bind_some h148
       obtain ⟨hi151, hx150'⟩ := Aj hx150
       obtain ⟨b153, C154, ha155, he156, hE157⟩ := Ar.open hr143 hx150'
       cases ha155
       cases he156
       have hc159 := hE157 _ _ hx150'
       refine Dgl 26 91 0 (.pointer (some ⟨b138, (((W64 ((x0.l_.Lines.length : Int) - 1)) : Int).toNat * 11), none⟩)) (tf 27 9) 16 false 81 hb146 (fun _ hq => DW (t := 25) (x := (.tmp 88)) (y := (.tmp 90)) (b := b138) (E := 34) (s := 11) (by_ := 96) rfl rfl (by kernel_rfl) hi151) <| Dgl 27 92 0 (.pointer (some ⟨b138, ((((W64 ((x0.l_.Lines.length : Int) - 1)) : Int).toNat * 11) + 3), none⟩)) (tf 28 8) 16 false 81 hb146 (fun _ hq => fa 34 91 3 3 1 b138 (((W64 ((x0.l_.Lines.length : Int) - 1)) : Int).toNat * 11) ((((W64 ((x0.l_.Lines.length : Int) - 1)) : Int).toNat * 11) + 3)) <| Dgl 28 93 3 _ (tf 29 7) 16 false 81 hb146 (fun _ hq => lx 3 92 3 11 false 1 (vi x149.Minute) (hq.1.2 2 _ _ rfl) hc159) <| Dgl 29 94 4 (.bool (decide (r106.1.Minute < x149.Minute))) (tf 30 6) 16 false 81 hb146 (fun _ hq => Hp (t := 3) (t' := 3) (x := (.tmp 83)) (y := (.tmp 93)) (k := .i64) (a := r106.1.Minute) (b := x149.Minute) rfl rfl) <| Dgl 30 95 4 _ (tf 31 5) 2 true 67 hb131 (fun _ hq => p0 81 (.const (.bool true)) (.tmp 94) (.bool (decide (r106.1.Minute < x149.Minute))) hb146) <| Dtl 31 96 4 _ (tf 32 4) (fun _ hq => p1 67 (.tmp 95) (.const (.bool false)) (.bool (decide (r106.1.Minute < x149.Minute))) hb131) <| Dvl [32] (tf 33 3) <| Sd h152 (fun hb160 h161 => ?_) (fun hb160 h162 => ?_)
       ·refine Dkl [(33, 98), (34, 99)] 32 false 97 hb160 (tf 35 1) ?_
        refine Dtl 35 100 4 _ (tf 36 0) (fun _ hq => p1 97 (.const (.bool true)) (.tmp 99) (.bool true) hb160) ?_
        obtain rfl := Aa h161
        exact Wf (by kernel_rfl) ⟨F8, hw120, (V3 _), fI⟩
       ·refine Dgl 33 98 35 _ (tf 34 2) 32 false 97 hb160 (fun _ hq => mv 7 (vi r106.2)) ?_
        refine Dgl 34 99 4 (.bool (r106.2 != 0)) (tf 35 1) 32 false 97 hb160 (fun _ hq => ML (t := 35) (t' := 35) (x := (.tmp 98)) (y := (.const (vi 0))) (k := .i64) (a := r106.2) (b := 0) rfl rfl) <| Dtl 35 100 4 _ (tf 36 0) (fun _ hq => p0 97 (.const (.bool true)) (.tmp 99) (.bool (r106.2 != 0)) hb160) ?_
        obtain rfl := Aa h162
        exact Wf (by kernel_rfl) ⟨F8, hw120, (V3 _), fI⟩
     ·refine Dkl [(3, 68), (4, 69), (5, 70), (6, 71), (7, 72), (8, 73)] 2 true 67 hb131 (tf 9 27) ?_
      refine Dkl [(9, 74), (10, 75), (11, 76), (12, 77), (13, 78), (14, 79)] 2 true 67 hb131 (tf 15 21) <| Dkl [(15, 80), (16, 81)] 2 true 67 hb131 (tf 17 19) <| Dul [(17, 82), (18, 83), (19, 84), (20, 85), (21, 86), (22, 87)] 16 false 81 (tf 23 13) <| Dul [(23, 88), (24, 89), (25, 90), (26, 91), (27, 92), (28, 93)] 16 false 81 (tf 29 7) <| Dul [(29, 94)] 16 false 81 (tf 30 6) <| Dkl [(30, 95)] 2 true 67 hb131 (tf 31 5) <| Dtl 31 96 4 _ (tf 32 4) (fun _ hq => p0 67 (.tmp 95) (.const (.bool false)) (.bool false) hb131) <| Dvl [32] (tf 33 3) <| Dgl 33 98 35 _ (tf 34 2) 32 false 97 rfl (fun _ hq => mv 7 (vi r106.2)) <| Dgl 34 99 4 (.bool (r106.2 != 0)) (tf 35 1) 32 false 97 rfl (fun _ hq => ML (t := 35) (t' := 35) (x := (.tmp 98)) (y := (.const (vi 0))) (k := .i64) (a := r106.2) (b := 0) rfl rfl) <| Dtl 35 100 4 _ (tf 36 0) (fun _ hq => p0 97 (.const (.bool true)) (.tmp 99) (.bool (r106.2 != 0)) rfl) ?_
      obtain rfl := Aa h133
      exact Wf (by kernel_rfl) ⟨F8, hw120, (V3 _), fI⟩
    ·rintro f w121 ⟨F9, hs122, le123, ⟨_, rfl⟩⟩
     refine Ab <| Cd h130 (fun hb163 h164 => ?_) (fun hb163 h165 => ?_)
     ·refine Sq (Rg [0, 1] ?_)
      refine Vs 2 <| Nt <| Rt <| Ae ?_
      obtain rfl := Aa h164
      exact ReB [(.bool false), (.bool false)] hs122.dr0 (le112.t le123) ⟨a0_7, n0_7, a0_8, n0_8, e0_8, rfl, rfl, hb0_7, (V5 hs0_7 (le112.t le123)), (hr0_8.mono (le112.t le123))⟩
     ·refine Sc ?_
      refine Ab <| Sq <| Sq (Rg (rG 7) ?_)
      refine Vs 4 <| Ld hs122.at1 <| Vs 2 <| Nt <| Cd h165 (fun hb166 h167 => ?_) (fun hb166 h168 => ?_)
      ·refine Sq (Rg [0, 1] ?_)
       refine Vs 2 <| Nt <| Rt <| Ae ?_
       obtain rfl := Aa h167
       exact ReB [(.bool false), (.bool true)] hs122.dr0 (le112.t le123) ⟨a0_7, n0_7, a0_8, n0_8, e0_8, rfl, rfl, hb0_7, (V5 hs0_7 (le112.t le123)), (hr0_8.mono (le112.t le123))⟩
      ·refine Sc ?_
       refine Ab <| Sq ?_
       obtain ⟨j174, hj176, h177⟩ := bind_some h168
       refine RD 12 13 [(sb b114 (BL r106.1) 34)] [(sb bp0 #[(.bool x0.o_.Report), (.bool x0.o_.Serial), (.bool x0.o_.Zone), (sv x0.l_.Call), (vi x0.l_.Category), (vi x0.l_.Power), (vi x0.l_.Claimed), (.slice a0_7 x0.l_.Jumps.length n0_7), (.slice a0_8 x0.l_.Lines.length n0_8), (fV 153 #[]), (fV 154 #[]), (fV 190 #[(pt tb0_9_0 0), (pt tb0_9_1 0), (pt tb0_9_2 0), (pt tb0_9_3 0)]), (fV 191 #[(pt tb0_9_0 0), (pt tb0_9_3 0)]), (fV 190 #[(pt tb0_9_4 0), (pt tb0_9_5 0), (pt tb0_9_6 0), (pt tb0_9_7 0)]), (fV 191 #[(pt tb0_9_4 0), (pt tb0_9_7 0)]), (fV 190 #[(pt tb0_9_8 0), (pt tb0_9_9 0), (pt tb0_9_10 0), (pt tb0_9_11 0)]), (fV 191 #[(pt tb0_9_8 0), (pt tb0_9_11 0)]), (fV 159 #[]), (fV 160 #[]), (vi x0.done_), (.bool x0.ended_)] 130)] hs122 (fun f w => ∃ (F10 : Mem) (aj174_0 : Wo) (nj174_0 : Nat) (ej174_0 : Option Nat × Obj), HS wb Fb w F10 ((sb bp0 #[(.bool x0.o_.Report), (.bool x0.o_.Serial), (.bool x0.o_.Zone), (sv x0.l_.Call), (vi x0.l_.Category), (vi x0.l_.Power), (vi x0.l_.Claimed), (.slice a0_7 x0.l_.Jumps.length n0_7), (.slice aj174_0 j174.length nj174_0), (fV 153 #[]), (fV 154 #[]), (fV 190 #[(pt tb0_9_0 0), (pt tb0_9_1 0), (pt tb0_9_2 0), (pt tb0_9_3 0)]), (fV 191 #[(pt tb0_9_0 0), (pt tb0_9_3 0)]), (fV 190 #[(pt tb0_9_4 0), (pt tb0_9_5 0), (pt tb0_9_6 0), (pt tb0_9_7 0)]), (fV 191 #[(pt tb0_9_4 0), (pt tb0_9_7 0)]), (fV 190 #[(pt tb0_9_8 0), (pt tb0_9_9 0), (pt tb0_9_10 0), (pt tb0_9_11 0)]), (fV 191 #[(pt tb0_9_8 0), (pt tb0_9_11 0)]), (fV 159 #[]), (fV 160 #[]), (vi x0.done_), (.bool x0.ended_)] 130) :: ej174_0 :: Lf) /\ V2 F9 F10 /\ FI f [] [] /\ Ar AL 34 F10 aj174_0 nj174_0 j174 ej174_0) (fun wd169 hw170 => ?_) ?_
       ·refine Dv [0, 1, 2, 3, 4] ?_
        refine Dl 5 (fun _ hq => ((hq.2 rfl).2 0 _ _ rfl)) <| Dl 6 (fun _ hq => (hq.1.2 0 _ _ rfl)) <| D1 7 <| DBs 34 [(vi r106.1.Num), (vi r106.1.Khz), (vi r106.1.Mode), (vi r106.1.Minute), (sv r106.1.Call), (vi r106.1.Sent.Report), (vi r106.1.Sent.Serial), (vi r106.1.Sent.Zone), (vi r106.1.Got.Report), (vi r106.1.Got.Serial), (vi r106.1.Got.Zone)] hw170 (V3 _) (fun b178 w179 hs180 => ?_)
        have hr182 : Ar AL 34 F9 (some ⟨b178, 0, none⟩) 1 [r106.1] (some b178, .cells ([(vi r106.1.Num), (vi r106.1.Khz), (vi r106.1.Mode), (vi r106.1.Minute), (sv r106.1.Call), (vi r106.1.Sent.Report), (vi r106.1.Sent.Serial), (vi r106.1.Sent.Zone), (vi r106.1.Got.Report), (vi r106.1.Got.Serial), (vi r106.1.Got.Zone)] : List Value).toArray 34 (0, 0)) := Wi ⟨rfl, rfl⟩ (by simp)
        refine D1 8 ?_
        obtain ⟨r183, hap184, h185⟩ := bind_some hj176
        refine VW SQ hs180 (hr0_8.mono (le112.t le123)) (hs180.rd0 hr182) hap184 (V3 _) (fun a186 n187 e188 w189 hs190 hr191 => ?_)
        refine D1 9 <| Wc (l' := [true, true, true, true, true, true, true, true, true, true, false, false, false]) (zd := false) (by kernel_rfl) (by kernel_rfl) (dst := (some 117)) (ty := 0) (g := none) (by kernel_rfl) rfl (Eh (x := (.tmp 108)) (a := ⟨bp0, 0, none⟩) rfl) (Bd hs190 (V3 _) (by simp) (fun _ => by simp)) <| D1 10 <| Wc (l' := [true, true, true, true, true, true, true, true, true, true, true, false, false]) (zd := false) (by kernel_rfl) (by kernel_rfl) (dst := (some 118)) (ty := 0) (g := none) (by kernel_rfl) rfl (CU (s := 130) (x := (.tmp 117)) (i := 1) (o := 3) (k := 6) (b := bp0) (o0 := 0) rfl (by kernel_rfl) rfl (o1 := 3) rfl) (Bd hs190 (V3 _) (by simp) (fun _ => by simp)) <| Dv [11] <| D1 12 <| OE #[(.bool x0.o_.Report), (.bool x0.o_.Serial), (.bool x0.o_.Zone), (sv x0.l_.Call), (vi x0.l_.Category), (vi x0.l_.Power), (vi x0.l_.Claimed), (.slice a0_7 x0.l_.Jumps.length n0_7), (.slice a186 r183.length n187), (fV 153 #[]), (fV 154 #[]), (fV 190 #[(pt tb0_9_0 0), (pt tb0_9_1 0), (pt tb0_9_2 0), (pt tb0_9_3 0)]), (fV 191 #[(pt tb0_9_0 0), (pt tb0_9_3 0)]), (fV 190 #[(pt tb0_9_4 0), (pt tb0_9_5 0), (pt tb0_9_6 0), (pt tb0_9_7 0)]), (fV 191 #[(pt tb0_9_4 0), (pt tb0_9_7 0)]), (fV 190 #[(pt tb0_9_8 0), (pt tb0_9_9 0), (pt tb0_9_10 0), (pt tb0_9_11 0)]), (fV 191 #[(pt tb0_9_8 0), (pt tb0_9_11 0)]), (fV 159 #[]), (fV 160 #[]), (vi x0.done_), (.bool x0.ended_)] hs190 (V3 _) (fun w192 hs193 => ?_)
        obtain rfl := Aa h185
        exact Wf (by kernel_rfl) ⟨F9, a186, n187, e188, hs193.dr0.dr0, (V3 _), fI, hr191⟩
       ·rintro f w171 ⟨F10, aj174_0, nj174_0, ej174_0, hs172, le173, ⟨_, rfl⟩, hrj174_0⟩
        refine Ab <| Sq (Rg [0, 1] ?_)
        refine Vs 2 <| Nt <| Rt ?_
        obtain rfl := Aa h177
        exact ReB [(.bool true), (.bool false)] hs172 ((le112.t le123).trans le173) ⟨a0_7, n0_7, aj174_0, nj174_0, ej174_0, rfl, rfl, hb0_7, (V5 hs0_7 ((le112.t le123).trans le173)), hrj174_0⟩
def HT {σ : Type} (N : Nat) (y : (σ -> (Wn × Bool) -> Option (Bool × σ))) (z0 : Wn) (s : σ) : (Wn × σ) -> Option (A4 σ (Wn × σ)) := fun s4 =>
 (bif (s4.1 != ([] : Wn)) then ((strings_Cut N s4.1 ([10] : Wn)).bind fun r29 => ((y s4.2 (r29.1, r29.2.2)).bind fun q37 => (bif (!q37.1) then none else some (.next (r29.2.1, q37.2))))) else some (.done (s4.1, s4.2)))
def Em {σ : Type} (N : Nat) (y : σ -> (Wn × Bool) -> Option (Bool × σ)) (z0 : Wn) (s : σ) : Option σ :=
 ((AJ (HT N y z0 s) N (z0, s)).bind fun o => o.k (fun r => some r) (fun s13 => some s13.2))
theorem HY : Af Tryz.prog 169 := fun _ _ => by kernel_rfl
theorem I0 (N : Nat) (F0 : Mem) (hG : Br F0) (z0 : Wn) (bz0 : Nat) :
  RL Tryz.prog 169 [(pt bz0 0)] F0 [(sb bz0 #[(sv z0)] 9)] QZ SP SH (fun {_} y s => Em N y z0 s) := by
 intro σ wb w0 Fb F1 l y J s r Lf le01 hJm hs0 hJ hY h
 have hs0 : HS wb Fb w0 F1 ((sb bz0 #[(sv z0)] 9) :: Lf) := hs0
 refine NR (n := 20) (c := N1 Tryz.f169) Tryz.func169 (by kernel_rfl) (by kernel_rfl) (by kernel_rfl) ?_
 obtain ⟨o1, ho2, h3⟩ := bind_some h
 refine V9 (fun f w => ∃ (s13 : (Wn × σ)) (F3 : Mem) (Lf17 : Own), o1 = .done s13 /\ HS wb Fb w F3 Lf17 /\ V2 F1 F3 /\ FI f [] [] /\ J s13.2 F3 Lf17) ?_ ?_
 ·refine Bk ?_
  refine V1 (by kernel_rfl) (fun m f w => ∃ (s4 : (Wn × σ)) (F2 : Mem) (Lf8 : Own), AJ (HT N y z0 s) m s4 = some o1 /\ HS wb Fb w F2 ((sb bz0 #[(sv s4.1)] 9) :: Lf8) /\ V2 F1 F2 /\ FI f [] [(0, (.func (.yield l) #[] #[])), (1, (pt bz0 0))] /\ J s4.2 F2 Lf8) N ⟨(z0, s), F1, Lf, ho2, hs0, (V3 _), fI, hJ⟩ ?_
  rintro m20 f w5 ⟨s4, F2, Lf8, hit21, hs6, le7, ⟨_, rfl⟩, hJ9⟩
  obtain ⟨m22, fl23, rfl, hb24, hnx25⟩ := AC hit21
  refine Sq <| Sq (Rg [0, 1] ?_)
  refine Ld hs6.at0 <| Vs 1 <| Nt <| Cd hb24 (fun hb26 h27 => ?_) (fun hb26 h28 => ?_)
  ·refine Sc ?_
   refine Ab <| Bk <| Sq (Rg (rG 9) ?_)
   refine Ld hs6.at0 ?_
   obtain ⟨r29, hr30, h31⟩ := bind_some h27
   refine Cl' II hs6 (JL N w5 F2 hs6.pers (hG.mono (le01.t le7)) s4.1 (([10] : Wn)) _ hr30) ?_
   rintro _ F4 w33 hs34 le35 rfl
   refine Vs 1 <| Vs 1 <| Vs 1 <| Vs 1 <| Vs 1 <| Vs 1 <| Vs 1 <| Nss <| Sq (Rg (rG 5) ?_)
   refine Vs 1 <| Vs 1 <| Vs 1 ?_
   obtain ⟨q37, hq38, h39⟩ := bind_some h31
   refine RWP.yield (dst := (some 17)) (ty := 4) (g := none) (by kernel_rfl) rfl (f0 := (.tmp 14)) (aos := #[(.tmp 15), (.tmp 16)]) (ats := #[9, 4]) (l := l) (args := [(sv r29.1), (.bool r29.2.2)]) rfl rfl (hY s4.2 (r29.1, r29.2.2) w33 F4 [(sb bz0 #[(sv s4.1)] 9)] Lf8 q37 (le7.t le35) trivial (hJm _ _ _ _ hJ9 le35) hs34 hq38) ?_
   rintro _ w40 ⟨F5, Lf44, rfl, hs41, le42, hJ43⟩
   have hs45 : HS wb Fb w40 F5 ((sb bz0 #[(sv s4.1)] 9) :: Lf44) := hs41
   refine ⟨_, rfl, ?_⟩
   refine Vs 1 <| Nt <| Cd h39 (fun hb46 h47 => ?_) (fun hb46 h48 => ?_)
   ·cases h47
   ·refine Sc ?_
    refine Ab <| Rg [0, 1] <| Vs 1 <| St0 #[(sv r29.2.1)] hs45 (fun w49 hs50 => ?_)
    refine VY <| Ap ?_
    have hn51 := AD h48 hnx25
    exact ⟨m22, Nat.lt_succ_self _, (r29.2.1, q37.2), F5, Lf44, hn51, hs50, ((le7.t le35).trans le42), fI, hJ43⟩
  ·refine Ex ?_
   refine Al <| Al <| Ay rfl ?_
   have ho52 := AE h28 hnx25
   exact .inl ⟨rfl, (s4.1, s4.2), F2, Lf8, ho52, hs6.dr0, le7, fI, hJ9⟩
 ·rintro f w14 ⟨s13, F3, Lf17, rfl, hs15, le16, ⟨_, rfl⟩, hJ18⟩
  have h53 := A6 h3
  have hfin := Aa h53
  subst hfin
  exact ⟨rfl, .tuple #[], AW (l := []) (by kernel_rfl) (vs := []) trivial, F3, Lf17, rfl, hs15, le16, hJ18⟩
theorem JI : Af Tryz.prog 105 := fun _ _ => by kernel_rfl
set_option maxRecDepth 100000 in
theorem KV (w0 : World) (F0 : Mem) (hF : Wp w0 F0) (x0 : Wn) :
  Calls Tryz.prog 105 ([(.string ⟨x0.toArray⟩)] : List Value).toArray w0 (N4 w0 F0 fun _ v L' => ∃ (b0 : Nat), v = .func (.func 169) #[] #[.pointer (some ⟨b0, 0, none⟩)] /\ L' = [(some b0, .cells #[(.string ⟨x0.toArray⟩)] 9 (0, 0))]) := by
 have hs0 := V4 hF
 refine Go 4 Tryz.func105 <| Sq (Rg [0, 1] ?_)
 refine Bx' 9 #[(.string ⟨x0.toArray⟩)] hs0 (fun b0 w1 hs1 => ?_)
 refine Vs 1 <| Nss (Rg [0, 1] ?_)
 refine Vs 2 <| Nt <| Rt ?_
 exact ⟨rfl, _, AW (l := [.tmp 2]) (by kernel_rfl) (vs := [.func (.func 169) #[] #[.pointer (some ⟨b0, 0, none⟩)]]) ⟨by kernel_rfl, trivial⟩, _, F0, _, rfl, hs1, b0, rfl, rfl⟩
def JA (N : Nat) (x0 : Ac) (x1 : Wn) : (Int × Int × Bool × Bool × Bool × Wn × Int × Int × Int × List Int × List Line × Int × Bool × Int) -> (Wn × Bool) -> Option ((Int × Int × Bool × Bool × Bool × Wn × Int × Int × Int × List Int × List Line × Int × Bool × Int) × Bool) := fun s103 x116 =>
 ((bif x116.2 then ((Gt N ({ o_ := ({ Report := s103.2.2.1, Serial := s103.2.2.2.1, Zone := s103.2.2.2.2.1 } : Ac), l_ := ({ Call := s103.2.2.2.2.2.1, Category := s103.2.2.2.2.2.2.1, Power := s103.2.2.2.2.2.2.2.1, Claimed := s103.2.2.2.2.2.2.2.2.1, Jumps := s103.2.2.2.2.2.2.2.2.2.1, Lines := s103.2.2.2.2.2.2.2.2.2.2.1 } : Log), done_ := s103.2.2.2.2.2.2.2.2.2.2.2.1, ended_ := s103.2.2.2.2.2.2.2.2.2.2.2.2.1 } : As) x116.1).bind fun r151 => some (r151.2.1, r151.2.2, r151.1.o_.Report, r151.1.o_.Serial, r151.1.o_.Zone, r151.1.l_.Call, r151.1.l_.Category, r151.1.l_.Power, r151.1.l_.Claimed, r151.1.l_.Jumps, r151.1.l_.Lines, r151.1.done_, r151.1.ended_)) else some (false, false, s103.2.2.1, s103.2.2.2.1, s103.2.2.2.2.1, s103.2.2.2.2.2.1, s103.2.2.2.2.2.2.1, s103.2.2.2.2.2.2.2.1, s103.2.2.2.2.2.2.2.2.1, s103.2.2.2.2.2.2.2.2.2.1, s103.2.2.2.2.2.2.2.2.2.2.1, s103.2.2.2.2.2.2.2.2.2.2.2.1, s103.2.2.2.2.2.2.2.2.2.2.2.2.1)).bind fun j136 => (bif j136.2.1 then some ((2, (W64 (s103.2.2.2.2.2.2.2.2.2.2.2.2.2 + 1)), j136.2.2.1, j136.2.2.2.1, j136.2.2.2.2.1, j136.2.2.2.2.2.1, j136.2.2.2.2.2.2.1, j136.2.2.2.2.2.2.2.1, j136.2.2.2.2.2.2.2.2.1, j136.2.2.2.2.2.2.2.2.2.1, j136.2.2.2.2.2.2.2.2.2.2.1, j136.2.2.2.2.2.2.2.2.2.2.2.1, j136.2.2.2.2.2.2.2.2.2.2.2.2, (W64 (s103.2.2.2.2.2.2.2.2.2.2.2.2.2 + 1))), false) else (bif (!j136.1) then some ((20, (W64 (s103.2.2.2.2.2.2.2.2.2.2.2.2.2 + 1)), j136.2.2.1, j136.2.2.2.1, j136.2.2.2.2.1, j136.2.2.2.2.2.1, j136.2.2.2.2.2.2.1, j136.2.2.2.2.2.2.2.1, j136.2.2.2.2.2.2.2.2.1, j136.2.2.2.2.2.2.2.2.2.1, j136.2.2.2.2.2.2.2.2.2.2.1, j136.2.2.2.2.2.2.2.2.2.2.2.1, j136.2.2.2.2.2.2.2.2.2.2.2.2, (W64 (s103.2.2.2.2.2.2.2.2.2.2.2.2.2 + 1))), false) else some ((s103.1, s103.2.1, j136.2.2.1, j136.2.2.2.1, j136.2.2.2.2.1, j136.2.2.2.2.2.1, j136.2.2.2.2.2.2.1, j136.2.2.2.2.2.2.2.1, j136.2.2.2.2.2.2.2.2.1, j136.2.2.2.2.2.2.2.2.2.1, j136.2.2.2.2.2.2.2.2.2.2.1, j136.2.2.2.2.2.2.2.2.2.2.2.1, j136.2.2.2.2.2.2.2.2.2.2.2.2, (W64 (s103.2.2.2.2.2.2.2.2.2.2.2.2.2 + 1))), true))))
def JV (N : Nat) (x0 : Ac) (x1 : Wn) : Option (Log × Int × Int) :=
 (bif (decide ((x1.length : Int) > 65536)) then some (({ Call := ([] : Wn), Category := 0, Power := 0, Claimed := 0, Jumps := ([] : List Int), Lines := ([] : List Line) } : Log), 2, 0) else ((Em N (Tl (JA N x0 x1)) x1 ((0, 0, x0.Report, x0.Serial, x0.Zone, ([] : Wn), 0, 0, 0, ([] : List Int), ([] : List Line), 0, false, 0), true)).bind fun r111 => (bif r111.2 then (bif (!r111.1.2.2.2.2.2.2.2.2.2.2.2.2.1) then some (({ Call := ([] : Wn), Category := 0, Power := 0, Claimed := 0, Jumps := ([] : List Int), Lines := ([] : List Line) } : Log), 20, (W64 (r111.1.2.2.2.2.2.2.2.2.2.2.2.2.2 + 1))) else some (({ Call := r111.1.2.2.2.2.2.1, Category := r111.1.2.2.2.2.2.2.1, Power := r111.1.2.2.2.2.2.2.2.1, Claimed := r111.1.2.2.2.2.2.2.2.2.1, Jumps := r111.1.2.2.2.2.2.2.2.2.2.1, Lines := r111.1.2.2.2.2.2.2.2.2.2.2.1 } : Log), 0, 0)) else some (({ Call := ([] : Wn), Category := 0, Power := 0, Claimed := 0, Jumps := ([] : List Int), Lines := ([] : List Line) } : Log), r111.1.1, r111.1.2.1))))
theorem EZ : Af Tryz.prog 33 := fun _ _ => by kernel_rfl
theorem FB (N : Nat) (w0 : World) (F0 : Mem) (hF : Wp w0 F0) (hG : Br F0) (x0 : Ac) (x1 : Wn) (r : (Log × Int × Int)) (h : JV N x0 x1 = some r) :
  Calls Tryz.prog 33 ([(.agg (Ag x0)), (sv x1)] : List Value).toArray w0 (AA w0 F0 fun F' v => ∃ (aq0_4 : Wo) (nq0_4 : Nat) (aq0_5 : Wo) (nq0_5 : Nat), v = (.tuple #[(.agg (AF r.1 aq0_4 nq0_4 aq0_5 nq0_5)), (vi r.2.1), (vi r.2.2)]) /\ LC r.1.Jumps.length nq0_4 /\ SlA AM F' aq0_4 r.1.Jumps /\ LC r.1.Lines.length nq0_5 /\ SlA AL F' aq0_5 r.1.Lines) := by
 have hs0 := V4 hF
 refine O2 (n := 55) (c := N1 Tryz.f33) Tryz.func33 (by kernel_rfl) (by kernel_rfl) (by kernel_rfl) <| Sq (Rg (rG 4) ?_)
 refine Bx' 23 (Ag x0) hs0 (fun b21 w22 hs23 => ?_)
 refine Al' 27 #[(sv (([] : Wn))), (vi 0), (vi 0), (vi 0), (.slice none ([] : List Int).length 0), (.slice none ([] : List Line).length 0)] hs23 (fun b24 w25 hs26 => ?_)
 refine Al' 35 #[(vi 0)] hs26 (fun b27 w28 hs29 => ?_)
 refine Al' 3 #[(vi 0)] hs29 (fun b30 w31 hs32 => ?_)
 refine Nss <| Sq (Rg [0, 1, 2] ?_)
 refine Vs 3 <| Nt <| Cd h (fun hb33 h34 => ?_) (fun hb33 h35 => ?_)
 ·refine Sq (Rg (rG 4) ?_)
  refine Vs 1 <| St2 #[(sv (([] : Wn))), (vi 0), (vi 0), (vi 0), (.slice none ([] : List Int).length 0), (.slice none ([] : List Line).length 0)] hs32 (fun w36 hs37 => ?_)
  refine St1 #[(vi 2)] hs37 (fun w38 hs39 => ?_)
  refine St0 #[(vi 0)] hs39 (fun w40 hs41 => ?_)
  refine Nt <| Rt <| Ae ?_
  obtain rfl := Aa h34
  exact .inl ⟨rfl, (.tuple #[(.agg #[(sv (([] : Wn))), (vi 0), (vi 0), (vi 0), (.slice none ([] : List Int).length 0), (.slice none ([] : List Line).length 0)]), (vi 2), (vi 0)]), AW (l := [.cell 4 27, .cell 5 35, .cell 6 3]) (by kernel_rfl) (vs := [(.agg #[(sv (([] : Wn))), (vi 0), (vi 0), (vi 0), (.slice none ([] : List Int).length 0), (.slice none ([] : List Line).length 0)]), (vi 2), (vi 0)]) ⟨b24, 0, rfl, An (t := 27) (g := true) (s := 6) (by kernel_rfl) hs41.at2 rfl (by decide), ⟨b27, 0, rfl, An (t := 35) (g := false) (s := 1) (by kernel_rfl) hs41.at1 rfl (by decide), ⟨b30, 0, rfl, An (t := 3) (g := false) (s := 1) (by kernel_rfl) hs41.at0 rfl (by decide), trivial⟩⟩⟩, (.tuple #[(.agg #[(sv (([] : Wn))), (vi 0), (vi 0), (vi 0), (.slice none ([] : List Int).length 0), (.slice none ([] : List Line).length 0)]), (vi 2), (vi 0)]), F0, rfl, hs41.clear, ⟨none, 0, none, 0, rfl, V6, (.inl rfl), V6, (.inl rfl)⟩⟩
 ·refine Sc ?_
  refine Ab <| Sq <| RD 5 6 [(sb b30 #[(vi 0)] 3), (sb b27 #[(vi 0)] 35), (sb b24 #[(sv (([] : Wn))), (vi 0), (vi 0), (vi 0), (.slice none ([] : List Int).length 0), (.slice none ([] : List Line).length 0)] 27), (sb b21 (Ag x0) 23)] [] hs32 (fun f w => ∃ (F1 : Mem) (b47 : Nat) (b48 : Nat) (tbt49_0_0 : Nat) (tbt49_0_1 : Nat) (tbt49_0_2 : Nat) (tbt49_0_3 : Nat) (tbt49_0_4 : Nat) (tbt49_0_5 : Nat) (tbt49_0_6 : Nat) (tbt49_0_7 : Nat) (tbt49_0_8 : Nat) (tbt49_0_9 : Nat) (tbt49_0_10 : Nat) (tbt49_0_11 : Nat), HS w0 F0 w F1 [(sb b47 #[(pt b48 0)] 128), (sb b48 #[(.bool x0.Report), (.bool x0.Serial), (.bool x0.Zone), (sv (([] : Wn))), (vi 0), (vi 0), (vi 0), (.slice none ([] : List Int).length 0), (.slice none ([] : List Line).length 0), (fV 153 #[]), (fV 154 #[]), (fV 190 #[(pt tbt49_0_0 0), (pt tbt49_0_1 0), (pt tbt49_0_2 0), (pt tbt49_0_3 0)]), (fV 191 #[(pt tbt49_0_0 0), (pt tbt49_0_3 0)]), (fV 190 #[(pt tbt49_0_4 0), (pt tbt49_0_5 0), (pt tbt49_0_6 0), (pt tbt49_0_7 0)]), (fV 191 #[(pt tbt49_0_4 0), (pt tbt49_0_7 0)]), (fV 190 #[(pt tbt49_0_8 0), (pt tbt49_0_9 0), (pt tbt49_0_10 0), (pt tbt49_0_11 0)]), (fV 191 #[(pt tbt49_0_8 0), (pt tbt49_0_11 0)]), (fV 159 #[]), (fV 160 #[]), (vi 0), (.bool false)] 130), (sb b30 #[(vi 0)] 3), (sb b27 #[(vi 0)] 35), (sb b24 #[(sv (([] : Wn))), (vi 0), (vi 0), (vi 0), (.slice none ([] : List Int).length 0), (.slice none ([] : List Line).length 0)] 27)] /\ V2 F0 F1 /\ FI f [] [(1, (sv x1)), (4, (pt b24 0)), (5, (pt b27 0)), (6, (pt b30 0)), (7, (pt b47 0))] /\ F1 tbt49_0_0 = some (oc #[(sv (([67, 65, 84, 69, 71, 79, 82, 89] : Wn)))] 9) /\ F1 tbt49_0_1 = some (oc #[(vi 1)] 3) /\ F1 tbt49_0_2 = some (oc #[(vi 9)] 3) /\ F1 tbt49_0_3 = some (oc #[(fV 156 #[])] 195) /\ F1 tbt49_0_4 = some (oc #[(sv (([80, 79, 87, 69, 82] : Wn)))] 9) /\ F1 tbt49_0_5 = some (oc #[(vi 1)] 3) /\ F1 tbt49_0_6 = some (oc #[(vi 9999)] 3) /\ F1 tbt49_0_7 = some (oc #[(fV 157 #[])] 195) /\ F1 tbt49_0_8 = some (oc #[(sv (([67, 76, 65, 73, 77, 69, 68] : Wn)))] 9) /\ F1 tbt49_0_9 = some (oc #[(vi 0)] 3) /\ F1 tbt49_0_10 = some (oc #[(vi 1000000)] 3) /\ F1 tbt49_0_11 = some (oc #[(fV 158 #[])] 195)) (fun wd42 hw43 => ?_) ?_
  ·refine Dl 0 (fun _ hq => (hq.1.2 3 _ _ rfl)) ?_
   refine Wb (i := 1) (j := 4) (by kernel_rfl) ?_ ?_
   ·refine DCl EY hw43 (FA wd42 F0 hw43.pers) ?_
    rintro _ F2 w56 hs57 le58 ⟨tbt59_0_0, tbt59_0_1, tbt59_0_2, tbt59_0_3, tbt59_0_4, tbt59_0_5, tbt59_0_6, tbt59_0_7, tbt59_0_8, tbt59_0_9, tbt59_0_10, tbt59_0_11, rfl, htbt59_0_0, htbt59_0_1, htbt59_0_2, htbt59_0_3, htbt59_0_4, htbt59_0_5, htbt59_0_6, htbt59_0_7, htbt59_0_8, htbt59_0_9, htbt59_0_10, htbt59_0_11⟩
    refine Dv [2] <| Wb (i := 3) (j := 4) (by kernel_rfl) ?_ ?_
    ·refine DBx 130 #[(.bool x0.Report), (.bool x0.Serial), (.bool x0.Zone), (sv (([] : Wn))), (vi 0), (vi 0), (vi 0), (.slice none ([] : List Int).length 0), (.slice none ([] : List Line).length 0), (fV 153 #[]), (fV 154 #[]), (fV 190 #[(pt tbt59_0_0 0), (pt tbt59_0_1 0), (pt tbt59_0_2 0), (pt tbt59_0_3 0)]), (fV 191 #[(pt tbt59_0_0 0), (pt tbt59_0_3 0)]), (fV 190 #[(pt tbt59_0_4 0), (pt tbt59_0_5 0), (pt tbt59_0_6 0), (pt tbt59_0_7 0)]), (fV 191 #[(pt tbt59_0_4 0), (pt tbt59_0_7 0)]), (fV 190 #[(pt tbt59_0_8 0), (pt tbt59_0_9 0), (pt tbt59_0_10 0), (pt tbt59_0_11 0)]), (fV 191 #[(pt tbt59_0_8 0), (pt tbt59_0_11 0)]), (fV 159 #[]), (fV 160 #[]), (vi 0), (.bool false)] hs57 le58 (fun b60 w61 hs62 => ?_)
     refine D1 4 <| DAl 128 #[(.pointer none)] hs62 le58 (fun b63 w64 hs65 => ?_)
     refine D1 5 <| GW #[(pt b60 0)] hs65 le58 (fun w66 hs67 => ?_)
     exact Wf (by kernel_rfl) ⟨F2, b63, b60, tbt59_0_0, tbt59_0_1, tbt59_0_2, tbt59_0_3, tbt59_0_4, tbt59_0_5, tbt59_0_6, tbt59_0_7, tbt59_0_8, tbt59_0_9, tbt59_0_10, tbt59_0_11, hs67.dr5, le58, fI, htbt59_0_0, htbt59_0_1, htbt59_0_2, htbt59_0_3, htbt59_0_4, htbt59_0_5, htbt59_0_6, htbt59_0_7, htbt59_0_8, htbt59_0_9, htbt59_0_10, htbt59_0_11⟩
    ·refine DAl 128 #[(.pointer none)] hs57 le58 (fun b68 w69 hs70 => ?_)
     refine D1 3 <| DBx 130 #[(.bool x0.Report), (.bool x0.Serial), (.bool x0.Zone), (sv (([] : Wn))), (vi 0), (vi 0), (vi 0), (.slice none ([] : List Int).length 0), (.slice none ([] : List Line).length 0), (fV 153 #[]), (fV 154 #[]), (fV 190 #[(pt tbt59_0_0 0), (pt tbt59_0_1 0), (pt tbt59_0_2 0), (pt tbt59_0_3 0)]), (fV 191 #[(pt tbt59_0_0 0), (pt tbt59_0_3 0)]), (fV 190 #[(pt tbt59_0_4 0), (pt tbt59_0_5 0), (pt tbt59_0_6 0), (pt tbt59_0_7 0)]), (fV 191 #[(pt tbt59_0_4 0), (pt tbt59_0_7 0)]), (fV 190 #[(pt tbt59_0_8 0), (pt tbt59_0_9 0), (pt tbt59_0_10 0), (pt tbt59_0_11 0)]), (fV 191 #[(pt tbt59_0_8 0), (pt tbt59_0_11 0)]), (fV 159 #[]), (fV 160 #[]), (vi 0), (.bool false)] hs70 le58 (fun b71 w72 hs73 => ?_)
     refine D1 5 <| MK #[(pt b71 0)] hs73 le58 (fun w74 hs75 => ?_)
     have hs76 := hs75.dr5.pk4.pk4.pk4.pk3.pk4
     exact Wf (by kernel_rfl) ⟨F2, b68, b71, tbt59_0_0, tbt59_0_1, tbt59_0_2, tbt59_0_3, tbt59_0_4, tbt59_0_5, tbt59_0_6, tbt59_0_7, tbt59_0_8, tbt59_0_9, tbt59_0_10, tbt59_0_11, hs76, le58, fI, htbt59_0_0, htbt59_0_1, htbt59_0_2, htbt59_0_3, htbt59_0_4, htbt59_0_5, htbt59_0_6, htbt59_0_7, htbt59_0_8, htbt59_0_9, htbt59_0_10, htbt59_0_11⟩
   ·refine DAl 128 #[(.pointer none)] hw43 (V3 _) (fun b77 w78 hs79 => ?_)
    refine D1 1 <| DCl EY hs79 (FA w78 F0 hs79.pers) ?_
    rintro _ F3 w80 hs81 le82 ⟨tbt83_0_0, tbt83_0_1, tbt83_0_2, tbt83_0_3, tbt83_0_4, tbt83_0_5, tbt83_0_6, tbt83_0_7, tbt83_0_8, tbt83_0_9, tbt83_0_10, tbt83_0_11, rfl, htbt83_0_0, htbt83_0_1, htbt83_0_2, htbt83_0_3, htbt83_0_4, htbt83_0_5, htbt83_0_6, htbt83_0_7, htbt83_0_8, htbt83_0_9, htbt83_0_10, htbt83_0_11⟩
    refine Dv [2] <| D1 3 <| DBx 130 #[(.bool x0.Report), (.bool x0.Serial), (.bool x0.Zone), (sv (([] : Wn))), (vi 0), (vi 0), (vi 0), (.slice none ([] : List Int).length 0), (.slice none ([] : List Line).length 0), (fV 153 #[]), (fV 154 #[]), (fV 190 #[(pt tbt83_0_0 0), (pt tbt83_0_1 0), (pt tbt83_0_2 0), (pt tbt83_0_3 0)]), (fV 191 #[(pt tbt83_0_0 0), (pt tbt83_0_3 0)]), (fV 190 #[(pt tbt83_0_4 0), (pt tbt83_0_5 0), (pt tbt83_0_6 0), (pt tbt83_0_7 0)]), (fV 191 #[(pt tbt83_0_4 0), (pt tbt83_0_7 0)]), (fV 190 #[(pt tbt83_0_8 0), (pt tbt83_0_9 0), (pt tbt83_0_10 0), (pt tbt83_0_11 0)]), (fV 191 #[(pt tbt83_0_8 0), (pt tbt83_0_11 0)]), (fV 159 #[]), (fV 160 #[]), (vi 0), (.bool false)] hs81 le82 (fun b84 w85 hs86 => ?_)
    refine D1 5 <| MK #[(pt b84 0)] hs86 le82 (fun w87 hs88 => ?_)
    have hs89 := hs88.dr5.pk4.pk4.pk4.pk3.pk4
    exact Wf (by kernel_rfl) ⟨F3, b77, b84, tbt83_0_0, tbt83_0_1, tbt83_0_2, tbt83_0_3, tbt83_0_4, tbt83_0_5, tbt83_0_6, tbt83_0_7, tbt83_0_8, tbt83_0_9, tbt83_0_10, tbt83_0_11, hs89, le82, fI, htbt83_0_0, htbt83_0_1, htbt83_0_2, htbt83_0_3, htbt83_0_4, htbt83_0_5, htbt83_0_6, htbt83_0_7, htbt83_0_8, htbt83_0_9, htbt83_0_10, htbt83_0_11⟩
  ·rintro f w44 ⟨F1, b47, b48, tbt49_0_0, tbt49_0_1, tbt49_0_2, tbt49_0_3, tbt49_0_4, tbt49_0_5, tbt49_0_6, tbt49_0_7, tbt49_0_8, tbt49_0_9, tbt49_0_10, tbt49_0_11, hs45, le46, ⟨_, rfl⟩, htbt49_0_0, htbt49_0_1, htbt49_0_2, htbt49_0_3, htbt49_0_4, htbt49_0_5, htbt49_0_6, htbt49_0_7, htbt49_0_8, htbt49_0_9, htbt49_0_10, htbt49_0_11⟩
   refine Ab <| Sq (Rg [0, 1] ?_)
   refine Al' 3 #[(vi 0)] hs45 (fun b90 w91 hs92 => ?_)
   refine St0 #[(vi 0)] hs92 (fun w93 hs94 => ?_)
   refine Nss <| Sq (Rg [0, 1] ?_)
   refine Vs 1 <| RWP.callO (dst := (some 22)) (ty := 132) (g := none) (by kernel_rfl) rfl (f0 := (.func 105)) (aos := #[(.tmp 21)]) (ats := #[9]) (fid := 105) (first := #[]) (cap := #[]) (args := [(sv x1)]) rfl JI rfl hs94 (KV w93 F1 hs94.pers x1) ?_
   rintro _ F4 w96 _ hs97 le98 ⟨b95, rfl, rfl⟩
   have hs99 : HS w0 F0 w96 F4 [(sb b95 #[(sv x1)] 9), (sb b90 #[(vi 0)] 3), (sb b47 #[(pt b48 0)] 128), (sb b48 #[(.bool x0.Report), (.bool x0.Serial), (.bool x0.Zone), (sv (([] : Wn))), (vi 0), (vi 0), (vi 0), (.slice none ([] : List Int).length 0), (.slice none ([] : List Line).length 0), (fV 153 #[]), (fV 154 #[]), (fV 190 #[(pt tbt49_0_0 0), (pt tbt49_0_1 0), (pt tbt49_0_2 0), (pt tbt49_0_3 0)]), (fV 191 #[(pt tbt49_0_0 0), (pt tbt49_0_3 0)]), (fV 190 #[(pt tbt49_0_4 0), (pt tbt49_0_5 0), (pt tbt49_0_6 0), (pt tbt49_0_7 0)]), (fV 191 #[(pt tbt49_0_4 0), (pt tbt49_0_7 0)]), (fV 190 #[(pt tbt49_0_8 0), (pt tbt49_0_9 0), (pt tbt49_0_10 0), (pt tbt49_0_11 0)]), (fV 191 #[(pt tbt49_0_8 0), (pt tbt49_0_11 0)]), (fV 159 #[]), (fV 160 #[]), (vi 0), (.bool false)] 130), (sb b30 #[(vi 0)] 3), (sb b27 #[(vi 0)] 35), (sb b24 #[(sv (([] : Wn))), (vi 0), (vi 0), (vi 0), (.slice none ([] : List Int).length 0), (.slice none ([] : List Line).length 0)] 27)] := hs97
   refine Nt <| Bk ?_
   have hs100 := hs99.dummy (oc #[] 0)
   have hs102 := hs100.pk7.pk7.pk7.pk7.pk7
   obtain ⟨r111, hr112, h113⟩ := bind_some h35
   refine CWP.rangeRet (enc := QZ) (ok := SP) (px := SH) (m := fun {_} y s => Em N y x1 s) (L := [(none, .cells #[] 0 (0, 0)), (sb b90 #[(vi 0)] 3), (sb b47 #[(pt b48 0)] 128), (sb b48 #[(.bool x0.Report), (.bool x0.Serial), (.bool x0.Zone), (sv (([] : Wn))), (vi 0), (vi 0), (vi 0), (.slice none ([] : List Int).length 0), (.slice none ([] : List Line).length 0), (fV 153 #[]), (fV 154 #[]), (fV 190 #[(pt tbt49_0_0 0), (pt tbt49_0_1 0), (pt tbt49_0_2 0), (pt tbt49_0_3 0)]), (fV 191 #[(pt tbt49_0_0 0), (pt tbt49_0_3 0)]), (fV 190 #[(pt tbt49_0_4 0), (pt tbt49_0_5 0), (pt tbt49_0_6 0), (pt tbt49_0_7 0)]), (fV 191 #[(pt tbt49_0_4 0), (pt tbt49_0_7 0)]), (fV 190 #[(pt tbt49_0_8 0), (pt tbt49_0_9 0), (pt tbt49_0_10 0), (pt tbt49_0_11 0)]), (fV 191 #[(pt tbt49_0_8 0), (pt tbt49_0_11 0)]), (fV 159 #[]), (fV 160 #[]), (vi 0), (.bool false)] 130), (sb b30 #[(vi 0)] 3), (sb b27 #[(vi 0)] 35), (sb b24 #[(sv (([] : Wn))), (vi 0), (vi 0), (vi 0), (.slice none ([] : List Int).length 0), (.slice none ([] : List Line).length 0)] 27)]) (B := [(sb b95 #[(sv x1)] 9)]) (ps := [23, 24]) (by kernel_rfl) (gf := 169) (cap := [(pt b95 0)]) rfl HY rfl (by kernel_rfl) (by kernel_rfl) (fun _ => rfl) hs102.pk7.pk6.pk7 (I0 N F4 (hG.mono (le46.t le98)) x1 b95) (JA N x0 x1) (fun (s103 : (Int × Int × Bool × Bool × Bool × Wn × Int × Int × Int × List Int × List Line × Int × Bool × Int)) (F5 : Mem) (Lq : Own) => ∃ (as103_9 : Wo) (ns103_9 : Nat) (as103_10 : Wo) (ns103_10 : Nat) (es103_10 : Option Nat × Obj), Lq = [es103_10, (sb b90 #[(vi s103.2.2.2.2.2.2.2.2.2.2.2.2.2)] 3), (sb b47 #[(pt b48 0)] 128), (sb b48 #[(.bool s103.2.2.1), (.bool s103.2.2.2.1), (.bool s103.2.2.2.2.1), (sv s103.2.2.2.2.2.1), (vi s103.2.2.2.2.2.2.1), (vi s103.2.2.2.2.2.2.2.1), (vi s103.2.2.2.2.2.2.2.2.1), (.slice as103_9 s103.2.2.2.2.2.2.2.2.2.1.length ns103_9), (.slice as103_10 s103.2.2.2.2.2.2.2.2.2.2.1.length ns103_10), (fV 153 #[]), (fV 154 #[]), (fV 190 #[(pt tbt49_0_0 0), (pt tbt49_0_1 0), (pt tbt49_0_2 0), (pt tbt49_0_3 0)]), (fV 191 #[(pt tbt49_0_0 0), (pt tbt49_0_3 0)]), (fV 190 #[(pt tbt49_0_4 0), (pt tbt49_0_5 0), (pt tbt49_0_6 0), (pt tbt49_0_7 0)]), (fV 191 #[(pt tbt49_0_4 0), (pt tbt49_0_7 0)]), (fV 190 #[(pt tbt49_0_8 0), (pt tbt49_0_9 0), (pt tbt49_0_10 0), (pt tbt49_0_11 0)]), (fV 191 #[(pt tbt49_0_8 0), (pt tbt49_0_11 0)]), (fV 159 #[]), (fV 160 #[]), (vi s103.2.2.2.2.2.2.2.2.2.2.2.1), (.bool s103.2.2.2.2.2.2.2.2.2.2.2.2.1)] 130), (sb b30 #[(vi s103.2.1)] 3), (sb b27 #[(vi s103.1)] 35), (sb b24 #[(sv (([] : Wn))), (vi 0), (vi 0), (vi 0), (.slice none ([] : List Int).length 0), (.slice none ([] : List Line).length 0)] 27)] /\ LC s103.2.2.2.2.2.2.2.2.2.1.length ns103_9 /\ SlA AM F5 as103_9 s103.2.2.2.2.2.2.2.2.2.1 /\ Ar AL 34 F5 as103_10 ns103_10 s103.2.2.2.2.2.2.2.2.2.2.1 es103_10) ?_ (s := (0, 0, x0.Report, x0.Serial, x0.Zone, ([] : Wn), 0, 0, 0, ([] : List Int), ([] : List Line), 0, false, 0)) (r := r111) ?_ hr112 ?_ ?_ ?_
   ·rintro s F F' L ⟨as103_9, ns103_9, as103_10, ns103_10, es103_10, rfl, hbs103_9, hss103_9, hrs103_10⟩ hl
    exact ⟨as103_9, ns103_9, as103_10, ns103_10, es103_10, rfl, hbs103_9, (hss103_9.mono hl), (hrs103_10.mono hl)⟩
   ·exact ⟨none, 0, none, 0, (none, .cells #[] 0 (0, 0)), rfl, V6, (.inl rfl), (Wh AL 34 F4 _)⟩
   ·rintro l114 s103 x116 w117 F5 _ Rf119 q120 le121 ok122 ⟨as103_9, ns103_9, as103_10, ns103_10, es103_10, rfl, hbs103_9, hss103_9, hrs103_10⟩ hs123 hy124
    have h125 := hy124
    have hs126 : HS w0 F0 w117 F5 (es103_10 :: (sb b90 #[(vi s103.2.2.2.2.2.2.2.2.2.2.2.2.2)] 3) :: (sb b47 #[(pt b48 0)] 128) :: (sb b48 #[(.bool s103.2.2.1), (.bool s103.2.2.2.1), (.bool s103.2.2.2.2.1), (sv s103.2.2.2.2.2.1), (vi s103.2.2.2.2.2.2.1), (vi s103.2.2.2.2.2.2.2.1), (vi s103.2.2.2.2.2.2.2.2.1), (.slice as103_9 s103.2.2.2.2.2.2.2.2.2.1.length ns103_9), (.slice as103_10 s103.2.2.2.2.2.2.2.2.2.2.1.length ns103_10), (fV 153 #[]), (fV 154 #[]), (fV 190 #[(pt tbt49_0_0 0), (pt tbt49_0_1 0), (pt tbt49_0_2 0), (pt tbt49_0_3 0)]), (fV 191 #[(pt tbt49_0_0 0), (pt tbt49_0_3 0)]), (fV 190 #[(pt tbt49_0_4 0), (pt tbt49_0_5 0), (pt tbt49_0_6 0), (pt tbt49_0_7 0)]), (fV 191 #[(pt tbt49_0_4 0), (pt tbt49_0_7 0)]), (fV 190 #[(pt tbt49_0_8 0), (pt tbt49_0_9 0), (pt tbt49_0_10 0), (pt tbt49_0_11 0)]), (fV 191 #[(pt tbt49_0_8 0), (pt tbt49_0_11 0)]), (fV 159 #[]), (fV 160 #[]), (vi s103.2.2.2.2.2.2.2.2.2.2.2.1), (.bool s103.2.2.2.2.2.2.2.2.2.2.2.2.1)] 130) :: (sb b30 #[(vi s103.2.1)] 3) :: (sb b27 #[(vi s103.1)] 35) :: (sb b24 #[(sv (([] : Wn))), (vi 0), (vi 0), (vi 0), (.slice none ([] : List Int).length 0), (.slice none ([] : List Line).length 0)] 27) :: Rf119) := hs123
    refine Sq (Rg [0] ?_)
    refine Vs 1 <| Nt <| Rg [0] <| Vs 1 <| VY <| ⟨rfl, F5, [es103_10, (sb b90 #[(vi s103.2.2.2.2.2.2.2.2.2.2.2.2.2)] 3), (sb b47 #[(pt b48 0)] 128), (sb b48 #[(.bool s103.2.2.1), (.bool s103.2.2.2.1), (.bool s103.2.2.2.2.1), (sv s103.2.2.2.2.2.1), (vi s103.2.2.2.2.2.2.1), (vi s103.2.2.2.2.2.2.2.1), (vi s103.2.2.2.2.2.2.2.2.1), (.slice as103_9 s103.2.2.2.2.2.2.2.2.2.1.length ns103_9), (.slice as103_10 s103.2.2.2.2.2.2.2.2.2.2.1.length ns103_10), (fV 153 #[]), (fV 154 #[]), (fV 190 #[(pt tbt49_0_0 0), (pt tbt49_0_1 0), (pt tbt49_0_2 0), (pt tbt49_0_3 0)]), (fV 191 #[(pt tbt49_0_0 0), (pt tbt49_0_3 0)]), (fV 190 #[(pt tbt49_0_4 0), (pt tbt49_0_5 0), (pt tbt49_0_6 0), (pt tbt49_0_7 0)]), (fV 191 #[(pt tbt49_0_4 0), (pt tbt49_0_7 0)]), (fV 190 #[(pt tbt49_0_8 0), (pt tbt49_0_9 0), (pt tbt49_0_10 0), (pt tbt49_0_11 0)]), (fV 191 #[(pt tbt49_0_8 0), (pt tbt49_0_11 0)]), (fV 159 #[]), (fV 160 #[]), (vi s103.2.2.2.2.2.2.2.2.2.2.2.1), (.bool s103.2.2.2.2.2.2.2.2.2.2.2.2.1)] 130), (sb b30 #[(vi s103.2.1)] 3), (sb b27 #[(vi s103.1)] 35), (sb b24 #[(sv (([] : Wn))), (vi 0), (vi 0), (vi 0), (.slice none ([] : List Int).length 0), (.slice none ([] : List Line).length 0)] 27)], hs126, fun w127 Rf128 hs129 => ?_⟩
    have hs130 : HS w0 F0 w127 F5 (es103_10 :: (sb b90 #[(vi s103.2.2.2.2.2.2.2.2.2.2.2.2.2)] 3) :: (sb b47 #[(pt b48 0)] 128) :: (sb b48 #[(.bool s103.2.2.1), (.bool s103.2.2.2.1), (.bool s103.2.2.2.2.1), (sv s103.2.2.2.2.2.1), (vi s103.2.2.2.2.2.2.1), (vi s103.2.2.2.2.2.2.2.1), (vi s103.2.2.2.2.2.2.2.2.1), (.slice as103_9 s103.2.2.2.2.2.2.2.2.2.1.length ns103_9), (.slice as103_10 s103.2.2.2.2.2.2.2.2.2.2.1.length ns103_10), (fV 153 #[]), (fV 154 #[]), (fV 190 #[(pt tbt49_0_0 0), (pt tbt49_0_1 0), (pt tbt49_0_2 0), (pt tbt49_0_3 0)]), (fV 191 #[(pt tbt49_0_0 0), (pt tbt49_0_3 0)]), (fV 190 #[(pt tbt49_0_4 0), (pt tbt49_0_5 0), (pt tbt49_0_6 0), (pt tbt49_0_7 0)]), (fV 191 #[(pt tbt49_0_4 0), (pt tbt49_0_7 0)]), (fV 190 #[(pt tbt49_0_8 0), (pt tbt49_0_9 0), (pt tbt49_0_10 0), (pt tbt49_0_11 0)]), (fV 191 #[(pt tbt49_0_8 0), (pt tbt49_0_11 0)]), (fV 159 #[]), (fV 160 #[]), (vi s103.2.2.2.2.2.2.2.2.2.2.2.1), (.bool s103.2.2.2.2.2.2.2.2.2.2.2.2.1)] 130) :: (sb b30 #[(vi s103.2.1)] 3) :: (sb b27 #[(vi s103.1)] 35) :: (sb b24 #[(sv (([] : Wn))), (vi 0), (vi 0), (vi 0), (.slice none ([] : List Int).length 0), (.slice none ([] : List Line).length 0)] 27) :: Rf128) := hs129
    refine Bk <| Sq (Rg [0, 1, 2] ?_)
    refine Ld hs130.at1 <| Vs 1 <| St1 #[(vi (W64 (s103.2.2.2.2.2.2.2.2.2.2.2.2.2 + 1)))] hs130 (fun w131 hs132 => ?_)
    refine Nss (Rg [0, 1] ?_)
    refine Vs 2 <| Nss <| Sq (Rg [0] ?_)
    refine Vs 1 <| Nt ?_
    obtain ⟨j136, hj145, h146⟩ := bind_some h125
    refine V9 (fun f w => ∃ (F7 : Mem) (aj136_9 : Wo) (nj136_9 : Nat) (aj136_10 : Wo) (nj136_10 : Nat) (ej136_10 : Option Nat × Obj), HS w0 F0 w F7 (ej136_10 :: (sb b90 #[(vi (W64 (s103.2.2.2.2.2.2.2.2.2.2.2.2.2 + 1)))] 3) :: (sb b47 #[(pt b48 0)] 128) :: (sb b48 #[(.bool j136.2.2.1), (.bool j136.2.2.2.1), (.bool j136.2.2.2.2.1), (sv j136.2.2.2.2.2.1), (vi j136.2.2.2.2.2.2.1), (vi j136.2.2.2.2.2.2.2.1), (vi j136.2.2.2.2.2.2.2.2.1), (.slice aj136_9 j136.2.2.2.2.2.2.2.2.2.1.length nj136_9), (.slice aj136_10 j136.2.2.2.2.2.2.2.2.2.2.1.length nj136_10), (fV 153 #[]), (fV 154 #[]), (fV 190 #[(pt tbt49_0_0 0), (pt tbt49_0_1 0), (pt tbt49_0_2 0), (pt tbt49_0_3 0)]), (fV 191 #[(pt tbt49_0_0 0), (pt tbt49_0_3 0)]), (fV 190 #[(pt tbt49_0_4 0), (pt tbt49_0_5 0), (pt tbt49_0_6 0), (pt tbt49_0_7 0)]), (fV 191 #[(pt tbt49_0_4 0), (pt tbt49_0_7 0)]), (fV 190 #[(pt tbt49_0_8 0), (pt tbt49_0_9 0), (pt tbt49_0_10 0), (pt tbt49_0_11 0)]), (fV 191 #[(pt tbt49_0_8 0), (pt tbt49_0_11 0)]), (fV 159 #[]), (fV 160 #[]), (vi j136.2.2.2.2.2.2.2.2.2.2.2.1), (.bool j136.2.2.2.2.2.2.2.2.2.2.2.2)] 130) :: (sb b30 #[(vi s103.2.1)] 3) :: (sb b27 #[(vi s103.1)] 35) :: (sb b24 #[(sv (([] : Wn))), (vi 0), (vi 0), (vi 0), (.slice none ([] : List Int).length 0), (.slice none ([] : List Line).length 0)] 27) :: Rf128) /\ V2 F5 F7 /\ FI f [] [(4, (pt b24 0)), (5, (pt b27 0)), (6, (pt b30 0)), (7, (pt b47 0)), (8, (pt b90 0)), (11, (.bool j136.1)), (12, (.bool j136.2.1))] /\ LC j136.2.2.2.2.2.2.2.2.2.1.length nj136_9 /\ SlA AM F7 aj136_9 j136.2.2.2.2.2.2.2.2.2.1 /\ Ar AL 34 F7 aj136_10 nj136_10 j136.2.2.2.2.2.2.2.2.2.2.1 ej136_10) ?_ ?_
    ·refine Cd hj145 (fun hb147 h148 => ?_) (fun hb147 h149 => ?_)
     ·refine Rg (rG 8) ?_
      refine Ld hs132.at2 <| Vs 1 ?_
      have hs150 := hs132.pk6.pk6.pk6.pk5.pk5
      obtain ⟨r151, hr152, h153⟩ := bind_some h148
      refine CB IJ (Jp N (hG.mono ((le46.t le98).trans le121)) b48 (({ o_ := ({ Report := s103.2.2.1, Serial := s103.2.2.2.1, Zone := s103.2.2.2.2.1 } : Ac), l_ := ({ Call := s103.2.2.2.2.2.1, Category := s103.2.2.2.2.2.2.1, Power := s103.2.2.2.2.2.2.2.1, Claimed := s103.2.2.2.2.2.2.2.2.1, Jumps := s103.2.2.2.2.2.2.2.2.2.1, Lines := s103.2.2.2.2.2.2.2.2.2.2.1 } : Log), done_ := s103.2.2.2.2.2.2.2.2.2.2.2.1, ended_ := s103.2.2.2.2.2.2.2.2.2.2.2.2.1 } : As)) as103_9 ns103_9 tbt49_0_0 tbt49_0_1 tbt49_0_2 tbt49_0_3 tbt49_0_4 tbt49_0_5 tbt49_0_6 tbt49_0_7 tbt49_0_8 tbt49_0_9 tbt49_0_10 tbt49_0_11 as103_10 ns103_10 es103_10 hbs103_9 hss103_9 ((le98.t le121) _ _ htbt49_0_0) ((le98.t le121) _ _ htbt49_0_1) ((le98.t le121) _ _ htbt49_0_2) ((le98.t le121) _ _ htbt49_0_3) ((le98.t le121) _ _ htbt49_0_4) ((le98.t le121) _ _ htbt49_0_5) ((le98.t le121) _ _ htbt49_0_6) ((le98.t le121) _ _ htbt49_0_7) ((le98.t le121) _ _ htbt49_0_8) ((le98.t le121) _ _ htbt49_0_9) ((le98.t le121) _ _ htbt49_0_10) ((le98.t le121) _ _ htbt49_0_11) hrs103_10 x116.1 hs150.pk5.pk6 _ hr152) ?_
      rintro _ F8 w154 _ hs155 le156 ⟨ar151_0_7, nr151_0_7, ar151_0_8, nr151_0_8, er151_0_8, rfl, rfl, hbr151_0_7, hsr151_0_7, hrr151_0_8⟩
      refine Vs 5 <| VY ?_
      obtain rfl := Aa h153
      have hs158 := hs155.pk6.pk6.pk6.pk3.pk6
      exact .inl ⟨rfl, F8, ar151_0_7, nr151_0_7, ar151_0_8, nr151_0_8, er151_0_8, hs158.pk6.pk6, le156, fI, hbr151_0_7, hsr151_0_7, hrr151_0_8⟩
     ·refine Sc ?_
      obtain rfl := Aa h149
      exact .inl ⟨rfl, F5, as103_9, ns103_9, as103_10, ns103_10, es103_10, hs132, (V3 _), fI, hbs103_9, hss103_9, hrs103_10⟩
    ·rintro f w133 ⟨F7, aj136_9, nj136_9, aj136_10, nj136_10, ej136_10, hs134, le135, ⟨_, rfl⟩, hbj136_9, hsj136_9, hrj136_10⟩
     refine Ab <| Bk <| Sq (Rg [0, 1] ?_)
     refine Vs 2 <| Nt <| Cd h146 (fun hb159 h160 => ?_) (fun hb159 h161 => ?_)
     ·refine Sq ?_
      refine RD 4 5 [ej136_10, (sb b90 #[(vi (W64 (s103.2.2.2.2.2.2.2.2.2.2.2.2.2 + 1)))] 3), (sb b47 #[(pt b48 0)] 128), (sb b48 #[(.bool j136.2.2.1), (.bool j136.2.2.2.1), (.bool j136.2.2.2.2.1), (sv j136.2.2.2.2.2.1), (vi j136.2.2.2.2.2.2.1), (vi j136.2.2.2.2.2.2.2.1), (vi j136.2.2.2.2.2.2.2.2.1), (.slice aj136_9 j136.2.2.2.2.2.2.2.2.2.1.length nj136_9), (.slice aj136_10 j136.2.2.2.2.2.2.2.2.2.2.1.length nj136_10), (fV 153 #[]), (fV 154 #[]), (fV 190 #[(pt tbt49_0_0 0), (pt tbt49_0_1 0), (pt tbt49_0_2 0), (pt tbt49_0_3 0)]), (fV 191 #[(pt tbt49_0_0 0), (pt tbt49_0_3 0)]), (fV 190 #[(pt tbt49_0_4 0), (pt tbt49_0_5 0), (pt tbt49_0_6 0), (pt tbt49_0_7 0)]), (fV 191 #[(pt tbt49_0_4 0), (pt tbt49_0_7 0)]), (fV 190 #[(pt tbt49_0_8 0), (pt tbt49_0_9 0), (pt tbt49_0_10 0), (pt tbt49_0_11 0)]), (fV 191 #[(pt tbt49_0_8 0), (pt tbt49_0_11 0)]), (fV 159 #[]), (fV 160 #[]), (vi j136.2.2.2.2.2.2.2.2.2.2.2.1), (.bool j136.2.2.2.2.2.2.2.2.2.2.2.2)] 130)] [(sb b30 #[(vi s103.2.1)] 3)] hs134 (fun f w => ∃ (F9 : Mem), HS w0 F0 w F9 (ej136_10 :: (sb b90 #[(vi (W64 (s103.2.2.2.2.2.2.2.2.2.2.2.2.2 + 1)))] 3) :: (sb b47 #[(pt b48 0)] 128) :: (sb b48 #[(.bool j136.2.2.1), (.bool j136.2.2.2.1), (.bool j136.2.2.2.2.1), (sv j136.2.2.2.2.2.1), (vi j136.2.2.2.2.2.2.1), (vi j136.2.2.2.2.2.2.2.1), (vi j136.2.2.2.2.2.2.2.2.1), (.slice aj136_9 j136.2.2.2.2.2.2.2.2.2.1.length nj136_9), (.slice aj136_10 j136.2.2.2.2.2.2.2.2.2.2.1.length nj136_10), (fV 153 #[]), (fV 154 #[]), (fV 190 #[(pt tbt49_0_0 0), (pt tbt49_0_1 0), (pt tbt49_0_2 0), (pt tbt49_0_3 0)]), (fV 191 #[(pt tbt49_0_0 0), (pt tbt49_0_3 0)]), (fV 190 #[(pt tbt49_0_4 0), (pt tbt49_0_5 0), (pt tbt49_0_6 0), (pt tbt49_0_7 0)]), (fV 191 #[(pt tbt49_0_4 0), (pt tbt49_0_7 0)]), (fV 190 #[(pt tbt49_0_8 0), (pt tbt49_0_9 0), (pt tbt49_0_10 0), (pt tbt49_0_11 0)]), (fV 191 #[(pt tbt49_0_8 0), (pt tbt49_0_11 0)]), (fV 159 #[]), (fV 160 #[]), (vi j136.2.2.2.2.2.2.2.2.2.2.2.1), (.bool j136.2.2.2.2.2.2.2.2.2.2.2.2)] 130) :: (sb b30 #[(vi (W64 (s103.2.2.2.2.2.2.2.2.2.2.2.2.2 + 1)))] 3) :: (sb b27 #[(vi 2)] 35) :: (sb b24 #[(sv (([] : Wn))), (vi 0), (vi 0), (vi 0), (.slice none ([] : List Int).length 0), (.slice none ([] : List Line).length 0)] 27) :: Rf128) /\ V2 F7 F9 /\ FI f [] [(4, (pt b24 0)), (5, (pt b27 0)), (6, (pt b30 0)), (7, (pt b47 0)), (8, (pt b90 0))]) (fun wd162 hw163 => ?_) ?_
      ·refine Dv [0] ?_
       refine Dl 1 (fun _ hq => (hq.1.2 1 _ _ rfl)) <| D1 2 <| Us #[(sv (([] : Wn))), (vi 0), (vi 0), (vi 0), (.slice none ([] : List Int).length 0), (.slice none ([] : List Line).length 0)] hw163 (V3 _) (fun w173 hs174 => ?_)
       refine D1 3 <| So #[(vi 2)] hs174 (V3 _) (fun w175 hs176 => ?_)
       refine D1 4 <| VG #[(vi (W64 (s103.2.2.2.2.2.2.2.2.2.2.2.2.2 + 1)))] hs176 (V3 _) (fun w177 hs178 => ?_)
       exact Wf (by kernel_rfl) ⟨F7, hs178, (V3 _), fI⟩
      ·rintro f w164 ⟨F9, hs165, le166, ⟨_, rfl⟩⟩
       refine Ab <| Rt <| Ax <| Ax ?_
       obtain rfl := Aa h160
       exact ⟨.inr ⟨rfl, rfl⟩, F9, [ej136_10, (sb b90 #[(vi (W64 (s103.2.2.2.2.2.2.2.2.2.2.2.2.2 + 1)))] 3), (sb b47 #[(pt b48 0)] 128), (sb b48 #[(.bool j136.2.2.1), (.bool j136.2.2.2.1), (.bool j136.2.2.2.2.1), (sv j136.2.2.2.2.2.1), (vi j136.2.2.2.2.2.2.1), (vi j136.2.2.2.2.2.2.2.1), (vi j136.2.2.2.2.2.2.2.2.1), (.slice aj136_9 j136.2.2.2.2.2.2.2.2.2.1.length nj136_9), (.slice aj136_10 j136.2.2.2.2.2.2.2.2.2.2.1.length nj136_10), (fV 153 #[]), (fV 154 #[]), (fV 190 #[(pt tbt49_0_0 0), (pt tbt49_0_1 0), (pt tbt49_0_2 0), (pt tbt49_0_3 0)]), (fV 191 #[(pt tbt49_0_0 0), (pt tbt49_0_3 0)]), (fV 190 #[(pt tbt49_0_4 0), (pt tbt49_0_5 0), (pt tbt49_0_6 0), (pt tbt49_0_7 0)]), (fV 191 #[(pt tbt49_0_4 0), (pt tbt49_0_7 0)]), (fV 190 #[(pt tbt49_0_8 0), (pt tbt49_0_9 0), (pt tbt49_0_10 0), (pt tbt49_0_11 0)]), (fV 191 #[(pt tbt49_0_8 0), (pt tbt49_0_11 0)]), (fV 159 #[]), (fV 160 #[]), (vi j136.2.2.2.2.2.2.2.2.2.2.2.1), (.bool j136.2.2.2.2.2.2.2.2.2.2.2.2)] 130), (sb b30 #[(vi (W64 (s103.2.2.2.2.2.2.2.2.2.2.2.2.2 + 1)))] 3), (sb b27 #[(vi 2)] 35), (sb b24 #[(sv (([] : Wn))), (vi 0), (vi 0), (vi 0), (.slice none ([] : List Int).length 0), (.slice none ([] : List Line).length 0)] 27)], hs165, (le135.t le166), ⟨aj136_9, nj136_9, aj136_10, nj136_10, ej136_10, rfl, hbj136_9, (V5 hsj136_9 le166), (hrj136_10.mono le166)⟩⟩
     ·refine Sq (Rg [0, 1, 2] ?_)
      refine Vs 3 <| Nt <| Cd h161 (fun hb180 h181 => ?_) (fun hb180 h182 => ?_)
      ·refine Sq ?_
       refine RD 4 5 [ej136_10, (sb b90 #[(vi (W64 (s103.2.2.2.2.2.2.2.2.2.2.2.2.2 + 1)))] 3), (sb b47 #[(pt b48 0)] 128), (sb b48 #[(.bool j136.2.2.1), (.bool j136.2.2.2.1), (.bool j136.2.2.2.2.1), (sv j136.2.2.2.2.2.1), (vi j136.2.2.2.2.2.2.1), (vi j136.2.2.2.2.2.2.2.1), (vi j136.2.2.2.2.2.2.2.2.1), (.slice aj136_9 j136.2.2.2.2.2.2.2.2.2.1.length nj136_9), (.slice aj136_10 j136.2.2.2.2.2.2.2.2.2.2.1.length nj136_10), (fV 153 #[]), (fV 154 #[]), (fV 190 #[(pt tbt49_0_0 0), (pt tbt49_0_1 0), (pt tbt49_0_2 0), (pt tbt49_0_3 0)]), (fV 191 #[(pt tbt49_0_0 0), (pt tbt49_0_3 0)]), (fV 190 #[(pt tbt49_0_4 0), (pt tbt49_0_5 0), (pt tbt49_0_6 0), (pt tbt49_0_7 0)]), (fV 191 #[(pt tbt49_0_4 0), (pt tbt49_0_7 0)]), (fV 190 #[(pt tbt49_0_8 0), (pt tbt49_0_9 0), (pt tbt49_0_10 0), (pt tbt49_0_11 0)]), (fV 191 #[(pt tbt49_0_8 0), (pt tbt49_0_11 0)]), (fV 159 #[]), (fV 160 #[]), (vi j136.2.2.2.2.2.2.2.2.2.2.2.1), (.bool j136.2.2.2.2.2.2.2.2.2.2.2.2)] 130)] [(sb b30 #[(vi s103.2.1)] 3)] hs134 (fun f w => ∃ (F10 : Mem), HS w0 F0 w F10 (ej136_10 :: (sb b90 #[(vi (W64 (s103.2.2.2.2.2.2.2.2.2.2.2.2.2 + 1)))] 3) :: (sb b47 #[(pt b48 0)] 128) :: (sb b48 #[(.bool j136.2.2.1), (.bool j136.2.2.2.1), (.bool j136.2.2.2.2.1), (sv j136.2.2.2.2.2.1), (vi j136.2.2.2.2.2.2.1), (vi j136.2.2.2.2.2.2.2.1), (vi j136.2.2.2.2.2.2.2.2.1), (.slice aj136_9 j136.2.2.2.2.2.2.2.2.2.1.length nj136_9), (.slice aj136_10 j136.2.2.2.2.2.2.2.2.2.2.1.length nj136_10), (fV 153 #[]), (fV 154 #[]), (fV 190 #[(pt tbt49_0_0 0), (pt tbt49_0_1 0), (pt tbt49_0_2 0), (pt tbt49_0_3 0)]), (fV 191 #[(pt tbt49_0_0 0), (pt tbt49_0_3 0)]), (fV 190 #[(pt tbt49_0_4 0), (pt tbt49_0_5 0), (pt tbt49_0_6 0), (pt tbt49_0_7 0)]), (fV 191 #[(pt tbt49_0_4 0), (pt tbt49_0_7 0)]), (fV 190 #[(pt tbt49_0_8 0), (pt tbt49_0_9 0), (pt tbt49_0_10 0), (pt tbt49_0_11 0)]), (fV 191 #[(pt tbt49_0_8 0), (pt tbt49_0_11 0)]), (fV 159 #[]), (fV 160 #[]), (vi j136.2.2.2.2.2.2.2.2.2.2.2.1), (.bool j136.2.2.2.2.2.2.2.2.2.2.2.2)] 130) :: (sb b30 #[(vi (W64 (s103.2.2.2.2.2.2.2.2.2.2.2.2.2 + 1)))] 3) :: (sb b27 #[(vi 20)] 35) :: (sb b24 #[(sv (([] : Wn))), (vi 0), (vi 0), (vi 0), (.slice none ([] : List Int).length 0), (.slice none ([] : List Line).length 0)] 27) :: Rf128) /\ V2 F7 F10 /\ FI f [] [(4, (pt b24 0)), (5, (pt b27 0)), (6, (pt b30 0)), (7, (pt b47 0)), (8, (pt b90 0))]) (fun wd183 hw184 => ?_) ?_
       ·refine Dv [0] ?_
        refine Dl 1 (fun _ hq => (hq.1.2 1 _ _ rfl)) <| D1 2 <| Us #[(sv (([] : Wn))), (vi 0), (vi 0), (vi 0), (.slice none ([] : List Int).length 0), (.slice none ([] : List Line).length 0)] hw184 (V3 _) (fun w194 hs195 => ?_)
        refine D1 3 <| So #[(vi 20)] hs195 (V3 _) (fun w196 hs197 => ?_)
        refine D1 4 <| VG #[(vi (W64 (s103.2.2.2.2.2.2.2.2.2.2.2.2.2 + 1)))] hs197 (V3 _) (fun w198 hs199 => ?_)
        exact Wf (by kernel_rfl) ⟨F7, hs199, (V3 _), fI⟩
       ·rintro f w185 ⟨F10, hs186, le187, ⟨_, rfl⟩⟩
        refine Ab <| Rt <| Ax <| Ax ?_
        obtain rfl := Aa h181
        exact ⟨.inr ⟨rfl, rfl⟩, F10, [ej136_10, (sb b90 #[(vi (W64 (s103.2.2.2.2.2.2.2.2.2.2.2.2.2 + 1)))] 3), (sb b47 #[(pt b48 0)] 128), (sb b48 #[(.bool j136.2.2.1), (.bool j136.2.2.2.1), (.bool j136.2.2.2.2.1), (sv j136.2.2.2.2.2.1), (vi j136.2.2.2.2.2.2.1), (vi j136.2.2.2.2.2.2.2.1), (vi j136.2.2.2.2.2.2.2.2.1), (.slice aj136_9 j136.2.2.2.2.2.2.2.2.2.1.length nj136_9), (.slice aj136_10 j136.2.2.2.2.2.2.2.2.2.2.1.length nj136_10), (fV 153 #[]), (fV 154 #[]), (fV 190 #[(pt tbt49_0_0 0), (pt tbt49_0_1 0), (pt tbt49_0_2 0), (pt tbt49_0_3 0)]), (fV 191 #[(pt tbt49_0_0 0), (pt tbt49_0_3 0)]), (fV 190 #[(pt tbt49_0_4 0), (pt tbt49_0_5 0), (pt tbt49_0_6 0), (pt tbt49_0_7 0)]), (fV 191 #[(pt tbt49_0_4 0), (pt tbt49_0_7 0)]), (fV 190 #[(pt tbt49_0_8 0), (pt tbt49_0_9 0), (pt tbt49_0_10 0), (pt tbt49_0_11 0)]), (fV 191 #[(pt tbt49_0_8 0), (pt tbt49_0_11 0)]), (fV 159 #[]), (fV 160 #[]), (vi j136.2.2.2.2.2.2.2.2.2.2.2.1), (.bool j136.2.2.2.2.2.2.2.2.2.2.2.2)] 130), (sb b30 #[(vi (W64 (s103.2.2.2.2.2.2.2.2.2.2.2.2.2 + 1)))] 3), (sb b27 #[(vi 20)] 35), (sb b24 #[(sv (([] : Wn))), (vi 0), (vi 0), (vi 0), (.slice none ([] : List Int).length 0), (.slice none ([] : List Line).length 0)] 27)], hs186, (le135.t le187), ⟨aj136_9, nj136_9, aj136_10, nj136_10, ej136_10, rfl, hbj136_9, (V5 hsj136_9 le187), (hrj136_10.mono le187)⟩⟩
      ·refine Sc ?_
       refine Ap <| Ap ?_
       obtain rfl := Aa h182
       exact ⟨.inl ⟨rfl, rfl⟩, F7, [ej136_10, (sb b90 #[(vi (W64 (s103.2.2.2.2.2.2.2.2.2.2.2.2.2 + 1)))] 3), (sb b47 #[(pt b48 0)] 128), (sb b48 #[(.bool j136.2.2.1), (.bool j136.2.2.2.1), (.bool j136.2.2.2.2.1), (sv j136.2.2.2.2.2.1), (vi j136.2.2.2.2.2.2.1), (vi j136.2.2.2.2.2.2.2.1), (vi j136.2.2.2.2.2.2.2.2.1), (.slice aj136_9 j136.2.2.2.2.2.2.2.2.2.1.length nj136_9), (.slice aj136_10 j136.2.2.2.2.2.2.2.2.2.2.1.length nj136_10), (fV 153 #[]), (fV 154 #[]), (fV 190 #[(pt tbt49_0_0 0), (pt tbt49_0_1 0), (pt tbt49_0_2 0), (pt tbt49_0_3 0)]), (fV 191 #[(pt tbt49_0_0 0), (pt tbt49_0_3 0)]), (fV 190 #[(pt tbt49_0_4 0), (pt tbt49_0_5 0), (pt tbt49_0_6 0), (pt tbt49_0_7 0)]), (fV 191 #[(pt tbt49_0_4 0), (pt tbt49_0_7 0)]), (fV 190 #[(pt tbt49_0_8 0), (pt tbt49_0_9 0), (pt tbt49_0_10 0), (pt tbt49_0_11 0)]), (fV 191 #[(pt tbt49_0_8 0), (pt tbt49_0_11 0)]), (fV 159 #[]), (fV 160 #[]), (vi j136.2.2.2.2.2.2.2.2.2.2.2.1), (.bool j136.2.2.2.2.2.2.2.2.2.2.2.2)] 130), (sb b30 #[(vi s103.2.1)] 3), (sb b27 #[(vi s103.1)] 35), (sb b24 #[(sv (([] : Wn))), (vi 0), (vi 0), (vi 0), (.slice none ([] : List Int).length 0), (.slice none ([] : List Line).length 0)] 27)], hs134, le135, ⟨aj136_9, nj136_9, aj136_10, nj136_10, ej136_10, rfl, hbj136_9, hsj136_9, hrj136_10⟩⟩
   ·rintro hg206
    have h207 := PA h113 hg206
    rintro D202 w203 F6 _ hs204 le205 ⟨as107_9, ns107_9, as107_10, ns107_10, es107_10, rfl, hbs107_9, hss107_9, hrs107_10⟩
    have hs208 : HS w0 F0 w203 F6 [(some D202, (.deferred (some []))), es107_10, (sb b90 #[(vi r111.1.2.2.2.2.2.2.2.2.2.2.2.2.2)] 3), (sb b47 #[(pt b48 0)] 128), (sb b48 #[(.bool r111.1.2.2.1), (.bool r111.1.2.2.2.1), (.bool r111.1.2.2.2.2.1), (sv r111.1.2.2.2.2.2.1), (vi r111.1.2.2.2.2.2.2.1), (vi r111.1.2.2.2.2.2.2.2.1), (vi r111.1.2.2.2.2.2.2.2.2.1), (.slice as107_9 r111.1.2.2.2.2.2.2.2.2.2.1.length ns107_9), (.slice as107_10 r111.1.2.2.2.2.2.2.2.2.2.2.1.length ns107_10), (fV 153 #[]), (fV 154 #[]), (fV 190 #[(pt tbt49_0_0 0), (pt tbt49_0_1 0), (pt tbt49_0_2 0), (pt tbt49_0_3 0)]), (fV 191 #[(pt tbt49_0_0 0), (pt tbt49_0_3 0)]), (fV 190 #[(pt tbt49_0_4 0), (pt tbt49_0_5 0), (pt tbt49_0_6 0), (pt tbt49_0_7 0)]), (fV 191 #[(pt tbt49_0_4 0), (pt tbt49_0_7 0)]), (fV 190 #[(pt tbt49_0_8 0), (pt tbt49_0_9 0), (pt tbt49_0_10 0), (pt tbt49_0_11 0)]), (fV 191 #[(pt tbt49_0_8 0), (pt tbt49_0_11 0)]), (fV 159 #[]), (fV 160 #[]), (vi r111.1.2.2.2.2.2.2.2.2.2.2.2.1), (.bool r111.1.2.2.2.2.2.2.2.2.2.2.2.2.1)] 130), (sb b30 #[(vi r111.1.2.1)] 3), (sb b27 #[(vi r111.1.1)] 35), (sb b24 #[(sv (([] : Wn))), (vi 0), (vi 0), (vi 0), (.slice none ([] : List Int).length 0), (.slice none ([] : List Line).length 0)] 27)] := hs204
    refine Ap <| Ab <| Sq <| Sq (Rg (rG 5) ?_)
    refine Ld hs208.at3 <| Vs 2 <| Ld hs208.at4 <| Vs 1 <| Nt <| Cd h207 (fun hb209 h210 => ?_) (fun hb209 h211 => ?_)
    ·refine Sq ?_
     refine RD 5 6 [(some D202, (.deferred (some []))), es107_10, (sb b90 #[(vi r111.1.2.2.2.2.2.2.2.2.2.2.2.2.2)] 3), (sb b47 #[(pt b48 0)] 128), (sb b48 #[(.bool r111.1.2.2.1), (.bool r111.1.2.2.2.1), (.bool r111.1.2.2.2.2.1), (sv r111.1.2.2.2.2.2.1), (vi r111.1.2.2.2.2.2.2.1), (vi r111.1.2.2.2.2.2.2.2.1), (vi r111.1.2.2.2.2.2.2.2.2.1), (.slice as107_9 r111.1.2.2.2.2.2.2.2.2.2.1.length ns107_9), (.slice as107_10 r111.1.2.2.2.2.2.2.2.2.2.2.1.length ns107_10), (fV 153 #[]), (fV 154 #[]), (fV 190 #[(pt tbt49_0_0 0), (pt tbt49_0_1 0), (pt tbt49_0_2 0), (pt tbt49_0_3 0)]), (fV 191 #[(pt tbt49_0_0 0), (pt tbt49_0_3 0)]), (fV 190 #[(pt tbt49_0_4 0), (pt tbt49_0_5 0), (pt tbt49_0_6 0), (pt tbt49_0_7 0)]), (fV 191 #[(pt tbt49_0_4 0), (pt tbt49_0_7 0)]), (fV 190 #[(pt tbt49_0_8 0), (pt tbt49_0_9 0), (pt tbt49_0_10 0), (pt tbt49_0_11 0)]), (fV 191 #[(pt tbt49_0_8 0), (pt tbt49_0_11 0)]), (fV 159 #[]), (fV 160 #[]), (vi r111.1.2.2.2.2.2.2.2.2.2.2.2.1), (.bool r111.1.2.2.2.2.2.2.2.2.2.2.2.2.1)] 130)] [(sb b30 #[(vi r111.1.2.1)] 3)] hs208 (fun f w => ∃ (F11 : Mem), HS w0 F0 w F11 [(some D202, (.deferred (some []))), (sb b30 #[(vi (W64 (r111.1.2.2.2.2.2.2.2.2.2.2.2.2.2 + 1)))] 3), (sb b27 #[(vi 20)] 35), (sb b24 #[(sv (([] : Wn))), (vi 0), (vi 0), (vi 0), (.slice none ([] : List Int).length 0), (.slice none ([] : List Line).length 0)] 27)] /\ V2 F6 F11 /\ FI f [{ target := .collected D202, args := #[] }] [(4, (pt b24 0)), (5, (pt b27 0)), (6, (pt b30 0))]) (fun wd212 hw213 => ?_) ?_
     ·refine Dv [0] ?_
      refine Dl 1 (fun _ hq => (hq.1.2 2 _ _ rfl)) <| Dv [2] <| D1 3 <| VV #[(sv (([] : Wn))), (vi 0), (vi 0), (vi 0), (.slice none ([] : List Int).length 0), (.slice none ([] : List Line).length 0)] hw213 (V3 _) (fun w221 hs222 => ?_)
      refine D1 4 <| Us #[(vi 20)] hs222 (V3 _) (fun w223 hs224 => ?_)
      refine D1 5 <| So #[(vi (W64 (r111.1.2.2.2.2.2.2.2.2.2.2.2.2.2 + 1)))] hs224 (V3 _) (fun w225 hs226 => ?_)
      exact Wf (by kernel_rfl) ⟨F6, hs226.dr1.dr1.dr1.dr1, (V3 _), fI⟩
     ·rintro f w214 ⟨F11, hs215, le216, ⟨_, rfl⟩⟩
      refine Ab <| Rt <| Ae ?_
      have hs227 := hs215.put (k := 0) rfl (.deferred none)
      have hs228 : HS w0 F0 (B6 w214 D202 (.deferred none)) F11 [(sb b30 #[(vi (W64 (r111.1.2.2.2.2.2.2.2.2.2.2.2.2.2 + 1)))] 3), (sb b27 #[(vi 20)] 35), (sb b24 #[(sv (([] : Wn))), (vi 0), (vi 0), (vi 0), (.slice none ([] : List Int).length 0), (.slice none ([] : List Line).length 0)] 27)] := hs227.drop 0
      obtain rfl := Aa h210
      exact .inr ⟨D202, rfl, hs215.ownAt (k := 0) rfl, (.tuple #[(.agg #[(sv (([] : Wn))), (vi 0), (vi 0), (vi 0), (.slice none ([] : List Int).length 0), (.slice none ([] : List Line).length 0)]), (vi 20), (vi (W64 (r111.1.2.2.2.2.2.2.2.2.2.2.2.2.2 + 1)))]), AW (l := [.cell 4 27, .cell 5 35, .cell 6 3]) (by kernel_rfl) (vs := [(.agg #[(sv (([] : Wn))), (vi 0), (vi 0), (vi 0), (.slice none ([] : List Int).length 0), (.slice none ([] : List Line).length 0)]), (vi 20), (vi (W64 (r111.1.2.2.2.2.2.2.2.2.2.2.2.2.2 + 1)))]) ⟨b24, 0, rfl, An (t := 27) (g := true) (s := 6) (by kernel_rfl) hs228.at2 rfl (by decide), ⟨b27, 0, rfl, An (t := 35) (g := false) (s := 1) (by kernel_rfl) hs228.at1 rfl (by decide), ⟨b30, 0, rfl, An (t := 3) (g := false) (s := 1) (by kernel_rfl) hs228.at0 rfl (by decide), trivial⟩⟩⟩, (.tuple #[(.agg #[(sv (([] : Wn))), (vi 0), (vi 0), (vi 0), (.slice none ([] : List Int).length 0), (.slice none ([] : List Line).length 0)]), (vi 20), (vi (W64 (r111.1.2.2.2.2.2.2.2.2.2.2.2.2.2 + 1)))]), F11, rfl, hs228.clear, ⟨none, 0, none, 0, rfl, V6, (.inl rfl), V6, (.inl rfl)⟩⟩
    ·refine Sc ?_
     refine Ab <| Sq (Rg (rG 7) ?_)
     refine Ld hs208.at3 <| Vs 2 <| Ld hs208.at4 <| St7 #[(sv r111.1.2.2.2.2.2.1), (vi r111.1.2.2.2.2.2.2.1), (vi r111.1.2.2.2.2.2.2.2.1), (vi r111.1.2.2.2.2.2.2.2.2.1), (.slice as107_9 r111.1.2.2.2.2.2.2.2.2.2.1.length ns107_9), (.slice as107_10 r111.1.2.2.2.2.2.2.2.2.2.2.1.length ns107_10)] hs208 (fun w229 hs230 => ?_)
     refine St6 #[(vi 0)] hs230 (fun w231 hs232 => ?_)
     refine St5 #[(vi 0)] hs232 (fun w233 hs234 => ?_)
     refine Nt <| Rt ?_
     have hb238 := Wg hrs107_10
     obtain ⟨F12, hs235, le236, hs237⟩ := hs234.fr1 hrs107_10
     have hs239 := hs235.put (k := 0) rfl (.deferred none)
     have hs240 : HS w0 F0 (B6 w233 D202 (.deferred none)) F12 [(sb b90 #[(vi r111.1.2.2.2.2.2.2.2.2.2.2.2.2.2)] 3), (sb b47 #[(pt b48 0)] 128), (sb b48 #[(.bool r111.1.2.2.1), (.bool r111.1.2.2.2.1), (.bool r111.1.2.2.2.2.1), (sv r111.1.2.2.2.2.2.1), (vi r111.1.2.2.2.2.2.2.1), (vi r111.1.2.2.2.2.2.2.2.1), (vi r111.1.2.2.2.2.2.2.2.2.1), (.slice as107_9 r111.1.2.2.2.2.2.2.2.2.2.1.length ns107_9), (.slice as107_10 r111.1.2.2.2.2.2.2.2.2.2.2.1.length ns107_10), (fV 153 #[]), (fV 154 #[]), (fV 190 #[(pt tbt49_0_0 0), (pt tbt49_0_1 0), (pt tbt49_0_2 0), (pt tbt49_0_3 0)]), (fV 191 #[(pt tbt49_0_0 0), (pt tbt49_0_3 0)]), (fV 190 #[(pt tbt49_0_4 0), (pt tbt49_0_5 0), (pt tbt49_0_6 0), (pt tbt49_0_7 0)]), (fV 191 #[(pt tbt49_0_4 0), (pt tbt49_0_7 0)]), (fV 190 #[(pt tbt49_0_8 0), (pt tbt49_0_9 0), (pt tbt49_0_10 0), (pt tbt49_0_11 0)]), (fV 191 #[(pt tbt49_0_8 0), (pt tbt49_0_11 0)]), (fV 159 #[]), (fV 160 #[]), (vi r111.1.2.2.2.2.2.2.2.2.2.2.2.1), (.bool r111.1.2.2.2.2.2.2.2.2.2.2.2.2.1)] 130), (sb b30 #[(vi 0)] 3), (sb b27 #[(vi 0)] 35), (sb b24 #[(sv r111.1.2.2.2.2.2.1), (vi r111.1.2.2.2.2.2.2.1), (vi r111.1.2.2.2.2.2.2.2.1), (vi r111.1.2.2.2.2.2.2.2.2.1), (.slice as107_9 r111.1.2.2.2.2.2.2.2.2.2.1.length ns107_9), (.slice as107_10 r111.1.2.2.2.2.2.2.2.2.2.2.1.length ns107_10)] 27)] := hs239.drop 0
     obtain rfl := Aa h211
     exact .inr ⟨D202, rfl, hs235.ownAt (k := 0) rfl, (.tuple #[(.agg #[(sv r111.1.2.2.2.2.2.1), (vi r111.1.2.2.2.2.2.2.1), (vi r111.1.2.2.2.2.2.2.2.1), (vi r111.1.2.2.2.2.2.2.2.2.1), (.slice as107_9 r111.1.2.2.2.2.2.2.2.2.2.1.length ns107_9), (.slice as107_10 r111.1.2.2.2.2.2.2.2.2.2.2.1.length ns107_10)]), (vi 0), (vi 0)]), AW (l := [.cell 4 27, .cell 5 35, .cell 6 3]) (by kernel_rfl) (vs := [(.agg #[(sv r111.1.2.2.2.2.2.1), (vi r111.1.2.2.2.2.2.2.1), (vi r111.1.2.2.2.2.2.2.2.1), (vi r111.1.2.2.2.2.2.2.2.2.1), (.slice as107_9 r111.1.2.2.2.2.2.2.2.2.2.1.length ns107_9), (.slice as107_10 r111.1.2.2.2.2.2.2.2.2.2.2.1.length ns107_10)]), (vi 0), (vi 0)]) ⟨b24, 0, rfl, An (t := 27) (g := true) (s := 6) (by kernel_rfl) hs240.at5 rfl (by decide), ⟨b27, 0, rfl, An (t := 35) (g := false) (s := 1) (by kernel_rfl) hs240.at4 rfl (by decide), ⟨b30, 0, rfl, An (t := 3) (g := false) (s := 1) (by kernel_rfl) hs240.at3 rfl (by decide), trivial⟩⟩⟩, (.tuple #[(.agg #[(sv r111.1.2.2.2.2.2.1), (vi r111.1.2.2.2.2.2.2.1), (vi r111.1.2.2.2.2.2.2.2.1), (vi r111.1.2.2.2.2.2.2.2.2.1), (.slice as107_9 r111.1.2.2.2.2.2.2.2.2.2.1.length ns107_9), (.slice as107_10 r111.1.2.2.2.2.2.2.2.2.2.2.1.length ns107_10)]), (vi 0), (vi 0)]), F12, rfl, hs240.clear, ⟨as107_9, ns107_9, as107_10, ns107_10, rfl, hbs107_9, (V5 hss107_9 le236), hb238, hs237⟩⟩
   ·rintro hg245
    have h246 := PB h113 hg245
    rintro D241 w242 F6 _ hs243 le244 ⟨as107_9, ns107_9, as107_10, ns107_10, es107_10, rfl, hbs107_9, hss107_9, hrs107_10⟩
    have hs247 : HS w0 F0 w242 F6 [(some D241, (.deferred (some []))), es107_10, (sb b90 #[(vi r111.1.2.2.2.2.2.2.2.2.2.2.2.2.2)] 3), (sb b47 #[(pt b48 0)] 128), (sb b48 #[(.bool r111.1.2.2.1), (.bool r111.1.2.2.2.1), (.bool r111.1.2.2.2.2.1), (sv r111.1.2.2.2.2.2.1), (vi r111.1.2.2.2.2.2.2.1), (vi r111.1.2.2.2.2.2.2.2.1), (vi r111.1.2.2.2.2.2.2.2.2.1), (.slice as107_9 r111.1.2.2.2.2.2.2.2.2.2.1.length ns107_9), (.slice as107_10 r111.1.2.2.2.2.2.2.2.2.2.2.1.length ns107_10), (fV 153 #[]), (fV 154 #[]), (fV 190 #[(pt tbt49_0_0 0), (pt tbt49_0_1 0), (pt tbt49_0_2 0), (pt tbt49_0_3 0)]), (fV 191 #[(pt tbt49_0_0 0), (pt tbt49_0_3 0)]), (fV 190 #[(pt tbt49_0_4 0), (pt tbt49_0_5 0), (pt tbt49_0_6 0), (pt tbt49_0_7 0)]), (fV 191 #[(pt tbt49_0_4 0), (pt tbt49_0_7 0)]), (fV 190 #[(pt tbt49_0_8 0), (pt tbt49_0_9 0), (pt tbt49_0_10 0), (pt tbt49_0_11 0)]), (fV 191 #[(pt tbt49_0_8 0), (pt tbt49_0_11 0)]), (fV 159 #[]), (fV 160 #[]), (vi r111.1.2.2.2.2.2.2.2.2.2.2.2.1), (.bool r111.1.2.2.2.2.2.2.2.2.2.2.2.2.1)] 130), (sb b30 #[(vi r111.1.2.1)] 3), (sb b27 #[(vi r111.1.1)] 35), (sb b24 #[(sv (([] : Wn))), (vi 0), (vi 0), (vi 0), (.slice none ([] : List Int).length 0), (.slice none ([] : List Line).length 0)] 27)] := hs243
    refine Ax <| Ae ?_
    have hs248 := hs247.put (k := 0) rfl (.deferred none)
    have hs249 : HS w0 F0 (B6 w242 D241 (.deferred none)) F6 [es107_10, (sb b90 #[(vi r111.1.2.2.2.2.2.2.2.2.2.2.2.2.2)] 3), (sb b47 #[(pt b48 0)] 128), (sb b48 #[(.bool r111.1.2.2.1), (.bool r111.1.2.2.2.1), (.bool r111.1.2.2.2.2.1), (sv r111.1.2.2.2.2.2.1), (vi r111.1.2.2.2.2.2.2.1), (vi r111.1.2.2.2.2.2.2.2.1), (vi r111.1.2.2.2.2.2.2.2.2.1), (.slice as107_9 r111.1.2.2.2.2.2.2.2.2.2.1.length ns107_9), (.slice as107_10 r111.1.2.2.2.2.2.2.2.2.2.2.1.length ns107_10), (fV 153 #[]), (fV 154 #[]), (fV 190 #[(pt tbt49_0_0 0), (pt tbt49_0_1 0), (pt tbt49_0_2 0), (pt tbt49_0_3 0)]), (fV 191 #[(pt tbt49_0_0 0), (pt tbt49_0_3 0)]), (fV 190 #[(pt tbt49_0_4 0), (pt tbt49_0_5 0), (pt tbt49_0_6 0), (pt tbt49_0_7 0)]), (fV 191 #[(pt tbt49_0_4 0), (pt tbt49_0_7 0)]), (fV 190 #[(pt tbt49_0_8 0), (pt tbt49_0_9 0), (pt tbt49_0_10 0), (pt tbt49_0_11 0)]), (fV 191 #[(pt tbt49_0_8 0), (pt tbt49_0_11 0)]), (fV 159 #[]), (fV 160 #[]), (vi r111.1.2.2.2.2.2.2.2.2.2.2.2.1), (.bool r111.1.2.2.2.2.2.2.2.2.2.2.2.2.1)] 130), (sb b30 #[(vi r111.1.2.1)] 3), (sb b27 #[(vi r111.1.1)] 35), (sb b24 #[(sv (([] : Wn))), (vi 0), (vi 0), (vi 0), (.slice none ([] : List Int).length 0), (.slice none ([] : List Line).length 0)] 27)] := hs248.drop 0
    obtain rfl := Aa h246
    exact .inr ⟨D241, rfl, hs247.ownAt (k := 0) rfl, (.tuple #[(.agg #[(sv (([] : Wn))), (vi 0), (vi 0), (vi 0), (.slice none ([] : List Int).length 0), (.slice none ([] : List Line).length 0)]), (vi r111.1.1), (vi r111.1.2.1)]), AW (l := [.cell 4 27, .cell 5 35, .cell 6 3]) (by kernel_rfl) (vs := [(.agg #[(sv (([] : Wn))), (vi 0), (vi 0), (vi 0), (.slice none ([] : List Int).length 0), (.slice none ([] : List Line).length 0)]), (vi r111.1.1), (vi r111.1.2.1)]) ⟨b24, 0, rfl, An (t := 27) (g := true) (s := 6) (by kernel_rfl) hs249.at6 rfl (by decide), ⟨b27, 0, rfl, An (t := 35) (g := false) (s := 1) (by kernel_rfl) hs249.at5 rfl (by decide), ⟨b30, 0, rfl, An (t := 3) (g := false) (s := 1) (by kernel_rfl) hs249.at4 rfl (by decide), trivial⟩⟩⟩, (.tuple #[(.agg #[(sv (([] : Wn))), (vi 0), (vi 0), (vi 0), (.slice none ([] : List Int).length 0), (.slice none ([] : List Line).length 0)]), (vi r111.1.1), (vi r111.1.2.1)]), F6, rfl, hs249.clear, ⟨none, 0, none, 0, rfl, V6, (.inl rfl), V6, (.inl rfl)⟩⟩
def Gp (N : Nat) (x0 : (List Int)) (x1 : (List Int)) : Int -> Option (A4 Bool Int) := fun s27 =>
 (bif (decide (s27 < (x0.length : Int))) then none else some (.done s27))
def Io (N : Nat) (x0 : (List Int)) (x1 : (List Int)) : Option Bool :=
 (bif ((x0.length : Int) != (x1.length : Int)) then none else ((AJ (Gp N x0 x1) N 0).bind fun o => o.k (fun r => some r) (fun s35 => some true)))
theorem KC : Af Tryz.prog 57 := fun _ _ => by kernel_rfl
theorem LT (N : Nat) (w0 : World) (F0 : Mem) (hF : Wp w0 F0) (x0 : (List Int)) (a0_0 : Wo) (n0_0 : Nat) (hb0_0 : LC x0.length n0_0) (hs0_0 : SlA AM F0 a0_0 x0) (x1 : (List Int)) (a1_0 : Wo) (n1_0 : Nat) (hb1_0 : LC x1.length n1_0) (hs1_0 : SlA AM F0 a1_0 x1) (r : Bool) (h : Io N x0 x1 = some r) :
  Calls Tryz.prog 57 ([(.slice a0_0 x0.length n0_0), (.slice a1_0 x1.length n1_0)] : List Value).toArray w0 (AA w0 F0 fun F' v => v = (.bool r)) := by
 have hs0 := V4 hF
 refine Go 26 Tryz.func57 <| Sq (Rg [0] ?_)
 refine Vs 1 <| Nss <| Sq (Rg (rG 5) ?_)
 refine Vs 5 <| Nt <| Cd h (fun hb21 h22 => ?_) (fun hb21 h23 => ?_)
 ·cases h22
 ·refine Sc ?_
  refine Ab <| Sq <| Sq (Rg [0] ?_)
  refine Vs 1 <| Nt ?_
  obtain ⟨o24, ho25, h26⟩ := bind_some h23
  refine V9 (fun f w => ∃ (s35 : Int) (F2 : Mem), o24 = .done s35 /\ HS w0 F0 w F2 [] /\ V2 F0 F2 /\ FI f [] []) ?_ ?_
  ·refine Bk ?_
   refine V1 (by kernel_rfl) (fun m f w => ∃ (s27 : Int) (F1 : Mem), AJ (Gp N x0 x1) m s27 = some o24 /\ HS w0 F0 w F1 [] /\ V2 F0 F1 /\ FI f [] [(0, (.slice a0_0 x0.length n0_0)), (1, (.slice a1_0 x1.length n1_0)), (5, (vi s27))]) N ⟨0, F0, ho25, hs0, (V3 _), fI⟩ ?_
   rintro m40 f w28 ⟨s27, F1, hit41, hs29, le30, ⟨_, rfl⟩⟩
   obtain ⟨m42, fl43, rfl, hb44, hnx45⟩ := AC hit41
   refine Sq <| Sq (Rg (rG 4) ?_)
   refine Vs 4 <| Nt <| Cd hb44 (fun hb46 h47 => ?_) (fun hb46 h48 => ?_)
   ·cases h47
   ·refine Ex ?_
    refine Al <| Al <| Ay rfl ?_
    have ho49 := AE h48 hnx45
    exact .inl ⟨rfl, s27, F1, ho49, hs29, le30, fI⟩
  ·rintro f w36 ⟨s35, F2, rfl, hs37, le38, ⟨_, rfl⟩⟩
   have h50 := A6 h26
   refine Ab <| Sq (Rg [0] ?_)
   refine Vs 1 <| Nt <| Rt ?_
   obtain rfl := Aa h50
   exact Re [(.bool true)] hs37 rfl
def Jx (N : Nat) (x0 : Log) (x1 : Log) (r39 : Bool) : Int -> Option (A4 Bool Int) := fun s56 =>
 (bif (decide (s56 < (x0.Lines.length : Int))) then (((idx x0.Lines s56).bind fun x91 => ((idx x1.Lines s56).bind fun x105 => some (!((x91.Num == x105.Num) && ((x91.Khz == x105.Khz) && ((x91.Mode == x105.Mode) && ((x91.Minute == x105.Minute) && ((x91.Call == x105.Call) && (((x91.Sent.Report == x105.Sent.Report) && ((x91.Sent.Serial == x105.Sent.Serial) && ((x91.Sent.Zone == x105.Sent.Zone) && true))) && (((x91.Got.Report == x105.Got.Report) && ((x91.Got.Serial == x105.Got.Serial) && ((x91.Got.Zone == x105.Got.Zone) && true))) && true)))))))))).bind fun j83 => (bif j83 then none else some (.next (W64 (s56 + 1))))) else some (.done s56))
def Nb (N : Nat) (x0 : Log) (x1 : Log) : Option Bool :=
 (bif (x0.Call != x1.Call) then none else (bif (x0.Category != x1.Category) then none else (bif (x0.Power != x1.Power) then none else (bif (x0.Claimed != x1.Claimed) then none else ((Io N x0.Jumps x1.Jumps).bind fun r39 => (bif (!r39) then none else (bif ((x0.Lines.length : Int) != (x1.Lines.length : Int)) then some false else ((AJ (Jx N x0 x1 r39) N 0).bind fun o => o.k (fun r => some r) (fun s64 => some true)))))))))
theorem Oi : Af Tryz.prog 35 := fun _ _ => by kernel_rfl
theorem PI (N : Nat) (w0 : World) (F0 : Mem) (hF : Wp w0 F0) (x0 : Log) (a0_4 : Wo) (n0_4 : Nat) (hb0_4 : LC x0.Jumps.length n0_4) (hs0_4 : SlA AM F0 a0_4 x0.Jumps) (a0_5 : Wo) (n0_5 : Nat) (hb0_5 : LC x0.Lines.length n0_5) (hs0_5 : SlA AL F0 a0_5 x0.Lines) (x1 : Log) (a1_4 : Wo) (n1_4 : Nat) (hb1_4 : LC x1.Jumps.length n1_4) (hs1_4 : SlA AM F0 a1_4 x1.Jumps) (a1_5 : Wo) (n1_5 : Nat) (hb1_5 : LC x1.Lines.length n1_5) (hs1_5 : SlA AL F0 a1_5 x1.Lines) (r : Bool) (h : Nb N x0 x1 = some r) :
  Calls Tryz.prog 35 ([(.agg (AF x0 a0_4 n0_4 a0_5 n0_5)), (.agg (AF x1 a1_4 n1_4 a1_5 n1_5))] : List Value).toArray w0 (AA w0 F0 fun F' v => v = (.bool r)) := by
 have hs0 := V4 hF
 refine Go 67 Tryz.func35 <| Sq (Rg [0, 1, 2] ?_)
 refine Bx' 27 (AF x0 a0_4 n0_4 a0_5 n0_5) hs0 (fun b21 w22 hs23 => ?_)
 refine Bx' 27 (AF x1 a1_4 n1_4 a1_5 n1_5) hs23 (fun b24 w25 hs26 => ?_)
 refine Vs 1 <| Nss <| Sq (Rg (rG 43) ?_)
 refine Vs 1 <| Ld hs26.at1 <| Vs 1 <| Ld hs26.at0 <| Vs 2 <| Sp h (fun hb27 h28 => ?_) (fun hb27 h29 => ?_)
 ·cases h28
 ·refine Vgs hb27 1 ?_
  refine Lg hb27 hs26.at1 <| Vgs hb27 1 <| Lg hb27 hs26.at0 <| Vgs hb27 1 <| Pk0 hb27 <| Vs 1 <| Sp h29 (fun hb30 h31 => ?_) (fun hb30 h32 => ?_)
  ·cases h31
  ·refine Vgs hb30 1 ?_
   refine Lg hb30 hs26.at1 <| Vgs hb30 1 <| Lg hb30 hs26.at0 <| Vgs hb30 1 <| Pk0 hb30 <| Vs 1 <| Sp h32 (fun hb33 h34 => ?_) (fun hb33 h35 => ?_)
   ·cases h34
   ·refine Vgs hb33 1 ?_
    refine Lg hb33 hs26.at1 <| Vgs hb33 1 <| Lg hb33 hs26.at0 <| Vgs hb33 1 <| Pk0 hb33 <| Vs 1 <| Sp h35 (fun hb36 h37 => ?_) (fun hb36 h38 => ?_)
    ·cases h37
    ·refine Vgs hb36 1 ?_
     refine Lg hb36 hs26.at1 <| Vgs hb36 1 <| Lg hb36 hs26.at0 ?_
     obtain ⟨r39, hr40, h41⟩ := bind_some h38
     refine Cg hb36 KC hs26 (LT N w25 F0 hs26.pers x0.Jumps a0_4 n0_4 hb0_4 hs0_4 x1.Jumps a1_4 n1_4 hb1_4 hs1_4 _ hr40) ?_
     rintro _ F1 w43 hs44 le45 rfl
     refine Vgs hb36 1 <| Pk0 hb36 <| Vs 1 <| Sp h41 (fun hb47 h48 => ?_) (fun hb47 h49 => ?_)
     ·cases h48
     ·refine Vgs hb47 1 ?_
      refine Lg hb47 hs44.at1 <| Vgs hb47 2 <| Lg hb47 hs44.at0 <| Vgs hb47 2 <| Pk0 hb47 <| Nt <| Cd h49 (fun hb50 h51 => ?_) (fun hb50 h52 => ?_)
      ·refine Sq (Rg [0] ?_)
       refine Vs 1 <| Nt <| Rt <| Ae ?_
       obtain rfl := Aa h51
       exact Re [(.bool false)] hs44 rfl
      ·refine Sc ?_
       refine Ab <| Sq <| Sq (Rg [0] ?_)
       refine Vs 1 <| Nt ?_
       obtain ⟨o53, ho54, h55⟩ := bind_some h52
       refine V9 (fun f w => ∃ (s64 : Int) (F3 : Mem), o53 = .done s64 /\ HS w0 F0 w F3 [] /\ V2 F1 F3 /\ FI f [] []) ?_ ?_
       ·refine Bk ?_
        refine V1 (by kernel_rfl) (fun m f w => ∃ (s56 : Int) (F2 : Mem), AJ (Jx N x0 x1 r39) m s56 = some o53 /\ HS w0 F0 w F2 [(sb b24 (AF x1 a1_4 n1_4 a1_5 n1_5) 27), (sb b21 (AF x0 a0_4 n0_4 a0_5 n0_5) 27)] /\ V2 F1 F2 /\ FI f [] [(2, (pt b21 0)), (3, (pt b24 0)), (5, (vi s56))]) N ⟨0, F1, ho54, hs44, (V3 _), fI⟩ ?_
        rintro m69 f w57 ⟨s56, F2, hit70, hs58, le59, ⟨_, rfl⟩⟩
        obtain ⟨m71, fl72, rfl, hb73, hnx74⟩ := AC hit70
        refine Sq <| Sq (Rg (rG 5) ?_)
        refine Vs 2 <| Ld hs58.at1 <| Vs 2 <| Nt <| Cd hb73 (fun hb75 h76 => ?_) (fun hb75 h77 => ?_)
        ·refine Sc ?_
         refine Ab <| Sq <| Bk <| Sq ?_
         obtain ⟨j83, hj89, h90⟩ := bind_some h76
         refine RD 11 11 [(sb b24 (AF x1 a1_4 n1_4 a1_5 n1_5) 27), (sb b21 (AF x0 a0_4 n0_4 a0_5 n0_5) 27)] [] hs58 (fun f w => ∃ (F4 : Mem), HS w0 F0 w F4 [(sb b24 (AF x1 a1_4 n1_4 a1_5 n1_5) 27), (sb b21 (AF x0 a0_4 n0_4 a0_5 n0_5) 27)] /\ V2 F2 F4 /\ FI f [] [(2, (pt b21 0)), (3, (pt b24 0)), (5, (vi s56)), (66, (.bool j83))]) (fun wd78 hw79 => ?_) ?_
         ·refine Dv [0] ?_
          refine Dl 1 (fun _ hq => (hq.1.2 1 _ _ rfl)) <| Dv [2] ?_
          obtain ⟨x91, hx92, h94⟩ := bind_some hj89
          obtain ⟨hi93, hx92'⟩ := Aj hx92
          obtain ⟨b95, o96, C97, E98, fz99, rfl, hF101, hE102⟩ := Wa (V5 hs0_5 (le45.t le59)) hx92'
          have hc104 := hE102 _ _ hx92'
          refine Di 3 hi93 <| Dx 4 0 (fun _ hq => hq.1.1 _ _ hF101) hc104 <| Dv [5] <| Dl 6 (fun _ hq => (hq.1.2 0 _ _ rfl)) <| Dv [7] ?_
          obtain ⟨x105, hx106, h108⟩ := bind_some h94
          obtain ⟨hi107, hx106'⟩ := Aj hx106
          obtain ⟨b109, o110, C111, E112, fz113, rfl, hF115, hE116⟩ := Wa (V5 hs1_5 (le45.t le59)) hx106'
          have hc118 := hE116 _ _ hx106'
          refine Di 8 hi107 <| Dx 9 0 (fun _ hq => hq.1.1 _ _ hF115) hc118 <| Dv [10] ?_
          obtain rfl := Aa h108
          exact Wf (by kernel_rfl) ⟨F2, hw79, (V3 _), fI⟩
         ·rintro f w80 ⟨F4, hs81, le82, ⟨_, rfl⟩⟩
          refine Ab <| Cd h90 (fun hb119 h120 => ?_) (fun hb119 h121 => ?_)
          ·cases h120
          ·refine Sc ?_
           refine Ap <| Ab <| Rg [0, 1, 2] <| Vs 3 <| VY ?_
           have hn122 := AD h121 hnx74
           exact ⟨m71, Nat.lt_succ_self _, (W64 (s56 + 1)), F4, hn122, hs81, (le59.t le82), fI⟩
        ·refine Ex ?_
         refine Al <| Al <| Ay rfl ?_
         have ho123 := AE h77 hnx74
         exact .inl ⟨rfl, s56, F2, ho123, hs58.dr0.dr0, le59, fI⟩
       ·rintro f w65 ⟨s64, F3, rfl, hs66, le67, ⟨_, rfl⟩⟩
        have h124 := A6 h55
        refine Ab <| Sq (Rg [0] ?_)
        refine Vs 1 <| Nt <| Rt ?_
        obtain rfl := Aa h124
        exact Re [(.bool true)] hs66 rfl
def DA (F : Mem) (v : Value) (L : Own) : Option Am -> Prop
 | none => v = .tuple #[.pointer none, .int .i64 2] /\ L = []
 | some m => ∃ (b : Nat) (am_3 : Wo) (nm_3 : Nat) (mbm_4 : Nat) (em_4 : Option Nat × Obj) (mbm_5 : Nat) (em_5 : Option Nat × Obj), v = .tuple #[.pointer (some ⟨b, 0, none⟩), .int .i64 0] /\ L = [(sb b #[(.bool m.o_.Report), (.bool m.o_.Serial), (.bool m.o_.Zone), (.slice am_3 m.lines_.length nm_3), (.map (some mbm_4)), (.map (some mbm_5))] 148), em_4, em_5] /\ LC m.lines_.length nm_3 /\ SlA AK F am_3 m.lines_ /\ Bc AB AM F mbm_4 m.known_ em_4 /\ Bc AK Aw F mbm_5 m.read_ em_5
theorem Gg {F : Mem} {v : Value} {L : Own} (h : DA F v L none) : v = .tuple #[.pointer none, .int .i64 2] /\ L = [] := h
theorem Gf {F : Mem} {v : Value} {L : Own} {m : Am} (h : DA F v L (some m)) : ∃ (b : Nat) (am_3 : Wo) (nm_3 : Nat) (mbm_4 : Nat) (em_4 : Option Nat × Obj) (mbm_5 : Nat) (em_5 : Option Nat × Obj), v = .tuple #[.pointer (some ⟨b, 0, none⟩), .int .i64 0] /\ L = [(sb b #[(.bool m.o_.Report), (.bool m.o_.Serial), (.bool m.o_.Zone), (.slice am_3 m.lines_.length nm_3), (.map (some mbm_4)), (.map (some mbm_5))] 148), em_4, em_5] /\ LC m.lines_.length nm_3 /\ SlA AK F am_3 m.lines_ /\ Bc AB AM F mbm_4 m.known_ em_4 /\ Bc AK Aw F mbm_5 m.read_ em_5 := h
theorem I4 {F : Mem} {v : Value} {L : Own} {m : Am} (h : ∃ (b : Nat) (am_3 : Wo) (nm_3 : Nat) (mbm_4 : Nat) (em_4 : Option Nat × Obj) (mbm_5 : Nat) (em_5 : Option Nat × Obj), v = .tuple #[.pointer (some ⟨b, 0, none⟩), .int .i64 0] /\ L = [(sb b #[(.bool m.o_.Report), (.bool m.o_.Serial), (.bool m.o_.Zone), (.slice am_3 m.lines_.length nm_3), (.map (some mbm_4)), (.map (some mbm_5))] 148), em_4, em_5] /\ LC m.lines_.length nm_3 /\ SlA AK F am_3 m.lines_ /\ Bc AB AM F mbm_4 m.known_ em_4 /\ Bc AK Aw F mbm_5 m.read_ em_5) : DA F v L (some m) := h
def HR (N : Nat) (x0 : Ac) (x1 : Wn) : (List Wn) -> (Wn × Bool) -> Option (List Wn) := fun s52 x65 =>
 (((C2 s52 [x65.1]).bind fun r100 => some r100).bind fun j85 => some j85)
def Hv (N : Nat) (x0 : Ac) (x1 : Wn) : Option (Option Am) :=
 ((Em N (fun st x => ((HR N x0 x1) st x).map fun t => (true, t)) x1 ([] : List Wn)).bind fun r60 => (bif ((decide ((x1.length : Int) > 65536)) || (decide ((r60.length : Int) > 400))) then none else some (some ({ o_ := ({ Report := x0.Report, Serial := x0.Serial, Zone := x0.Zone } : Ac), lines_ := r60, known_ := ([] : List (Ao × Int)), read_ := ([] : List (Wn × Au)) } : Am))))
theorem HX : Af Tryz.prog 108 := fun _ _ => by kernel_rfl
theorem IZ (N : Nat) (w0 : World) (F0 : Mem) (hF : Wp w0 F0) (hG : Br F0) (x0 : Ac) (x1 : Wn) (r : (Option Am)) (h : Hv N x0 x1 = some r) :
  Calls Tryz.prog 108 ([(.agg (Ag x0)), (sv x1)] : List Value).toArray w0 (N4 w0 F0 fun F' v L' => DA F' v L' r) := by
 have hs0 := V4 hF
 refine O2 (n := 39) (c := N1 Tryz.f108) Tryz.func108 (by kernel_rfl) (by kernel_rfl) (by kernel_rfl) <| Sq (Rg [0, 1, 2] ?_)
 refine Bx' 23 (Ag x0) hs0 (fun b21 w22 hs23 => ?_)
 refine Vs 2 <| Nss (Rg (rG 7) ?_)
 refine Ld hs23.at0 <| RWP.makeMap (t := 145) (K := AB) (T := AM) (dst := (some 9)) (ty := 145) (g := none) (by kernel_rfl) rfl hs23 (fun b25 e26 w27 (hs28 : HS w0 F0 w27 F0 [e26, (sb b21 (Ag x0) 23)]) hr29 => ?_)
 refine RWP.makeMap (t := 146) (K := AK) (T := Aw) (dst := (some 10)) (ty := 146) (g := none) (by kernel_rfl) rfl hs28 (fun b31 e32 w33 (hs34 : HS w0 F0 w33 F0 [e32, e26, (sb b21 (Ag x0) 23)]) hr35 => ?_)
 refine Vs 1 <| Bx' 148 #[(.bool x0.Report), (.bool x0.Serial), (.bool x0.Zone), (.slice none ([] : List Wn).length 0), (.map (some b25)), (.map (some b31))] hs34 (fun b36 w37 hs38 => ?_)
 refine Al' 138 #[(.pointer none)] hs38 (fun b39 w40 hs41 => ?_)
 refine St0 #[(pt b36 0)] hs41 (fun w42 hs43 => ?_)
 refine Nss <| Sq (Rg [0, 1] ?_)
 refine Vs 1 <| RWP.callO (dst := (some 14)) (ty := 132) (g := none) (by kernel_rfl) rfl (f0 := (.func 105)) (aos := #[(.tmp 13)]) (ats := #[9]) (fid := 105) (first := #[]) (cap := #[]) (args := [(sv x1)]) rfl JI rfl hs43 (KV w42 F0 hs43.pers x1) ?_
 rintro _ F1 w45 _ hs46 le47 ⟨b44, rfl, rfl⟩
 have hs48 : HS w0 F0 w45 F1 [(sb b44 #[(sv x1)] 9), (sb b39 #[(pt b36 0)] 138), (sb b36 #[(.bool x0.Report), (.bool x0.Serial), (.bool x0.Zone), (.slice none ([] : List Wn).length 0), (.map (some b25)), (.map (some b31))] 148), e32, e26, (sb b21 (Ag x0) 23)] := hs46
 refine Nt <| Bk ?_
 have hs49 := hs48.dr5.dummy (oc #[] 0)
 have hs51 := hs49.pk5.pk5.pk5.pk5.pk4.pk5
 obtain ⟨r60, hr61, h62⟩ := bind_some h
 refine CWP.rangeFunc (enc := QZ) (ok := SP) (px := SH) (m := fun {_} y s => Em N y x1 s) (L := [(none, .cells #[] 0 (0, 0)), (sb b39 #[(pt b36 0)] 138), (sb b36 #[(.bool x0.Report), (.bool x0.Serial), (.bool x0.Zone), (.slice none ([] : List Wn).length 0), (.map (some b25)), (.map (some b31))] 148), e32, e26]) (B := [(sb b44 #[(sv x1)] 9)]) (ps := [15, 16]) (by kernel_rfl) (gf := 169) (cap := [(pt b44 0)]) rfl HY rfl (by kernel_rfl) (by kernel_rfl) (fun _ => rfl) hs51 (I0 N F1 (hG.mono le47) x1 b44) (fun st x => ((HR N x0 x1) st x).map fun t => (true, t)) (fun (s52 : (List Wn)) (F2 : Mem) (Lq : Own) => ∃ (as52_0 : Wo) (ns52_0 : Nat) (es52_0 : Option Nat × Obj), Lq = [es52_0, (sb b39 #[(pt b36 0)] 138), (sb b36 #[(.bool x0.Report), (.bool x0.Serial), (.bool x0.Zone), (.slice as52_0 s52.length ns52_0), (.map (some b25)), (.map (some b31))] 148), e32, e26] /\ Ar AK 9 F2 as52_0 ns52_0 s52 es52_0) ?_ (s := ([] : List Wn)) (r := r60) ?_ hr61 (fun _ _ _ h => (P3 h).1) ?_ ?_
 ·rintro s F F' L ⟨as52_0, ns52_0, es52_0, rfl, hrs52_0⟩ hl
  exact ⟨as52_0, ns52_0, es52_0, rfl, (hrs52_0.mono hl)⟩
 ·exact ⟨none, 0, (none, .cells #[] 0 (0, 0)), rfl, (Wh AK 9 F1 _)⟩
 ·rintro l63 s52 x65 w66 F2 _ Rf68 ⟨_, q69⟩ le70 ok71 ⟨as52_0, ns52_0, es52_0, rfl, hrs52_0⟩ hs72 hy73
  have h74 := (P3 hy73).2
  have hs75 : HS w0 F0 w66 F2 (es52_0 :: (sb b39 #[(pt b36 0)] 138) :: (sb b36 #[(.bool x0.Report), (.bool x0.Serial), (.bool x0.Zone), (.slice as52_0 s52.length ns52_0), (.map (some b25)), (.map (some b31))] 148) :: e32 :: e26 :: Rf68) := hs72
  refine Rg [0] <| Vs 1 <| VY <| ⟨rfl, F2, [es52_0, (sb b39 #[(pt b36 0)] 138), (sb b36 #[(.bool x0.Report), (.bool x0.Serial), (.bool x0.Zone), (.slice as52_0 s52.length ns52_0), (.map (some b25)), (.map (some b31))] 148), e32, e26], hs75, fun w76 Rf77 hs78 => ?_⟩
  have hs79 : HS w0 F0 w76 F2 (es52_0 :: (sb b39 #[(pt b36 0)] 138) :: (sb b36 #[(.bool x0.Report), (.bool x0.Serial), (.bool x0.Zone), (.slice as52_0 s52.length ns52_0), (.map (some b25)), (.map (some b31))] 148) :: e32 :: e26 :: Rf77) := hs78
  refine Bk ?_
  obtain ⟨j85, hj93, h94⟩ := bind_some h74
  refine RD 10 11 [(sb b39 #[(pt b36 0)] 138), e32, e26] [(sb b36 #[(.bool x0.Report), (.bool x0.Serial), (.bool x0.Zone), (.slice as52_0 s52.length ns52_0), (.map (some b25)), (.map (some b31))] 148)] hs79 (fun f w => ∃ (F4 : Mem) (aj85_0 : Wo) (nj85_0 : Nat) (ej85_0 : Option Nat × Obj), HS w0 F0 w F4 (ej85_0 :: (sb b39 #[(pt b36 0)] 138) :: (sb b36 #[(.bool x0.Report), (.bool x0.Serial), (.bool x0.Zone), (.slice aj85_0 j85.length nj85_0), (.map (some b25)), (.map (some b31))] 148) :: e32 :: e26 :: Rf77) /\ V2 F2 F4 /\ FI f [] [(2, (pt b21 0)), (6, (pt b39 0)), (9, (.map (some b25))), (10, (.map (some b31))), (11, (.agg #[(.bool x0.Report), (.bool x0.Serial), (.bool x0.Zone), (.slice none ([] : List Wn).length 0), (.map (some b25)), (.map (some b31))])), (12, (pt b36 0))] /\ Ar AK 9 F4 aj85_0 nj85_0 j85 ej85_0) (fun wd80 hw81 => ?_) ?_
  ·refine Dl 0 (fun _ hq => (hq.1.2 0 _ _ rfl)) ?_
   refine Dl 1 (fun _ hq => (hq.1.2 0 _ _ rfl)) <| Dv [2, 3] <| Dl 4 (fun _ hq => ((hq.2 rfl).2 0 _ _ rfl)) <| Dv [5] <| D1 6 <| DBs 9 [(sv x65.1)] hw81 (V3 _) (fun b95 w96 hs97 => ?_)
   have hr99 : Ar AK 9 F2 (some ⟨b95, 0, none⟩) 1 [x65.1] (some b95, .cells ([(sv x65.1)] : List Value).toArray 9 (0, 0)) := Wi ⟨rfl, rfl⟩ (by simp)
   refine D1 7 ?_
   obtain ⟨r100, hap101, h102⟩ := bind_some hj93
   refine VX QQ hs97 hrs52_0 (hs97.rd0 hr99) hap101 (V3 _) (fun a103 n104 e105 w106 hs107 hr108 => ?_)
   refine D1 8 <| Wc (l' := [true, true, true, true, true, true, true, true, true, false, false]) (zd := false) (by kernel_rfl) (by kernel_rfl) (dst := (some 25)) (ty := 0) (g := none) (by kernel_rfl) rfl (Eh (x := (.tmp 17)) (a := ⟨b36, 0, none⟩) rfl) (Bd hs107 (V3 _) (by simp) (fun _ => by simp)) <| Dv [9] <| D1 10 <| Ut #[(.bool x0.Report), (.bool x0.Serial), (.bool x0.Zone), (.slice a103 r100.length n104), (.map (some b25)), (.map (some b31))] hs107 (V3 _) (fun w109 hs110 => ?_)
   obtain rfl := Aa h102
   exact Wf (by kernel_rfl) ⟨F2, a103, n104, e105, hs110.dr0, (V3 _), fI, hr108⟩
  ·rintro f w82 ⟨F4, aj85_0, nj85_0, ej85_0, hs83, le84, ⟨_, rfl⟩, hrj85_0⟩
   refine Ap ?_
   obtain rfl := Aa h94
   exact ⟨rfl, F4, [ej85_0, (sb b39 #[(pt b36 0)] 138), (sb b36 #[(.bool x0.Report), (.bool x0.Serial), (.bool x0.Zone), (.slice aj85_0 j85.length nj85_0), (.map (some b25)), (.map (some b31))] 148), e32, e26], hs83, le84, ⟨aj85_0, nj85_0, ej85_0, rfl, hrj85_0⟩⟩
 ·rintro D112 w113 F3 _ hs114 le115 ⟨as56_0, ns56_0, es56_0, rfl, hrs56_0⟩
  have hs116 : HS w0 F0 w113 F3 [(some D112, (.deferred (some []))), es56_0, (sb b39 #[(pt b36 0)] 138), (sb b36 #[(.bool x0.Report), (.bool x0.Serial), (.bool x0.Zone), (.slice as56_0 r60.length ns56_0), (.map (some b25)), (.map (some b31))] 148), e32, e26] := hs114
  refine Ap <| Ab <| Sq <| Sq (Rg (rG 11) ?_)
  refine V8 (fun f w => ∃ (F5 : Mem), HS w0 F0 w F5 [(some D112, (.deferred (some []))), es56_0, (sb b39 #[(pt b36 0)] 138), (sb b36 #[(.bool x0.Report), (.bool x0.Serial), (.bool x0.Zone), (.slice as56_0 r60.length ns56_0), (.map (some b25)), (.map (some b31))] 148), e32, e26] /\ V2 F3 F5 /\ FI f [{ target := .collected D112, args := #[] }] [(6, (pt b39 0)), (37, (.bool ((decide ((x1.length : Int) > 65536)) || (decide ((r60.length : Int) > 400)))))]) ?_ ?_
  ·refine Vs 4 ?_
   refine V7 (decide ((x1.length : Int) > 65536)) (fun hb123 => ?_) (fun hb123 => ?_)
   ·refine Ss hb123 6 ?_
    refine Pk1 hb123 ?_
    exact VY ⟨rfl, F3, hs116, (V3 _), (fJ ⟨rfl, (congrArg Value.bool (Fw hb123 rfl)), trivial⟩)⟩
   ·refine Lg hb123 hs116.at2 ?_
    refine Vgs hb123 2 <| Lg hb123 hs116.at3 <| Vgs hb123 2 <| Pk0 hb123 ?_
    exact VY ⟨rfl, F3, hs116, (V3 _), (fJ ⟨rfl, (congrArg Value.bool (Cr hb123 rfl)), trivial⟩)⟩
  ·rintro f w117 ⟨F5, hs118, le119, ⟨_, rfl⟩⟩
   refine Ab <| Cd h62 (fun hb124 h125 => ?_) (fun hb124 h126 => ?_)
   ·cases h125
   ·refine Sc ?_
    refine Ab <| Sq (Rg [0, 1, 2] ?_)
    refine Ld hs118.at2 <| Vs 2 <| Nt <| Rt ?_
    have hb130 := Wg (hrs56_0.mono le119)
    obtain ⟨F6, hs127, le128, hs129⟩ := hs118.fr1 (hrs56_0.mono le119)
    have hs131 := hs127.dr1.pk2.pk3.pk3.pk3
    have hs132 := hs131.put (k := 0) rfl (.deferred none)
    have hs133 : HS w0 F0 (B6 w117 D112 (.deferred none)) F6 [(sb b36 #[(.bool x0.Report), (.bool x0.Serial), (.bool x0.Zone), (.slice as56_0 r60.length ns56_0), (.map (some b25)), (.map (some b31))] 148), e26, e32] := hs132.drop 0
    obtain rfl := Aa h126
    exact .inr ⟨D112, rfl, hs131.ownAt (k := 0) rfl, (.tuple #[(pt b36 0), (vi 0)]), AW (l := [.tmp 4, .tmp 5]) (by kernel_rfl) (vs := [(pt b36 0), (vi 0)]) ⟨rfl, ⟨rfl, trivial⟩⟩, (.tuple #[(pt b36 0), (vi 0)]), F6, _, rfl, hs133, (I4 ⟨b36, as56_0, ns56_0, b25, e26, b31, e32, rfl, rfl, hb130, hs129, (hr29.mono (((le47.t le115).trans le119).trans le128)), (hr35.mono (((le47.t le115).trans le119).trans le128))⟩)⟩
def JU (N : Nat)  : Option Ao :=
 some ({ at_ := 0, stage_ := 0, num_ := 0, minute_ := (-1) } : Ao)
theorem JH : Af Tryz.prog 110 := fun _ _ => by kernel_rfl
theorem KT (N : Nat) (w0 : World) (F0 : Mem) (hF : Wp w0 F0)  (r : Ao) (h : JU N  = some r) :
  Calls Tryz.prog 110 ([] : List Value).toArray w0 (AA w0 F0 fun F' v => v = (.agg (Ai r))) := by
 have hs0 := V4 hF
 refine Go 2 Tryz.func110 <| Sq (Rg [0] ?_)
 refine Al' 143 #[(vi 0), (vi 0), (vi 0), (vi 0)] hs0 (fun b21 w22 hs23 => ?_)
 refine Nss (Rg [0, 1] ?_)
 refine Vs 1 <| St0 #[(vi 0), (vi 0), (vi 0), (vi (-1))] hs23 (fun w24 hs25 => ?_)
 refine Nt <| Rt ?_
 obtain rfl := Aa h
 exact ⟨rfl, (.agg #[(vi 0), (vi 0), (vi 0), (vi (-1))]), AW (l := [.cell 0 143]) (by kernel_rfl) (vs := [(.agg #[(vi 0), (vi 0), (vi 0), (vi (-1))])]) ⟨b21, 0, rfl, An (t := 143) (g := true) (s := 4) (by kernel_rfl) hs25.at0 rfl (by decide), trivial⟩, (.agg #[(vi 0), (vi 0), (vi 0), (vi (-1))]), F0, rfl, hs25.clear, rfl⟩
def Cn (N : Nat) (x0 : Int) : Option Wn :=
 ((idx ([([] : Wn), ([67, 65, 84, 69, 71, 79, 82, 89, 32, 49] : Wn), ([80, 79, 87, 69, 82, 32, 49] : Wn), ([67, 76, 65, 73, 77, 69, 68, 32, 48] : Wn), ([74, 85, 77, 80, 83] : Wn), ([69, 78, 68] : Wn)] : List Wn) x0).bind fun c21 => some c21)
theorem B2 : Af Tryz.prog 121 := fun _ _ => by kernel_rfl
theorem Cf (N : Nat) (w0 : World) (F0 : Mem) (hF : Wp w0 F0) (x0 : Int) (r : Wn) (h : Cn N x0 = some r) :
  Calls Tryz.prog 121 ([(vi x0)] : List Value).toArray w0 (AA w0 F0 fun F' v => v = (sv r)) := by
 have hs0 := V4 hF
 refine Go 6 Tryz.func121 <| Sq (Rg [0] ?_)
 refine Vs 1 <| Nss (Rg (rG 4) ?_)
 refine V 3 219 (JQ (t := 219) (parts := #[(1, (.const (sv ([67, 65, 84, 69, 71, 79, 82, 89, 32, 49] : Wn)))), (2, (.const (sv ([80, 79, 87, 69, 82, 32, 49] : Wn)))), (3, (.const (sv ([67, 76, 65, 73, 77, 69, 68, 32, 48] : Wn)))), (4, (.const (sv ([74, 85, 77, 80, 83] : Wn)))), (5, (.const (sv ([69, 78, 68] : Wn))))]) (vs := [(1, (sv (([67, 65, 84, 69, 71, 79, 82, 89, 32, 49] : Wn)))), (2, (sv (([80, 79, 87, 69, 82, 32, 49] : Wn)))), (3, (sv (([67, 76, 65, 73, 77, 69, 68, 32, 48] : Wn)))), (4, (sv (([74, 85, 77, 80, 83] : Wn)))), (5, (sv (([69, 78, 68] : Wn))))]) rfl (cs := [(sv (([] : Wn))), (sv (([67, 65, 84, 69, 71, 79, 82, 89, 32, 49] : Wn))), (sv (([80, 79, 87, 69, 82, 32, 49] : Wn))), (sv (([67, 76, 65, 73, 77, 69, 68, 32, 48] : Wn))), (sv (([74, 85, 77, 80, 83] : Wn))), (sv (([69, 78, 68] : Wn)))]) (by kernel_rfl)) <| Vs 1 ?_
 obtain ⟨c21, hr22, h23⟩ := bind_some h
 refine V 5 9 (Rc (t := 219) (E := 9) (len := 6) (x := (.tmp 3)) (y := (.tmp 4)) (k := .i64) (i := x0) (cs := (([([] : Wn), ([67, 65, 84, 69, 71, 79, 82, 89, 32, 49] : Wn), ([80, 79, 87, 69, 82, 32, 49] : Wn), ([67, 76, 65, 73, 77, 69, 68, 32, 48] : Wn), ([74, 85, 77, 80, 83] : Wn), ([69, 78, 68] : Wn)] : List Wn)).map (fun x : Wn => Value.string ⟨x.toArray⟩)) (v := (sv c21)) rfl rfl (by kernel_rfl) (by kernel_rfl) rfl (Qc (f := (fun x : Wn => Value.string ⟨x.toArray⟩)) hr22)) <| Vs 1 <| Nt <| Rt ?_
 obtain rfl := Aa h23
 exact Re [(sv c21)] hs0 rfl
def Jy (N : Nat) (x0 : Log) (x1 : Wn) : Option (Log × Bool) :=
 ((strings_CutPrefix N x1 ([67, 65, 76, 76, 32] : Wn)).bind fun r21 => ((bif r21.2 then ((DO N r21.1).bind fun r42 => some r42) else some false).bind fun j34 => some (({ Call := r21.1, Category := x0.Category, Power := x0.Power, Claimed := x0.Claimed, Jumps := x0.Jumps, Lines := x0.Lines } : Log), j34)))
theorem LO : Af Tryz.prog 153 := fun _ _ => by kernel_rfl
theorem MG (N : Nat) {wb w0 : World} {Fb F0 : Mem} {Lf : Own} (hG : Br F0) (bp0 : Nat) (x0 : Log) (a0_4 : Wo) (n0_4 : Nat) (a0_5 : Wo) (n0_5 : Nat) (hb0_4 : LC x0.Jumps.length n0_4) (hs0_4 : SlA AM F0 a0_4 x0.Jumps) (hb0_5 : LC x0.Lines.length n0_5) (hs0_5 : SlA AL F0 a0_5 x0.Lines) (x1 : Wn) (hs0 : HS wb Fb w0 F0 ((sb bp0 (AF x0 a0_4 n0_4 a0_5 n0_5) 27) :: Lf)) (r : (Log × Bool)) (h : Jy N x0 x1 = some r) :
  Calls Tryz.prog 153 ([(pt bp0 0), (sv x1)] : List Value).toArray w0 (ER wb Fb F0 fun F' v L' => ∃ (aq0_4 : Wo) (nq0_4 : Nat) (aq0_5 : Wo) (nq0_5 : Nat), v = (.bool r.2) /\ L' = (sb bp0 (AF r.1 aq0_4 nq0_4 aq0_5 nq0_5) 27) :: Lf /\ LC r.1.Jumps.length nq0_4 /\ SlA AM F' aq0_4 r.1.Jumps /\ LC r.1.Lines.length nq0_5 /\ SlA AL F' aq0_5 r.1.Lines) := by
 refine Go 21 Tryz.func153 <| Sq (Rg [0] ?_)
 refine Vs 1 <| Nss (Rg (rG 7) ?_)
 refine Vs 1 ?_
 obtain ⟨r21, hr22, h23⟩ := bind_some h
 refine Cl' A1 hs0 (A9 N w0 F0 hs0.pers x1 (([67, 65, 76, 76, 32] : Wn)) _ hr22) ?_
 rintro _ F1 w25 hs26 le27 rfl
 refine Vs 5 <| Nss (Rg (rG 5) ?_)
 refine Vs 4 <| St0 #[(sv r21.1), (vi x0.Category), (vi x0.Power), (vi x0.Claimed), (.slice a0_4 x0.Jumps.length n0_4), (.slice a0_5 x0.Lines.length n0_5)] hs26 (fun w29 hs30 => ?_)
 refine Nss (Rg (rG 6) ?_)
 obtain ⟨j34, hj37, h38⟩ := bind_some h23
 refine V8 (fun f w => ∃ (F2 : Mem), HS wb Fb w F2 ((sb bp0 #[(sv r21.1), (vi x0.Category), (vi x0.Power), (vi x0.Claimed), (.slice a0_4 x0.Jumps.length n0_4), (.slice a0_5 x0.Lines.length n0_5)] 27) :: Lf) /\ V2 F1 F2 /\ FI f [] [(4, (.bool j34))]) ?_ ?_
 ·refine Vs 2 ?_
  refine Sp hj37 (fun hb39 h40 => ?_) (fun hb39 h41 => ?_)
  ·refine Vgs hb39 1 ?_
   obtain ⟨r42, hr43, h44⟩ := bind_some h40
   refine Cg hb39 EN hs30 (Fl N w29 F1 hs30.pers (hG.mono le27) r21.1 _ hr43) ?_
   rintro _ F3 w46 hs47 le48 rfl
   refine Pk1 hb39 <| Vs 1 ?_
   obtain rfl := Aa h44
   exact VY ⟨rfl, F3, hs47, le48, fI⟩
  ·refine Ss hb39 2 ?_
   refine Pk0 hb39 <| Vs 1 ?_
   obtain rfl := Aa h41
   exact VY ⟨rfl, F1, hs30, (V3 _), fI⟩
 ·rintro f w31 ⟨F2, hs32, le33, ⟨_, rfl⟩⟩
  refine Ab <| Rt ?_
  obtain rfl := Aa h38
  exact ReB [(.bool j34)] hs32 (le27.t le33) ⟨a0_4, n0_4, a0_5, n0_5, rfl, rfl, hb0_4, (V5 hs0_4 (le27.t le33)), hb0_5, (V5 hs0_5 (le27.t le33))⟩
def Gu (N : Nat) (x0 : Log) (x1 : Wn) (r21 : (List Wn)) (r29 : List Wn) : (List Int × Int) -> Option (A4 (Log × Bool) (List Int × Int)) := fun s42 =>
 (bif (decide (s42.2 < (r29.length : Int))) then ((idx r29 s42.2).bind fun x70 => ((Bz N x70).bind fun r84 => (bif (!r84.2) then some (.ret (x0, false)) else ((C2 s42.1 [r84.1]).bind fun r100 => some (.next (r100, (W64 (s42.2 + 1)))))))) else some (.done (s42.1, s42.2)))
def Ir (N : Nat) (x0 : Log) (x1 : Wn) : Option (Log × Bool) :=
 ((strings_Split N x1 ([32] : Wn)).bind fun r21 => ((sub r21 1 (r21.length : Int)).bind fun r29 => ((AJ (Gu N x0 x1 r21 r29) N (([] : List Int), 0)).bind fun o => o.k (fun r => some r) (fun s53 => (((idx r21 0).bind fun x126 => (bif (x126 == ([74, 85, 77, 80, 83] : Wn)) then ((EL N s53.1).bind fun r143 => some r143) else some false)).bind fun j121 => some (({ Call := x0.Call, Category := x0.Category, Power := x0.Power, Claimed := x0.Claimed, Jumps := s53.1, Lines := x0.Lines } : Log), j121))))))
theorem KE : Af Tryz.prog 159 := fun _ _ => by kernel_rfl
theorem LU (N : Nat) {wb w0 : World} {Fb F0 : Mem} {Lf : Own} (hG : Br F0) (bp0 : Nat) (x0 : Log) (a0_4 : Wo) (n0_4 : Nat) (a0_5 : Wo) (n0_5 : Nat) (hb0_4 : LC x0.Jumps.length n0_4) (hs0_4 : SlA AM F0 a0_4 x0.Jumps) (hb0_5 : LC x0.Lines.length n0_5) (hs0_5 : SlA AL F0 a0_5 x0.Lines) (x1 : Wn) (hs0 : HS wb Fb w0 F0 ((sb bp0 (AF x0 a0_4 n0_4 a0_5 n0_5) 27) :: Lf)) (r : (Log × Bool)) (h : Ir N x0 x1 = some r) :
  Calls Tryz.prog 159 ([(pt bp0 0), (sv x1)] : List Value).toArray w0 (ER wb Fb F0 fun F' v L' => ∃ (aq0_4 : Wo) (nq0_4 : Nat) (aq0_5 : Wo) (nq0_5 : Nat), v = (.bool r.2) /\ L' = (sb bp0 (AF r.1 aq0_4 nq0_4 aq0_5 nq0_5) 27) :: Lf /\ LC r.1.Jumps.length nq0_4 /\ SlA AM F' aq0_4 r.1.Jumps /\ LC r.1.Lines.length nq0_5 /\ SlA AL F' aq0_5 r.1.Lines) := by
 refine Go 44 Tryz.func159 <| Sq (Rg [0] ?_)
 refine Vs 1 <| Nss (Rg [0, 1, 2] ?_)
 refine Vs 1 ?_
 obtain ⟨r21, hr22, h23⟩ := bind_some h
 refine Cl' Cx hs0 (CR N w0 F0 hs0.pers hG x1 (([32] : Wn)) _ hr22) ?_
 rintro _ F1 w25 hs26 le27 ⟨ar21_0_0, nr21_0_0, rfl, hbr21_0_0, hsr21_0_0⟩
 refine Vs 1 <| Nss (Rg [0] ?_)
 refine Vs 1 <| Nss <| Sq (Rg (rG 4) ?_)
 refine Vs 1 ?_
 obtain ⟨r29, hr30, h31⟩ := bind_some h23
 obtain ⟨a32, n33, hb34, hs35, hrun36⟩ := FO (P := Tryz.prog) (T := AK) (lo := (some (.const (vi 1)))) (hi := none) (mx := none) (t := 55) (E := 9) (by_ := 16) (c := nr21_0_0) (a := ar21_0_0) (l := r21) (r := r29) (il := 1) (ih := (r21.length : Int)) (im := 0) (by kernel_rfl) (by kernel_rfl) hbr21_0_0 hsr21_0_0 (fun h => by first | rfl | cases h) hr30
 refine V 14 55 (hrun36 (x := (.tmp 13)) rfl rfl rfl trivial) <| Vs 2 <| Nt ?_
 have hs37 := hs26.dummy (oc #[] 0)
 obtain ⟨o39, ho40, h41⟩ := bind_some h31
 refine V9 (fun f w => ∃ (s53 : (List Int × Int)) (F3 : Mem) (as53_0 : Wo) (ns53_0 : Nat) (es53_0 : Option Nat × Obj), o39 = .done s53 /\ HS wb Fb w F3 (es53_0 :: (sb bp0 (AF x0 a0_4 n0_4 a0_5 n0_5) 27) :: Lf) /\ V2 F1 F3 /\ FI f [] [(0, (pt bp0 0)), (5, (.slice ar21_0_0 r21.length nr21_0_0)), (6, (.slice as53_0 s53.1.length ns53_0))] /\ Ar AM 3 F3 as53_0 ns53_0 s53.1 es53_0) ?_ ?_
 ·refine Bk ?_
  refine V1 (by kernel_rfl) (fun m f w => ∃ (s42 : (List Int × Int)) (F2 : Mem) (as42_0 : Wo) (ns42_0 : Nat) (es42_0 : Option Nat × Obj), AJ (Gu N x0 x1 r21 r29) m s42 = some o39 /\ HS wb Fb w F2 (es42_0 :: (sb bp0 (AF x0 a0_4 n0_4 a0_5 n0_5) 27) :: Lf) /\ V2 F1 F2 /\ FI f [] [(0, (pt bp0 0)), (5, (.slice ar21_0_0 r21.length nr21_0_0)), (6, (.slice as42_0 s42.1.length ns42_0)), (14, (.slice a32 r29.length n33)), (15, (vi (r29.length : Int))), (16, (vi s42.2))] /\ Ar AM 3 F2 as42_0 ns42_0 s42.1 es42_0) N ⟨(([] : List Int), 0), F1, none, 0, (none, .cells #[] 0 (0, 0)), ho40, hs37, (V3 _), fI, (Wh AM 3 F1 _)⟩ ?_
  rintro m61 f w43 ⟨s42, F2, as42_0, ns42_0, es42_0, hit62, hs44, le45, ⟨_, rfl⟩, hrs42_0⟩
  obtain ⟨m63, fl64, rfl, hb65, hnx66⟩ := AC hit62
  refine Sq (Rg [0] ?_)
  refine Vs 1 <| Nss <| Cd hb65 (fun hb67 h68 => ?_) (fun hb67 h69 => ?_)
  ·refine Sc ?_
   refine Ab <| Sq <| Bk <| Sq (Rg [0, 1, 2] ?_)
   obtain ⟨x70, hx71, h73⟩ := bind_some h68
   obtain ⟨hi72, hx71'⟩ := Aj hx71
   obtain ⟨b74, o75, C76, E77, fz78, rfl, hF80, hE81⟩ := Wa (V5 hs35 le45) hx71'
   have hc83 := hE81 _ _ hx71'
   refine Ix hi72 <| Lx 0 (hs44.pers _ _ hF80) hc83 <| Vs 1 <| Nss (Rg (rG 7) ?_)
   refine Vs 1 ?_
   obtain ⟨r84, hr85, h86⟩ := bind_some h73
   refine Cl' Be hs44 (Bq N w43 F2 hs44.pers (hG.mono (le27.t le45)) x70 _ hr85) ?_
   rintro _ F4 w88 hs89 le90 rfl
   refine Vs 5 <| Nss <| Sq (Rg [0, 1] ?_)
   refine Vs 2 <| Nt <| Cd h86 (fun hb92 h93 => ?_) (fun hb92 h94 => ?_)
   ·refine Sq (Rg [0] ?_)
    refine Vs 1 <| Nt <| Rt <| Ae <| Ax <| Ae <| Ae <| Ax ?_
    have hret := BZ h93 hnx66
    subst hret
    refine .inr <| Ae ?_
    obtain rfl := Aa h41
    exact ReB [(.bool false)] hs89.dr0 ((le27.t le45).trans le90) ⟨a0_4, n0_4, a0_5, n0_5, rfl, rfl, hb0_4, (V5 hs0_4 ((le27.t le45).trans le90)), hb0_5, (V5 hs0_5 ((le27.t le45).trans le90))⟩
   ·refine Sc ?_
    refine Ab <| Rg (rG 5) <| Vs 2 <| Bs 3 [(vi r84.1)] hs89 (fun b95 w96 hs97 => ?_)
    have hr99 : Ar AM 3 F4 (some ⟨b95, 0, none⟩) 1 [r84.1] (some b95, .cells ([(vi r84.1)] : List Value).toArray 3 (0, 0)) := Wi ⟨rfl, rfl⟩ (by simp)
    obtain ⟨r100, hap101, h102⟩ := bind_some h94
    refine Ap1 UM hs97 (hrs42_0.mono le90) (hs97.rd0 hr99) hap101 (fun a103 n104 e105 w106 hs107 hr108 => ?_)
    refine Vs 1 <| VY <| Ap <| Ab <| Rg [0, 1] <| Vs 2 <| VY ?_
    have hn109 := AD h102 hnx66
    exact ⟨m63, Nat.lt_succ_self _, (r100, (W64 (s42.2 + 1))), F4, a103, n104, e105, hn109, hs107.dr0, (le45.t le90), fI, hr108⟩
  ·refine Ex ?_
   refine Al <| Al <| Ay rfl ?_
   have ho110 := AE h69 hnx66
   exact .inl ⟨rfl, (s42.1, s42.2), F2, as42_0, ns42_0, es42_0, ho110, hs44, le45, fI, hrs42_0⟩
 ·rintro f w54 ⟨s53, F3, as53_0, ns53_0, es53_0, rfl, hs55, le56, ⟨_, rfl⟩, hrs53_0⟩
  have h111 := A6 h41
  refine Ab <| Sq (Rg (rG 5) ?_)
  refine Vs 4 ?_
  have hb115 := Wg hrs53_0
  obtain ⟨F5, hs112, le113, hs114⟩ := hs55.fr0 hrs53_0
  refine St0 #[(sv x0.Call), (vi x0.Category), (vi x0.Power), (vi x0.Claimed), (.slice as53_0 s53.1.length ns53_0), (.slice a0_5 x0.Lines.length n0_5)] hs112 (fun w116 hs117 => ?_)
  refine Nss (Rg (rG 9) ?_)
  obtain ⟨j121, hj124, h125⟩ := bind_some h111
  refine V8 (fun f w => ∃ (F6 : Mem), HS wb Fb w F6 ((sb bp0 #[(sv x0.Call), (vi x0.Category), (vi x0.Power), (vi x0.Claimed), (.slice as53_0 s53.1.length ns53_0), (.slice a0_5 x0.Lines.length n0_5)] 27) :: Lf) /\ V2 F5 F6 /\ FI f [] [(4, (.bool j121))]) ?_ ?_
  ·refine Vs 1 ?_
   obtain ⟨x126, hx127, h129⟩ := bind_some hj124
   obtain ⟨hi128, hx127'⟩ := Aj hx127
   obtain ⟨b130, o131, C132, E133, fz134, rfl, hF136, hE137⟩ := Wa (V5 hsr21_0_0 (le56.t le113)) hx127'
   have hc139 := hE137 _ _ hx127'
   refine Ix hi128 <| Lx 0 (hs117.pers _ _ hF136) hc139 <| Vs 2 <| Sp h129 (fun hb140 h141 => ?_) (fun hb140 h142 => ?_)
   ·refine Vgs hb140 1 ?_
    obtain ⟨r143, hr144, h145⟩ := bind_some h141
    refine Cg hb140 GN hs117 (HG N w116 F5 hs117.pers s53.1 as53_0 ns53_0 hb115 hs114 _ hr144) ?_
    rintro _ F7 w147 hs148 le149 rfl
    refine Pk1 hb140 <| Vs 1 ?_
    obtain rfl := Aa h145
    exact VY ⟨rfl, F7, hs148, le149, fI⟩
   ·refine Ss hb140 2 ?_
    refine Pk0 hb140 <| Vs 1 ?_
    obtain rfl := Aa h142
    exact VY ⟨rfl, F5, hs117, (V3 _), fI⟩
  ·rintro f w118 ⟨F6, hs119, le120, ⟨_, rfl⟩⟩
   refine Ab <| Rt ?_
   obtain rfl := Aa h125
   exact ReB [(.bool j121)] hs119 (((le27.t le56).trans le113).trans le120) ⟨as53_0, ns53_0, a0_5, n0_5, rfl, rfl, hb115, (V5 hs114 le120), hb0_5, (V5 hs0_5 (((le27.t le56).trans le113).trans le120))⟩
def Fo (N : Nat) (x0 : Am) (x1 : Wn) : Option (Am × Au) :=
 ((bif (!(Po x0.read_ x1)) then ((FQ N ({ Report := x0.o_.Report, Serial := x0.o_.Serial, Zone := x0.o_.Zone } : Ac) x1).bind fun r41 => ((some (N8 x0.read_ x1 ({ x_ := r41.1, ok_ := (r41.2 == 0) } : Au))).bind fun j61 => some (r41.1.Num, r41.1.Khz, r41.1.Mode, r41.1.Minute, r41.1.Call, r41.1.Sent.Report, r41.1.Sent.Serial, r41.1.Sent.Zone, r41.1.Got.Report, r41.1.Got.Serial, r41.1.Got.Zone, (r41.2 == 0), j61))) else some (((DB x0.read_ x1 ({ x_ := ({ Num := 0, Khz := 0, Mode := 0, Minute := 0, Call := ([] : Wn), Sent := ({ Report := 0, Serial := 0, Zone := 0 } : Ad), Got := ({ Report := 0, Serial := 0, Zone := 0 } : Ad) } : Line), ok_ := false } : Au))).x_.Num, ((DB x0.read_ x1 ({ x_ := ({ Num := 0, Khz := 0, Mode := 0, Minute := 0, Call := ([] : Wn), Sent := ({ Report := 0, Serial := 0, Zone := 0 } : Ad), Got := ({ Report := 0, Serial := 0, Zone := 0 } : Ad) } : Line), ok_ := false } : Au))).x_.Khz, ((DB x0.read_ x1 ({ x_ := ({ Num := 0, Khz := 0, Mode := 0, Minute := 0, Call := ([] : Wn), Sent := ({ Report := 0, Serial := 0, Zone := 0 } : Ad), Got := ({ Report := 0, Serial := 0, Zone := 0 } : Ad) } : Line), ok_ := false } : Au))).x_.Mode, ((DB x0.read_ x1 ({ x_ := ({ Num := 0, Khz := 0, Mode := 0, Minute := 0, Call := ([] : Wn), Sent := ({ Report := 0, Serial := 0, Zone := 0 } : Ad), Got := ({ Report := 0, Serial := 0, Zone := 0 } : Ad) } : Line), ok_ := false } : Au))).x_.Minute, ((DB x0.read_ x1 ({ x_ := ({ Num := 0, Khz := 0, Mode := 0, Minute := 0, Call := ([] : Wn), Sent := ({ Report := 0, Serial := 0, Zone := 0 } : Ad), Got := ({ Report := 0, Serial := 0, Zone := 0 } : Ad) } : Line), ok_ := false } : Au))).x_.Call, ((DB x0.read_ x1 ({ x_ := ({ Num := 0, Khz := 0, Mode := 0, Minute := 0, Call := ([] : Wn), Sent := ({ Report := 0, Serial := 0, Zone := 0 } : Ad), Got := ({ Report := 0, Serial := 0, Zone := 0 } : Ad) } : Line), ok_ := false } : Au))).x_.Sent.Report, ((DB x0.read_ x1 ({ x_ := ({ Num := 0, Khz := 0, Mode := 0, Minute := 0, Call := ([] : Wn), Sent := ({ Report := 0, Serial := 0, Zone := 0 } : Ad), Got := ({ Report := 0, Serial := 0, Zone := 0 } : Ad) } : Line), ok_ := false } : Au))).x_.Sent.Serial, ((DB x0.read_ x1 ({ x_ := ({ Num := 0, Khz := 0, Mode := 0, Minute := 0, Call := ([] : Wn), Sent := ({ Report := 0, Serial := 0, Zone := 0 } : Ad), Got := ({ Report := 0, Serial := 0, Zone := 0 } : Ad) } : Line), ok_ := false } : Au))).x_.Sent.Zone, ((DB x0.read_ x1 ({ x_ := ({ Num := 0, Khz := 0, Mode := 0, Minute := 0, Call := ([] : Wn), Sent := ({ Report := 0, Serial := 0, Zone := 0 } : Ad), Got := ({ Report := 0, Serial := 0, Zone := 0 } : Ad) } : Line), ok_ := false } : Au))).x_.Got.Report, ((DB x0.read_ x1 ({ x_ := ({ Num := 0, Khz := 0, Mode := 0, Minute := 0, Call := ([] : Wn), Sent := ({ Report := 0, Serial := 0, Zone := 0 } : Ad), Got := ({ Report := 0, Serial := 0, Zone := 0 } : Ad) } : Line), ok_ := false } : Au))).x_.Got.Serial, ((DB x0.read_ x1 ({ x_ := ({ Num := 0, Khz := 0, Mode := 0, Minute := 0, Call := ([] : Wn), Sent := ({ Report := 0, Serial := 0, Zone := 0 } : Ad), Got := ({ Report := 0, Serial := 0, Zone := 0 } : Ad) } : Line), ok_ := false } : Au))).x_.Got.Zone, ((DB x0.read_ x1 ({ x_ := ({ Num := 0, Khz := 0, Mode := 0, Minute := 0, Call := ([] : Wn), Sent := ({ Report := 0, Serial := 0, Zone := 0 } : Ad), Got := ({ Report := 0, Serial := 0, Zone := 0 } : Ad) } : Line), ok_ := false } : Au))).ok_, x0.read_)).bind fun j32 => some (({ o_ := ({ Report := x0.o_.Report, Serial := x0.o_.Serial, Zone := x0.o_.Zone } : Ac), lines_ := x0.lines_, known_ := x0.known_, read_ := j32.2.2.2.2.2.2.2.2.2.2.2.2 } : Am), ({ x_ := ({ Num := j32.1, Khz := j32.2.1, Mode := j32.2.2.1, Minute := j32.2.2.2.1, Call := j32.2.2.2.2.1, Sent := ({ Report := j32.2.2.2.2.2.1, Serial := j32.2.2.2.2.2.2.1, Zone := j32.2.2.2.2.2.2.2.1 } : Ad), Got := ({ Report := j32.2.2.2.2.2.2.2.2.1, Serial := j32.2.2.2.2.2.2.2.2.2.1, Zone := j32.2.2.2.2.2.2.2.2.2.2.1 } : Ad) } : Line), ok_ := j32.2.2.2.2.2.2.2.2.2.2.2.1 } : Au)))
theorem HB : Af Tryz.prog 205 := fun _ _ => by kernel_rfl
theorem Ic (N : Nat) {wb w0 : World} {Fb F0 : Mem} {Lf : Own} (hG : Br F0) (bp0 : Nat) (x0 : Am) (a0_3 : Wo) (n0_3 : Nat) (mb0_4 : Nat) (e0_4 : Option Nat × Obj) (mb0_5 : Nat) (e0_5 : Option Nat × Obj) (hb0_3 : LC x0.lines_.length n0_3) (hs0_3 : SlA AK F0 a0_3 x0.lines_) (hr0_4 : Bc AB AM F0 mb0_4 x0.known_ e0_4) (hr0_5 : Bc AK Aw F0 mb0_5 x0.read_ e0_5) (x1 : Wn) (hs0 : HS wb Fb w0 F0 ((sb bp0 #[(.bool x0.o_.Report), (.bool x0.o_.Serial), (.bool x0.o_.Zone), (.slice a0_3 x0.lines_.length n0_3), (.map (some mb0_4)), (.map (some mb0_5))] 148) :: e0_4 :: e0_5 :: Lf)) (r : (Am × Au)) (h : Fo N x0 x1 = some r) :
  Calls Tryz.prog 205 ([(pt bp0 0), (sv x1)] : List Value).toArray w0 (ER wb Fb F0 fun F' v L' => ∃ (aq0_3 : Wo) (nq0_3 : Nat) (eq0_4 : Option Nat × Obj) (eq0_5 : Option Nat × Obj), v = (.agg (EV r.2)) /\ L' = (sb bp0 #[(.bool r.1.o_.Report), (.bool r.1.o_.Serial), (.bool r.1.o_.Zone), (.slice aq0_3 r.1.lines_.length nq0_3), (.map (some mb0_4)), (.map (some mb0_5))] 148) :: eq0_4 :: eq0_5 :: Lf /\ LC r.1.lines_.length nq0_3 /\ SlA AK F' aq0_3 r.1.lines_ /\ Bc AB AM F' mb0_4 r.1.known_ eq0_4 /\ Bc AK Aw F' mb0_5 r.1.read_ eq0_5) := by
 refine Go 40 Tryz.func205 <| Sq (Rg [0] ?_)
 refine Al' 243 #[(vi 0), (vi 0), (vi 0), (vi 0), (sv (([] : Wn))), (vi 0), (vi 0), (vi 0), (vi 0), (vi 0), (vi 0), (.bool false)] hs0 (fun b21 w22 hs23 => ?_)
 refine Nss (Rg (rG 12) ?_)
 refine Vs 3 <| Ld hs23.at1 <| Vs 1 <| V 15 279 (M5 (mt := 146) (k := 9) (vt := 243) (m := (.tmp 13)) (x := (.tmp 14)) (kv := (sv x1)) (kx := x1) (z := (.agg #[(vi 0), (vi 0), (vi 0), (vi 0), (sv (([] : Wn))), (vi 0), (vi 0), (vi 0), (vi 0), (vi 0), (vi 0), (.bool false)])) (zx := ({ x_ := ({ Num := 0, Khz := 0, Mode := 0, Minute := 0, Call := ([] : Wn), Sent := ({ Report := 0, Serial := 0, Zone := 0 } : Ad), Got := ({ Report := 0, Serial := 0, Zone := 0 } : Ad) } : Line), ok_ := false } : Au)) (K := AK) (T := Aw) kl9 rfl rfl ⟨_, rfl, rfl⟩ (by kernel_rfl) (by kernel_rfl) ⟨_, rfl, rfl⟩ (Bc.mpw hs23 (i := 3) rfl hr0_5) (fun h => by obtain ⟨_, rfl, rfl⟩ := h; rfl)) <| Vs 3 <| Al' 243 #[(vi 0), (vi 0), (vi 0), (vi 0), (sv (([] : Wn))), (vi 0), (vi 0), (vi 0), (vi 0), (vi 0), (vi 0), (.bool false)] hs23 (fun b24 w25 hs26 => ?_)
 refine St0 (EV ((DB x0.read_ x1 ({ x_ := ({ Num := 0, Khz := 0, Mode := 0, Minute := 0, Call := ([] : Wn), Sent := ({ Report := 0, Serial := 0, Zone := 0 } : Ad), Got := ({ Report := 0, Serial := 0, Zone := 0 } : Ad) } : Line), ok_ := false } : Au)))) hs26 (fun w27 hs28 => ?_)
 refine Vs 1 <| Nss <| Sq (Rg [0, 1] ?_)
 refine Vs 2 <| Nt ?_
 obtain ⟨j32, hj36, h37⟩ := bind_some h
 refine V9 (fun f w => ∃ (F1 : Mem) (ej32_12 : Option Nat × Obj), HS wb Fb w F1 ((sb b24 #[(vi j32.1), (vi j32.2.1), (vi j32.2.2.1), (vi j32.2.2.2.1), (sv j32.2.2.2.2.1), (vi j32.2.2.2.2.2.1), (vi j32.2.2.2.2.2.2.1), (vi j32.2.2.2.2.2.2.2.1), (vi j32.2.2.2.2.2.2.2.2.1), (vi j32.2.2.2.2.2.2.2.2.2.1), (vi j32.2.2.2.2.2.2.2.2.2.2.1), (.bool j32.2.2.2.2.2.2.2.2.2.2.2.1)] 243) :: (sb b21 #[(vi 0), (vi 0), (vi 0), (vi 0), (sv (([] : Wn))), (vi 0), (vi 0), (vi 0), (vi 0), (vi 0), (vi 0), (.bool false)] 243) :: (sb bp0 #[(.bool x0.o_.Report), (.bool x0.o_.Serial), (.bool x0.o_.Zone), (.slice a0_3 x0.lines_.length n0_3), (.map (some mb0_4)), (.map (some mb0_5))] 148) :: e0_4 :: ej32_12 :: Lf) /\ V2 F0 F1 /\ FI f [] [(4, (pt b21 0)), (5, (pt b24 0))] /\ Bc AK Aw F1 mb0_5 j32.2.2.2.2.2.2.2.2.2.2.2.2 ej32_12) ?_ ?_
 ·refine Cd hj36 (fun hb38 h39 => ?_) (fun hb38 h40 => ?_)
  ·refine Sq (Rg (rG 12) ?_)
   refine Vs 3 <| Ld hs28.at2 <| Vs 1 ?_
   obtain ⟨r41, hr42, h43⟩ := bind_some h39
   refine Cl' GE hs28 (Hj N w27 F0 hs28.pers hG (({ Report := x0.o_.Report, Serial := x0.o_.Serial, Zone := x0.o_.Zone } : Ac)) x1 _ hr42) ?_
   rintro _ F2 w45 hs46 le47 rfl
   refine Vs 3 <| Al' 34 #[(vi 0), (vi 0), (vi 0), (vi 0), (sv (([] : Wn))), (vi 0), (vi 0), (vi 0), (vi 0), (vi 0), (vi 0)] hs46 (fun b49 w50 hs51 => ?_)
   refine St0 (BL r41.1) hs51 (fun w52 hs53 => ?_)
   refine Vs 1 <| Nss (Rg (rG 5) ?_)
   refine Ld hs53.at0 <| Vs 3 <| St1 #[(vi r41.1.Num), (vi r41.1.Khz), (vi r41.1.Mode), (vi r41.1.Minute), (sv r41.1.Call), (vi r41.1.Sent.Report), (vi r41.1.Sent.Serial), (vi r41.1.Sent.Zone), (vi r41.1.Got.Report), (vi r41.1.Got.Serial), (vi r41.1.Got.Zone), (.bool (r41.2 == 0))] hs53 (fun w54 hs55 => ?_)
   refine Nt ?_
   obtain ⟨j61, hj65, h66⟩ := bind_some h43
   refine RD 7 7 [(sb b49 (BL r41.1) 34), (sb b24 #[(vi r41.1.Num), (vi r41.1.Khz), (vi r41.1.Mode), (vi r41.1.Minute), (sv r41.1.Call), (vi r41.1.Sent.Report), (vi r41.1.Sent.Serial), (vi r41.1.Sent.Zone), (vi r41.1.Got.Report), (vi r41.1.Got.Serial), (vi r41.1.Got.Zone), (.bool (r41.2 == 0))] 243), (sb b21 #[(vi 0), (vi 0), (vi 0), (vi 0), (sv (([] : Wn))), (vi 0), (vi 0), (vi 0), (vi 0), (vi 0), (vi 0), (.bool false)] 243), (sb bp0 #[(.bool x0.o_.Report), (.bool x0.o_.Serial), (.bool x0.o_.Zone), (.slice a0_3 x0.lines_.length n0_3), (.map (some mb0_4)), (.map (some mb0_5))] 148), e0_4] [] hs55 (fun f w => ∃ (F3 : Mem) (ej61_0 : Option Nat × Obj), HS wb Fb w F3 ((sb b24 #[(vi r41.1.Num), (vi r41.1.Khz), (vi r41.1.Mode), (vi r41.1.Minute), (sv r41.1.Call), (vi r41.1.Sent.Report), (vi r41.1.Sent.Serial), (vi r41.1.Sent.Zone), (vi r41.1.Got.Report), (vi r41.1.Got.Serial), (vi r41.1.Got.Zone), (.bool (r41.2 == 0))] 243) :: (sb b21 #[(vi 0), (vi 0), (vi 0), (vi 0), (sv (([] : Wn))), (vi 0), (vi 0), (vi 0), (vi 0), (vi 0), (vi 0), (.bool false)] 243) :: (sb bp0 #[(.bool x0.o_.Report), (.bool x0.o_.Serial), (.bool x0.o_.Zone), (.slice a0_3 x0.lines_.length n0_3), (.map (some mb0_4)), (.map (some mb0_5))] 148) :: e0_4 :: ej61_0 :: Lf) /\ V2 F2 F3 /\ FI f [] [(4, (pt b21 0)), (5, (pt b24 0))] /\ Bc AK Aw F3 mb0_5 j61 ej61_0) (fun wd56 hw57 => ?_) ?_
   ·refine Dv [0, 1, 2] ?_
    refine Dl 3 (fun _ hq => (hq.1.2 3 _ _ rfl)) <| Dv [4] <| Dl 5 (fun _ hq => (hq.1.2 1 _ _ rfl)) <| D1 6 <| Az.mapPut (l' := [true, true, true, true, true, true, true]) (zd := true) (by kernel_rfl) (by kernel_rfl) kl9 (ty := 0) (g := none) (mt := 146) (k := 9) (vt := 243) (m := (.tmp 36)) (x := (.tmp 37)) (y := (.tmp 38)) (b := mb0_5) (kx := x1) (u := ({ x_ := r41.1, ok_ := (r41.2 == 0) } : Au)) (kv := (sv x1)) (v := (.agg #[(vi r41.1.Num), (vi r41.1.Khz), (vi r41.1.Mode), (vi r41.1.Minute), (sv r41.1.Call), (vi r41.1.Sent.Report), (vi r41.1.Sent.Serial), (vi r41.1.Sent.Zone), (vi r41.1.Got.Report), (vi r41.1.Got.Serial), (vi r41.1.Got.Zone), (.bool (r41.2 == 0))])) (K := AK) (T := Aw) (by kernel_rfl) rfl rfl rfl rfl ⟨_, rfl, rfl⟩ ⟨_, rfl, rfl⟩ (by kernel_rfl) hw57 (q := 5) rfl (hr0_5.mono le47) (V3 _) (fun _ => by simp) (fun e => by cases e) (fun e67 w68 (hs69 : HS wb Fb w68 F2 ((sb b49 (BL r41.1) 34) :: (sb b24 #[(vi r41.1.Num), (vi r41.1.Khz), (vi r41.1.Mode), (vi r41.1.Minute), (sv r41.1.Call), (vi r41.1.Sent.Report), (vi r41.1.Sent.Serial), (vi r41.1.Sent.Zone), (vi r41.1.Got.Report), (vi r41.1.Got.Serial), (vi r41.1.Got.Zone), (.bool (r41.2 == 0))] 243) :: (sb b21 #[(vi 0), (vi 0), (vi 0), (vi 0), (sv (([] : Wn))), (vi 0), (vi 0), (vi 0), (vi 0), (vi 0), (vi 0), (.bool false)] 243) :: (sb bp0 #[(.bool x0.o_.Report), (.bool x0.o_.Serial), (.bool x0.o_.Zone), (.slice a0_3 x0.lines_.length n0_3), (.map (some mb0_4)), (.map (some mb0_5))] 148) :: e0_4 :: e67 :: Lf)) hr70 => ?_)
    obtain rfl := Aa hj65
    exact Wf (by kernel_rfl) ⟨F2, e67, hs69.dr0, (V3 _), fI, hr70⟩
   ·rintro f w58 ⟨F3, ej61_0, hs59, le60, ⟨_, rfl⟩, hrj61_0⟩
    obtain rfl := Aa h66
    exact .inl ⟨rfl, F3, ej61_0, hs59, (le47.t le60), fI, hrj61_0⟩
  ·refine Sc ?_
   obtain rfl := Aa h40
   exact .inl ⟨rfl, F0, e0_5, hs28, (V3 _), fI, hr0_5⟩
 ·rintro f w29 ⟨F1, ej32_12, hs30, le31, ⟨_, rfl⟩, hrj32_12⟩
  refine Ab <| Sq (Rg [0, 1] ?_)
  refine Ld hs30.at0 <| St1 #[(vi j32.1), (vi j32.2.1), (vi j32.2.2.1), (vi j32.2.2.2.1), (sv j32.2.2.2.2.1), (vi j32.2.2.2.2.2.1), (vi j32.2.2.2.2.2.2.1), (vi j32.2.2.2.2.2.2.2.1), (vi j32.2.2.2.2.2.2.2.2.1), (vi j32.2.2.2.2.2.2.2.2.2.1), (vi j32.2.2.2.2.2.2.2.2.2.2.1), (.bool j32.2.2.2.2.2.2.2.2.2.2.2.1)] hs30 (fun w71 hs72 => ?_)
  refine Nt <| Rt ?_
  obtain rfl := Aa h37
  exact ⟨rfl, (.agg #[(vi j32.1), (vi j32.2.1), (vi j32.2.2.1), (vi j32.2.2.2.1), (sv j32.2.2.2.2.1), (vi j32.2.2.2.2.2.1), (vi j32.2.2.2.2.2.2.1), (vi j32.2.2.2.2.2.2.2.1), (vi j32.2.2.2.2.2.2.2.2.1), (vi j32.2.2.2.2.2.2.2.2.2.1), (vi j32.2.2.2.2.2.2.2.2.2.2.1), (.bool j32.2.2.2.2.2.2.2.2.2.2.2.1)]), AW (l := [.cell 4 243]) (by kernel_rfl) (vs := [(.agg #[(vi j32.1), (vi j32.2.1), (vi j32.2.2.1), (vi j32.2.2.2.1), (sv j32.2.2.2.2.1), (vi j32.2.2.2.2.2.1), (vi j32.2.2.2.2.2.2.1), (vi j32.2.2.2.2.2.2.2.1), (vi j32.2.2.2.2.2.2.2.2.1), (vi j32.2.2.2.2.2.2.2.2.2.1), (vi j32.2.2.2.2.2.2.2.2.2.2.1), (.bool j32.2.2.2.2.2.2.2.2.2.2.2.1)])]) ⟨b21, 0, rfl, An (t := 243) (g := true) (s := 12) (by kernel_rfl) hs72.at1 rfl (by decide), trivial⟩, F1, _, _, rfl, hs72.dr0.dr0, le31, ⟨a0_3, n0_3, e0_4, ej32_12, rfl, rfl, hb0_3, (V5 hs0_3 le31), (hr0_4.mono le31), hrj32_12⟩⟩
def G7 (N : Nat) (x0 : Log) (x1 : Wn) (z0 : Wn) (z1 : Int) (z2 : Int) : Option (Log × Bool) :=
 ((AZ z0 ([32] : Wn)).bind fun r21 => ((strings_CutPrefix N x1 r21).bind fun r24 => ((Bz N r24.1).bind fun r32 => ((bif (!r24.2) then some true else (bif (!r32.2) then some true else ((AV N r32.1 z1 z2).bind fun r57 => some (!r57)))).bind fun j43 => (bif j43 then some (x0, false) else some (({ Call := x0.Call, Category := r32.1, Power := x0.Power, Claimed := x0.Claimed, Jumps := x0.Jumps, Lines := x0.Lines } : Log), true))))))
theorem Jn : Af Tryz.prog 190 := fun _ _ => by kernel_rfl
theorem J9 (N : Nat) {wb w0 : World} {Fb F0 : Mem} {Lf : Own} (hG : Br F0) (bp0 : Nat) (x0 : Log) (a0_4 : Wo) (n0_4 : Nat) (a0_5 : Wo) (n0_5 : Nat) (hb0_4 : LC x0.Jumps.length n0_4) (hs0_4 : SlA AM F0 a0_4 x0.Jumps) (hb0_5 : LC x0.Lines.length n0_5) (hs0_5 : SlA AL F0 a0_5 x0.Lines) (x1 : Wn) (bz0 : Nat) (z0 : Wn) (hz0 : F0 bz0 = some (oc #[(sv z0)] 9)) (bz1 : Nat) (z1 : Int) (hz1 : F0 bz1 = some (oc #[(vi z1)] 3)) (bz2 : Nat) (z2 : Int) (hz2 : F0 bz2 = some (oc #[(vi z2)] 3)) (bz3 : Nat) (hz3 : F0 bz3 = some (oc #[(fV 156 #[])] 195)) (hs0 : HS wb Fb w0 F0 ((sb bp0 (AF x0 a0_4 n0_4 a0_5 n0_5) 27) :: Lf)) (r : (Log × Bool)) (h : G7 N x0 x1 z0 z1 z2 = some r) :
  Calls Tryz.prog 190 ([(pt bp0 0), (sv x1), (pt bz0 0), (pt bz1 0), (pt bz2 0), (pt bz3 0)] : List Value).toArray w0 (ER wb Fb F0 fun F' v L' => ∃ (aq0_4 : Wo) (nq0_4 : Nat) (aq0_5 : Wo) (nq0_5 : Nat), v = (.bool r.2) /\ L' = (sb bp0 (AF r.1 aq0_4 nq0_4 aq0_5 nq0_5) 27) :: Lf /\ LC r.1.Jumps.length nq0_4 /\ SlA AM F' aq0_4 r.1.Jumps /\ LC r.1.Lines.length nq0_5 /\ SlA AL F' aq0_5 r.1.Lines) := by
 refine Go 43 Tryz.func190 <| Sq (Rg [0] ?_)
 refine Vs 1 <| Nss (Rg (rG 9) ?_)
 refine Vs 1 <| Ld (hs0.pers _ _ hz0) ?_
 obtain ⟨r21, hr22, h23⟩ := bind_some h
 refine V 16 9 (Av (t := 9) (t' := 9) (x := (.tmp 15)) (y := (.const (sv ([32] : Wn)))) (a := z0) (b := ([32] : Wn)) (v := r21) rfl rfl hr22) ?_
 obtain ⟨r24, hr25, h26⟩ := bind_some h23
 refine Cl' A1 hs0 (A9 N w0 F0 hs0.pers x1 r21 _ hr25) ?_
 rintro _ F1 w28 hs29 le30 rfl
 refine Vs 5 <| Nss (Rg (rG 7) ?_)
 refine Vs 1 ?_
 obtain ⟨r32, hr33, h34⟩ := bind_some h26
 refine Cl' Be hs29 (Bq N w28 F1 hs29.pers (hG.mono le30) r24.1 _ hr33) ?_
 rintro _ F2 w36 hs37 le38 rfl
 refine Vs 5 <| Nss <| Sq (Rg (rG 13) ?_)
 obtain ⟨j43, hj49, h50⟩ := bind_some h34
 refine V8 (fun f w => ∃ (F3 : Mem), HS wb Fb w F3 ((sb bp0 (AF x0 a0_4 n0_4 a0_5 n0_5) 27) :: Lf) /\ V2 F2 F3 /\ FI f [] [(0, (pt bp0 0)), (5, (pt bz3 0)), (11, (vi r32.1)), (37, (.bool j43))]) ?_ ?_
 ·refine Vs 3 ?_
  refine Sp hj49 (fun hb51 h52 => ?_) (fun hb51 h53 => ?_)
  ·refine Ss hb51 2 ?_
   refine Pk1 hb51 <| Vs 1 <| Ss (rfl : true = true) 5 <| Pk1 (rfl : true = true) ?_
   obtain rfl := Aa h52
   exact VY ⟨rfl, F2, hs37, (V3 _), fI⟩
  ·refine Vgs hb51 2 ?_
   refine Pk0 hb51 <| Vs 1 <| Sp h53 (fun hb54 h55 => ?_) (fun hb54 h56 => ?_)
   ·refine Ss hb54 5 ?_
    refine Pk1 hb54 ?_
    obtain rfl := Aa h55
    exact VY ⟨rfl, F2, hs37, (V3 _), fI⟩
   ·refine Vgs hb54 1 ?_
    refine Lg hb54 (hs37.pers _ _ ((le30.t le38) _ _ hz1)) <| Lg hb54 (hs37.pers _ _ ((le30.t le38) _ _ hz2)) ?_
    obtain ⟨r57, hr58, h59⟩ := bind_some h56
    refine Cg hb54 AN hs37 (AQ N w36 F2 hs37.pers r32.1 z1 z2 _ hr58) ?_
    rintro _ F4 w61 hs62 le63 rfl
    refine Vgs hb54 1 <| Pk0 hb54 ?_
    obtain rfl := Aa h59
    exact VY ⟨rfl, F4, hs62, le63, fI⟩
 ·rintro f w40 ⟨F3, hs41, le42, ⟨_, rfl⟩⟩
  refine Ab <| Cd h50 (fun hb65 h66 => ?_) (fun hb65 h67 => ?_)
  ·refine Sq (Rg [0] ?_)
   refine Vs 1 <| Nt <| Rt <| Ae ?_
   obtain rfl := Aa h66
   exact ReB [(.bool false)] hs41 ((le30.t le38).trans le42) ⟨a0_4, n0_4, a0_5, n0_5, rfl, rfl, hb0_4, (V5 hs0_4 ((le30.t le38).trans le42)), hb0_5, (V5 hs0_5 ((le30.t le38).trans le42))⟩
  ·refine Sc ?_
   refine Ab <| Sq (Rg (rG 6) ?_)
   refine Ld (hs41.pers _ _ (((le30.t le38).trans le42) _ _ hz3)) <| Vs 1 <| Cl' LN hs41 (NX w40 F3 hs41.pers bp0 0) ?_
   rintro _ F5 w68 hs69 le70 rfl
   refine Vs 2 <| St0 #[(sv x0.Call), (vi r32.1), (vi x0.Power), (vi x0.Claimed), (.slice a0_4 x0.Jumps.length n0_4), (.slice a0_5 x0.Lines.length n0_5)] hs69 (fun w71 hs72 => ?_)
   refine Nss (Rg [0] ?_)
   refine Vs 1 <| Nt <| Rt ?_
   obtain rfl := Aa h67
   exact ReB [(.bool true)] hs72 (((le30.t le38).trans le42).trans le70) ⟨a0_4, n0_4, a0_5, n0_5, rfl, rfl, hb0_4, (V5 hs0_4 (((le30.t le38).trans le42).trans le70)), hb0_5, (V5 hs0_5 (((le30.t le38).trans le42).trans le70))⟩
def G5 (N : Nat) (x0 : Log) (x1 : Wn) (z0 : Wn) (z1 : Int) (z2 : Int) : Option (Log × Bool) :=
 ((AZ z0 ([32] : Wn)).bind fun r21 => ((strings_CutPrefix N x1 r21).bind fun r24 => ((Bz N r24.1).bind fun r32 => ((bif (!r24.2) then some true else (bif (!r32.2) then some true else ((AV N r32.1 z1 z2).bind fun r57 => some (!r57)))).bind fun j43 => (bif j43 then some (x0, false) else some (({ Call := x0.Call, Category := x0.Category, Power := r32.1, Claimed := x0.Claimed, Jumps := x0.Jumps, Lines := x0.Lines } : Log), true))))))
theorem Jl : Af Tryz.prog 190 := fun _ _ => by kernel_rfl
theorem J7 (N : Nat) {wb w0 : World} {Fb F0 : Mem} {Lf : Own} (hG : Br F0) (bp0 : Nat) (x0 : Log) (a0_4 : Wo) (n0_4 : Nat) (a0_5 : Wo) (n0_5 : Nat) (hb0_4 : LC x0.Jumps.length n0_4) (hs0_4 : SlA AM F0 a0_4 x0.Jumps) (hb0_5 : LC x0.Lines.length n0_5) (hs0_5 : SlA AL F0 a0_5 x0.Lines) (x1 : Wn) (bz0 : Nat) (z0 : Wn) (hz0 : F0 bz0 = some (oc #[(sv z0)] 9)) (bz1 : Nat) (z1 : Int) (hz1 : F0 bz1 = some (oc #[(vi z1)] 3)) (bz2 : Nat) (z2 : Int) (hz2 : F0 bz2 = some (oc #[(vi z2)] 3)) (bz3 : Nat) (hz3 : F0 bz3 = some (oc #[(fV 157 #[])] 195)) (hs0 : HS wb Fb w0 F0 ((sb bp0 (AF x0 a0_4 n0_4 a0_5 n0_5) 27) :: Lf)) (r : (Log × Bool)) (h : G5 N x0 x1 z0 z1 z2 = some r) :
  Calls Tryz.prog 190 ([(pt bp0 0), (sv x1), (pt bz0 0), (pt bz1 0), (pt bz2 0), (pt bz3 0)] : List Value).toArray w0 (ER wb Fb F0 fun F' v L' => ∃ (aq0_4 : Wo) (nq0_4 : Nat) (aq0_5 : Wo) (nq0_5 : Nat), v = (.bool r.2) /\ L' = (sb bp0 (AF r.1 aq0_4 nq0_4 aq0_5 nq0_5) 27) :: Lf /\ LC r.1.Jumps.length nq0_4 /\ SlA AM F' aq0_4 r.1.Jumps /\ LC r.1.Lines.length nq0_5 /\ SlA AL F' aq0_5 r.1.Lines) := by
 refine Go 43 Tryz.func190 <| Sq (Rg [0] ?_)
 refine Vs 1 <| Nss (Rg (rG 9) ?_)
 refine Vs 1 <| Ld (hs0.pers _ _ hz0) ?_
 obtain ⟨r21, hr22, h23⟩ := bind_some h
 refine V 16 9 (Av (t := 9) (t' := 9) (x := (.tmp 15)) (y := (.const (sv ([32] : Wn)))) (a := z0) (b := ([32] : Wn)) (v := r21) rfl rfl hr22) ?_
 obtain ⟨r24, hr25, h26⟩ := bind_some h23
 refine Cl' A1 hs0 (A9 N w0 F0 hs0.pers x1 r21 _ hr25) ?_
 rintro _ F1 w28 hs29 le30 rfl
 refine Vs 5 <| Nss (Rg (rG 7) ?_)
 refine Vs 1 ?_
 obtain ⟨r32, hr33, h34⟩ := bind_some h26
 refine Cl' Be hs29 (Bq N w28 F1 hs29.pers (hG.mono le30) r24.1 _ hr33) ?_
 rintro _ F2 w36 hs37 le38 rfl
 refine Vs 5 <| Nss <| Sq (Rg (rG 13) ?_)
 obtain ⟨j43, hj49, h50⟩ := bind_some h34
 refine V8 (fun f w => ∃ (F3 : Mem), HS wb Fb w F3 ((sb bp0 (AF x0 a0_4 n0_4 a0_5 n0_5) 27) :: Lf) /\ V2 F2 F3 /\ FI f [] [(0, (pt bp0 0)), (5, (pt bz3 0)), (11, (vi r32.1)), (37, (.bool j43))]) ?_ ?_
 ·refine Vs 3 ?_
  refine Sp hj49 (fun hb51 h52 => ?_) (fun hb51 h53 => ?_)
  ·refine Ss hb51 2 ?_
   refine Pk1 hb51 <| Vs 1 <| Ss (rfl : true = true) 5 <| Pk1 (rfl : true = true) ?_
   obtain rfl := Aa h52
   exact VY ⟨rfl, F2, hs37, (V3 _), fI⟩
  ·refine Vgs hb51 2 ?_
   refine Pk0 hb51 <| Vs 1 <| Sp h53 (fun hb54 h55 => ?_) (fun hb54 h56 => ?_)
   ·refine Ss hb54 5 ?_
    refine Pk1 hb54 ?_
    obtain rfl := Aa h55
    exact VY ⟨rfl, F2, hs37, (V3 _), fI⟩
   ·refine Vgs hb54 1 ?_
    refine Lg hb54 (hs37.pers _ _ ((le30.t le38) _ _ hz1)) <| Lg hb54 (hs37.pers _ _ ((le30.t le38) _ _ hz2)) ?_
    obtain ⟨r57, hr58, h59⟩ := bind_some h56
    refine Cg hb54 AN hs37 (AQ N w36 F2 hs37.pers r32.1 z1 z2 _ hr58) ?_
    rintro _ F4 w61 hs62 le63 rfl
    refine Vgs hb54 1 <| Pk0 hb54 ?_
    obtain rfl := Aa h59
    exact VY ⟨rfl, F4, hs62, le63, fI⟩
 ·rintro f w40 ⟨F3, hs41, le42, ⟨_, rfl⟩⟩
  refine Ab <| Cd h50 (fun hb65 h66 => ?_) (fun hb65 h67 => ?_)
  ·refine Sq (Rg [0] ?_)
   refine Vs 1 <| Nt <| Rt <| Ae ?_
   obtain rfl := Aa h66
   exact ReB [(.bool false)] hs41 ((le30.t le38).trans le42) ⟨a0_4, n0_4, a0_5, n0_5, rfl, rfl, hb0_4, (V5 hs0_4 ((le30.t le38).trans le42)), hb0_5, (V5 hs0_5 ((le30.t le38).trans le42))⟩
  ·refine Sc ?_
   refine Ab <| Sq (Rg (rG 6) ?_)
   refine Ld (hs41.pers _ _ (((le30.t le38).trans le42) _ _ hz3)) <| Vs 1 <| Cl' LM hs41 (NW w40 F3 hs41.pers bp0 0) ?_
   rintro _ F5 w68 hs69 le70 rfl
   refine Vs 2 <| St0 #[(sv x0.Call), (vi x0.Category), (vi r32.1), (vi x0.Claimed), (.slice a0_4 x0.Jumps.length n0_4), (.slice a0_5 x0.Lines.length n0_5)] hs69 (fun w71 hs72 => ?_)
   refine Nss (Rg [0] ?_)
   refine Vs 1 <| Nt <| Rt ?_
   obtain rfl := Aa h67
   exact ReB [(.bool true)] hs72 (((le30.t le38).trans le42).trans le70) ⟨a0_4, n0_4, a0_5, n0_5, rfl, rfl, hb0_4, (V5 hs0_4 (((le30.t le38).trans le42).trans le70)), hb0_5, (V5 hs0_5 (((le30.t le38).trans le42).trans le70))⟩
def G6 (N : Nat) (x0 : Log) (x1 : Wn) (z0 : Wn) (z1 : Int) (z2 : Int) : Option (Log × Bool) :=
 ((AZ z0 ([32] : Wn)).bind fun r21 => ((strings_CutPrefix N x1 r21).bind fun r24 => ((Bz N r24.1).bind fun r32 => ((bif (!r24.2) then some true else (bif (!r32.2) then some true else ((AV N r32.1 z1 z2).bind fun r57 => some (!r57)))).bind fun j43 => (bif j43 then some (x0, false) else some (({ Call := x0.Call, Category := x0.Category, Power := x0.Power, Claimed := r32.1, Jumps := x0.Jumps, Lines := x0.Lines } : Log), true))))))
theorem Jm : Af Tryz.prog 190 := fun _ _ => by kernel_rfl
theorem J8 (N : Nat) {wb w0 : World} {Fb F0 : Mem} {Lf : Own} (hG : Br F0) (bp0 : Nat) (x0 : Log) (a0_4 : Wo) (n0_4 : Nat) (a0_5 : Wo) (n0_5 : Nat) (hb0_4 : LC x0.Jumps.length n0_4) (hs0_4 : SlA AM F0 a0_4 x0.Jumps) (hb0_5 : LC x0.Lines.length n0_5) (hs0_5 : SlA AL F0 a0_5 x0.Lines) (x1 : Wn) (bz0 : Nat) (z0 : Wn) (hz0 : F0 bz0 = some (oc #[(sv z0)] 9)) (bz1 : Nat) (z1 : Int) (hz1 : F0 bz1 = some (oc #[(vi z1)] 3)) (bz2 : Nat) (z2 : Int) (hz2 : F0 bz2 = some (oc #[(vi z2)] 3)) (bz3 : Nat) (hz3 : F0 bz3 = some (oc #[(fV 158 #[])] 195)) (hs0 : HS wb Fb w0 F0 ((sb bp0 (AF x0 a0_4 n0_4 a0_5 n0_5) 27) :: Lf)) (r : (Log × Bool)) (h : G6 N x0 x1 z0 z1 z2 = some r) :
  Calls Tryz.prog 190 ([(pt bp0 0), (sv x1), (pt bz0 0), (pt bz1 0), (pt bz2 0), (pt bz3 0)] : List Value).toArray w0 (ER wb Fb F0 fun F' v L' => ∃ (aq0_4 : Wo) (nq0_4 : Nat) (aq0_5 : Wo) (nq0_5 : Nat), v = (.bool r.2) /\ L' = (sb bp0 (AF r.1 aq0_4 nq0_4 aq0_5 nq0_5) 27) :: Lf /\ LC r.1.Jumps.length nq0_4 /\ SlA AM F' aq0_4 r.1.Jumps /\ LC r.1.Lines.length nq0_5 /\ SlA AL F' aq0_5 r.1.Lines) := by
 refine Go 43 Tryz.func190 <| Sq (Rg [0] ?_)
 refine Vs 1 <| Nss (Rg (rG 9) ?_)
 refine Vs 1 <| Ld (hs0.pers _ _ hz0) ?_
 obtain ⟨r21, hr22, h23⟩ := bind_some h
 refine V 16 9 (Av (t := 9) (t' := 9) (x := (.tmp 15)) (y := (.const (sv ([32] : Wn)))) (a := z0) (b := ([32] : Wn)) (v := r21) rfl rfl hr22) ?_
 obtain ⟨r24, hr25, h26⟩ := bind_some h23
 refine Cl' A1 hs0 (A9 N w0 F0 hs0.pers x1 r21 _ hr25) ?_
 rintro _ F1 w28 hs29 le30 rfl
 refine Vs 5 <| Nss (Rg (rG 7) ?_)
 refine Vs 1 ?_
 obtain ⟨r32, hr33, h34⟩ := bind_some h26
 refine Cl' Be hs29 (Bq N w28 F1 hs29.pers (hG.mono le30) r24.1 _ hr33) ?_
 rintro _ F2 w36 hs37 le38 rfl
 refine Vs 5 <| Nss <| Sq (Rg (rG 13) ?_)
 obtain ⟨j43, hj49, h50⟩ := bind_some h34
 refine V8 (fun f w => ∃ (F3 : Mem), HS wb Fb w F3 ((sb bp0 (AF x0 a0_4 n0_4 a0_5 n0_5) 27) :: Lf) /\ V2 F2 F3 /\ FI f [] [(0, (pt bp0 0)), (5, (pt bz3 0)), (11, (vi r32.1)), (37, (.bool j43))]) ?_ ?_
 ·refine Vs 3 ?_
  refine Sp hj49 (fun hb51 h52 => ?_) (fun hb51 h53 => ?_)
  ·refine Ss hb51 2 ?_
   refine Pk1 hb51 <| Vs 1 <| Ss (rfl : true = true) 5 <| Pk1 (rfl : true = true) ?_
   obtain rfl := Aa h52
   exact VY ⟨rfl, F2, hs37, (V3 _), fI⟩
  ·refine Vgs hb51 2 ?_
   refine Pk0 hb51 <| Vs 1 <| Sp h53 (fun hb54 h55 => ?_) (fun hb54 h56 => ?_)
   ·refine Ss hb54 5 ?_
    refine Pk1 hb54 ?_
    obtain rfl := Aa h55
    exact VY ⟨rfl, F2, hs37, (V3 _), fI⟩
   ·refine Vgs hb54 1 ?_
    refine Lg hb54 (hs37.pers _ _ ((le30.t le38) _ _ hz1)) <| Lg hb54 (hs37.pers _ _ ((le30.t le38) _ _ hz2)) ?_
    obtain ⟨r57, hr58, h59⟩ := bind_some h56
    refine Cg hb54 AN hs37 (AQ N w36 F2 hs37.pers r32.1 z1 z2 _ hr58) ?_
    rintro _ F4 w61 hs62 le63 rfl
    refine Vgs hb54 1 <| Pk0 hb54 ?_
    obtain rfl := Aa h59
    exact VY ⟨rfl, F4, hs62, le63, fI⟩
 ·rintro f w40 ⟨F3, hs41, le42, ⟨_, rfl⟩⟩
  refine Ab <| Cd h50 (fun hb65 h66 => ?_) (fun hb65 h67 => ?_)
  ·refine Sq (Rg [0] ?_)
   refine Vs 1 <| Nt <| Rt <| Ae ?_
   obtain rfl := Aa h66
   exact ReB [(.bool false)] hs41 ((le30.t le38).trans le42) ⟨a0_4, n0_4, a0_5, n0_5, rfl, rfl, hb0_4, (V5 hs0_4 ((le30.t le38).trans le42)), hb0_5, (V5 hs0_5 ((le30.t le38).trans le42))⟩
  ·refine Sc ?_
   refine Ab <| Sq (Rg (rG 6) ?_)
   refine Ld (hs41.pers _ _ (((le30.t le38).trans le42) _ _ hz3)) <| Vs 1 <| Cl' LL hs41 (NV w40 F3 hs41.pers bp0 0) ?_
   rintro _ F5 w68 hs69 le70 rfl
   refine Vs 2 <| St0 #[(sv x0.Call), (vi x0.Category), (vi x0.Power), (vi r32.1), (.slice a0_4 x0.Jumps.length n0_4), (.slice a0_5 x0.Lines.length n0_5)] hs69 (fun w71 hs72 => ?_)
   refine Nss (Rg [0] ?_)
   refine Vs 1 <| Nt <| Rt ?_
   obtain rfl := Aa h67
   exact ReB [(.bool true)] hs72 (((le30.t le38).trans le42).trans le70) ⟨a0_4, n0_4, a0_5, n0_5, rfl, rfl, hb0_4, (V5 hs0_4 (((le30.t le38).trans le42).trans le70)), hb0_5, (V5 hs0_5 (((le30.t le38).trans le42).trans le70))⟩
def CK (N : Nat) (x0 : Am) (x1 : Ao) (x2 : Wn) : Option (Am × Ao × Bool) :=
 (bif (x1.stage_ == 6) then some (x0, x1, false) else (bif (decide (x1.stage_ < 5)) then ((bif (decide (x1.stage_ = 0)) then ((Jy N ({ Call := ([] : Wn), Category := 0, Power := 0, Claimed := 0, Jumps := ([] : List Int), Lines := ([] : List Line) } : Log) x2).bind fun r57 => some r57.2) else (bif (decide (x1.stage_ = 1)) then ((G7 N ({ Call := ([] : Wn), Category := 0, Power := 0, Claimed := 0, Jumps := ([] : List Int), Lines := ([] : List Line) } : Log) x2 ([67, 65, 84, 69, 71, 79, 82, 89] : Wn) 1 9).bind fun r67 => some r67.2) else (bif (decide (x1.stage_ = 2)) then ((G5 N ({ Call := ([] : Wn), Category := 0, Power := 0, Claimed := 0, Jumps := ([] : List Int), Lines := ([] : List Line) } : Log) x2 ([80, 79, 87, 69, 82] : Wn) 1 9999).bind fun r77 => some r77.2) else (bif (decide (x1.stage_ = 3)) then ((G6 N ({ Call := ([] : Wn), Category := 0, Power := 0, Claimed := 0, Jumps := ([] : List Int), Lines := ([] : List Line) } : Log) x2 ([67, 76, 65, 73, 77, 69, 68] : Wn) 0 1000000).bind fun r87 => some r87.2) else (bif (decide (x1.stage_ = 4)) then ((Ir N ({ Call := ([] : Wn), Category := 0, Power := 0, Claimed := 0, Jumps := ([] : List Int), Lines := ([] : List Line) } : Log) x2).bind fun r97 => some r97.2) else none))))).bind fun j43 => some (x0, ({ at_ := x1.at_, stage_ := (W64 (x1.stage_ + 1)), num_ := x1.num_, minute_ := x1.minute_ } : Ao), j43)) else (bif (x2 == ([69, 78, 68] : Wn)) then some (x0, ({ at_ := x1.at_, stage_ := 6, num_ := 0, minute_ := 0 } : Ao), true) else ((Fo N x0 x2).bind fun r114 => ((bif r114.2.ok_ then (bif (decide (r114.2.x_.Num > x1.num_)) then some ((decide (r114.2.x_.Minute >= x1.minute_)), x1.at_, x1.stage_, r114.2.x_.Num, r114.2.x_.Minute) else none) else some (false, x1.at_, x1.stage_, r114.2.x_.Num, r114.2.x_.Minute)).bind fun j131 => some (r114.1, ({ at_ := j131.2.1, stage_ := j131.2.2.1, num_ := j131.2.2.2.1, minute_ := j131.2.2.2.2 } : Ao), j131.1))))))
theorem CY : Af Tryz.prog 170 := fun _ _ => by kernel_rfl
theorem Df (N : Nat) {wb w0 : World} {Fb F0 : Mem} {Lf : Own} (hG : Br F0) (bp0 : Nat) (x0 : Am) (a0_3 : Wo) (n0_3 : Nat) (mb0_4 : Nat) (e0_4 : Option Nat × Obj) (mb0_5 : Nat) (e0_5 : Option Nat × Obj) (hb0_3 : LC x0.lines_.length n0_3) (hs0_3 : SlA AK F0 a0_3 x0.lines_) (hr0_4 : Bc AB AM F0 mb0_4 x0.known_ e0_4) (hr0_5 : Bc AK Aw F0 mb0_5 x0.read_ e0_5) (x1 : Ao) (x2 : Wn) (hs0 : HS wb Fb w0 F0 ((sb bp0 #[(.bool x0.o_.Report), (.bool x0.o_.Serial), (.bool x0.o_.Zone), (.slice a0_3 x0.lines_.length n0_3), (.map (some mb0_4)), (.map (some mb0_5))] 148) :: e0_4 :: e0_5 :: Lf)) (r : (Am × Ao × Bool)) (h : CK N x0 x1 x2 = some r) :
  Calls Tryz.prog 170 ([(pt bp0 0), (.agg (Ai x1)), (sv x2)] : List Value).toArray w0 (ER wb Fb F0 fun F' v L' => ∃ (aq0_3 : Wo) (nq0_3 : Nat) (eq0_4 : Option Nat × Obj) (eq0_5 : Option Nat × Obj), v = (.tuple #[(.agg (Ai r.2.1)), (.bool r.2.2)]) /\ L' = (sb bp0 #[(.bool r.1.o_.Report), (.bool r.1.o_.Serial), (.bool r.1.o_.Zone), (.slice aq0_3 r.1.lines_.length nq0_3), (.map (some mb0_4)), (.map (some mb0_5))] 148) :: eq0_4 :: eq0_5 :: Lf /\ LC r.1.lines_.length nq0_3 /\ SlA AK F' aq0_3 r.1.lines_ /\ Bc AB AM F' mb0_4 r.1.known_ eq0_4 /\ Bc AK Aw F' mb0_5 r.1.read_ eq0_5) := by
 refine Go 71 Tryz.func170 <| Sq (Rg [0, 1, 2] ?_)
 refine Bx' 143 (Ai x1) hs0 (fun b21 w22 hs23 => ?_)
 refine Al' 143 #[(vi 0), (vi 0), (vi 0), (vi 0)] hs23 (fun b24 w25 hs26 => ?_)
 refine Vs 1 <| Nss (Rg [0] ?_)
 refine Al' 27 #[(sv (([] : Wn))), (vi 0), (vi 0), (vi 0), (.slice none ([] : List Int).length 0), (.slice none ([] : List Line).length 0)] hs26 (fun b27 w28 hs29 => ?_)
 refine Nss <| Bk <| Sq (Rg (rG 4) ?_)
 refine Vs 1 <| Ld hs29.at2 <| Vs 2 <| Nt <| Cd h (fun hb30 h31 => ?_) (fun hb30 h32 => ?_)
 ·refine Sq (Rg [0, 1, 2] ?_)
  refine Ld hs29.at2 <| St1 (Ai x1) hs29 (fun w33 hs34 => ?_)
  refine Vs 1 <| Nt <| Rt <| Ax <| Ae ?_
  obtain rfl := Aa h31
  exact ⟨rfl, (.tuple #[(.agg (Ai x1)), (.bool false)]), AW (l := [.cell 6 143, .tmp 7]) (by kernel_rfl) (vs := [(.agg (Ai x1)), (.bool false)]) ⟨b24, 0, rfl, An (t := 143) (g := true) (s := 4) (by kernel_rfl) hs34.at1 rfl (by decide), ⟨rfl, trivial⟩⟩, F0, _, _, rfl, hs34.dr0.dr0.dr0, (V3 _), ⟨a0_3, n0_3, e0_4, e0_5, rfl, rfl, hb0_3, hs0_3, hr0_4, hr0_5⟩⟩
 ·refine Sq (Rg (rG 4) ?_)
  refine Vs 1 <| Ld hs29.at2 <| Vs 2 <| Nt <| Cd h32 (fun hb35 h36 => ?_) (fun hb35 h37 => ?_)
  ·refine Sq ?_
   obtain ⟨j43, hj48, h49⟩ := bind_some h36
   refine RD 8 8 [(sb b24 #[(vi 0), (vi 0), (vi 0), (vi 0)] 143), (sb b21 (Ai x1) 143), (sb bp0 #[(.bool x0.o_.Report), (.bool x0.o_.Serial), (.bool x0.o_.Zone), (.slice a0_3 x0.lines_.length n0_3), (.map (some mb0_4)), (.map (some mb0_5))] 148), e0_4, e0_5] [] hs29 (fun f w => ∃ (F1 : Mem), HS wb Fb w F1 ((sb b24 #[(vi 0), (vi 0), (vi 0), (vi 0)] 143) :: (sb b21 (Ai x1) 143) :: (sb bp0 #[(.bool x0.o_.Report), (.bool x0.o_.Serial), (.bool x0.o_.Zone), (.slice a0_3 x0.lines_.length n0_3), (.map (some mb0_4)), (.map (some mb0_5))] 148) :: e0_4 :: e0_5 :: Lf) /\ V2 F0 F1 /\ FI f [] [(4, (pt b21 0)), (6, (pt b24 0)), (9, (.bool j43))]) (fun wd38 hw39 => ?_) ?_
   ·refine Dv [1] ?_
    refine Dl 2 (fun _ hq => (hq.1.2 1 _ _ rfl)) <| Dv [5] <| D1 0 <| DCl EY hw39 (FA wd38 F0 hw39.pers) ?_
    rintro _ F2 w50 hs51 le52 ⟨tbt53_0_0, tbt53_0_1, tbt53_0_2, tbt53_0_3, tbt53_0_4, tbt53_0_5, tbt53_0_6, tbt53_0_7, tbt53_0_8, tbt53_0_9, tbt53_0_10, tbt53_0_11, rfl, htbt53_0_0, htbt53_0_1, htbt53_0_2, htbt53_0_3, htbt53_0_4, htbt53_0_5, htbt53_0_6, htbt53_0_7, htbt53_0_8, htbt53_0_9, htbt53_0_10, htbt53_0_11⟩
    refine Sd hj48 (fun hb54 h55 => ?_) (fun hb54 h56 => ?_)
    ·refine Dt 3 23 109 (.agg #[(fV 153 #[]), (fV 154 #[])]) (fun _ hq => G1 (t := 110) (E := 109) (len := 5) (s := 2) (x := (.tmp 20)) (y := (.tmp 22)) (k := .i64) (i := x1.stage_) (n := 0) (cs := [(fV 153 #[]), (fV 154 #[]), (fV 190 #[(pt tbt53_0_0 0), (pt tbt53_0_1 0), (pt tbt53_0_2 0), (pt tbt53_0_3 0)]), (fV 191 #[(pt tbt53_0_0 0), (pt tbt53_0_3 0)]), (fV 190 #[(pt tbt53_0_4 0), (pt tbt53_0_5 0), (pt tbt53_0_6 0), (pt tbt53_0_7 0)]), (fV 191 #[(pt tbt53_0_4 0), (pt tbt53_0_7 0)]), (fV 190 #[(pt tbt53_0_8 0), (pt tbt53_0_9 0), (pt tbt53_0_10 0), (pt tbt53_0_11 0)]), (fV 191 #[(pt tbt53_0_8 0), (pt tbt53_0_11 0)]), (fV 159 #[]), (fV 160 #[])]) (C := [(fV 153 #[]), (fV 154 #[])]) rfl rfl (by kernel_rfl) (by kernel_rfl) hb54 (by decide) rfl rfl) ?_
     refine Dv [4] <| D1 6 ?_
     obtain ⟨r57, hr58, h59⟩ := bind_some h55
     refine DCB LO (MG N (hG.mono le52) b27 (({ Call := ([] : Wn), Category := 0, Power := 0, Claimed := 0, Jumps := ([] : List Int), Lines := ([] : List Line) } : Log)) none 0 none 0 V6 (.inl rfl) V6 (.inl rfl) x2 hs51 _ hr58) ?_
     rintro _ F3 w60 _ hs61 le62 ⟨ar57_0_4, nr57_0_4, ar57_0_5, nr57_0_5, rfl, rfl, hbr57_0_4, hsr57_0_4, hbr57_0_5, hsr57_0_5⟩
     refine ⟨Bd hs61 (le52.t le62) (by simp) (zdT (by kernel_rfl)), ?_⟩
     refine Dv [7] ?_
     obtain rfl := Aa h59
     exact Wf (by kernel_rfl) ⟨F3, hs61.dr0, (le52.t le62), fI⟩
    ·refine Sd h56 (fun hb64 h65 => ?_) (fun hb64 h66 => ?_)
     ·refine Dt 3 23 109 (.agg #[(fV 190 #[(pt tbt53_0_0 0), (pt tbt53_0_1 0), (pt tbt53_0_2 0), (pt tbt53_0_3 0)]), (fV 191 #[(pt tbt53_0_0 0), (pt tbt53_0_3 0)])]) (fun _ hq => G1 (t := 110) (E := 109) (len := 5) (s := 2) (x := (.tmp 20)) (y := (.tmp 22)) (k := .i64) (i := x1.stage_) (n := 1) (cs := [(fV 153 #[]), (fV 154 #[]), (fV 190 #[(pt tbt53_0_0 0), (pt tbt53_0_1 0), (pt tbt53_0_2 0), (pt tbt53_0_3 0)]), (fV 191 #[(pt tbt53_0_0 0), (pt tbt53_0_3 0)]), (fV 190 #[(pt tbt53_0_4 0), (pt tbt53_0_5 0), (pt tbt53_0_6 0), (pt tbt53_0_7 0)]), (fV 191 #[(pt tbt53_0_4 0), (pt tbt53_0_7 0)]), (fV 190 #[(pt tbt53_0_8 0), (pt tbt53_0_9 0), (pt tbt53_0_10 0), (pt tbt53_0_11 0)]), (fV 191 #[(pt tbt53_0_8 0), (pt tbt53_0_11 0)]), (fV 159 #[]), (fV 160 #[])]) (C := [(fV 190 #[(pt tbt53_0_0 0), (pt tbt53_0_1 0), (pt tbt53_0_2 0), (pt tbt53_0_3 0)]), (fV 191 #[(pt tbt53_0_0 0), (pt tbt53_0_3 0)])]) rfl rfl (by kernel_rfl) (by kernel_rfl) hb64 (by decide) rfl rfl) ?_
      refine Dv [4] <| D1 6 ?_
      obtain ⟨r67, hr68, h69⟩ := bind_some h65
      refine DCB Jn (J9 N (hG.mono le52) b27 (({ Call := ([] : Wn), Category := 0, Power := 0, Claimed := 0, Jumps := ([] : List Int), Lines := ([] : List Line) } : Log)) none 0 none 0 V6 (.inl rfl) V6 (.inl rfl) x2 tbt53_0_0 ([67, 65, 84, 69, 71, 79, 82, 89] : Wn) htbt53_0_0 tbt53_0_1 1 htbt53_0_1 tbt53_0_2 9 htbt53_0_2 tbt53_0_3 htbt53_0_3 hs51 _ hr68) ?_
      rintro _ F4 w70 _ hs71 le72 ⟨ar67_0_4, nr67_0_4, ar67_0_5, nr67_0_5, rfl, rfl, hbr67_0_4, hsr67_0_4, hbr67_0_5, hsr67_0_5⟩
      refine ⟨Bd hs71 (le52.t le72) (by simp) (zdT (by kernel_rfl)), ?_⟩
      refine Dv [7] ?_
      obtain rfl := Aa h69
      exact Wf (by kernel_rfl) ⟨F4, hs71.dr0, (le52.t le72), fI⟩
     ·refine Sd h66 (fun hb74 h75 => ?_) (fun hb74 h76 => ?_)
      ·refine Dt 3 23 109 (.agg #[(fV 190 #[(pt tbt53_0_4 0), (pt tbt53_0_5 0), (pt tbt53_0_6 0), (pt tbt53_0_7 0)]), (fV 191 #[(pt tbt53_0_4 0), (pt tbt53_0_7 0)])]) (fun _ hq => G1 (t := 110) (E := 109) (len := 5) (s := 2) (x := (.tmp 20)) (y := (.tmp 22)) (k := .i64) (i := x1.stage_) (n := 2) (cs := [(fV 153 #[]), (fV 154 #[]), (fV 190 #[(pt tbt53_0_0 0), (pt tbt53_0_1 0), (pt tbt53_0_2 0), (pt tbt53_0_3 0)]), (fV 191 #[(pt tbt53_0_0 0), (pt tbt53_0_3 0)]), (fV 190 #[(pt tbt53_0_4 0), (pt tbt53_0_5 0), (pt tbt53_0_6 0), (pt tbt53_0_7 0)]), (fV 191 #[(pt tbt53_0_4 0), (pt tbt53_0_7 0)]), (fV 190 #[(pt tbt53_0_8 0), (pt tbt53_0_9 0), (pt tbt53_0_10 0), (pt tbt53_0_11 0)]), (fV 191 #[(pt tbt53_0_8 0), (pt tbt53_0_11 0)]), (fV 159 #[]), (fV 160 #[])]) (C := [(fV 190 #[(pt tbt53_0_4 0), (pt tbt53_0_5 0), (pt tbt53_0_6 0), (pt tbt53_0_7 0)]), (fV 191 #[(pt tbt53_0_4 0), (pt tbt53_0_7 0)])]) rfl rfl (by kernel_rfl) (by kernel_rfl) hb74 (by decide) rfl rfl) ?_
       refine Dv [4] <| D1 6 ?_
       obtain ⟨r77, hr78, h79⟩ := bind_some h75
       refine DCB Jl (J7 N (hG.mono le52) b27 (({ Call := ([] : Wn), Category := 0, Power := 0, Claimed := 0, Jumps := ([] : List Int), Lines := ([] : List Line) } : Log)) none 0 none 0 V6 (.inl rfl) V6 (.inl rfl) x2 tbt53_0_4 ([80, 79, 87, 69, 82] : Wn) htbt53_0_4 tbt53_0_5 1 htbt53_0_5 tbt53_0_6 9999 htbt53_0_6 tbt53_0_7 htbt53_0_7 hs51 _ hr78) ?_
       rintro _ F5 w80 _ hs81 le82 ⟨ar77_0_4, nr77_0_4, ar77_0_5, nr77_0_5, rfl, rfl, hbr77_0_4, hsr77_0_4, hbr77_0_5, hsr77_0_5⟩
       refine ⟨Bd hs81 (le52.t le82) (by simp) (zdT (by kernel_rfl)), ?_⟩
       refine Dv [7] ?_
       obtain rfl := Aa h79
       exact Wf (by kernel_rfl) ⟨F5, hs81.dr0, (le52.t le82), fI⟩
      ·refine Sd h76 (fun hb84 h85 => ?_) (fun hb84 h86 => ?_)
       ·refine Dt 3 23 109 (.agg #[(fV 190 #[(pt tbt53_0_8 0), (pt tbt53_0_9 0), (pt tbt53_0_10 0), (pt tbt53_0_11 0)]), (fV 191 #[(pt tbt53_0_8 0), (pt tbt53_0_11 0)])]) (fun _ hq => G1 (t := 110) (E := 109) (len := 5) (s := 2) (x := (.tmp 20)) (y := (.tmp 22)) (k := .i64) (i := x1.stage_) (n := 3) (cs := [(fV 153 #[]), (fV 154 #[]), (fV 190 #[(pt tbt53_0_0 0), (pt tbt53_0_1 0), (pt tbt53_0_2 0), (pt tbt53_0_3 0)]), (fV 191 #[(pt tbt53_0_0 0), (pt tbt53_0_3 0)]), (fV 190 #[(pt tbt53_0_4 0), (pt tbt53_0_5 0), (pt tbt53_0_6 0), (pt tbt53_0_7 0)]), (fV 191 #[(pt tbt53_0_4 0), (pt tbt53_0_7 0)]), (fV 190 #[(pt tbt53_0_8 0), (pt tbt53_0_9 0), (pt tbt53_0_10 0), (pt tbt53_0_11 0)]), (fV 191 #[(pt tbt53_0_8 0), (pt tbt53_0_11 0)]), (fV 159 #[]), (fV 160 #[])]) (C := [(fV 190 #[(pt tbt53_0_8 0), (pt tbt53_0_9 0), (pt tbt53_0_10 0), (pt tbt53_0_11 0)]), (fV 191 #[(pt tbt53_0_8 0), (pt tbt53_0_11 0)])]) rfl rfl (by kernel_rfl) (by kernel_rfl) hb84 (by decide) rfl rfl) ?_
        refine Dv [4] <| D1 6 ?_
        obtain ⟨r87, hr88, h89⟩ := bind_some h85
        refine DCB Jm (J8 N (hG.mono le52) b27 (({ Call := ([] : Wn), Category := 0, Power := 0, Claimed := 0, Jumps := ([] : List Int), Lines := ([] : List Line) } : Log)) none 0 none 0 V6 (.inl rfl) V6 (.inl rfl) x2 tbt53_0_8 ([67, 76, 65, 73, 77, 69, 68] : Wn) htbt53_0_8 tbt53_0_9 0 htbt53_0_9 tbt53_0_10 1000000 htbt53_0_10 tbt53_0_11 htbt53_0_11 hs51 _ hr88) ?_
        rintro _ F6 w90 _ hs91 le92 ⟨ar87_0_4, nr87_0_4, ar87_0_5, nr87_0_5, rfl, rfl, hbr87_0_4, hsr87_0_4, hbr87_0_5, hsr87_0_5⟩
        refine ⟨Bd hs91 (le52.t le92) (by simp) (zdT (by kernel_rfl)), ?_⟩
        refine Dv [7] ?_
        obtain rfl := Aa h89
        exact Wf (by kernel_rfl) ⟨F6, hs91.dr0, (le52.t le92), fI⟩
       ·refine Sd h86 (fun hb94 h95 => ?_) (fun hb94 h96 => ?_)
        ·refine Dt 3 23 109 (.agg #[(fV 159 #[]), (fV 160 #[])]) (fun _ hq => G1 (t := 110) (E := 109) (len := 5) (s := 2) (x := (.tmp 20)) (y := (.tmp 22)) (k := .i64) (i := x1.stage_) (n := 4) (cs := [(fV 153 #[]), (fV 154 #[]), (fV 190 #[(pt tbt53_0_0 0), (pt tbt53_0_1 0), (pt tbt53_0_2 0), (pt tbt53_0_3 0)]), (fV 191 #[(pt tbt53_0_0 0), (pt tbt53_0_3 0)]), (fV 190 #[(pt tbt53_0_4 0), (pt tbt53_0_5 0), (pt tbt53_0_6 0), (pt tbt53_0_7 0)]), (fV 191 #[(pt tbt53_0_4 0), (pt tbt53_0_7 0)]), (fV 190 #[(pt tbt53_0_8 0), (pt tbt53_0_9 0), (pt tbt53_0_10 0), (pt tbt53_0_11 0)]), (fV 191 #[(pt tbt53_0_8 0), (pt tbt53_0_11 0)]), (fV 159 #[]), (fV 160 #[])]) (C := [(fV 159 #[]), (fV 160 #[])]) rfl rfl (by kernel_rfl) (by kernel_rfl) hb94 (by decide) rfl rfl) ?_
         refine Dv [4] <| D1 6 ?_
         obtain ⟨r97, hr98, h99⟩ := bind_some h95
         refine DCB KE (LU N (hG.mono le52) b27 (({ Call := ([] : Wn), Category := 0, Power := 0, Claimed := 0, Jumps := ([] : List Int), Lines := ([] : List Line) } : Log)) none 0 none 0 V6 (.inl rfl) V6 (.inl rfl) x2 hs51 _ hr98) ?_
         rintro _ F7 w100 _ hs101 le102 ⟨ar97_0_4, nr97_0_4, ar97_0_5, nr97_0_5, rfl, rfl, hbr97_0_4, hsr97_0_4, hbr97_0_5, hsr97_0_5⟩
         refine ⟨Bd hs101 (le52.t le102) (by simp) (zdT (by kernel_rfl)), ?_⟩
         refine Dv [7] ?_
         obtain rfl := Aa h99
         exact Wf (by kernel_rfl) ⟨F7, hs101.dr0, (le52.t le102), fI⟩
        ·cases h96
   ·rintro f w40 ⟨F1, hs41, le42, ⟨_, rfl⟩⟩
    refine Ab <| Sq (Rg (rG 5) ?_)
    refine Vs 1 <| Ld hs41.at1 <| Vs 2 <| St1 #[(vi x1.at_), (vi (W64 (x1.stage_ + 1))), (vi x1.num_), (vi x1.minute_)] hs41 (fun w104 hs105 => ?_)
    refine Nss (Rg (rG 4) ?_)
    refine Ld hs105.at1 <| Vs 1 <| St0 #[(vi x1.at_), (vi (W64 (x1.stage_ + 1))), (vi x1.num_), (vi x1.minute_)] hs105 (fun w106 hs107 => ?_)
    refine Vs 1 <| Nt <| Rt <| Ax <| Ae ?_
    obtain rfl := Aa h49
    exact ⟨rfl, (.tuple #[(.agg #[(vi x1.at_), (vi (W64 (x1.stage_ + 1))), (vi x1.num_), (vi x1.minute_)]), (.bool j43)]), AW (l := [.cell 6 143, .tmp 7]) (by kernel_rfl) (vs := [(.agg #[(vi x1.at_), (vi (W64 (x1.stage_ + 1))), (vi x1.num_), (vi x1.minute_)]), (.bool j43)]) ⟨b24, 0, rfl, An (t := 143) (g := true) (s := 4) (by kernel_rfl) hs107.at0 rfl (by decide), ⟨rfl, trivial⟩⟩, F1, _, _, rfl, hs107.dr0.dr0, le42, ⟨a0_3, n0_3, e0_4, e0_5, rfl, rfl, hb0_3, (V5 hs0_3 le42), (hr0_4.mono le42), (hr0_5.mono le42)⟩⟩
  ·refine Sq (Rg [0, 1, 2] ?_)
   refine Vs 3 <| Nt <| Cd h37 (fun hb108 h109 => ?_) (fun hb108 h110 => ?_)
   ·refine Sq (Rg (rG 5) ?_)
    refine Vs 1 <| Ld hs29.at2 <| Vs 1 <| St1 #[(vi x1.at_), (vi 6), (vi 0), (vi 0)] hs29 (fun w111 hs112 => ?_)
    refine Vs 1 <| Nt <| Rt <| Ax <| Ae ?_
    obtain rfl := Aa h109
    exact ⟨rfl, (.tuple #[(.agg #[(vi x1.at_), (vi 6), (vi 0), (vi 0)]), (.bool true)]), AW (l := [.cell 6 143, .tmp 7]) (by kernel_rfl) (vs := [(.agg #[(vi x1.at_), (vi 6), (vi 0), (vi 0)]), (.bool true)]) ⟨b24, 0, rfl, An (t := 143) (g := true) (s := 4) (by kernel_rfl) hs112.at1 rfl (by decide), ⟨rfl, trivial⟩⟩, F0, _, _, rfl, hs112.dr0.dr0.dr0, (V3 _), ⟨a0_3, n0_3, e0_4, e0_5, rfl, rfl, hb0_3, hs0_3, hr0_4, hr0_5⟩⟩
   ·refine Sc ?_
    refine Ap <| Ab <| Sq (Rg (rG 5) ?_)
    refine Vs 2 ?_
    have hs113 := hs29.pk2.pk2.pk2.pk5.pk5.pk5
    obtain ⟨r114, hr115, h116⟩ := bind_some h110
    refine CB HB (Ic N hG bp0 x0 a0_3 n0_3 mb0_4 e0_4 mb0_5 e0_5 hb0_3 hs0_3 hr0_4 hr0_5 x2 hs113 _ hr115) ?_
    rintro _ F8 w117 _ hs118 le119 ⟨ar114_0_3, nr114_0_3, er114_0_4, er114_0_5, rfl, rfl, hbr114_0_3, hsr114_0_3, hrr114_0_4, hrr114_0_5⟩
    refine Al' 243 #[(vi 0), (vi 0), (vi 0), (vi 0), (sv (([] : Wn))), (vi 0), (vi 0), (vi 0), (vi 0), (vi 0), (vi 0), (.bool false)] hs118 (fun b121 w122 hs123 => ?_)
    refine St0 (EV r114.2) hs123 (fun w124 hs125 => ?_)
    refine Nss ?_
    obtain ⟨j131, hj135, h136⟩ := bind_some h116
    refine RD 31 31 [(sb b121 (EV r114.2) 243), (sb bp0 #[(.bool r114.1.o_.Report), (.bool r114.1.o_.Serial), (.bool r114.1.o_.Zone), (.slice ar114_0_3 r114.1.lines_.length nr114_0_3), (.map (some mb0_4)), (.map (some mb0_5))] 148), er114_0_4, er114_0_5, (sb b27 #[(sv (([] : Wn))), (vi 0), (vi 0), (vi 0), (.slice none ([] : List Int).length 0), (.slice none ([] : List Line).length 0)] 27), (sb b21 (Ai x1) 143)] [] hs125 (fun f w => ∃ (F9 : Mem), HS wb Fb w F9 ((sb bp0 #[(.bool r114.1.o_.Report), (.bool r114.1.o_.Serial), (.bool r114.1.o_.Zone), (.slice ar114_0_3 r114.1.lines_.length nr114_0_3), (.map (some mb0_4)), (.map (some mb0_5))] 148) :: er114_0_4 :: er114_0_5 :: (sb b24 #[(vi j131.2.1), (vi j131.2.2.1), (vi j131.2.2.2.1), (vi j131.2.2.2.2)] 143) :: Lf) /\ V2 F8 F9 /\ FI f [] [(6, (pt b24 0)), (7, (.bool j131.1))]) (fun wd126 hw127 => ?_) ?_
    ·refine Dvl [0] (tf 1 30) ?_
     refine Dl 1 (fun _ hq => (hq.1.2 5 _ _ rfl)) <| Dvl [2] (tf 3 28) <| Dl 3 (fun _ hq => (hq.1.2 5 _ _ rfl)) <| Dvl [4, 5] (tf 6 25) <| Dl 6 (fun _ hq => (hq.1.2 0 _ _ rfl)) <| Dvl [7, 8] (tf 9 22) <| Dl 9 (fun _ hq => (hq.1.2 0 _ _ rfl)) <| Dvl [10, 11] (tf 12 19) <| Dl 12 (fun _ hq => (hq.1.2 0 _ _ rfl)) <| Dvl [13] (tf 14 17) <| Sd hj135 (fun hb137 h138 => ?_) (fun hb137 h139 => ?_)
     ·refine Dgl 14 56 0 (pt b121 0) (tf 15 16) 13 true 55 hb137 (fun _ hq => fa 243 10 0 0 11 b121 0 0) ?_
      refine Dgl 15 57 0 (pt b121 0) (tf 16 15) 13 true 55 hb137 (fun _ hq => fa 34 56 0 0 1 b121 0 0) <| Dgl 16 58 3 _ (tf 17 14) 13 true 55 hb137 (fun _ hq => ld 3 57 b121 0 false 1 (vi r114.2.x_.Num) (hq.1.2 0 _ _ rfl)) <| Dgl 17 59 0 (pt b21 2) (tf 18 13) 13 true 55 hb137 (fun _ hq => fa 143 4 2 2 1 b21 0 2) <| Dgl 18 60 3 _ (tf 19 12) 13 true 55 hb137 (fun _ hq => ld 3 59 b21 2 false 1 (vi x1.num_) (hq.1.2 5 _ _ rfl)) <| Dgl 19 61 4 (.bool (decide (r114.2.x_.Num > x1.num_))) (tf 20 11) 13 true 55 hb137 (fun _ hq => Kl (t := 3) (t' := 3) (x := (.tmp 58)) (y := (.tmp 60)) (k := .i64) (a := r114.2.x_.Num) (b := x1.num_) rfl rfl) <| Dtl 20 62 4 _ (tf 21 10) (fun _ hq => p1 55 (.tmp 61) (.const (.bool false)) (.bool (decide (r114.2.x_.Num > x1.num_))) hb137) <| Dvl [21] (tf 22 9) <| Sd h138 (fun hb140 h141 => ?_) (fun hb140 h142 => ?_)
      ·refine Dgl 22 64 0 (pt b121 0) (tf 23 8) 21 true 63 hb140 (fun _ hq => fa 243 10 0 0 11 b121 0 0) ?_
       refine Dgl 23 65 0 (pt b121 3) (tf 24 7) 21 true 63 hb140 (fun _ hq => fa 34 64 3 3 1 b121 0 3) <| Dgl 24 66 3 _ (tf 25 6) 21 true 63 hb140 (fun _ hq => ld 3 65 b121 3 false 1 (vi r114.2.x_.Minute) (hq.1.2 0 _ _ rfl)) <| Dgl 25 67 0 (pt b21 3) (tf 26 5) 21 true 63 hb140 (fun _ hq => fa 143 4 3 3 1 b21 0 3) <| Dgl 26 68 3 _ (tf 27 4) 21 true 63 hb140 (fun _ hq => ld 3 67 b21 3 false 1 (vi x1.minute_) (hq.1.2 5 _ _ rfl)) <| Dgl 27 69 4 (.bool (decide (r114.2.x_.Minute >= x1.minute_))) (tf 28 3) 21 true 63 hb140 (fun _ hq => Pf (t := 3) (t' := 3) (x := (.tmp 66)) (y := (.tmp 68)) (k := .i64) (a := r114.2.x_.Minute) (b := x1.minute_) rfl rfl) <| Dtl 28 70 4 _ (tf 29 2) (fun _ hq => p1 63 (.tmp 69) (.const (.bool false)) (.bool (decide (r114.2.x_.Minute >= x1.minute_))) hb140) <| D1 29 <| So #[(vi x1.at_), (vi x1.stage_), (vi r114.2.x_.Num), (vi r114.2.x_.Minute)] hw127 (V3 _) (fun w143 hs144 => ?_)
       refine Dvl [30] (tf 31 0) ?_
       obtain rfl := Aa h141
       exact Wf (by kernel_rfl) ⟨F8, hs144.dr0.dr3.dr4, (V3 _), fI⟩
      ·cases h142
     ·refine Dkl [(14, 56), (15, 57), (16, 58), (17, 59), (18, 60), (19, 61)] 13 true 55 hb137 (tf 20 11) ?_
      refine Dtl 20 62 4 _ (tf 21 10) (fun _ hq => p0 55 (.tmp 61) (.const (.bool false)) (.bool false) hb137) <| Dvl [21] (tf 22 9) <| Dkl [(22, 64), (23, 65), (24, 66), (25, 67), (26, 68), (27, 69)] 21 true 63 rfl (tf 28 3) <| Dtl 28 70 4 _ (tf 29 2) (fun _ hq => p0 63 (.tmp 69) (.const (.bool false)) (.bool false) rfl) <| D1 29 <| So #[(vi x1.at_), (vi x1.stage_), (vi r114.2.x_.Num), (vi r114.2.x_.Minute)] hw127 (V3 _) (fun w145 hs146 => ?_)
      refine Dvl [30] (tf 31 0) ?_
      obtain rfl := Aa h139
      exact Wf (by kernel_rfl) ⟨F8, hs146.dr0.dr3.dr4, (V3 _), fI⟩
    ·rintro f w128 ⟨F9, hs129, le130, ⟨_, rfl⟩⟩
     refine Ab <| Rt ?_
     obtain rfl := Aa h136
     exact ⟨rfl, (.tuple #[(.agg #[(vi j131.2.1), (vi j131.2.2.1), (vi j131.2.2.2.1), (vi j131.2.2.2.2)]), (.bool j131.1)]), AW (l := [.cell 6 143, .tmp 7]) (by kernel_rfl) (vs := [(.agg #[(vi j131.2.1), (vi j131.2.2.1), (vi j131.2.2.2.1), (vi j131.2.2.2.2)]), (.bool j131.1)]) ⟨b24, 0, rfl, An (t := 143) (g := true) (s := 4) (by kernel_rfl) hs129.at3 rfl (by decide), ⟨rfl, trivial⟩⟩, F9, _, _, rfl, hs129.dr3, (le119.t le130), ⟨ar114_0_3, nr114_0_3, er114_0_4, er114_0_5, rfl, rfl, hbr114_0_3, (V5 hsr114_0_3 le130), (hrr114_0_4.mono le130), (hrr114_0_5.mono le130)⟩⟩
def Ks (N : Nat) (x0 : Wn) : (List Int × Int) -> Option (A4 Wn (List Int × Int)) := fun s26 =>
 (bif (decide (s26.2 < (x0.length : Int))) then ((Kj x0 s26.2).bind fun c50 => ((AV N (W64 c50) 97 122).bind fun r53 => ((bif ((bif r53 then (IntKind.u8.wrap (c50 - 32)) else (bif ((c50 == 9) || (c50 == 13)) then 32 else c50)) != 32) then some true else (bif (decide ((s26.1.length : Int) > 0)) then ((idx s26.1 (W64 ((s26.1.length : Int) - 1))).bind fun x102 => some (x102 != 32)) else none)).bind fun j86 => (bif j86 then ((C2 s26.1 [(bif r53 then (IntKind.u8.wrap (c50 - 32)) else (bif ((c50 == 9) || (c50 == 13)) then 32 else c50))]).bind fun r122 => some (.next (r122, (W64 (s26.2 + 1))))) else none)))) else some (.done (s26.1, s26.2)))
def Li (N : Nat) (x0 : Wn) : Option Wn :=
 ((AJ (Ks N x0) N (([] : List Int), 0)).bind fun o => o.k (fun r => some r) (fun s35 => ((strings_TrimSuffix N (toB s35.1) ([32] : Wn)).bind fun r134 => some r134)))
theorem KI : Af Tryz.prog 38 := fun _ _ => by kernel_rfl
theorem Mm (N : Nat) (w0 : World) (F0 : Mem) (hF : Wp w0 F0) (x0 : Wn) (r : Wn) (h : Li N x0 = some r) :
  Calls Tryz.prog 38 ([(sv x0)] : List Value).toArray w0 (AA w0 F0 fun F' v => v = (sv r)) := by
 have hs0 := V4 hF
 refine Go 51 Tryz.func38 <| Sq (Rg [0] ?_)
 refine Vs 1 <| Nss (Rg [0] ?_)
 refine Vs 1 <| Nss <| Sq (Rg [0, 1, 2] ?_)
 refine Vs 3 <| Nt ?_
 have hs21 := hs0.dummy (oc #[] 0)
 obtain ⟨o23, ho24, h25⟩ := bind_some h
 refine V9 (fun f w => ∃ (s35 : (List Int × Int)) (F2 : Mem) (as35_0 : Wo) (ns35_0 : Nat) (es35_0 : Option Nat × Obj), o23 = .done s35 /\ HS w0 F0 w F2 [es35_0] /\ V2 F0 F2 /\ FI f [] [(3, (.slice as35_0 s35.1.length ns35_0))] /\ Ar tU8 5 F2 as35_0 ns35_0 s35.1 es35_0) ?_ ?_
 ·refine Bk ?_
  refine V1 (by kernel_rfl) (fun m f w => ∃ (s26 : (List Int × Int)) (F1 : Mem) (as26_0 : Wo) (ns26_0 : Nat) (es26_0 : Option Nat × Obj), AJ (Ks N x0) m s26 = some o23 /\ HS w0 F0 w F1 [es26_0] /\ V2 F0 F1 /\ FI f [] [(0, (sv x0)), (3, (.slice as26_0 s26.1.length ns26_0)), (7, (vi (x0.length : Int))), (8, (vi s26.2))] /\ Ar tU8 5 F1 as26_0 ns26_0 s26.1 es26_0) N ⟨(([] : List Int), 0), F0, none, 0, (none, .cells #[] 0 (0, 0)), ho24, hs21, (V3 _), fI, (Wh tU8 5 F0 _)⟩ ?_
  rintro m41 f w27 ⟨s26, F1, as26_0, ns26_0, es26_0, hit42, hs28, le29, ⟨_, rfl⟩, hrs26_0⟩
  obtain ⟨m43, fl44, rfl, hb45, hnx46⟩ := AC hit42
  refine Sq (Rg [0] ?_)
  refine Vs 1 <| Nss <| Cd hb45 (fun hb47 h48 => ?_) (fun hb47 h49 => ?_)
  ·refine Sc ?_
   refine Ab <| Sq <| Bk <| Sq (Rg [0, 1] ?_)
   refine Vs 2 <| Nss (Rg (rG 4) ?_)
   refine Vs 2 ?_
   obtain ⟨c50, hr51, h52⟩ := bind_some h48
   refine V 13 5 (Eg (t := 9) (x := (.tmp 11)) (y := (.tmp 12)) (a := x0) (k := .i64) (i := s26.2) (v := c50) rfl rfl (by kernel_rfl) hr51) <| Vs 1 <| Nss <| Bk <| Sq (Rg (rG 4) ?_)
   refine Vs 2 ?_
   obtain ⟨r53, hr54, h55⟩ := bind_some h52
   refine Cl' AN hs28 (AQ N w27 F1 hs28.pers ((W64 c50)) 97 122 _ hr54) ?_
   rintro _ F3 w57 hs58 le59 rfl
   refine Vs 1 <| Nt <| V9 (fun f w => ∃ (F4 : Mem), HS w0 F0 w F4 [es26_0] /\ V2 F3 F4 /\ FI f [] [(0, (sv x0)), (3, (.slice as26_0 s26.1.length ns26_0)), (5, (.int .u8 (bif r53 then (IntKind.u8.wrap (c50 - 32)) else (bif ((c50 == 9) || (c50 == 13)) then 32 else c50)))), (7, (vi (x0.length : Int))), (8, (vi s26.2))]) ?_ ?_
   ·refine Cp r53 (fun hb70 => ?_) (fun hb70 => ?_)
    ·refine Rg [0, 1, 2] ?_
     refine Vs 3 <| VY ?_
     exact .inl ⟨rfl, F3, hs58, (V3 _), (fJ ⟨rfl, rfl, (congrArg (Value.int .u8) (I3 hb70 rfl)), rfl, rfl, trivial⟩)⟩
    ·refine Sq (Rg (rG 7) ?_)
     refine V8 (fun f w => ∃ (F5 : Mem), HS w0 F0 w F5 [es26_0] /\ V2 F3 F5 /\ FI f [] [(0, (sv x0)), (3, (.slice as26_0 s26.1.length ns26_0)), (5, (.int .u8 c50)), (7, (vi (x0.length : Int))), (8, (vi s26.2)), (20, (.bool ((c50 == 9) || (c50 == 13))))]) ?_ ?_
     ·refine Vs 3 ?_
      refine V7 (c50 == 9) (fun hb81 => ?_) (fun hb81 => ?_)
      ·refine Ss hb81 2 ?_
       refine Pk1 hb81 <| Vs 1 ?_
       exact VY ⟨rfl, F3, hs58, (V3 _), (fJ ⟨rfl, rfl, rfl, rfl, rfl, (congrArg Value.bool (Fw hb81 rfl)), trivial⟩)⟩
      ·refine Vgs hb81 2 ?_
       refine Pk0 hb81 <| Vs 1 ?_
       exact VY ⟨rfl, F3, hs58, (V3 _), (fJ ⟨rfl, rfl, rfl, rfl, rfl, (congrArg Value.bool (Cr hb81 rfl)), trivial⟩)⟩
     ·rintro f w71 ⟨F5, hs72, le73, ⟨_, rfl⟩⟩
      refine Ab <| Cp ((c50 == 9) || (c50 == 13)) (fun hb82 => ?_) (fun hb82 => ?_)
      ·refine Rg [0] ?_
       refine Vs 1 <| VY ?_
       exact .inl ⟨rfl, F5, hs72, le73, (fJ ⟨rfl, rfl, (congrArg (Value.int .u8) (K0 hb70 (I3 hb82 rfl))), rfl, rfl, trivial⟩)⟩
      ·refine Sc ?_
       exact .inl ⟨rfl, F5, hs72, le73, (fJ ⟨rfl, rfl, (congrArg (Value.int .u8) (K0 hb70 (K0 hb82 rfl))), rfl, rfl, trivial⟩)⟩
   ·rintro f w61 ⟨F4, hs62, le63, ⟨_, rfl⟩⟩
    refine Ap <| Ab <| Sq (Rg (rG 16) ?_)
    obtain ⟨j86, hj94, h95⟩ := bind_some h55
    refine V8 (fun f w => ∃ (F6 : Mem), HS w0 F0 w F6 [es26_0] /\ V2 F4 F6 /\ FI f [] [(0, (sv x0)), (3, (.slice as26_0 s26.1.length ns26_0)), (5, (.int .u8 (bif r53 then (IntKind.u8.wrap (c50 - 32)) else (bif ((c50 == 9) || (c50 == 13)) then 32 else c50)))), (7, (vi (x0.length : Int))), (8, (vi s26.2)), (42, (.bool j86))]) ?_ ?_
    ·refine Vs 3 ?_
     refine Sp hj94 (fun hb96 h97 => ?_) (fun hb96 h98 => ?_)
     ·refine Ss hb96 4 ?_
      refine Su' 7 <| Ss hb96 1 <| Pk1 hb96 ?_
      obtain rfl := Aa h97
      exact VY ⟨rfl, F4, hs62, (V3 _), fI⟩
     ·refine Vgs hb96 4 ?_
      refine Sp h98 (fun hb99 h100 => ?_) (fun hb99 h101 => ?_)
      ·refine Vgs hb99 4 ?_
       obtain ⟨x102, hx103, h105⟩ := bind_some h100
       obtain ⟨hi104, hx103'⟩ := Aj hx103
       obtain ⟨b106, C107, rfl, rfl, hE110⟩ := Ar.open (hrs26_0.mono (le59.t le63)) hx103'
       have hr111 := (hrs26_0.mono (le59.t le63))
       have hc113 := hE110 _ _ hx103'
       refine VU hb99 hi104 <| Lxg hb99 0 hs62.at0 hc113 <| Vgs hb99 1 <| Pg1 hb96 hb99 <| Pk0 hb96 ?_
       obtain rfl := Aa h105
       exact VY ⟨rfl, F4, hs62, (V3 _), fI⟩
      ·cases h101
    ·rintro f w83 ⟨F6, hs84, le85, ⟨_, rfl⟩⟩
     refine Ab <| Cd h95 (fun hb114 h115 => ?_) (fun hb114 h116 => ?_)
     ·refine Rg (rG 5) ?_
      refine Vs 2 <| Bs 5 [(.int .u8 (bif r53 then (IntKind.u8.wrap (c50 - 32)) else (bif ((c50 == 9) || (c50 == 13)) then 32 else c50)))] hs84 (fun b117 w118 hs119 => ?_)
      have hr121 : Ar tU8 5 F6 (some ⟨b117, 0, none⟩) 1 [(bif r53 then (IntKind.u8.wrap (c50 - 32)) else (bif ((c50 == 9) || (c50 == 13)) then 32 else c50))] (some b117, .cells ([(.int .u8 (bif r53 then (IntKind.u8.wrap (c50 - 32)) else (bif ((c50 == 9) || (c50 == 13)) then 32 else c50)))] : List Value).toArray 5 (0, 0)) := Wi ⟨rfl, rfl⟩ (by simp)
      obtain ⟨r122, hap123, h124⟩ := bind_some h115
      refine Ap1 oU8 hs119 (hrs26_0.mono ((le59.t le63).trans le85)) (hs119.rd0 hr121) hap123 (fun a125 n126 e127 w128 hs129 hr130 => ?_)
      refine Vs 1 <| VY <| Ap <| Ab <| Rg [0, 1] <| Vs 2 <| VY ?_
      have hn131 := AD h124 hnx46
      exact ⟨m43, Nat.lt_succ_self _, (r122, (W64 (s26.2 + 1))), F6, a125, n126, e127, hn131, hs129.dr0, (((le29.t le59).trans le63).trans le85), fI, hr130⟩
     ·cases h116
  ·refine Ex ?_
   refine Al <| Al <| Ay rfl ?_
   have ho132 := AE h49 hnx46
   exact .inl ⟨rfl, (s26.1, s26.2), F1, as26_0, ns26_0, es26_0, ho132, hs28, le29, fI, hrs26_0⟩
 ·rintro f w36 ⟨s35, F2, as35_0, ns35_0, es35_0, rfl, hs37, le38, ⟨_, rfl⟩, hrs35_0⟩
  have h133 := A6 h25
  refine Ab <| Sq (Rg (rG 4) ?_)
  refine Vs 1 <| V 49 9 (TP (s := 103) (d := 9) (E := 5) (x := (.tmp 48)) (a := as35_0) (cap := ns35_0) (q := 0) (l := s35.1) rfl (by kernel_rfl) (by kernel_rfl) (by kernel_rfl) hs37 rfl hrs35_0) ?_
  obtain ⟨r134, hr135, h136⟩ := bind_some h133
  refine Cl' Ia hs37 (IU N w36 F2 hs37.pers ((toB s35.1)) (([32] : Wn)) _ hr135) ?_
  rintro _ F7 w138 hs139 le140 rfl
  refine Vs 1 <| Nt <| Rt ?_
  obtain rfl := Aa h136
  exact Re [(sv r134)] hs139 rfl
end Go.Proofs.YthljkpeimofbbaaGreatDoor
