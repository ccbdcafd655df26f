/- Lemmas of the claim RulesParses, printed by a program of the claimant and by hand. No statement of the seat is proved here. -/
import Derived.Test.YtaihlcdkcampbaaGreatDoorE3x5
set_option linter.unusedVariables false
set_option linter.unusedSimpArgs false
set_option linter.unusedSectionVars false
set_option maxHeartbeats 4000000
set_option maxRecDepth 100000
namespace Go.Proofs.YtaihlcdkcampbaaGreatDoor
section
variable {N n : Nat} {Lr : List An} {Lf : List Af} (T : IB n Lr Lf)
include T
theorem OM (hN : 10 * n + 1000 <= N) (x0 : TN) :
  (∃ q B, Ow N B /\ Be (CA N (PS Lr 0 0) Ft) N (Lr, 0, [], [], [], []) = some (.done (Lr.drop q, 0, B.Points, B.Multipliers, B.Penalties, B.Repeats)) /\
   Be (C5 N x0 Lf) N (Lf, 0, 0, 0, 0, [], [], [], []) = some (.done (Lf, (q : Int), 0, 0, 0, B.Points, B.Multipliers, B.Penalties, B.Repeats))) \/
  (∃ e w, ∃ (L : List Af) (q o : Int) (B : BC), e ≠ 0 /\ Be (CA N (PS Lr 0 0) Ft) N (Lr, 0, [], [], [], []) = some (.ret (.inl ⟨e, w⟩)) /\
   Be (C5 N x0 Lf) N (Lf, 0, 0, 0, 0, [], [], [], []) = some (.done (L, q, o, e, w, B.Points, B.Multipliers, B.Penalties, B.Repeats))) := by
 obtain ⟨o1, o2, r1, r2, hR⟩ := LU (b1 := CA N (PS Lr 0 0) Ft) (b2 := C5 N x0 Lf)
  (fun m s t => ∃ (q : Nat) (B : BC), m = n - q /\ q < n /\ Ow N B /\ s = (Lr.drop q, 0, B.Points, B.Multipliers, B.Penalties, B.Repeats) /\ t = (Lf, (q : Int), 0, 0, 0, B.Points, B.Multipliers, B.Penalties, B.Repeats))
  (fun a b => (∃ (q : Nat) (B : BC), Ow N B /\ a = .done (Lr.drop q, 0, B.Points, B.Multipliers, B.Penalties, B.Repeats) /\ b = .done (Lf, (q : Int), 0, 0, 0, B.Points, B.Multipliers, B.Penalties, B.Repeats)) \/
   (∃ (e w : Int) (L : List Af) (q o : Int) (B : BC), e ≠ 0 /\ a = .ret (.inl ⟨e, w⟩) /\ b = .done (L, q, o, e, w, B.Points, B.Multipliers, B.Penalties, B.Repeats)))
  (by
   rintro m s t ⟨q, B, rfl, hq, hB, rfl, rfl⟩
   obtain ⟨a, b, ha, hb, hc, hd, _, _⟩ := T.hd hq
   have e1 := Ps T hq ha hb
   have e2 := MR T hq ha hb
   unfold CA C5
   rw [hc, hd]
   simp only [Option.bind_some, e1, show (((0 : Int)) == 0) = true from rfl, cond_true]
   rw [show (⟨Lr.drop q, 0⟩ : Ac) = PS Lr q 0 from rfl, Jg T hq 0 [10] ha, e2]
   cases h5 : b.Kind != 5 with
   | false =>
    right; left
    exact ⟨_, _, rfl, (fun _ h => by cases h), rfl, (fun _ h => by cases h), .inl ⟨q, B, hB, rfl, rfl⟩⟩
   | true =>
    simp only [cond_true]
    cases h4 : b.Kind == 4 with
    | true =>
     have hlt : q + 1 < n := by
      rcases Nat.lt_or_ge (q + 1) n with h | h
      ·exact h
      ·obtain ⟨a', b', h1, h2, _, _, h6, _⟩ := T.hd hq
       rw [h2] at hb; cases hb
       rcases h6 with ⟨_, h6⟩ | ⟨h6, _⟩
       ·exact h6
       ·rw [h6.b5] at h4; cases h4
     left
     refine ⟨n - (q + 1), _, _, by omega, rfl, ?_, q + 1, B, rfl, hlt, hB, rfl, rfl⟩
     simp only [cond_true]
     rw [W1 T hq]
    | false =>
     simp only [cond_false, Bool.not_false, cond_true, Option.bind_some]
     rw [show (⟨Lf, (q : Int), 0, 0, 0⟩ : Aa) = RS Lf q 0 from rfl]
     rcases PK T hN hq hB with ⟨j, B', g1, g2, gB, g3, g4⟩ | ⟨e, w, j, o', B', he, g3, g4⟩
     ·left
      rw [show (⟨B.Points, B.Multipliers, B.Penalties, B.Repeats⟩ : BC) = B from rfl, g3, g4]
      exact ⟨n - j, _, _, by omega, rfl, rfl, j, B', rfl, g2, gB, rfl, rfl⟩
     ·right; right
      rw [show (⟨B.Points, B.Multipliers, B.Penalties, B.Repeats⟩ : BC) = B from rfl, g3, g4]
      refine ⟨_, _, _, rfl, (fun _ h => by cases h), rfl, ?_, (fun _ h => by cases h), .inr ⟨e, w, Lf, j, o', B', he, rfl, rfl⟩⟩
      show ((bif (e == 0) then _ else some false).bind _) = _
      rw [e0 he]; rfl)
  n N N _ _ ⟨0, Ft, rfl, T.pos, ⟨⟨by show 0 <= 64; omega, fun c hc => by cases hc⟩, ⟨by show 0 <= 64; omega, fun c hc => by cases hc⟩, ⟨by show 0 <= 64; omega, fun c hc => by cases hc⟩, ⟨by show 0 <= 64; omega, fun c hc => by cases hc⟩⟩, rfl, rfl⟩ (by omega) (by omega)
 rw [List.drop_zero] at r1
 rcases hR with ⟨q, B, hB, rfl, rfl⟩ | ⟨e, w, L, q, o, B, he, rfl, rfl⟩
 ·exact .inl ⟨q, B, hB, r1, r2⟩
 ·exact .inr ⟨e, w, L, q, o, B, he, r1, r2⟩
end
theorem GJ {N : Nat} {l : List Clause} (hN : 1000 < N) (h : l.length <= 64 /\ ∀ c, c ∈ l -> Fit N c.When /\ Fit N c.Then) : Cl N l l = some true := by
 unfold Cl
 rw [show (((l.length : Int)) != (l.length : Int)) = false by simp, cond_false]
 rw [KT (n := l.length) (fun _ => true) false (fun i hi => by
  unfold CM
  have hg := h.2 _ (List.getElem_mem hi)
  rw [I7 hi, cond_true, Ed hi]
  simp only [Option.bind_some]
  rw [M6 hg.1, M6 hg.2, J0, J0]
  simp only [Option.bind_some, Bool.not_true, cond_false]
  rw [Dm (by omega)]; rfl) (by unfold CM; rw [Jx, cond_false]) (by omega)]
 rw [show KJ l.length (fun _ => true) = true from Nm fun _ _ => rfl]; rfl
theorem PD {N : Nat} {B : BC} (hN : 1000 < N) (h : Ow N B) : DX N B B = some true := by
 unfold DX
 rw [GJ hN h.p, GJ hN h.m, GJ hN h.e]
 simp only [Option.bind_some, Bool.not_true, cond_false]
 rw [show (((B.Repeats.length : Int)) != (B.Repeats.length : Int)) = false by simp, cond_false]
 have hl := h.r.1
 rw [KT (n := B.Repeats.length) (fun _ => true) false (fun i hi => by
  unfold Db
  have hg := h.r.2 _ (List.getElem_mem hi)
  rw [I7 hi, cond_true, Ed hi]
  simp only [Option.bind_some]
  rw [M6 hg, J0]
  simp only [Option.bind_some, Bool.not_true, cond_false]
  rw [Dm (by omega)]; rfl) (by unfold Db; rw [Jx, cond_false]) (by omega)]
 rw [show KJ B.Repeats.length (fun _ => true) = true from Nm fun _ _ => rfl]; rfl
theorem NJ {N : Nat} : Ow N Ft := ⟨⟨by show 0 <= 64; omega, fun c hc => by cases hc⟩, ⟨by show 0 <= 64; omega, fun c hc => by cases hc⟩, ⟨by show 0 <= 64; omega, fun c hc => by cases hc⟩, ⟨by show 0 <= 64; omega, fun c hc => by cases hc⟩⟩
theorem N7 {N : Nat} (s : TN) (hN : 4000000 <= N) : ∃ B e w, C8 N s = some (B, e, w) /\ Gb N s = some (B, e, w) /\ Ow N B := by
 unfold C8 I4 Gb
 by_cases hl : s.length > 65536
 ·rw [decide_eq_true (by omega)]
  exact ⟨Ft, 2, 0, rfl, rfl, NJ⟩
 rw [decide_eq_false (by omega)]
 simp only [cond_false]
 obtain ⟨n, Lr, Lf, e1, e2, T, hn⟩ := Q9 (N := N) (s := s) (by omega) (by omega)
 rw [e1, e2]
 simp only [Option.bind_some]
 unfold Gm
 rw [show (⟨Lr, 0⟩ : Ac) = PS Lr 0 0 from by unfold PS; rw [List.drop_zero]]
 rw [show (((PS Lr 0 0).l_, (PS Lr 0 0).open_, Ft.Points, Ft.Multipliers, Ft.Penalties, Ft.Repeats) : List An × Int × List Clause × List Clause × List Clause × List Expr) = (Lr, 0, [], [], [], []) from by unfold PS; rw [List.drop_zero]; rfl]
 rcases OM T (N := N) (by omega) s with ⟨q, B, hB, h1, h2⟩ | ⟨e, w, L, q, o, B, he, h1, h2⟩
 ·rw [h1, h2]
  exact ⟨B, 0, 0, rfl, rfl, hB⟩
 ·rw [h1, h2]
  refine ⟨Ft, e, w, ?_, ?_, NJ⟩
  ·show (bif (e != 0) then _ else none) = _
   rw [show (e != 0) = true by simpa using he]; rfl
  ·show (bif (e != 0) then _ else _) = _
   rw [show (e != 0) = true by simpa using he]; rfl
theorem OO (s : TN) (_ : s.length <= 140737488351232) : ∃ N, Ec N s = some true := by
 refine ⟨4000000, ?_⟩
 obtain ⟨B, e, w, h1, h2, hB⟩ := N7 (N := 4000000) s (by omega)
 unfold Ec Hr
 rw [h1, h2]
 simp only [Option.bind_some]
 rw [PD (by omega) hB]
 generalize (bif (decide ((s.length : Int) > 3000)) then ((decide ((s.length : Int) <= 65536)) || (decide ((s.length : Int) > 131072))) else (decide ((s.length : Int) > 131072))) = b1
 cases b1 <;> simp
end Go.Proofs.YtaihlcdkcampbaaGreatDoor
