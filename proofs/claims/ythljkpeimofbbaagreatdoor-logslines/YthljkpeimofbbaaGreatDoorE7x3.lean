/- Lemmas of the claim LogsLines, printed by a program of the claimant and by hand. No statement of the seat is proved here. -/
import Derived.Test.YthljkpeimofbbaaGreatDoorE7x2
set_option linter.unusedVariables false
set_option linter.unusedSimpArgs false
set_option linter.unusedSectionVars false
set_option maxHeartbeats 4000000
set_option maxRecDepth 100000
namespace Go.Proofs.YthljkpeimofbbaaGreatDoor
section
open Go.Lib (decDigits)
def Ev (u : Nat) : T2 := decDigits (u / 1440 + 1) ++ 32 :: (dP 2 (u / 60 % 24) ++ dP 2 (u % 60))
def DW (x : Int) : T2 × Int := if 0 <= x /\ x <= 20000 then (Ev x.toNat, 0) else ([], 1)
theorem Qc (u k : Nat) (h : u < 4611686018427387904) : W64 (Int.tdiv (u : Int) (k : Int)) = ((u / k : Nat) : Int) := by
 have : Int.tdiv (u : Int) (k : Int) = ((u / k : Nat) : Int) := by rw [Int.tdiv_eq_ediv_of_nonneg (by omega)]; rfl
 have h2 : u / k <= u := Nat.div_le_self _ _
 rw [this]
 generalize u / k = v at h2
 rw [EW (by omega) (by omega)]
theorem Qb (u k : Nat) : Int.tmod (u : Int) (k : Int) = ((u % k : Nat) : Int) := by
 rw [Int.tmod_eq_emod_of_nonneg (by omega)]; rfl
theorem Nm {u : Nat} (h : u < 100000) : (decDigits u).length <= 5 := Iy 4 u (by omega)
theorem HH {u : Nat} (h : u < 100) : (dP 2 u).length = 2 := by
 have h1 := JI 2 u
 have h2 := Hg (k := 2) (j := 1) (u := u) (by omega)
 omega
section
variable {N : Nat}
theorem J1 (x : Int) : Cb N x = some (DW x) := by
 unfold Cb DW
 rw [Lm, Option.bind_some]
 by_cases h : 0 <= x /\ x <= 20000
 ·rw [if_pos h, decide_eq_true h.1, decide_eq_true h.2]
  obtain ⟨u, rfl⟩ : ∃ u : Nat, x = u := ⟨x.toNat, by omega⟩
  have hu : u <= 20000 := by omega
  simp only [Bool.and_self, Bool.not_true, cond_false]
  have e1 := Qc u 1440 (by omega)
  have e2 := Qc u 60 (by omega)
  simp only [Int.cast_ofNat_Int] at e1 e2
  have e3 := Qb (u / 60) 24
  have e4 := Qb u 60
  simp only [Int.cast_ofNat_Int] at e3 e4
  rw [e1, e2, e3, e4, NG (u / 1440) (by omega), M6 _ (by omega), Option.bind_some]
  have hl1 := Nm (u := u / 1440 + 1) (by omega)
  have hl2 := HH (u := u / 60 % 24) (by omega)
  have hl3 := HH (u := u % 60) (by omega)
  have p1 := Ln (N := N) (u / 60 % 24) 2 (by omega) (by omega)
  have p2 := Ln (N := N) (u % 60) 2 (by omega) (by omega)
  simp only [Int.cast_ofNat_Int] at p1 p2
  rw [EH (by simp; omega), Option.bind_some, p1, Option.bind_some, EH (by simp; omega), Option.bind_some, p2, Option.bind_some, EH (by simp; omega), Option.bind_some]
  unfold Ev
  simp
 ·rw [if_neg h]
  have : (decide (0 <= x) && decide (x <= 20000)) = false := by
   rw [Bool.and_eq_false_iff, decide_eq_false_iff_not, decide_eq_false_iff_not]; omega
  rw [this]; rfl
def Kg (p q : Nat) : Nat := (p - 1) * 1440 + q / 100 * 60 + q % 100
theorem Rj {p q : Nat} (h1 : 1 <= p) (hp : p < 1000000000) (hq : q < 1000000000) : W64 ((W64 ((W64 ((W64 ((p : Int) - 1)) * 1440)) + (W64 ((W64 (Int.tdiv (q : Int) 100)) * 60)))) + (Int.tmod (q : Int) 100)) = (Kg p q : Int) := by
 have e1 := Qc q 100 (by omega)
 have e2 := Qb q 100
 simp only [Int.cast_ofNat_Int] at e1 e2
 rw [e1, e2, EW (n := (p : Int) - 1) (by omega) (by omega), EW (n := ((p : Int) - 1) * 1440) (by omega) (by omega), EW (n := ((q / 100 : Nat) : Int) * 60) (by omega) (by omega)]
 rw [EW (n := ((p : Int) - 1) * 1440 + ((q / 100 : Nat) : Int) * 60) (by omega) (by omega), EW (by omega) (by omega)]
 unfold Kg
 omega
def JE (s a b : T2) : Int × Int := if Ga a && Ga b && decide (1 <= E0 a) && decide (DW (Kg (E0 a) (E0 b)) = (s, 0)) then ((Kg (E0 a) (E0 b) : Int), 0) else (0, 13)
def FZ (s : T2) : Int × Int := match pcs 32 s with
 | [a, b] => JE s a b
 | _ => (0, 13)
theorem PM {s : T2} (h : (32 : UInt8) ∈ s) : Ga s = false := by
 cases hh : Ga s with
 | false => rfl
 | true =>
  have := List.all_eq_true.1 (KO hh).2.2.2 _ h
  revert this; decide
theorem Qy : Ga [] = false := rfl
theorem Qt (s t : T2) (e : Int) : ((e != 0) || (t != s)) = !decide ((t, e) = (s, 0)) := by
 by_cases h1 : e = 0
 ·by_cases h2 : t = s
  ·subst h1; subst h2; simp
  ·rw [decide_eq_false (fun h => h2 (by injection h))]; simp [h2]
 ·rw [decide_eq_false (fun h => h1 (by injection h))]; simp [h1]
theorem My (s a b : T2) (ha : a.length < N) (hb : b.length < N) :
  ((BT N a).bind fun r9 => ((BT N b).bind fun r17 => (bif ((decide (r9 < 1)) || ((decide (r9 > 20000)) || (decide (r17 < 0)))) then some ((0 : Int), (13 : Int)) else ((Cb N (W64 ((W64 ((W64 ((W64 (r9 - 1)) * 1440)) + (W64 ((W64 (Int.tdiv r17 100)) * 60)))) + (Int.tmod r17 100)))).bind fun r38 => (bif ((r38.2 != 0) || (r38.1 != s)) then some (0, 13) else some ((W64 ((W64 ((W64 ((W64 (r9 - 1)) * 1440)) + (W64 ((W64 (Int.tdiv r17 100)) * 60)))) + (Int.tmod r17 100))), 0)))))) = some (JE s a b) := by
 rw [Lp ha, Lp hb, Option.bind_some, Option.bind_some]
 unfold PK JE
 cases hA : Ga a with
 | false =>
  simp only [Bool.false_eq_true, if_false, Bool.false_and]
  rfl
 | true =>
  cases hB : Ga b with
  | false =>
   simp only [Bool.false_eq_true, if_false, if_true, Bool.and_false, Bool.false_and]
   rw [show decide ((-1 : Int) < 0) = true from rfl, Bool.or_true, Bool.or_true]; rfl
  | true =>
   simp only [if_true, Bool.and_self, Bool.true_and]
   have hp := KO hA
   have hq := KO hB
   generalize E0 a = p at hp ⊢
   generalize E0 b = q at hq ⊢
   by_cases h1 : 1 <= p
   ·rw [decide_eq_false (show ¬ (p : Int) < 1 by omega), decide_eq_true h1, decide_eq_false (show ¬ (q : Int) < 0 by omega), Bool.false_or, Bool.or_false, Bool.true_and, Rj h1 hp.1 hq.1]
    by_cases h2 : p <= 20000
    ·rw [decide_eq_false (show ¬ (p : Int) > 20000 by omega), cond_false, J1, Option.bind_some, Qt]
     have : ((DW (Kg p q : Int)).1, (DW (Kg p q : Int)).2) = DW (Kg p q : Int) := rfl
     rw [this]
     by_cases h3 : DW (Kg p q : Int) = (s, 0)
     ·rw [decide_eq_true h3, if_pos rfl]; rfl
     ·rw [decide_eq_false h3]; rfl
    ·rw [decide_eq_true (show (p : Int) > 20000 by omega), cond_true]
     have h3 : ¬ DW (Kg p q : Int) = (s, 0) := by
      unfold DW Kg
      rw [if_neg (by omega)]
      intro h; injection h with h1 h2; exact absurd h2 (by decide)
     rw [decide_eq_false h3]; rfl
   ·rw [decide_eq_true (show (p : Int) < 1 by omega), decide_eq_false h1]; rfl
theorem Lk {s a b : T2} (h : Ga b = false) : JE s a b = (0, 13) := by unfold JE; rw [h]; simp
theorem NM (s : T2) (hs : s.length < 4294967281) (hN : 4294967300 < N) : EV N s = some (FZ s) := by
 unfold EV
 have hc : strings_Cut N s [32] = some (Go.Lib.cut s [32]) := by unfold strings_Cut; rw [if_pos hs]
 rw [hc, Option.bind_some]
 unfold FZ
 by_cases h : (32 : UInt8) ∈ s
 ·obtain ⟨a, t, rfl, ha⟩ := DD h
  simp only [List.length_append, List.length_cons] at hs
  rw [QX ha, HD ha]
  simp only
  rw [My _ a t (by omega) (by omega)]
  by_cases ht : (32 : UInt8) ∈ t
  ·obtain ⟨a', t', rfl, ha'⟩ := DD ht
   rw [HD ha', Lk (PM ht)]
   cases hp : pcs 32 t' with
   | nil => exact absurd hp (JD 32 t')
   | cons x l => rfl
  ·rw [FC ht]
 ·rw [QY h, FC h]
  simp only
  rw [My _ s [] (by omega) (by simp; omega), Lk Qy]
end
theorem Qx (a : Nat) (l : T2) : GM a l = a * 10 ^ l.length + GM 0 l := by
 induction l generalizing a with
 | nil => simp [GM]
 | cons b l ih =>
  rw [FE, FE, ih (10 * a + (b.toNat - 48)), ih (10 * 0 + (b.toNat - 48)), List.length_cons, Nat.pow_succ, Nat.add_mul, Nat.mul_comm (10 ^ l.length) 10, <- Nat.mul_assoc, Nat.mul_comm a 10, Nat.mul_zero, Nat.zero_add, Nat.add_assoc]
theorem Qw (l m : T2) : E0 (l ++ m) = E0 l * 10 ^ m.length + E0 m := by
 unfold E0
 rw [show GM 0 (l ++ m) = GM (GM 0 l) m by unfold GM; rw [List.foldl_append], Qx]
theorem no32 {l : T2} (h : l.all isD = true) : (32 : UInt8) ∉ l := fun hm => by
 have := List.all_eq_true.1 h _ hm
 revert this; decide
theorem Ir {u : Nat} (h : u <= 20000) : FZ (Ev u) = ((u : Int), 0) := by
 have hl1 := Nm (u := u / 1440 + 1) (by omega)
 have hl2 := HH (u := u / 60 % 24) (by omega)
 have hl3 := HH (u := u % 60) (by omega)
 have hall : (dP 2 (u / 60 % 24) ++ dP 2 (u % 60)).all isD = true := by rw [List.all_append, Fm, Fm]; rfl
 have hp : pcs 32 (Ev u) = [decDigits (u / 1440 + 1), dP 2 (u / 60 % 24) ++ dP 2 (u % 60)] := by
  unfold Ev
  rw [HD (no32 (Iz _)), FC (no32 hall)]
 unfold FZ
 rw [hp]
 simp only
 unfold JE
 have n1 : Ga (decDigits (u / 1440 + 1)) = true := by
  unfold Ga wiB; have := Nl (u / 1440 + 1); rw [Iz]; simp; omega
 have n2 : Ga (dP 2 (u / 60 % 24) ++ dP 2 (u % 60)) = true := by
  unfold Ga wiB; rw [hall]; simp [hl2, hl3]
 have v2 : E0 (dP 2 (u / 60 % 24) ++ dP 2 (u % 60)) = u / 60 % 24 * 100 + u % 60 := by
  rw [Qw, OZ, OZ, hl3]
 have e : Kg (u / 1440 + 1) (u / 60 % 24 * 100 + u % 60) = u := by unfold Kg; omega
 have hpr : DW (u : Int) = (Ev u, 0) := by unfold DW; rw [if_pos (by omega)]; rfl
 rw [n1, n2, LL, v2, e, hpr, decide_eq_true (show 1 <= u / 1440 + 1 by omega), decide_eq_true rfl]
 rfl
end
theorem N6 {ρ : Type} {body : Int -> Option (BE ρ Int)} {n : Nat} (ok : Nat -> Bool) (bad : Nat -> ρ)
  (hb : ∀ i, i < n -> body (i : Int) = some (bif ok i then .next ((i + 1 : Nat) : Int) else .ret (bad i))) (he : body (n : Int) = some (.done (n : Int))) {N : Nat} (hN : n < N) :
  ((∀ i, i < n -> ok i = true) /\ A6 body N 0 = some (.done (n : Int))) \/ (∃ i, i < n /\ ok i = false /\ (∀ k, k < i -> ok k = true) /\ A6 body N 0 = some (.ret (bad i))) := by
 obtain ⟨o, ho, hR⟩ := I7 (body := body) n (fun i s => s = (i : Int) /\ ∀ k, k < i -> ok k = true) (fun o => ((∀ i, i < n -> ok i = true) /\ o = .done (n : Int)) \/ (∃ i, i < n /\ ok i = false /\ (∀ k, k < i -> ok k = true) /\ o = .ret (bad i))) (by
  rintro i s hi ⟨rfl, hk⟩
  by_cases h : i < n
  ·rw [hb i h]
   cases e : ok i with
   | true =>
    refine .inl ⟨_, rfl, ⟨rfl, fun k hk' => ?_⟩, h⟩
    by_cases hki : k = i
    ·subst hki; exact e
    ·exact hk k (by omega)
   | false => exact .inr ⟨_, rfl, (fun _ h => by cases h), .inr ⟨i, h, e, hk, rfl⟩⟩
  ·have : i = n := by omega
   subst this
   rw [he]
   exact .inr ⟨_, rfl, (fun _ h => by cases h), .inl ⟨hk, rfl⟩⟩) n N 0 0 (by omega) ⟨rfl, fun k hk => by omega⟩ hN
 rcases hR with ⟨h1, rfl⟩ | ⟨i, h1, h2, h3, rfl⟩
 ·exact .inl ⟨h1, ho⟩
 ·exact .inr ⟨i, h1, h2, h3, ho⟩
theorem Tn (i : Nat) (h : i < 4611686018427387904) (h0 : 0 < i) : W64 ((i : Int) - 1) = ((i - 1 : Nat) : Int) := by
 rw [EW (by omega) (by omega)]; omega
section
open Go.Lib (decDigits)
theorem Pm (s : T2) : (s != []) = !decide (s = []) := by
 cases s <;> rfl
def jn (l : List T2) : T2 := Go.Lib.join l [32]
theorem OR : jn [] = [] := rfl
theorem DI (x : T2) : jn [x] = x := Go.Lib.join_one x [32]
theorem ON : ∀ (r : List T2) (x : T2), (32 : UInt8) ∉ x -> (∀ y, y ∈ r -> (32 : UInt8) ∉ y) -> pcs 32 (jn (x :: r)) = x :: r
 | [], x, hx, _ => by rw [DI, FC hx]
 | y :: r, x, hx, hr => by
  have ih := ON r y (hr y (by simp)) (fun z hz => hr z (by simp [hz]))
  have : jn (x :: y :: r) = x ++ 32 :: jn (y :: r) := by
   unfold jn
   rw [Go.Lib.join_cons, Go.Lib.join_cons]
   unfold Go.Lib.joinTail
   simp
  rw [this, HD hx, ih]
section
variable {N : Nat}
theorem S9 (a b : T2) (hN : 4294967300 < N) : Ec N [a, b] = some (if a = [] then b else a) := by
 obtain ⟨M, rfl⟩ : ∃ M, N = M + 3 := ⟨N - 3, by omega⟩
 unfold Ec
 by_cases ha : a = []
 ·rw [if_pos ha]
  by_cases hb : b = []
  ·subst ha; subst hb; rfl
  ·have e1 : Cj (M + 3) [a, b] 0 = some (.next 1) := by subst ha; rfl
   have e2 : Cj (M + 3) [a, b] 1 = some (.ret b) := by
    show (bif (b != ([] : T2)) then some (.ret b) else some (.next (W64 (1 + 1)))) = some (BE.ret b)
    rw [Pm, decide_eq_false hb]; rfl
   rw [A6, e1]
   simp only
   rw [A6, e2]
   rfl
 ·rw [if_neg ha]
  have e1 : Cj (M + 3) [a, b] 0 = some (.ret a) := by
   show (bif (a != ([] : T2)) then some (.ret a) else some (.next (W64 (0 + 1)))) = some (BE.ret a)
   rw [Pm, decide_eq_false ha]; rfl
  rw [A6, e1]
  rfl
theorem Ki {l : List AF} {p : AF -> Option Bool} (F : AF -> Bool) (hp : ∀ x, x ∈ l -> p x = some (F x)) (hl : l.length < 4000000000) (hN : 4294967300 < N) : AP N l p = some (l.any F) := by
 unfold AP Bh
 rcases N6 (body := AE N l p) (n := l.length) (fun i => !((l[i]?.map F).getD false)) (fun i => (i : Int)) (by
   intro i hi
   unfold AE
   rw [Lr hi, cond_true, KR hi, Option.bind_some, hp _ (List.getElem_mem hi), Option.bind_some, NG i (by omega), List.getElem?_eq_getElem hi]
   simp only [Option.map_some, Option.getD_some]
   cases F l[i] <;> rfl) (by
   unfold AE
   rw [I3, cond_false]) (N := N) (by omega) with ⟨g1, g2⟩ | ⟨i, hi, g1, _, g2⟩
 ·rw [g2]
  have : l.any F = false := by
   rw [List.any_eq_false]
   intro x hx
   obtain ⟨i, hi, rfl⟩ := List.getElem_of_mem hx
   have := g1 i hi
   rw [List.getElem?_eq_getElem hi] at this
   simpa using this
  rw [this]; rfl
 ·rw [g2]
  have : l.any F = true := by
   rw [List.any_eq_true]
   rw [List.getElem?_eq_getElem hi] at g1
   exact ⟨l[i], List.getElem_mem hi, by simpa using g1⟩
  rw [this]
  show some (decide ((i : Int) >= 0)) = some true
  rw [decide_eq_true (by omega)]
def OU (h : Bool) (n m : Int) : Bool := bif h then (decide (1 <= n) && decide (n <= m)) else n == 0
def Cs (L : Ac) (E : Ad) : Bool := OU L.Report E.Report 599 && (OU L.Serial E.Serial 99999 && OU L.Zone E.Zone 99)
theorem Sv (P : AF) : BL N P = some (!OU P.has_ P.n_ P.most_) := by
 unfold BL OU
 rw [Lm, Option.bind_some]
 obtain ⟨h, n, m, d⟩ := P
 simp only
 cases h with
 | true => cases (decide (1 <= n) && decide (n <= m)) <;> rfl
 | false =>
  by_cases hn : n = 0
  ·subst hn
   rw [show (decide ((1 : Int) <= 0) && decide (0 <= m)) = false by rw [decide_eq_false (by omega)]; rfl]
   rfl
  ·have e1 : (n != 0) = true := by simpa using hn
   have e2 : (n == 0) = false := by simpa using hn
   rw [e1, e2]
   cases (decide (1 <= n) && decide (n <= m)) <;> rfl
theorem K5 (L : Ac) (E : Ad) (hN : 4294967300 < N) : BJ N L E = some (Cs L E) := by
 unfold BJ
 unfold Cm
 rw [Option.bind_some, Ki (fun P => !OU P.has_ P.n_ P.most_) (fun x _ => Sv x) (by simp) hN, Option.bind_some]
 unfold Cs
 simp
def fs (L : Ac) (E : Ad) : List T2 := (if L.Report = true then [dP 1 E.Report.toNat] else []) ++ ((if L.Serial = true then [dP 3 E.Serial.toNat] else []) ++ (if L.Zone = true then [dP 2 E.Zone.toNat] else []))
def Eu (L : Ac) (E : Ad) : T2 := if fs L E = [] then [45] else jn (fs L E)
def FY (L : Ac) (E : Ad) : T2 × Int := if Cs L E = true then (Eu L E, 0) else ([], 1)
structure OkE (L : Ac) (E : Ad) : Prop where
 r : if L.Report = true then 1 <= E.Report /\ E.Report <= 599 else E.Report = 0
 s : if L.Serial = true then 1 <= E.Serial /\ E.Serial <= 99999 else E.Serial = 0
 z : if L.Zone = true then 1 <= E.Zone /\ E.Zone <= 99 else E.Zone = 0
theorem okE {L : Ac} {E : Ad} (h : Cs L E = true) : OkE L E := by
 unfold Cs OU at h
 simp only [Bool.and_eq_true] at h
 obtain ⟨h1, h2, h3⟩ := h
 constructor
 ·cases hL : L.Report <;> rw [hL] at h1 <;> simpa using h1
 ·cases hL : L.Serial <;> rw [hL] at h2 <;> simpa using h2
 ·cases hL : L.Zone <;> rw [hL] at h3 <;> simpa using h3
theorem OkE.le {L : Ac} {E : Ad} (h : OkE L E) : (0 <= E.Report /\ E.Report <= 599) /\ (0 <= E.Serial /\ E.Serial <= 99999) /\ 0 <= E.Zone /\ E.Zone <= 99 := by
 obtain ⟨h1, h2, h3⟩ := h
 refine ⟨?_, ?_, ?_⟩
 ·split at h1 <;> omega
 ·split at h2 <;> omega
 ·split at h3 <;> omega
theorem I9 {L : Ac} {E : Ad} (h : OkE L E) : ∀ w, w ∈ fs L E -> w.length <= 5 /\ w.all isD = true /\ 1 <= w.length := by
 obtain ⟨h1, h2, h3⟩ := h.le
 intro w hw
 unfold fs at hw
 simp only [List.mem_append] at hw
 have l1 := Hg (k := 1) (j := 2) (u := E.Report.toNat) (by omega)
 have l2 := Hg (k := 3) (j := 4) (u := E.Serial.toNat) (by omega)
 have l3 := Hg (k := 2) (j := 1) (u := E.Zone.toNat) (by omega)
 rcases hw with hw | hw | hw
 ·split at hw
  ·simp at hw; subst hw; exact ⟨by omega, Fm _ _, (JI _ _).2⟩
  ·cases hw
 ·split at hw
  ·simp at hw; subst hw; exact ⟨by omega, Fm _ _, (JI _ _).2⟩
  ·cases hw
 ·split at hw
  ·simp at hw; subst hw; exact ⟨by omega, Fm _ _, (JI _ _).2⟩
  ·cases hw
theorem Ng (L : Ac) (E : Ad) : (fs L E).length <= 3 := by
 unfold fs
 split <;> split <;> split <;> simp
theorem QJ : ∀ l : List T2, (∀ w, w ∈ l -> w.length <= 5) -> (jn l).length <= l.length * 6
 | [], _ => by simp [OR]
 | [x], h => by rw [DI]; have := h x (by simp); simp; omega
 | x :: y :: r, h => by
  have ih := QJ (y :: r) (fun w hw => h w (List.mem_cons_of_mem _ hw))
  have hx := h x (by simp)
  have : jn (x :: y :: r) = x ++ 32 :: jn (y :: r) := by
   unfold jn
   rw [Go.Lib.join_cons, Go.Lib.join_cons]
   unfold Go.Lib.joinTail
   simp
  rw [this, List.length_append, List.length_cons, List.length_cons (a := x)]
  omega
theorem Ti {L : Ac} {E : Ad} (h : OkE L E) : (jn (fs L E)).length <= 18 := by
 have := QJ (fs L E) (fun w hw => (I9 h w hw).1)
 have := Ng L E
 omega
theorem Tb {l : List T2} (h : ∀ w, w ∈ l -> 1 <= w.length) : jn l = [] ↔ l = [] := by
 constructor
 ·intro hj
  match l, h, hj with
  | [], _, _ => rfl
  | x :: r, h, hj =>
   exfalso
   unfold jn at hj
   rw [Go.Lib.join_cons] at hj
   have := h x (by simp)
   rw [List.append_eq_nil_iff] at hj
   rw [hj.1] at this
   exact absurd this (by decide)
 ·rintro rfl; rfl
theorem St {n : Int} {k : Nat} (h0 : 0 <= n) (h1 : n <= 1000000000) (hk : k <= 100) : BB N n (k : Int) = some (dP k n.toNat) := by
 obtain ⟨u, rfl⟩ : ∃ u : Nat, n = u := ⟨n.toNat, by omega⟩
 exact Ln u k (by omega) hk
def Ob (L : Ac) (E : Ad) (i : Nat) : List T2 := if i = 0 then (if L.Report = true then [dP 1 E.Report.toNat] else []) else if i = 1 then (if L.Serial = true then [dP 3 E.Serial.toNat] else []) else (if L.Zone = true then [dP 2 E.Zone.toNat] else [])
theorem SJ (L : Ac) (E : Ad) : cat 3 (Ob L E) = fs L E := by
 rw [Hr, Hr, Hr]
 unfold fs
 rw [<- List.append_assoc]
 rfl
theorem QQ (L : Ac) (E : Ad) (i : Nat) : (Ob L E i).length <= 1 := by
 unfold Ob
 split
 ·split <;> simp
 ·split <;> split <;> simp
theorem K6 (L : Ac) (E : Ad) (hN : 4294967300 < N) : A5 N L E = some (FY L E) := by
 unfold A5 FY
 rw [K5 L E hN, Option.bind_some]
 cases hv : Cs L E with
 | false => rfl
 | true =>
  have ok := okE hv
  obtain ⟨h1, h2, h3⟩ := ok.le
  rw [Bool.not_true, cond_false, if_pos rfl]
  unfold Cm
  rw [Option.bind_some]
  generalize hP : ([_, _, _] : List AF) = P
  have hstep : ∀ (i : Nat) (s : List T2), i < 3 -> s.length + 1 <= 0 + 3 * 1 -> BH N L E true P (s, (i : Int)) = some (.next (s ++ Ob L E i, ((i + 1 : Nat) : Int))) := by
   intro i s hi hs
   have p1 : BB N E.Report 1 = some (dP 1 E.Report.toNat) := St (k := 1) h1.1 (by omega) (by omega)
   have p2 : BB N E.Serial 3 = some (dP 3 E.Serial.toNat) := St (k := 3) h2.1 (by omega) (by omega)
   have p3 : BB N E.Zone 2 = some (dP 2 E.Zone.toNat) := St (k := 2) h3.1 (by omega) (by omega)
   have ha : ∀ w : T2, DC s [w] = some (s ++ [w]) := fun w => R7 (by simp; omega)
   unfold BH
   subst hP
   simp only
   rw [NG i (by omega)]
   match i, hi with
   | 0, _ =>
    show ((bif L.Report then ((BB N E.Report 1).bind fun r88 => ((DC s [r88]).bind fun r101 => some r101)) else some s).bind fun j78 => some (BE.next (j78, _))) = _
    rw [p1, Option.bind_some, ha]
    unfold Ob
    cases L.Report <;> simp
   | 1, _ =>
    show ((bif L.Serial then ((BB N E.Serial 3).bind fun r88 => ((DC s [r88]).bind fun r101 => some r101)) else some s).bind fun j78 => some (BE.next (j78, _))) = _
    rw [p2, Option.bind_some, ha]
    unfold Ob
    cases L.Serial <;> simp
   | 2, _ =>
    show ((bif L.Zone then ((BB N E.Zone 2).bind fun r88 => ((DC s [r88]).bind fun r101 => some r101)) else some s).bind fun j78 => some (BE.next (j78, _))) = _
    rw [p3, Option.bind_some, ha]
    unfold Ob
    cases L.Zone <;> simp
  have hend : ∀ s : List T2, BH N L E true P (s, ((3 : Nat) : Int)) = some (.done (s, ((3 : Nat) : Int))) := by
   intro s
   subst hP
   rfl
  rw [PT (n := 3) 1 (Ob L E) (fun i _ => QQ L E i) (s0 := []) hstep hend (by omega), SJ]
  simp only [List.nil_append, Option.bind_some, BE.k]
  have hj := Ti ok
  have hl := Ng L E
  have e1 : strings_Join N (fs L E) [32] = some (jn (fs L E)) := by
   unfold strings_Join
   exact if_pos ⟨by omega, by unfold jn at hj; omega⟩
  rw [e1, Option.bind_some, S9 _ _ hN, Option.bind_some]
  unfold Eu
  have := Tb (fun w hw => (I9 ok w hw).2.2)
  by_cases hf : fs L E = []
  ·rw [if_pos hf, if_pos (this.2 hf)]
  ·rw [if_neg hf, if_neg (fun h => hf (this.1 h))]
def Gx (h : Bool) (ws : List T2) : List T2 × Int := match h, ws with
 | true, w :: r => (r, PK w)
 | _, _ => (ws, 0)
def G0 (L : Ac) (ws : List T2) : Ad := { Report := (Gx L.Report ws).2, Serial := (Gx L.Serial (Gx L.Report ws).1).2, Zone := (Gx L.Zone (Gx L.Serial (Gx L.Report ws).1).1).2 }
def BM (L : Ac) (s : T2) : Ad × Int := if FY L (G0 L (pcs 32 s)) = (s, 0) then (G0 L (pcs 32 s), 0) else ({ Report := 0, Serial := 0, Zone := 0 }, 1)
theorem Mp (h : Bool) (ws : List T2) : ∀ w, w ∈ (Gx h ws).1 -> w ∈ ws := by
 intro w hw
 match h, ws, hw with
 | true, x :: r, hw => exact List.mem_cons_of_mem _ hw
 | true, [], hw => exact hw
 | false, _, hw => exact hw
theorem KZ (h : Bool) (ws : List T2) (hl : ∀ w, w ∈ ws -> w.length < N) : (bif (h && decide ((ws.length : Int) > 0)) then ((idx ws 0).bind fun x80 => ((BT N x80).bind fun r94 => ((sub ws 1 (ws.length : Int)).bind fun r104 => some (r104, r94)))) else some (ws, (0 : Int))) = some (Gx h ws) := by
 match h, ws, hl with
 | false, _, _ => rfl
 | true, [], _ => rfl
 | true, w :: r, hl =>
  have e0 : idx (w :: r) 0 = some w := rfl
  have e1 : sub (w :: r) 1 ((w :: r).length : Int) = some r := by
   unfold sub
   rw [if_pos ⟨by omega, by simp only [List.length_cons]; omega, by omega⟩]
   simp
  rw [decide_eq_true (by simp only [List.length_cons]; omega), e0, e1, Option.bind_some, Lp (hl w (by simp))]
  rfl
theorem Qf (L : Ac) (s : T2) (hs : s.length < 4294967281) (hN : 4294967300 < N) : Ds N L s = some (BM L s) := by
 unfold Ds BM
 rw [M5 32 hs, Option.bind_some]
 have hle := OM 32 s
 generalize pcs 32 s = ws at hle
 have hn : ∀ w, w ∈ ws -> w.length < N := fun w hw => by have := hle w hw; omega
 have c0 : ∀ (E : Ad) (b : Bool), ((Cm N L E).bind fun r38 => ((idx r38 0).bind fun x46 => (bif x46.has_ then some b else some false))) = some (L.Report && b) := by
  intro E b
  show (bif L.Report then some b else some false) = _
  cases L.Report <;> rfl
 have c1 : ∀ (E : Ad) (b : Bool), ((Cm N L E).bind fun r38 => ((idx r38 1).bind fun x46 => (bif x46.has_ then some b else some false))) = some (L.Serial && b) := by
  intro E b
  show (bif L.Serial then some b else some false) = _
  cases L.Serial <;> rfl
 have c2 : ∀ (E : Ad) (b : Bool), ((Cm N L E).bind fun r38 => ((idx r38 2).bind fun x46 => (bif x46.has_ then some b else some false))) = some (L.Zone && b) := by
  intro E b
  show (bif L.Zone then some b else some false) = _
  cases L.Zone <;> rfl
 rw [c0, Option.bind_some, KZ L.Report ws hn, Option.bind_some, c1, Option.bind_some]
 have hn1 : ∀ w, w ∈ (Gx L.Report ws).1 -> w.length < N := fun w hw => hn w (Mp _ _ w hw)
 rw [KZ L.Serial _ hn1, Option.bind_some, c2, Option.bind_some]
 have hn2 : ∀ w, w ∈ (Gx L.Serial (Gx L.Report ws).1).1 -> w.length < N := fun w hw => hn1 w (Mp _ _ w hw)
 rw [KZ L.Zone _ hn2, Option.bind_some]
 show ((A5 N L (G0 L ws)).bind _) = _
 rw [K6 L _ hN, Option.bind_some, Qt]
 show (bif (!decide (FY L (G0 L ws) = (s, 0))) then _ else some (G0 L ws, (0 : Int))) = _
 by_cases h : FY L (G0 L ws) = (s, 0)
 ·rw [decide_eq_true h, if_pos h]; rfl
 ·rw [decide_eq_false h, if_neg h]; rfl
end
theorem M2 {k u : Nat} (hk : k <= 9) (hu : u < 100000) : PK (dP k u) = (u : Int) := by
 have h1 := Hg (k := k) (j := 4) (u := u) (by omega)
 have h2 := JI k u
 have : Ga (dP k u) = true := by
  unfold Ga wiB
  rw [Fm]
  simp
  omega
 unfold PK
 rw [if_pos this, OZ]
theorem E5 {L : Ac} {E : Ad} (h : Cs L E = true) : BM L (Eu L E) = (E, 0) := by
 have ok := okE h
 obtain ⟨h1, h2, h3⟩ := ok.le
 have hw : G0 L (pcs 32 (Eu L E)) = E := by
  have n1 := M2 (k := 1) (u := E.Report.toNat) (by omega) (by omega)
  have n2 := M2 (k := 3) (u := E.Serial.toNat) (by omega) (by omega)
  have n3 := M2 (k := 2) (u := E.Zone.toNat) (by omega) (by omega)
  have hp : fs L E ≠ [] -> pcs 32 (Eu L E) = fs L E := by
   intro hf
   unfold Eu
   rw [if_neg hf]
   have hno := fun w hw => no32 (I9 ok w hw).2.1
   revert hf hno
   generalize fs L E = l
   intro hf hno
   match l, hf, hno with
   | x :: r, _, hno => exact ON r x (hno x (by simp)) (fun y hy => hno y (by simp [hy]))
  obtain ⟨R, S, Z⟩ := L
  obtain ⟨a, b, c⟩ := E
  obtain ⟨o1, o2, o3⟩ := ok
  simp only at o1 o2 o3 h1 h2 h3 n1 n2 n3
  rw [Int.toNat_of_nonneg h1.1] at n1
  rw [Int.toNat_of_nonneg h2.1] at n2
  rw [Int.toNat_of_nonneg h3.1] at n3
  unfold G0
  cases R <;> cases S <;> cases Z <;> simp only [Bool.false_eq_true, if_false, if_true] at o1 o2 o3
  ·subst o1; subst o2; subst o3; rfl
  all_goals
   rw [hp (by unfold fs; simp)]
   unfold fs
   simp [Gx, n1, n2, n3, *]
 unfold BM
 rw [hw]
 have : FY L E = (Eu L E, 0) := by unfold FY; rw [if_pos h]
 rw [if_pos this]
end
def Oo (s : T2) : Bool := (callB s).isSome
section
variable {N : Nat}
theorem Rl (s : T2) (hN : 4294967300 < N) : EU N s = some (Oo s) := by
 unfold EU Oo
 rw [RL s hN, Option.bind_some]
 unfold Ou
 cases callB s <;> rfl
end
def Ee (_N : Nat) (s : T2) : Option Bool := some (Oo s)
theorem D2 : Ag Tryz.prog 79 := Jj
theorem Et (N : Nat) (w0 : World) (F0 : Mem) (hF : T4 w0 F0) (hG : Bl F0) (x0 : T2) (r : Bool) (h : Ee N x0 = some r) :
  Calls Tryz.prog 79 ([(.string ⟨(x0).toArray⟩)] : List Value).toArray w0 (Az w0 F0 fun F' v => v = (.bool r)) := by
 exact JW 9223372036854775808 w0 F0 hF hG x0 r ((Rl x0 (by decide)).trans h)
def Ef (_N : Nat) (s : T2) : Option (Int × Int) := if s.length < 4294967281 then some (FZ s) else none
theorem JQ : Ag Tryz.prog 96 := Jk
theorem KJ (N : Nat) (w0 : World) (F0 : Mem) (hF : T4 w0 F0) (hG : Bl F0) (x0 : T2) (r : (Int × Int)) (h : Ef N x0 = some r) :
  Calls Tryz.prog 96 ([(.string ⟨(x0).toArray⟩)] : List Value).toArray w0 (Az w0 F0 fun F' v => v = (.tuple #[(.int .i64 r.1), (.int .i64 r.2)])) := by
 unfold Ef at h
 split at h
 ·rename_i hs
  exact JX 9223372036854775808 w0 F0 hF hG x0 r ((NM x0 hs (by decide)).trans h)
 ·cases h
def B9 (_N : Nat) (L : Ac) (s : T2) : Option (Ad × Int) := if s.length < 4294967281 then some (BM L s) else none
theorem Bj : Ag Tryz.prog 97 := GP
theorem Bu (N : Nat) (w0 : World) (F0 : Mem) (hF : T4 w0 F0) (hG : Bl F0) (x0 : Ac) (x1 : T2) (r : (Ad × Int)) (h : B9 N x0 x1 = some r) :
  Calls Tryz.prog 97 ([(.agg #[(.bool x0.Report), (.bool x0.Serial), (.bool x0.Zone)]), (.string ⟨(x1).toArray⟩)] : List Value).toArray w0 (Az w0 F0 fun F' v => v = (.tuple #[(.agg #[(.int .i64 r.1.Report), (.int .i64 r.1.Serial), (.int .i64 r.1.Zone)]), (.int .i64 r.2)])) := by
 unfold B9 at h
 split at h
 ·rename_i hs
  exact Hx 9223372036854775808 w0 F0 hF hG x0 x1 r ((Qf x0 x1 hs (by decide)).trans h)
 ·cases h
section
open Go.Lib (decDigits)
theorem Dj {r : List T2} (h : r ≠ []) (x : T2) : jn (x :: r) = x ++ 32 :: jn r := by
 match r, h with
 | y :: r, _ =>
  unfold jn
  rw [Go.Lib.join_cons, Go.Lib.join_cons]
  unfold Go.Lib.joinTail
  simp
theorem QK : ∀ {a b : List T2}, a ≠ [] -> b ≠ [] -> jn (a ++ b) = jn a ++ 32 :: jn b
 | [], _, h, _ => absurd rfl h
 | [x], b, _, hb => by rw [List.singleton_append, Dj hb, DI]
 | x :: y :: a, b, _, hb => by
  rw [List.cons_append, Dj (by simp), Dj (by simp), QK (by simp) hb]; simp
theorem Pq : ∀ {L : List (List T2)}, (∀ l, l ∈ L -> l ≠ []) -> jn (L.map jn) = jn L.flatten
 | [], _ => rfl
 | [l], _ => by simp [DI]
 | l :: m :: L, h => by
  have ih := Pq (L := m :: L) (fun x hx => h x (List.mem_cons_of_mem _ hx))
  have hm : (m :: L).flatten ≠ [] := by
   have := h m (by simp)
   simp [this]
  rw [List.map_cons, Dj (by simp), ih, List.flatten_cons (l := l), QK (h l (by simp)) hm]
theorem RF {l : List T2} (hn : l ≠ []) (h : ∀ w, w ∈ l -> (32 : UInt8) ∉ w) : pcs 32 (jn l) = l := by
 cases l with
 | nil => exact absurd rfl hn
 | cons x r => exact ON r x (h x (by simp)) fun y hy => h y (by simp [hy])
theorem SB (s : T2) : jn (pcs 32 s) = s := by
 have : ∀ (l : List T2), l ≠ [] -> jn l = [32].intercalate l := by
  intro l
  induction l with
  | nil => intro h; exact absurd rfl h
  | cons x r ih =>
   intro _
   cases r with
   | nil => rw [DI]; simp [List.intercalate]
   | cons y r =>
    rw [Dj (by simp), ih (by simp)]
    simp [List.intercalate, List.intersperse]
 rw [this _ (JD 32 s), NV]
def Oe (b : UInt8) : Bool := isL b || isD b || b == 47
def Gi (s : T2) : Bool := wiB s.length 1 16 && s.all Oe
def Cc (o : Ac) (x : Line) : Bool := decide (1 <= x.Num /\ x.Num <= 65535) && (decide (1 <= x.Khz /\ x.Khz <= 10000000) && (decide (1 <= x.Mode /\ x.Mode <= 3) && (decide (0 <= x.Minute /\ x.Minute <= 20000) && (Gi x.Call && (Cs o x.Sent && Cs o x.Got)))))
structure OkL (o : Ac) (x : Line) : Prop where
 n : 1 <= x.Num /\ x.Num <= 65535
 k : 1 <= x.Khz /\ x.Khz <= 10000000
 m : 1 <= x.Mode /\ x.Mode <= 3
 t : 0 <= x.Minute /\ x.Minute <= 20000
 c : Gi x.Call = true
 s : Cs o x.Sent = true
 g : Cs o x.Got = true
theorem BZ {o : Ac} {x : Line} : Cc o x = true ↔ OkL o x := by
 unfold Cc
 simp only [Bool.and_eq_true, decide_eq_true_eq]
 exact ⟨fun ⟨a, b, c, d, e, f, g⟩ => ⟨a, b, c, d, e, f, g⟩, fun h => ⟨h.n, h.k, h.m, h.t, h.c, h.s, h.g⟩⟩
def Iw (m : Int) : T2 := if m = 1 then [77] else if m = 2 then [86] else [68]
def fsw (o : Ac) (E : Ad) : List T2 := if fs o E = [] then [[45]] else fs o E
def tW (u : Nat) : List T2 := [decDigits (u / 1440 + 1), dP 2 (u / 60 % 24) ++ dP 2 (u % 60)]
def QSO : T2 := [81, 83, 79]
def GD (x : Line) : List T2 := [QSO, decDigits x.Num.toNat, decDigits x.Khz.toNat, Iw x.Mode] ++ tW x.Minute.toNat ++ [x.Call, [62]]
def Dw (o : Ac) (x : Line) : List T2 := GD x ++ (fsw o x.Sent ++ [60] :: fsw o x.Got)
def BF (o : Ac) (x : Line) : T2 := jn (Dw o x)
theorem NH (u : Nat) : Ev u = jn (tW u) := by unfold Ev tW; rw [Dj (by simp), DI]
theorem GU (o : Ac) (E : Ad) : Eu o E = jn (fsw o E) := by
 unfold Eu fsw
 split
 ·rw [DI]
 ·rfl
theorem SI (o : Ac) (E : Ad) : fsw o E ≠ [] := by
 unfold fsw
 split
 ·simp
 ·assumption
theorem PR (o : Ac) (x : Line) : jn [QSO, decDigits x.Num.toNat, decDigits x.Khz.toNat, Iw x.Mode, Ev x.Minute.toNat, x.Call, [62], Eu o x.Sent, [60], Eu o x.Got] = BF o x := by
 have h := Pq (L := [[QSO], [decDigits x.Num.toNat], [decDigits x.Khz.toNat], [Iw x.Mode], tW x.Minute.toNat, [x.Call], [[62]], fsw o x.Sent, [[60]], fsw o x.Got]) (by
  intro l hl
  simp only [List.mem_cons, List.not_mem_nil, or_false] at hl
  rcases hl with rfl | rfl | rfl | rfl | rfl | rfl | rfl | rfl | rfl | rfl
  all_goals first | exact SI _ _ | simp [tW])
 simp only [List.map_cons, List.map_nil, DI, <- NH, <- GU] at h
 rw [h]
 unfold BF Dw GD
 simp
theorem EO {o : Ac} {E : Ad} (h : Cs o E = true) : ∀ w, w ∈ fsw o E -> (32 : UInt8) ∉ w /\ w ≠ [60] /\ w ≠ [62] /\ w.length <= 5 := by
 intro w hw
 unfold fsw at hw
 split at hw
 ·simp at hw; subst hw; decide
 ·obtain ⟨h1, h2, h3⟩ := I9 (okE h) w hw
  refine ⟨no32 h2, ?_, ?_, h1⟩
  ·rintro rfl; revert h2; decide
  ·rintro rfl; revert h2; decide
theorem Gh {s : T2} (h : Gi s = true) : (32 : UInt8) ∉ s /\ s ≠ [60] /\ s ≠ [62] /\ 1 <= s.length /\ s.length <= 16 := by
 unfold Gi wiB at h
 simp only [Bool.and_eq_true, decide_eq_true_eq] at h
 obtain ⟨⟨h1, h2⟩, h3⟩ := h
 rw [List.all_eq_true] at h3
 refine ⟨fun hm => ?_, ?_, ?_, h1, h2⟩
 ·have := h3 _ hm; revert this; decide
 ·rintro rfl; have := h3 60 (by simp); revert this; decide
 ·rintro rfl; have := h3 62 (by simp); revert this; decide
theorem PS (m : Int) : (32 : UInt8) ∉ Iw m /\ Iw m ≠ [60] := by
 unfold Iw; split
 ·decide
 ·split <;> decide
theorem Nk (u : Nat) : (32 : UInt8) ∉ decDigits u /\ decDigits u ≠ [60] := by
 refine ⟨no32 (Iz u), fun h => ?_⟩
 have := Iz u
 rw [h] at this; revert this; decide
theorem MD {o : Ac} {x : Line} (h : OkL o x) : ∀ w, w ∈ GD x -> (32 : UInt8) ∉ w /\ w ≠ [60] := by
 intro w hw
 have hc := Gh h.c
 have hall : (dP 2 (x.Minute.toNat / 60 % 24) ++ dP 2 (x.Minute.toNat % 60)).all isD = true := by rw [List.all_append, Fm, Fm]; rfl
 unfold GD tW at hw
 simp only [List.mem_append, List.mem_cons, List.not_mem_nil, or_false] at hw
 rcases hw with ((rfl | rfl | rfl | rfl) | (rfl | rfl)) | (rfl | rfl)
 ·decide
 ·exact Nk _
 ·exact Nk _
 ·exact PS _
 ·exact Nk _
 ·refine ⟨no32 hall, fun e => ?_⟩
  rw [e] at hall; revert hall; decide
 ·exact ⟨hc.1, hc.2.1⟩
 ·decide
theorem Gf {o : Ac} {x : Line} (h : OkL o x) : pcs 32 (BF o x) = Dw o x := by
 refine RF (by unfold Dw GD; simp) fun w hw => ?_
 unfold Dw at hw
 simp only [List.mem_append, List.mem_cons] at hw
 rcases hw with hw | hw | rfl | hw
 ·exact (MD h w hw).1
 ·exact (EO h.s w hw).1
 ·decide
 ·exact (EO h.g w hw).1
theorem ME (x : Line) : (GD x).length = 8 := rfl
theorem Si : ∀ (l : List T2) (k : Nat), (∀ w, w ∈ l -> w.length <= k) -> (jn l).length <= l.length * (k + 1)
 | [], k, _ => by simp [OR]
 | [x], k, h => by have := h x (by simp); rw [DI]; simp; omega
 | x :: y :: r, k, h => by
  have := h x (by simp)
  have := Si (y :: r) k fun w hw => h w (List.mem_cons_of_mem _ hw)
  rw [Dj (by simp), List.length_append, List.length_cons, List.length_cons, Nat.succ_mul]
  omega
theorem N3 {o : Ac} {x : Line} (h : OkL o x) : (BF o x).length <= 300 := by
 have hc := Gh h.c
 obtain ⟨n1, n2⟩ := h.n
 obtain ⟨k1, k2⟩ := h.k
 have hw : ∀ w, w ∈ Dw o x -> w.length <= 16 := by
  intro w hw
  have d1 := Iy 4 x.Num.toNat (by omega)
  have d2 := Iy 7 x.Khz.toNat (by omega)
  have d3 := Nm (u := x.Minute.toNat / 1440 + 1) (by have := h.t; omega)
  have d4 := HH (u := x.Minute.toNat / 60 % 24) (by omega)
  have d5 := HH (u := x.Minute.toNat % 60) (by omega)
  unfold Dw GD tW at hw
  simp only [List.mem_append, List.mem_cons, List.not_mem_nil, or_false] at hw
  rcases hw with (((rfl | rfl | rfl | rfl) | (rfl | rfl)) | (rfl | rfl)) | hw | rfl | hw
  ·decide
  ·omega
  ·omega
  ·unfold Iw; split
   ·decide
   ·split <;> decide
  ·omega
  ·rw [List.length_append]; omega
  ·omega
  ·decide
  ·have := (EO h.s w hw).2.2.2; omega
  ·decide
  ·have := (EO h.g w hw).2.2.2; omega
 have hl : (Dw o x).length <= 16 := by
  have h1 := Ng o x.Sent
  have h2 := Ng o x.Got
  have f : ∀ E, (fs o E).length <= 3 -> (fsw o E).length <= 3 := fun E hE => by
   unfold fsw; split
   ·simp
   ·exact hE
  have := f _ h1
  have := f _ h2
  unfold Dw
  rw [List.length_append, ME, List.length_append, List.length_cons]; omega
 have := Si _ 16 hw
 have : (Dw o x).length * 17 <= 16 * 17 := Nat.mul_le_mul_right _ hl
 unfold BF; omega
noncomputable def Lj (o : Ac) (s : T2) : Option Line := @dite _ (∃ x, Cc o x = true /\ BF o x = s) (Classical.propDecidable _) (fun h => some (Classical.choose h)) (fun _ => none)
theorem Ps {a b : Int} (ha : 0 <= a) (hb : 0 <= b) (h : decDigits a.toNat = decDigits b.toNat) : a = b := by
 have := LL a.toNat
 rw [h, LL] at this; omega
theorem QF {a b : Int} (ha : 1 <= a /\ a <= 3) (hb : 1 <= b /\ b <= 3) (h : Iw a = Iw b) : a = b := by
 have h1 : a = 1 \/ a = 2 \/ a = 3 := by omega
 have h2 : b = 1 \/ b = 2 \/ b = 3 := by omega
 rcases h1 with rfl | rfl | rfl <;> rcases h2 with rfl | rfl | rfl <;> first | rfl | exact absurd h (by decide)
theorem Pr {o : Ac} {E G : Ad} (hE : Cs o E = true) (hG : Cs o G = true) (h : fsw o E = fsw o G) : E = G := by
 have e : Eu o E = Eu o G := by rw [GU, GU, h]
 have h1 := E5 hE
 rw [e, E5 hG] at h1
 exact (congrArg Prod.fst h1).symm
theorem K1 {a b c d : List T2} (ha : ∀ w, w ∈ a -> w ≠ [60]) (hc : ∀ w, w ∈ c -> w ≠ [60]) (h : a ++ [60] :: b = c ++ [60] :: d) : a = c /\ b = d := by
 induction a generalizing c with
 | nil =>
  cases c with
  | nil => simp at h; exact ⟨rfl, h⟩
  | cons y c => simp at h; exact absurd h.1.symm (hc y (by simp))
 | cons x a ih =>
  cases c with
  | nil => simp at h; exact absurd h.1 (ha x (by simp))
  | cons y c =>
   simp only [List.cons_append, List.cons.injEq] at h
   obtain ⟨h1, h2⟩ := ih (fun w hw => ha w (by simp [hw])) (fun w hw => hc w (by simp [hw])) h.2
   exact ⟨by rw [h.1, h1], h2⟩
theorem QD {o : Ac} {x y : Line} (hx : OkL o x) (hy : OkL o y) (h : BF o x = BF o y) : x = y := by
 have hw : Dw o x = Dw o y := by rw [<- Gf hx, <- Gf hy, h]
 unfold Dw at hw
 obtain ⟨h1, h2⟩ := List.append_inj hw rfl
 obtain ⟨h3, h4⟩ := K1 (fun w hw => (EO hx.s w hw).2.1) (fun w hw => (EO hy.s w hw).2.1) h2
 unfold GD tW at h1
 simp only [List.cons_append, List.nil_append, List.cons.injEq, and_true, true_and] at h1
 obtain ⟨e1, e2, e3, e4, e5, e6⟩ := h1
 have t : x.Minute = y.Minute := by
  have h1 : Ev x.Minute.toNat = Ev y.Minute.toNat := by unfold Ev; rw [e4, e5]
  have h2 := Ir (u := x.Minute.toNat) (by have := hx.t; omega)
  rw [h1, Ir (u := y.Minute.toNat) (by have := hy.t; omega)] at h2
  have := congrArg Prod.fst h2
  simp only at this
  have := hx.t; have := hy.t
  omega
 have a1 := Ps (by have := hx.n; omega) (by have := hy.n; omega) e1
 have a2 := Ps (by have := hx.k; omega) (by have := hy.k; omega) e2
 have a3 := QF hx.m hy.m e3
 have a4 := Pr hx.s hy.s h3
 have a5 := Pr hx.g hy.g h4
 cases x; cases y
 simp only at a1 a2 a3 a4 a5 t e6
 subst a1 a2 a3 a4 a5 t e6
 rfl
theorem E6 {o : Ac} {s : T2} {x : Line} : Lj o s = some x ↔ Cc o x = true /\ BF o x = s := by
 unfold Lj
 constructor
 ·intro h
  split at h
  ·rename_i hx
   cases h
   exact Classical.choose_spec hx
  ·cases h
 ·rintro ⟨h1, h2⟩
  have hex : ∃ x, Cc o x = true /\ BF o x = s := ⟨x, h1, h2⟩
  rw [dif_pos hex]
  have h3 := Classical.choose_spec hex
  rw [QD (BZ.1 h3.1) (BZ.1 h1) (h3.2.trans h2.symm)]
theorem NW {o : Ac} {s : T2} : Lj o s = none ↔ ∀ x, Cc o x = true -> BF o x ≠ s := by
 constructor
 ·intro h x hx e
  rw [E6.2 ⟨hx, e⟩] at h; cases h
 ·intro h
  cases hp : Lj o s with
  | none => rfl
  | some x => exact absurd (E6.1 hp).2 (h x (E6.1 hp).1)
end
def up (b : UInt8) : UInt8 := if 97 <= b.toNat /\ b.toNat <= 122 then b - 32 else b
def wsF (b : UInt8) : Bool := b == 32 || (b == 9 || b == 13)
def rfS (st : T2 × Bool) (b : UInt8) : T2 × Bool := if wsF b = true then (st.1, true) else ((if st.2 = true /\ st.1 ≠ [] then st.1 ++ [32] else st.1) ++ [up b], false)
def MF (s : T2) : T2 := (s.foldl rfS ([], false)).1
structure NFo (t : T2) : Prop where
 c : ∀ b, b ∈ t -> b ≠ 9 /\ b ≠ 13 /\ ¬ (97 <= b.toNat /\ b.toNat <= 122)
 w : ∀ i, t[i]? = some 32 -> 0 < i /\ i + 1 < t.length /\ t[i - 1]? ≠ some 32
set_option maxRecDepth 100000 in
theorem Sa {b : UInt8} (h : wsF b = false) : up b ≠ 9 /\ up b ≠ 13 /\ up b ≠ 32 := by
 have : ∀ n : Fin 256, wsF (UInt8.ofNat n.val) = false -> up (UInt8.ofNat n.val) ≠ 9 /\ up (UInt8.ofNat n.val) ≠ 13 /\ up (UInt8.ofNat n.val) ≠ 32 := by decide
 have h2 := this ⟨b.toNat, b.toNat_lt⟩
 simp only [UInt8.ofNat_toNat] at h2
 exact h2 h
theorem QR {t : T2} (h : NFo t) : MF t = t := by
 have key : ∀ k, k <= t.length -> (t.take k).foldl rfS ([], false) = if 0 < k /\ t[k - 1]? = some 32 then (t.take (k - 1), true) else (t.take k, false) := by
  intro k
  induction k with
  | zero => intro _; simp
  | succ k ih =>
   intro hk
   have hlt : k < t.length := by omega
   have hc := h.c t[k] (List.getElem_mem hlt)
   rw [List.take_succ_eq_append_getElem hlt, List.foldl_append, ih (by omega)]
   simp only [List.foldl_cons, List.foldl_nil, Nat.add_sub_cancel]
   rw [List.getElem?_eq_getElem hlt]
   by_cases h32 : t[k] = 32
   ·rw [if_pos (show 0 < k + 1 /\ some t[k] = some 32 from ⟨by omega, by rw [h32]⟩)]
    obtain ⟨w1, w2, w3⟩ := h.w k (by rw [List.getElem?_eq_getElem hlt, h32])
    rw [if_neg (by intro hh; exact w3 hh.2)]
    unfold rfS
    rw [if_pos (by rw [h32]; rfl)]
   ·rw [if_neg (show ¬ (0 < k + 1 /\ some t[k] = some 32) from fun hh => h32 (Option.some.inj hh.2))]
    have hws : wsF t[k] = false := by unfold wsF; simp [h32, hc.1, hc.2.1]
    have hup : up t[k] = t[k] := by unfold up; rw [if_neg hc.2.2]
    by_cases hp : 0 < k /\ t[k - 1]? = some 32
    ·rw [if_pos hp]
     unfold rfS
     rw [if_neg (by rw [hws]; decide)]
     obtain ⟨w1, w2, w3⟩ := h.w (k - 1) hp.2
     have hne : t.take (k - 1) ≠ [] := by
      intro e
      have := congrArg List.length e
      rw [List.length_take, List.length_nil] at this; omega
     simp only
     rw [if_pos ⟨trivial, hne⟩, hup]
     have : t.take k = t.take (k - 1) ++ [32] := by
      obtain ⟨j, rfl⟩ : ∃ j, k = j + 1 := ⟨k - 1, by omega⟩
      have hj : j < t.length := by omega
      have e := hp.2
      rw [Nat.add_sub_cancel, List.getElem?_eq_getElem hj] at e
      rw [List.take_succ_eq_append_getElem hj, Nat.add_sub_cancel, Option.some.inj e]
     rw [this]
    ·rw [if_neg hp]
     unfold rfS
     rw [if_neg (by rw [hws]; decide)]
     simp only
     rw [if_neg (by simp), hup]
 have h1 := key t.length (Nat.le_refl _)
 rw [List.take_length] at h1
 unfold MF
 rw [h1]
 by_cases hl : 0 < t.length /\ t[t.length - 1]? = some 32
 ·have := (h.w _ hl.2).2.1
  omega
 ·rw [if_neg hl]
section
open Go.Lib (decDigits)
def plB (b : UInt8) : Bool := decide (33 <= b.toNat) && decide (b.toNat <= 95)
theorem Qp {b : UInt8} (h : plB b = true) : b ≠ 32 /\ b ≠ 10 /\ b ≠ 9 /\ b ≠ 13 /\ ¬ (97 <= b.toNat /\ b.toNat <= 122) := by
 unfold plB at h
 simp only [Bool.and_eq_true, decide_eq_true_eq] at h
 refine ⟨?_, ?_, ?_, ?_, by omega⟩ <;> · rintro rfl; revert h; decide
theorem SE {b : UInt8} (h : isL b = true) : plB b = true := by unfold isL at h; unfold plB; simp at h ⊢; omega
theorem Nf {b : UInt8} (h : isD b = true) : plB b = true := by unfold isD at h; unfold plB; simp at h ⊢; omega
theorem Tj (u : Nat) : (decDigits u).all plB = true := by
 rw [List.all_eq_true]
 exact fun b hb => Nf (List.all_eq_true.1 (Iz u) b hb)
def Wd (w : T2) : Prop := w ≠ [] /\ w.all plB = true
theorem P6 (u : Nat) : Wd (decDigits u) := ⟨by have := Nl u; intro e; rw [e] at this; simp at this, Tj u⟩
theorem Wd.no32 {w : T2} (h : Wd w) : (32 : UInt8) ∉ w := fun hm => (Qp (List.all_eq_true.1 h.2 _ hm)).1 rfl
theorem QI : ∀ {l : List T2} {b : UInt8}, b ∈ jn l -> b = 32 \/ ∃ w, w ∈ l /\ b ∈ w
 | [], b, h => by rw [OR] at h; cases h
 | [x], b, h => by rw [DI] at h; exact .inr ⟨x, by simp, h⟩
 | x :: y :: r, b, h => by
  rw [Dj (by simp)] at h
  rcases List.mem_append.1 h with h | h
  ·exact .inr ⟨x, by simp, h⟩
  ·rcases List.mem_cons.1 h with rfl | h
   ·exact .inl rfl
   ·rcases QI h with h | ⟨w, hw, hb⟩
    ·exact .inl h
    ·exact .inr ⟨w, List.mem_cons_of_mem _ hw, hb⟩
theorem SD {l : List T2} (hn : l ≠ []) (h : ∀ w, w ∈ l -> Wd w) : jn l ≠ [] /\ (jn l)[0]? ≠ some 32 /\ (jn l)[(jn l).length - 1]? ≠ some 32 := by
 have first : ∀ {w : T2}, Wd w -> w[0]? ≠ some 32 := fun hw e => hw.no32 (List.mem_of_getElem? e)
 induction l with
 | nil => exact absurd rfl hn
 | cons x r ih =>
  have hx := h x (by simp)
  have hxp : 0 < x.length := List.length_pos_iff.2 hx.1
  cases r with
  | nil =>
   rw [DI]
   exact ⟨hx.1, first hx, fun e => hx.no32 (List.mem_of_getElem? e)⟩
  | cons y r =>
   obtain ⟨i1, i2, i3⟩ := ih (by simp) fun w hw => h w (List.mem_cons_of_mem _ hw)
   have hp : 0 < (jn (y :: r)).length := List.length_pos_iff.2 i1
   rw [Dj (by simp)]
   refine ⟨by simp, ?_, ?_⟩
   ·rw [List.getElem?_append_left hxp]; exact first hx
   ·rw [List.length_append, List.length_cons, List.getElem?_append_right (by omega), show x.length + ((jn (y :: r)).length + 1) - 1 - x.length = ((jn (y :: r)).length - 1) + 1 by omega, List.getElem?_cons_succ]
    exact i3
theorem SC {l : List T2} (hn : l ≠ []) (h : ∀ w, w ∈ l -> Wd w) : NFo (jn l) := by
 refine ⟨fun b hb => ?_, ?_⟩
 ·rcases QI hb with rfl | ⟨w, hw, hb⟩
  ·decide
  ·have := Qp (List.all_eq_true.1 (h w hw).2 b hb)
   exact ⟨this.2.2.1, this.2.2.2.1, this.2.2.2.2⟩
 ·induction l with
  | nil => exact absurd rfl hn
  | cons x r ih =>
   have hx := h x (by simp)
   have hxp : 0 < x.length := List.length_pos_iff.2 hx.1
   cases r with
   | nil =>
    intro i hi
    rw [DI] at hi
    exact absurd (List.mem_of_getElem? hi) hx.no32
   | cons y r =>
    have hr : ∀ w, w ∈ y :: r -> Wd w := fun w hw => h w (List.mem_cons_of_mem _ hw)
    obtain ⟨i1, i2, i3⟩ := SD (l := y :: r) (by simp) hr
    have hp : 0 < (jn (y :: r)).length := List.length_pos_iff.2 i1
    intro i hi
    rw [Dj (by simp)] at hi ⊢
    by_cases hlt : i < x.length
    ·rw [List.getElem?_append_left hlt] at hi
     exact absurd (List.mem_of_getElem? hi) hx.no32
    ·by_cases he : i = x.length
     ·subst he
      refine ⟨hxp, by simp; omega, ?_⟩
      rw [List.getElem?_append_left (by omega)]
      exact fun e => hx.no32 (List.mem_of_getElem? e)
     ·obtain ⟨j, rfl⟩ : ∃ j, i = x.length + 1 + j := ⟨i - x.length - 1, by omega⟩
      rw [List.getElem?_append_right (by omega), show x.length + 1 + j - x.length = j + 1 by omega, List.getElem?_cons_succ] at hi
      obtain ⟨w1, w2, w3⟩ := ih (by simp) hr j hi
      refine ⟨by omega, by simp; omega, ?_⟩
      obtain ⟨m, rfl⟩ : ∃ m, j = m + 1 := ⟨j - 1, by omega⟩
      rw [List.getElem?_append_right (by omega), show x.length + 1 + (m + 1) - 1 - x.length = m + 1 by omega, List.getElem?_cons_succ]
      exact w3
theorem RS (m : Int) : Wd (Iw m) := by
 unfold Iw
 split
 ·exact ⟨by decide, by decide⟩
 ·split <;> exact ⟨by decide, by decide⟩
theorem QP {o : Ac} {E : Ad} (h : Cs o E = true) : ∀ w, w ∈ fsw o E -> Wd w := by
 intro w hw
 unfold fsw at hw
 split at hw
 ·simp at hw; subst hw; exact ⟨by decide, by decide⟩
 ·obtain ⟨h1, h2, h3⟩ := I9 (okE h) w hw
  refine ⟨by rintro rfl; simp at h3, ?_⟩
  rw [List.all_eq_true] at h2 ⊢
  exact fun b hb => Nf (h2 b hb)
theorem SU {b : UInt8} (h : Oe b = true) : plB b = true := by
 unfold Oe at h
 simp only [Bool.or_eq_true, beq_iff_eq] at h
 rcases h with (h | h) | rfl
 ·exact SE h
 ·exact Nf h
 ·decide
theorem Pp {o : Ac} {x : Line} (h : OkL o x) : Dw o x ≠ [] /\ ∀ w, w ∈ Dw o x -> Wd w := by
 have hc := Gh h.c
 have hc2 : x.Call.all plB = true := by
  have := h.c
  unfold Gi at this
  simp only [Bool.and_eq_true] at this
  rw [List.all_eq_true]
  exact fun b hb => SU (List.all_eq_true.1 this.2 b hb)
 have hall : (dP 2 (x.Minute.toNat / 60 % 24) ++ dP 2 (x.Minute.toNat % 60)).all isD = true := by rw [List.all_append, Fm, Fm]; rfl
 refine ⟨by unfold Dw GD; simp, fun w hw => ?_⟩
 unfold Dw GD tW at hw
 simp only [List.mem_append, List.mem_cons, List.not_mem_nil, or_false] at hw
 rcases hw with (((rfl | rfl | rfl | rfl) | (rfl | rfl)) | (rfl | rfl)) | hw | rfl | hw
 ·exact ⟨by decide, by decide⟩
 ·exact P6 _
 ·exact P6 _
 ·exact RS _
 ·exact P6 _
 ·refine ⟨fun e => ?_, ?_⟩
  ·have h1 := congrArg List.length e
   have h2 := (JI 2 (x.Minute.toNat / 60 % 24)).1
   rw [List.length_append, List.length_nil] at h1
   omega
  ·rw [List.all_eq_true] at hall ⊢
   exact fun b hb => Nf (hall b hb)
 ·exact ⟨by intro e; rw [e] at hc; simp at hc, hc2⟩
 ·exact ⟨by decide, by decide⟩
 ·exact QP h.s w hw
 ·exact ⟨by decide, by decide⟩
 ·exact QP h.g w hw
theorem PP {o : Ac} {x : Line} (h : OkL o x) : MF (BF o x) = BF o x := QR (SC (Pp h).1 (Pp h).2)
end
section
open Go.Lib (decDigits)
end
def AO (N : Nat) (x0 : Int) (x1 : Int) (x2 : Int) : Option Bool :=
 some ((decide (x1 <= x0)) && (decide (x0 <= x2)))
theorem AC : Ag Tryz.prog 73 := fun _ _ => by kernel_rfl
theorem AJ (N : Nat) (w0 : World) (F0 : Mem) (hF : T4 w0 F0) (x0 : Int) (x1 : Int) (x2 : Int) (r : Bool) (h : AO N x0 x1 x2 = some r) :
  Calls Tryz.prog 73 ([(vi x0), (vi x1), (vi x2)] : List Value).toArray w0 (Az w0 F0 fun F' v => v = (.bool r)) := by
 have hs0 := TJ hF
 refine Go 15 Tryz.func73 <| Sq (Rg [0] ?_)
 refine Vs 1 <| Nss (Rg (rG 9) ?_)
 refine TN (fun f w => ∃ (F1 : Mem), HS w0 F0 w F1 [] /\ TH F0 F1 /\ FI f [] [(6, (.bool ((decide (x1 <= x0)) && (decide (x0 <= x2)))))]) ?_ ?_
 ·refine Vs 4 ?_
  refine TM (decide (x1 <= x0)) (fun hb26 => ?_) (fun hb26 => ?_)
  ·refine Vgs hb26 3 ?_
   refine Pk1 hb26 <| Vs 1 ?_
   exact TD ⟨rfl, F0, hs0, (TI _), (fJ ⟨(congrArg Value.bool (Hz hb26 rfl)), trivial⟩)⟩
  ·refine Ss hb26 3 ?_
   refine Pk0 hb26 <| Vs 1 ?_
   exact TD ⟨rfl, F0, hs0, (TI _), (fJ ⟨(congrArg Value.bool (Jv hb26 rfl)), trivial⟩)⟩
 ·rintro f w21 ⟨F1, hs22, le23, ⟨_, rfl⟩⟩
  refine Ab <| Rt ?_
  obtain rfl := Aa h
  exact Re [(.bool ((decide (x1 <= x0)) && (decide (x0 <= x2))))] hs22 rfl
def Dc (N : Nat) (x0 : T2) (r21 : Bool) : (Bool × Int) -> Option (BE Bool (Bool × Int)) := fun s32 =>
 (bif (decide (s32.2 < (x0.length : Int))) then ((Pz x0 s32.2).bind fun c56 => ((bif s32.1 then ((AO N (W64 c56) 65 90).bind fun r73 => (bif r73 then some true else ((AO N (W64 c56) 48 57).bind fun r84 => (bif r84 then some true else some (c56 == 47))))) else some false).bind fun j62 => some (.next (j62, (W64 (s32.2 + 1)))))) else some (.done (s32.1, s32.2)))
def Gd (N : Nat) (x0 : T2) : Option Bool :=
 ((AO N (x0.length : Int) 1 16).bind fun r21 => ((A6 (Dc N x0 r21) N (r21, 0)).bind fun o => o.k (fun r => some r) (fun s41 => some s41.1)))
theorem Mb : Ag Tryz.prog 74 := fun _ _ => by kernel_rfl
theorem Ny (N : Nat) (w0 : World) (F0 : Mem) (hF : T4 w0 F0) (x0 : T2) (r : Bool) (h : Gd N x0 = some r) :
  Calls Tryz.prog 74 ([(sv x0)] : List Value).toArray w0 (Az w0 F0 fun F' v => v = (.bool r)) := by
 have hs0 := TJ hF
 refine Go 34 Tryz.func74 <| Sq (Rg [0] ?_)
 refine Vs 1 <| Nss (Rg (rG 4) ?_)
 refine Vs 2 ?_
 obtain ⟨r21, hr22, h23⟩ := bind_some h
 refine Cl' AC hs0 (AJ N w0 F0 hs0.pers ((x0.length : Int)) 1 16 _ hr22) ?_
 rintro _ F1 w25 hs26 le27 rfl
 refine Vs 1 <| Nss <| Sq (Rg [0, 1, 2] ?_)
 refine Vs 3 <| Nt ?_
 obtain ⟨o29, ho30, h31⟩ := bind_some h23
 refine TO (fun f w => ∃ (s41 : (Bool × Int)) (F3 : Mem), o29 = .done s41 /\ HS w0 F0 w F3 [] /\ TH F1 F3 /\ FI f [] [(3, (.bool s41.1))]) ?_ ?_
 ·refine Bk ?_
  refine TG (by kernel_rfl) (fun m f w => ∃ (s32 : (Bool × Int)) (F2 : Mem), A6 (Dc N x0 r21) m s32 = some o29 /\ HS w0 F0 w F2 [] /\ TH F1 F2 /\ FI f [] [(0, (sv x0)), (3, (.bool s32.1)), (10, (vi (x0.length : Int))), (11, (vi s32.2))]) N ⟨(r21, 0), F1, ho30, hs26, (TI _), fI⟩ ?_
  rintro m47 f w33 ⟨s32, F2, hit48, hs34, le35, ⟨_, rfl⟩⟩
  obtain ⟨m49, fl50, rfl, hb51, hnx52⟩ := AQ hit48
  refine Sq (Rg [0] ?_)
  refine Vs 1 <| Nss <| Cd hb51 (fun hb53 h54 => ?_) (fun hb53 h55 => ?_)
  ·refine Sc ?_
   refine Ab <| Sq <| Bk <| Sq (Rg [0, 1] ?_)
   refine Vs 2 <| Nss (Rg (rG 4) ?_)
   refine Vs 2 ?_
   obtain ⟨c56, hr57, h58⟩ := bind_some h54
   refine V 16 5 (NN (t := 9) (x := (.tmp 14)) (y := (.tmp 15)) (a := x0) (k := .i64) (i := s32.2) (v := c56) rfl rfl (by kernel_rfl) hr57) <| Vs 1 <| Nt <| Rg (rG 16) ?_
   obtain ⟨j62, hj68, h69⟩ := bind_some h58
   refine TN (fun f w => ∃ (F4 : Mem), HS w0 F0 w F4 [] /\ TH F2 F4 /\ FI f [] [(0, (sv x0)), (3, (.bool j62)), (10, (vi (x0.length : Int))), (11, (vi s32.2))]) ?_ ?_
   ·refine Vs 2 ?_
    refine Sp hj68 (fun hb70 h71 => ?_) (fun hb70 h72 => ?_)
    ·refine Vgs hb70 2 ?_
     obtain ⟨r73, hr74, h75⟩ := bind_some h71
     refine Cg hb70 AC hs34 (AJ N w33 F2 hs34.pers ((W64 c56)) 65 90 _ hr74) ?_
     rintro _ F5 w77 hs78 le79 rfl
     refine Vgs hb70 1 <| Sp h75 (fun hb81 h82 => ?_) (fun hb81 h83 => ?_)
     ·refine Ss hb81 3 ?_
      refine Pg1 hb70 hb81 <| Vgs hb70 1 <| Ss (rfl : true = true) 2 <| Pg1 hb70 (rfl : true = true) <| Pk1 hb70 <| Vs 1 ?_
      obtain rfl := Aa h82
      exact TD ⟨rfl, F5, hs78, le79, fI⟩
     ·refine Vgs hb81 2 ?_
      obtain ⟨r84, hr85, h86⟩ := bind_some h83
      refine Cg hb81 AC hs78 (AJ N w77 F5 hs78.pers ((W64 c56)) 48 57 _ hr85) ?_
      rintro _ F6 w88 hs89 le90 rfl
      refine Pg0 hb70 hb81 <| Vgs hb70 1 <| Sp h86 (fun hb92 h93 => ?_) (fun hb92 h94 => ?_)
      ·refine Ss hb92 2 ?_
       refine Pg1 hb70 hb92 <| Pk1 hb70 <| Vs 1 ?_
       obtain rfl := Aa h93
       exact TD ⟨rfl, F6, hs89, (le79.t le90), fI⟩
      ·refine Vgs hb92 2 ?_
       refine Pg0 hb70 hb92 <| Pk1 hb70 <| Vs 1 ?_
       obtain rfl := Aa h94
       exact TD ⟨rfl, F6, hs89, (le79.t le90), fI⟩
    ·refine Ss hb70 4 ?_
     refine Su' 3 <| Ss hb70 2 <| Su' 2 <| Ss hb70 1 <| Pk0 hb70 <| Vs 1 ?_
     obtain rfl := Aa h72
     exact TD ⟨rfl, F2, hs34, (TI _), fI⟩
   ·rintro f w59 ⟨F4, hs60, le61, ⟨_, rfl⟩⟩
    refine Aw <| Ab <| Rg [0, 1] <| Vs 2 <| TD ?_
    have hn95 := A2 h69 hnx52
    exact ⟨m49, Nat.lt_succ_self _, (j62, (W64 (s32.2 + 1))), F4, hn95, hs60, (le35.t le61), fI⟩
  ·refine Ex ?_
   refine Au <| Au <| AA rfl ?_
   have ho96 := AR h55 hnx52
   exact .inl ⟨rfl, (s32.1, s32.2), F2, ho96, hs34, le35, fI⟩
 ·rintro f w42 ⟨s41, F3, rfl, hs43, le44, ⟨_, rfl⟩⟩
  have h97 := BN h31
  refine Ab <| Sq (Rg [0, 1] ?_)
  refine Vs 2 <| Nt <| Rt ?_
  obtain rfl := Aa h97
  exact Re [(.bool s41.1)] hs43 rfl
def BQ (N : Nat) (x0 : Ac) (x1 : Line) : Option Bool :=
 (((AO N x1.Num 1 65535).bind fun r35 => (bif r35 then ((AO N x1.Khz 1 10000000).bind fun r46 => (bif r46 then ((AO N x1.Mode 1 3).bind fun r57 => (bif r57 then ((AO N x1.Minute 0 20000).bind fun r68 => (bif r68 then ((Gd N x1.Call).bind fun r79 => (bif r79 then ((BJ N ({ Report := x0.Report, Serial := x0.Serial, Zone := x0.Zone } : Ac) ({ Report := x1.Sent.Report, Serial := x1.Sent.Serial, Zone := x1.Sent.Zone } : Ad)).bind fun r90 => (bif r90 then ((BJ N ({ Report := x0.Report, Serial := x0.Serial, Zone := x0.Zone } : Ac) ({ Report := x1.Got.Report, Serial := x1.Got.Serial, Zone := x1.Got.Zone } : Ad)).bind fun r101 => some r101) else some false)) else some false)) else some false)) else some false)) else some false)) else some false)).bind fun j30 => some j30)
theorem DK : Ag Tryz.prog 21 := fun _ _ => by kernel_rfl
theorem D3 (N : Nat) (w0 : World) (F0 : Mem) (hF : T4 w0 F0) (x0 : Ac) (x1 : Line) (r : Bool) (h : BQ N x0 x1 = some r) :
  Calls Tryz.prog 21 ([(.agg (Ai x0)), (.agg (BI x1))] : List Value).toArray w0 (Az w0 F0 fun F' v => v = (.bool r)) := by
 have hs0 := TJ hF
 refine Go 40 Tryz.func21 <| Sq (Rg [0, 1, 2] ?_)
 refine Bx' 23 (Ai x0) hs0 (fun b21 w22 hs23 => ?_)
 refine Bx' 34 (BI x1) hs23 (fun b24 w25 hs26 => ?_)
 refine Vs 1 <| Nss (Rg (rG 36) ?_)
 obtain ⟨j30, hj33, h34⟩ := bind_some h
 refine TN (fun f w => ∃ (F1 : Mem), HS w0 F0 w F1 [] /\ TH F0 F1 /\ FI f [] [(4, (.bool j30))]) ?_ ?_
 ·refine Vs 1 ?_
  refine Ld hs26.at0 ?_
  obtain ⟨r35, hr36, h37⟩ := bind_some hj33
  refine Cl' AC hs26 (AJ N w25 F0 hs26.pers x1.Num 1 65535 _ hr36) ?_
  rintro _ F2 w39 hs40 le41 rfl
  refine Vs 1 <| Sp h37 (fun hb43 h44 => ?_) (fun hb43 h45 => ?_)
  ·refine Vgs hb43 1 ?_
   refine Lg hb43 hs40.at0 ?_
   obtain ⟨r46, hr47, h48⟩ := bind_some h44
   refine Cg hb43 AC hs40 (AJ N w39 F2 hs40.pers x1.Khz 1 10000000 _ hr47) ?_
   rintro _ F3 w50 hs51 le52 rfl
   refine Pk1 hb43 <| Vs 1 <| Sp h48 (fun hb54 h55 => ?_) (fun hb54 h56 => ?_)
   ·refine Vgs hb54 1 ?_
    refine Lg hb54 hs51.at0 ?_
    obtain ⟨r57, hr58, h59⟩ := bind_some h55
    refine Cg hb54 AC hs51 (AJ N w50 F3 hs51.pers x1.Mode 1 3 _ hr58) ?_
    rintro _ F4 w61 hs62 le63 rfl
    refine Pk1 hb54 <| Vs 1 <| Sp h59 (fun hb65 h66 => ?_) (fun hb65 h67 => ?_)
    ·refine Vgs hb65 1 ?_
     refine Lg hb65 hs62.at0 ?_
     obtain ⟨r68, hr69, h70⟩ := bind_some h66
     refine Cg hb65 AC hs62 (AJ N w61 F4 hs62.pers x1.Minute 0 20000 _ hr69) ?_
     rintro _ F5 w72 hs73 le74 rfl
     refine Pk1 hb65 <| Vs 1 <| Sp h70 (fun hb76 h77 => ?_) (fun hb76 h78 => ?_)
     ·refine Vgs hb76 1 ?_
      refine Lg hb76 hs73.at0 ?_
      obtain ⟨r79, hr80, h81⟩ := bind_some h77
      refine Cg hb76 Mb hs73 (Ny N w72 F5 hs73.pers x1.Call _ hr80) ?_
      rintro _ F6 w83 hs84 le85 rfl
      refine Pk1 hb76 <| Vs 1 <| Sp h81 (fun hb87 h88 => ?_) (fun hb87 h89 => ?_)
      ·refine Lg hb87 hs84.at1 ?_
       refine Vgs hb87 1 <| Lg hb87 hs84.at0 ?_
       obtain ⟨r90, hr91, h92⟩ := bind_some h88
       refine Cg hb87 CN hs84 (C7 N w83 F6 hs84.pers (({ Report := x0.Report, Serial := x0.Serial, Zone := x0.Zone } : Ac)) (({ Report := x1.Sent.Report, Serial := x1.Sent.Serial, Zone := x1.Sent.Zone } : Ad)) _ hr91) ?_
       rintro _ F7 w94 hs95 le96 rfl
       refine Pk1 hb87 <| Vs 1 <| Sp h92 (fun hb98 h99 => ?_) (fun hb98 h100 => ?_)
       ·refine Lg hb98 hs95.at1 ?_
        refine Vgs hb98 1 <| Lg hb98 hs95.at0 ?_
        obtain ⟨r101, hr102, h103⟩ := bind_some h99
        refine Cg hb98 CN hs95 (C7 N w94 F7 hs95.pers (({ Report := x0.Report, Serial := x0.Serial, Zone := x0.Zone } : Ac)) (({ Report := x1.Got.Report, Serial := x1.Got.Serial, Zone := x1.Got.Zone } : Ad)) _ hr102) ?_
        rintro _ F8 w105 hs106 le107 rfl
        refine Pk1 hb98 <| Vs 1 ?_
        obtain rfl := Aa h103
        exact TD ⟨rfl, F8, hs106.dr0.dr0, ((((((le41.t le52).trans le63).trans le74).trans le85).trans le96).trans le107), fI⟩
       ·refine Ss hb98 4 ?_
        refine Pk0 hb98 <| Vs 1 ?_
        obtain rfl := Aa h100
        exact TD ⟨rfl, F7, hs95.dr0.dr0, (((((le41.t le52).trans le63).trans le74).trans le85).trans le96), fI⟩
      ·refine Ss hb87 4 ?_
       refine Pk0 hb87 <| Vs 1 <| Ss (rfl : false = false) 4 <| Pk0 (rfl : false = false) <| Vs 1 ?_
       obtain rfl := Aa h89
       exact TD ⟨rfl, F6, hs84.dr0.dr0, ((((le41.t le52).trans le63).trans le74).trans le85), fI⟩
     ·refine Ss hb76 3 ?_
      refine Pk0 hb76 <| Vs 1 <| Ss (rfl : false = false) 4 <| Pk0 (rfl : false = false) <| Vs 1 <| Ss (rfl : false = false) 4 <| Pk0 (rfl : false = false) <| Vs 1 ?_
      obtain rfl := Aa h78
      exact TD ⟨rfl, F5, hs73.dr0.dr0, (((le41.t le52).trans le63).trans le74), fI⟩
    ·refine Ss hb65 3 ?_
     refine Pk0 hb65 <| Vs 1 <| Ss (rfl : false = false) 3 <| Pk0 (rfl : false = false) <| Vs 1 <| Ss (rfl : false = false) 4 <| Pk0 (rfl : false = false) <| Vs 1 <| Ss (rfl : false = false) 4 <| Pk0 (rfl : false = false) <| Vs 1 ?_
     obtain rfl := Aa h67
     exact TD ⟨rfl, F4, hs62.dr0.dr0, ((le41.t le52).trans le63), fI⟩
   ·refine Ss hb54 3 ?_
    refine Pk0 hb54 <| Vs 1 <| Ss (rfl : false = false) 3 <| Pk0 (rfl : false = false) <| Vs 1 <| Ss (rfl : false = false) 3 <| Pk0 (rfl : false = false) <| Vs 1 <| Ss (rfl : false = false) 4 <| Pk0 (rfl : false = false) <| Vs 1 <| Ss (rfl : false = false) 4 <| Pk0 (rfl : false = false) <| Vs 1 ?_
    obtain rfl := Aa h56
    exact TD ⟨rfl, F3, hs51.dr0.dr0, (le41.t le52), fI⟩
  ·refine Ss hb43 3 ?_
   refine Pk0 hb43 <| Vs 1 <| Ss (rfl : false = false) 3 <| Pk0 (rfl : false = false) <| Vs 1 <| Ss (rfl : false = false) 3 <| Pk0 (rfl : false = false) <| Vs 1 <| Ss (rfl : false = false) 3 <| Pk0 (rfl : false = false) <| Vs 1 <| Ss (rfl : false = false) 4 <| Pk0 (rfl : false = false) <| Vs 1 <| Ss (rfl : false = false) 4 <| Pk0 (rfl : false = false) <| Vs 1 ?_
   obtain rfl := Aa h45
   exact TD ⟨rfl, F2, hs40.dr0.dr0, le41, fI⟩
 ·rintro f w27 ⟨F1, hs28, le29, ⟨_, rfl⟩⟩
  refine Ab <| Rt ?_
  obtain rfl := Aa h34
  exact Re [(.bool j30)] hs28 rfl




def H6 (N : Nat) (x0 : (List Int)) : Int -> Option (BE Bool Int) := fun s24 =>
 (bif (decide (s24 < (x0.length : Int))) then none else some (.done s24))
def Gc (N : Nat) (x0 : (List Int)) : Option Bool :=
 ((A6 (H6 N x0) N 0).bind fun o => o.k (fun r => some r) (fun s33 => some (decide ((x0.length : Int) <= 16))))
theorem Fq : Ag Tryz.prog 80 := fun _ _ => by kernel_rfl
theorem Gq (N : Nat) (w0 : World) (F0 : Mem) (hF : T4 w0 F0) (x0 : (List Int)) (a0_0 : T3) (n0_0 : Nat) (hb0_0 : LC x0.length n0_0) (hs0_0 : SlA AG F0 a0_0 x0) (r : Bool) (h : Gc N x0 = some r) :
  Calls Tryz.prog 80 ([(.slice a0_0 x0.length n0_0)] : List Value).toArray w0 (Az w0 F0 fun F' v => v = (.bool r)) := by
 have hs0 := TJ hF
 refine Go 32 Tryz.func80 <| Sq (Rg [0] ?_)
 refine Vs 1 <| Nss <| Sq (Rg [0, 1, 2] ?_)
 refine Vs 3 <| Nt ?_
 obtain ⟨o21, ho22, h23⟩ := bind_some h
 refine TO (fun f w => ∃ (s33 : Int) (F2 : Mem), o21 = .done s33 /\ HS w0 F0 w F2 [] /\ TH F0 F2 /\ FI f [] [(0, (.slice a0_0 x0.length n0_0))]) ?_ ?_
 ·refine Bk ?_
  refine TG (by kernel_rfl) (fun m f w => ∃ (s24 : Int) (F1 : Mem), A6 (H6 N x0) m s24 = some o21 /\ HS w0 F0 w F1 [] /\ TH F0 F1 /\ FI f [] [(0, (.slice a0_0 x0.length n0_0)), (5, (.slice a0_0 x0.length n0_0)), (6, (vi (x0.length : Int))), (7, (vi s24))]) N ⟨0, F0, ho22, hs0, (TI _), fI⟩ ?_
  rintro m39 f w25 ⟨s24, F1, hit40, hs26, le27, ⟨_, rfl⟩⟩
  obtain ⟨m41, fl42, rfl, hb43, hnx44⟩ := AQ hit40
  refine Sq (Rg [0] ?_)
  refine Vs 1 <| Nss <| Cd hb43 (fun hb45 h46 => ?_) (fun hb45 h47 => ?_)
  ·cases h46
  ·refine Ex ?_
   refine Au <| Au <| AA rfl ?_
   have ho48 := AR h47 hnx44
   exact .inl ⟨rfl, s24, F1, ho48, hs26, le27, fI⟩
 ·rintro f w34 ⟨s33, F2, rfl, hs35, le36, ⟨_, rfl⟩⟩
  have h49 := BN h23
  refine Ab <| Sq (Rg (rG 4) ?_)
  refine Vs 4 <| Nt <| Rt ?_
  obtain rfl := Aa h49
  exact Re [(.bool (decide ((x0.length : Int) <= 16)))] hs35 rfl
def Ia (N : Nat) (x0 : Ac) (x1 : Log) (r38 : Bool) (r49 : Bool) (r60 : Bool) (r71 : Bool) (r82 : Bool) : Int -> Option (BE (Int × Int) Int) := fun s96 =>
 (bif (decide (s96 < (x1.Lines.length : Int))) then ((idx x1.Lines s96).bind fun x120 => (((BQ N ({ Report := x0.Report, Serial := x0.Serial, Zone := x0.Zone } : Ac) x120).bind fun r155 => (bif (!r155) then none else (bif (decide (s96 > 0)) then none else some ()))).bind fun j144 => some (.next (W64 (s96 + 1))))) else some (.done s96))
def Ge (N : Nat) (x0 : Ac) (x1 : Log) : Option (Int × Int) :=
 (bif ((decide ((x1.Jumps.length : Int) > 16)) || (decide ((x1.Lines.length : Int) > 400))) then none else ((Ee N x1.Call).bind fun r38 => (bif (!r38) then none else ((AO N x1.Category 1 9).bind fun r49 => (bif (!r49) then none else ((AO N x1.Power 1 9999).bind fun r60 => (bif (!r60) then none else ((AO N x1.Claimed 0 1000000).bind fun r71 => (bif (!r71) then none else ((Gc N x1.Jumps).bind fun r82 => (bif (!r82) then none else ((A6 (Ia N x0 x1 r38 r49 r60 r71 r82) N 0).bind fun o => o.k (fun r => some r) (fun s106 => some (0, 0))))))))))))))
theorem Fu : Ag Tryz.prog 23 := fun _ _ => by kernel_rfl
theorem Gr (N : Nat) (w0 : World) (F0 : Mem) (hF : T4 w0 F0) (hG : Bl F0) (x0 : Ac) (x1 : Log) (a1_4 : T3) (n1_4 : Nat) (hb1_4 : LC x1.Jumps.length n1_4) (hs1_4 : SlA AG F0 a1_4 x1.Jumps) (a1_5 : T3) (n1_5 : Nat) (hb1_5 : LC x1.Lines.length n1_5) (hs1_5 : SlA AD F0 a1_5 x1.Lines) (r : (Int × Int)) (h : Ge N x0 x1 = some r) :
  Calls Tryz.prog 23 ([(.agg (Ai x0)), (.agg (AK x1 a1_4 n1_4 a1_5 n1_5))] : List Value).toArray w0 (Az w0 F0 fun F' v => v = (.tuple #[(vi r.1), (vi r.2)])) := by
 have hs0 := TJ hF
 refine Go 89 Tryz.func23 <| Sq (Rg (rG 4) ?_)
 refine Bx' 23 (Ai x0) hs0 (fun b21 w22 hs23 => ?_)
 refine Bx' 27 (AK x1 a1_4 n1_4 a1_5 n1_5) hs23 (fun b24 w25 hs26 => ?_)
 refine Vs 2 <| Nss <| Sq (Rg (rG 10) ?_)
 refine TN (fun f w => ∃ (F1 : Mem), HS w0 F0 w F1 [(sb b24 (AK x1 a1_4 n1_4 a1_5 n1_5) 27), (sb b21 (Ai x0) 23)] /\ TH F0 F1 /\ FI f [] [(2, (pt b21 0)), (3, (pt b24 0)), (17, (.bool ((decide ((x1.Jumps.length : Int) > 16)) || (decide ((x1.Lines.length : Int) > 400)))))]) ?_ ?_
 ·refine Vs 1 ?_
  refine Ld hs26.at0 <| Vs 3 <| TM (decide ((x1.Jumps.length : Int) > 16)) (fun hb34 => ?_) (fun hb34 => ?_)
  ·refine Ss hb34 4 ?_
   refine Pk1 hb34 ?_
   exact TD ⟨rfl, F0, hs26, (TI _), (fJ ⟨rfl, rfl, (congrArg Value.bool (GL hb34 rfl)), trivial⟩)⟩
  ·refine Vgs hb34 1 ?_
   refine Lg hb34 hs26.at0 <| Vgs hb34 2 <| Pk0 hb34 ?_
   exact TD ⟨rfl, F0, hs26, (TI _), (fJ ⟨rfl, rfl, (congrArg Value.bool (CV hb34 rfl)), trivial⟩)⟩
 ·rintro f w27 ⟨F1, hs28, le29, ⟨_, rfl⟩⟩
  refine Ab <| Cd h (fun hb35 h36 => ?_) (fun hb35 h37 => ?_)
  ·cases h36
  ·refine Sc ?_
   refine Ab <| Sq <| Sq (Rg (rG 28) ?_)
   refine Vs 1 <| Ld hs28.at0 ?_
   obtain ⟨r38, hr39, h40⟩ := bind_some h37
   refine Cl' D2 hs28 (Et N w27 F1 hs28.pers (hG.mono le29) x1.Call _ hr39) ?_
   rintro _ F2 w42 hs43 le44 rfl
   refine Vs 2 <| Sp h40 (fun hb46 h47 => ?_) (fun hb46 h48 => ?_)
   ·cases h47
   ·refine Vgs hb46 1 ?_
    refine Lg hb46 hs43.at0 ?_
    obtain ⟨r49, hr50, h51⟩ := bind_some h48
    refine Cg hb46 AC hs43 (AJ N w42 F2 hs43.pers x1.Category 1 9 _ hr50) ?_
    rintro _ F3 w53 hs54 le55 rfl
    refine Vgs hb46 1 <| Pk0 hb46 <| Vs 1 <| Sp h51 (fun hb57 h58 => ?_) (fun hb57 h59 => ?_)
    ·cases h58
    ·refine Vgs hb57 1 ?_
     refine Lg hb57 hs54.at0 ?_
     obtain ⟨r60, hr61, h62⟩ := bind_some h59
     refine Cg hb57 AC hs54 (AJ N w53 F3 hs54.pers x1.Power 1 9999 _ hr61) ?_
     rintro _ F4 w64 hs65 le66 rfl
     refine Vgs hb57 1 <| Pk0 hb57 <| Vs 1 <| Sp h62 (fun hb68 h69 => ?_) (fun hb68 h70 => ?_)
     ·cases h69
     ·refine Vgs hb68 1 ?_
      refine Lg hb68 hs65.at0 ?_
      obtain ⟨r71, hr72, h73⟩ := bind_some h70
      refine Cg hb68 AC hs65 (AJ N w64 F4 hs65.pers x1.Claimed 0 1000000 _ hr72) ?_
      rintro _ F5 w75 hs76 le77 rfl
      refine Vgs hb68 1 <| Pk0 hb68 <| Vs 1 <| Sp h73 (fun hb79 h80 => ?_) (fun hb79 h81 => ?_)
      ·cases h80
      ·refine Vgs hb79 1 ?_
       refine Lg hb79 hs76.at0 ?_
       obtain ⟨r82, hr83, h84⟩ := bind_some h81
       refine Cg hb79 Fq hs76 (Gq N w75 F5 hs76.pers x1.Jumps a1_4 n1_4 hb1_4 (TK hs1_4 ((((le29.t le44).trans le55).trans le66).trans le77)) _ hr83) ?_
       rintro _ F6 w86 hs87 le88 rfl
       refine Vgs hb79 1 <| Pk0 hb79 <| Nt <| Cd h84 (fun hb90 h91 => ?_) (fun hb90 h92 => ?_)
       ·cases h91
       ·refine Sc ?_
        refine Ab <| Sq <| Sq (Rg (rG 4) ?_)
        refine Vs 1 <| Ld hs87.at0 <| Vs 2 <| Nt ?_
        obtain ⟨o93, ho94, h95⟩ := bind_some h92
        refine TO (fun f w => ∃ (s106 : Int) (F8 : Mem), o93 = .done s106 /\ HS w0 F0 w F8 [] /\ TH F6 F8 /\ FI f [] []) ?_ ?_
        ·refine Bk ?_
         refine TG (by kernel_rfl) (fun m f w => ∃ (s96 : Int) (F7 : Mem), A6 (Ia N x0 x1 r38 r49 r60 r71 r82) m s96 = some o93 /\ HS w0 F0 w F7 [(sb b24 (AK x1 a1_4 n1_4 a1_5 n1_5) 27), (sb b21 (Ai x0) 23)] /\ TH F6 F7 /\ FI f [] [(2, (pt b21 0)), (3, (pt b24 0)), (47, (.slice a1_5 x1.Lines.length n1_5)), (48, (vi (x1.Lines.length : Int))), (49, (vi s96))]) N ⟨0, F6, ho94, hs87, (TI _), fI⟩ ?_
         rintro m111 f w97 ⟨s96, F7, hit112, hs98, le99, ⟨_, rfl⟩⟩
         obtain ⟨m113, fl114, rfl, hb115, hnx116⟩ := AQ hit112
         refine Sq (Rg [0] ?_)
         refine Vs 1 <| Nss <| Cd hb115 (fun hb117 h118 => ?_) (fun hb117 h119 => ?_)
         ·refine Sc ?_
          refine Ab <| Sq <| Bk <| Sq (Rg (rG 6) ?_)
          refine Vs 1 ?_
          obtain ⟨x120, hx121, h123⟩ := bind_some h118
          obtain ⟨hi122, hx121'⟩ := As hx121
          obtain ⟨b124, o125, C126, E127, fz128, rfl, hF130, hE131⟩ := TP (TK hs1_5 ((((((le29.t le44).trans le55).trans le66).trans le77).trans le88).trans le99)) hx121'
          have hc133 := hE131 _ _ hx121'
          refine Ix hi122 <| Lx 0 (hs98.pers _ _ hF130) hc133 <| Al' 34 #[(vi 0), (vi 0), (vi 0), (vi 0), (sv (([] : T2))), (vi 0), (vi 0), (vi 0), (vi 0), (vi 0), (vi 0)] hs98 (fun b134 w135 hs136 => ?_)
          refine Vs 1 <| St0 (BI x120) hs136 (fun w137 hs138 => ?_)
          refine Nss ?_
          obtain ⟨j144, hj153, h154⟩ := bind_some h123
          refine RD 32 32 [(sb b134 (BI x120) 34), (sb b24 (AK x1 a1_4 n1_4 (some ⟨b124, o125, none⟩) n1_5) 27), (sb b21 (Ai x0) 23)] [] hs138 (fun f w => ∃ (F9 : Mem), HS w0 F0 w F9 [(sb b24 (AK x1 a1_4 n1_4 (some ⟨b124, o125, none⟩) n1_5) 27), (sb b21 (Ai x0) 23)] /\ TH F7 F9 /\ FI f [] [(2, (pt b21 0)), (3, (pt b24 0)), (6, (vi s96)), (47, (.slice (some ⟨b124, o125, none⟩) x1.Lines.length n1_5)), (48, (vi (x1.Lines.length : Int))), (49, (vi s96)), (85, (.bool false))]) (fun wd139 hw140 => ?_) ?_
          ·refine Dl 0 (fun _ hq => (hq.1.2 2 _ _ rfl)) ?_
           refine Dl 1 (fun _ hq => (hq.1.2 0 _ _ rfl)) <| D1 2 ?_
           obtain ⟨r155, hr156, h157⟩ := bind_some hj153
           refine DCl DK hw140 (D3 N wd139 F7 hw140.pers (({ Report := x0.Report, Serial := x0.Serial, Zone := x0.Zone } : Ac)) x120 _ hr156) ?_
           rintro _ F10 w159 hs160 le161 rfl
           refine Dvl [3, 4] (tf 5 27) <| Sd h157 (fun hb163 h164 => ?_) (fun hb163 h165 => ?_)
           ·cases h164
           ·refine Dgl 5 59 3 _ (tf 6 26) 4 false 58 hb163 (fun _ hq => mv 6 (vi s96)) ?_
            refine Dgl 6 60 4 (.bool (decide (s96 > 0))) (tf 7 25) 4 false 58 hb163 (fun _ hq => MW (t := 3) (t' := 3) (x := (.tmp 59)) (y := (.const (vi 0))) (k := .i64) (a := s96) (b := 0) rfl rfl) <| Dgl 7 61 4 _ (tf 8 24) 4 false 58 hb163 (fun _ hq => mv 60 (.bool (decide (s96 > 0)))) <| Sd h165 (fun hb166 h167 => ?_) (fun hb166 h168 => ?_)
            ·cases h167
            ·refine Dkl [(8, 62), (9, 63), (10, 64), (11, 65), (12, 66), (13, 67)] 7 true 61 hb166 (tf 14 18) ?_
             refine Dkl [(14, 68), (15, 69), (16, 70), (17, 71), (18, 72)] 7 true 61 hb166 (tf 19 13) <| Dul [(19, 73), (20, 74), (21, 75), (22, 76), (23, 77), (24, 78)] 18 false 72 (tf 25 7) <| Dul [(25, 79), (26, 80), (27, 81), (28, 82)] 18 false 72 (tf 29 3) <| Dkl [(29, 83)] 7 true 61 hb166 (tf 30 2) <| Dgl 30 84 4 _ (tf 31 1) 4 false 58 hb163 (fun _ hq => p0 61 (.tmp 83) (.const (.bool false)) (.bool false) hb166) <| Dtl 31 85 4 _ (tf 32 0) (fun _ hq => p0 58 (.const (.bool true)) (.tmp 84) (.bool false) hb163) ?_
             obtain rfl := Aa h168
             exact TU (by kernel_rfl) ⟨F10, hs160.dr0, le161, fI⟩
          ·rintro f w141 ⟨F9, hs142, le143, ⟨_, rfl⟩⟩
           refine Ab <| C0 (rfl : false = false) <| Sc <| Aw <| Ab <| Rg [0, 1] <| Vs 2 <| TD ?_
           have hn169 := A2 h154 hnx116
           exact ⟨m113, Nat.lt_succ_self _, (W64 (s96 + 1)), F9, hn169, hs142, (le99.t le143), fI⟩
         ·refine Ex ?_
          refine Au <| Au <| AA rfl ?_
          have ho170 := AR h119 hnx116
          exact .inl ⟨rfl, s96, F7, ho170, hs98.dr0.dr0, le99, fI⟩
        ·rintro f w107 ⟨s106, F8, rfl, hs108, le109, ⟨_, rfl⟩⟩
         have h171 := BN h95
         refine Ab <| Sq (Rg [0, 1] ?_)
         refine Vs 2 <| Nt <| Rt ?_
         obtain rfl := Aa h171
         exact Re [(vi 0), (vi 0)] hs108 rfl



def H7 (N : Nat) (x0 : Ac) (x1 : Log) : Option Bool :=
 ((Ge N ({ Report := x0.Report, Serial := x0.Serial, Zone := x0.Zone } : Ac) x1).bind fun r27 => some (r27.1 == 0))
theorem JO : Ag Tryz.prog 25 := fun _ _ => by kernel_rfl
theorem KH (N : Nat) (w0 : World) (F0 : Mem) (hF : T4 w0 F0) (hG : Bl F0) (x0 : Ac) (x1 : Log) (a1_4 : T3) (n1_4 : Nat) (hb1_4 : LC x1.Jumps.length n1_4) (hs1_4 : SlA AG F0 a1_4 x1.Jumps) (a1_5 : T3) (n1_5 : Nat) (hb1_5 : LC x1.Lines.length n1_5) (hs1_5 : SlA AD F0 a1_5 x1.Lines) (r : Bool) (h : H7 N x0 x1 = some r) :
  Calls Tryz.prog 25 ([(.agg (Ai x0)), (.agg (AK x1 a1_4 n1_4 a1_5 n1_5))] : List Value).toArray w0 (Az w0 F0 fun F' v => v = (.bool r)) := by
 have hs0 := TJ hF
 refine Go 15 Tryz.func25 <| Sq (Rg [0, 1, 2] ?_)
 refine Bx' 23 (Ai x0) hs0 (fun b21 w22 hs23 => ?_)
 refine Bx' 27 (AK x1 a1_4 n1_4 a1_5 n1_5) hs23 (fun b24 w25 hs26 => ?_)
 refine Vs 1 <| Nss (Rg (rG 8) ?_)
 refine Ld hs26.at1 <| Ld hs26.at0 ?_
 obtain ⟨r27, hr28, h29⟩ := bind_some h
 refine Cl' Fu hs26 (Gr N w25 F0 hs26.pers hG (({ Report := x0.Report, Serial := x0.Serial, Zone := x0.Zone } : Ac)) x1 a1_4 n1_4 hb1_4 hs1_4 a1_5 n1_5 hb1_5 hs1_5 _ hr28) ?_
 rintro _ F1 w31 hs32 le33 rfl
 refine Vs 5 <| Nss (Rg [0, 1, 2] ?_)
 refine Vs 3 <| Nt <| Rt ?_
 obtain rfl := Aa h29
 exact Re [(.bool (r27.1 == 0))] hs32 rfl



section
open Go.Lib (decDigits)
theorem KP {ρ σ : Type} {body : σ -> Option (BE ρ σ)} (st : Nat -> σ) {o : BE ρ σ} (k : Nat) (hb : ∀ i, i < k -> body (st i) = some (.next (st (i + 1)))) (he : body (st k) = some o) (ho : ∀ s', o ≠ .next s') {N : Nat} (hN : k < N) : A6 body N (st 0) = some o := by
 have key : ∀ j i M, i + j = k -> j < M -> A6 body M (st i) = some o := by
  intro j
  induction j with
  | zero =>
   intro i M hi hM
   obtain ⟨m, rfl⟩ : ∃ m, M = m + 1 := ⟨M - 1, by omega⟩
   rw [Nat.add_zero] at hi
   subst hi
   rw [A6, he]
   cases o with
   | next s => exact absurd rfl (ho s)
   | done s => rfl
   | ret r => rfl
  | succ j ih =>
   intro i M hi hM
   obtain ⟨m, rfl⟩ : ∃ m, M = m + 1 := ⟨M - 1, by omega⟩
   rw [A6, hb i (by omega)]
   exact ih (i + 1) m (by omega) (by omega)
 exact key k 0 N (by omega) hN
section
variable {N : Nat}
theorem lw (a b c : Int) : AO N a b c = some (decide (b <= a) && decide (a <= c)) := rfl
theorem Om (b : UInt8) : W64 (b.toNat : Int) = (b.toNat : Int) := by
 have := b.toNat_lt
 exact EW (by omega) (by omega)
theorem R5 (b : UInt8) : Oe b = ((decide (65 <= (b.toNat : Int)) && decide ((b.toNat : Int) <= 90)) || ((decide (48 <= (b.toNat : Int)) && decide ((b.toNat : Int) <= 57)) || ((b.toNat : Int) == 47))) := by
 have e1 : isL b = (decide (65 <= (b.toNat : Int)) && decide ((b.toNat : Int) <= 90)) := by
  unfold isL; congr 1 <;> (rw [decide_eq_decide]; omega)
 have e2 : isD b = (decide (48 <= (b.toNat : Int)) && decide ((b.toNat : Int) <= 57)) := by
  unfold isD; congr 1 <;> (rw [decide_eq_decide]; omega)
 have e3 : (b == 47) = ((b.toNat : Int) == 47) := by
  rw [Bool.eq_iff_iff, beq_iff_eq, beq_iff_eq]
  constructor
  ·rintro rfl; rfl
  ·intro h
   have : b.toNat = 47 := by omega
   exact UInt8.toNat_inj.1 this
 unfold Oe
 rw [e1, e2, e3, Bool.or_assoc]
theorem RM (s : T2) (hs : s.length < 4000000000) (hN : 4294967300 < N) : Gd N s = some (Gi s) := by
 unfold Gd
 rw [lw, Option.bind_some, show (decide ((1 : Int) <= (s.length : Int)) && decide ((s.length : Int) <= (16 : Int))) = wiB s.length 1 16 from FU _ 1 16]
 have h := KP (body := Dc N s (wiB s.length 1 16)) (fun i => (wiB s.length 1 16 && (s.take i).all Oe, (i : Int))) (o := .done (Gi s, (s.length : Int))) s.length (fun i hi => by
  unfold Dc
  simp only
  rw [Lr hi, cond_true, NL hi, Option.bind_some, NG i (by omega), Om, List.take_add_one, List.getElem?_eq_getElem hi, List.all_append]
  simp only [Option.toList_some, List.all_cons, List.all_nil, Bool.and_true]
  rw [R5 s[i], <- Bool.and_assoc]
  cases wiB s.length 1 16 && (s.take i).all Oe with
  | false => rfl
  | true =>
   rw [cond_true, lw, Option.bind_some, lw]
   cases (decide (65 <= (s[i].toNat : Int)) && decide ((s[i].toNat : Int) <= 90)) with
   | true => rfl
   | false =>
    rw [cond_false, Option.bind_some]
    cases (decide (48 <= (s[i].toNat : Int)) && decide ((s[i].toNat : Int) <= 57)) with
    | true => rfl
    | false => rfl) (by
  unfold Dc
  simp only
  rw [I3, cond_false, List.take_length]
  rfl) (fun s' h => by cases h) (N := N) (by omega)
 rw [show (wiB s.length 1 16, (0 : Int)) = (wiB s.length 1 16 && (s.take 0).all Oe, ((0 : Nat) : Int)) by simp, h]
 rfl
def OV (x : Line) : Prop := x.Call.length < 4000000000
theorem Sn (o : Ac) (x : Line) : Cc o x = ((decide (1 <= x.Num) && decide (x.Num <= 65535)) && ((decide (1 <= x.Khz) && decide (x.Khz <= 10000000)) && ((decide (1 <= x.Mode) && decide (x.Mode <= 3)) && ((decide (0 <= x.Minute) && decide (x.Minute <= 20000)) && (Gi x.Call && (Cs o x.Sent && Cs o x.Got)))))) := by
 unfold Cc
 simp only [Bool.decide_and]
theorem Po (o : Ac) (x : Line) (hx : OV x) (hN : 4294967300 < N) : BQ N o x = some (Cc o x) := by
 unfold BQ
 rw [Sn, lw, lw, lw, lw, RM x.Call hx hN]
 simp only [Option.bind_some]
 rw [K5 _ _ hN, K5 _ _ hN]
 simp only [Option.bind_some]
 show _ = some _
 generalize (decide (1 <= x.Num) && decide (x.Num <= 65535)) = a
 generalize (decide (1 <= x.Khz) && decide (x.Khz <= 10000000)) = b
 generalize (decide (1 <= x.Mode) && decide (x.Mode <= 3)) = c
 generalize (decide (0 <= x.Minute) && decide (x.Minute <= 20000)) = d
 generalize Gi x.Call = e
 cases a <;> cases b <;> cases c <;> cases d <;> cases e <;> first | rfl | (simp only [cond_true, cond_false, Bool.true_and]; cases Cs o x.Sent <;> rfl)
end
end
def I4 (N : Nat) (x0 : Log) : Option T2 :=
 ((Dn ([67, 65, 76, 76, 32] : T2) x0.Call).bind fun r24 => some r24)
theorem KD : Ag Tryz.prog 154 := fun _ _ => by kernel_rfl
theorem L0 (N : Nat) (w0 : World) (F0 : Mem) (hF : T4 w0 F0) (x0 : Log) (a0_4 : T3) (n0_4 : Nat) (hb0_4 : LC x0.Jumps.length n0_4) (hs0_4 : SlA AG F0 a0_4 x0.Jumps) (a0_5 : T3) (n0_5 : Nat) (hb0_5 : LC x0.Lines.length n0_5) (hs0_5 : SlA AD F0 a0_5 x0.Lines) (r : T2) (h : I4 N x0 = some r) :
  Calls Tryz.prog 154 ([(.agg (AK x0 a0_4 n0_4 a0_5 n0_5))] : List Value).toArray w0 (Az w0 F0 fun F' v => v = (sv r)) := by
 have hs0 := TJ hF
 refine Go 6 Tryz.func154 <| Sq (Rg [0, 1] ?_)
 refine Bx' 27 (AK x0 a0_4 n0_4 a0_5 n0_5) hs0 (fun b21 w22 hs23 => ?_)
 refine Vs 1 <| Nss (Rg (rG 4) ?_)
 refine Vs 1 <| Ld hs23.at0 ?_
 obtain ⟨r24, hr25, h26⟩ := bind_some h
 refine V 5 9 (AU (t := 9) (t' := 9) (x := (.const (sv ([67, 65, 76, 76, 32] : T2)))) (y := (.tmp 4)) (a := ([67, 65, 76, 76, 32] : T2)) (b := x0.Call) (v := r24) rfl rfl hr25) <| Vs 1 <| Nt <| Rt ?_
 obtain rfl := Aa h26
 exact Re [(sv r24)] hs23 rfl
def EM (N : Nat) (x0 : Log) : (T2 × Int) -> Option (BE T2 (T2 × Int)) := fun s27 =>
 (bif (decide (s27.2 < (x0.Jumps.length : Int))) then none else some (.done (s27.1, s27.2)))
def Gy (N : Nat) (x0 : Log) : Option T2 :=
 ((A6 (EM N x0) N (([74, 85, 77, 80, 83] : T2), 0)).bind fun o => o.k (fun r => some r) (fun s36 => some s36.1))
theorem IA : Ag Tryz.prog 160 := fun _ _ => by kernel_rfl
theorem Jn (N : Nat) (w0 : World) (F0 : Mem) (hF : T4 w0 F0) (hG : Bl F0) (x0 : Log) (a0_4 : T3) (n0_4 : Nat) (hb0_4 : LC x0.Jumps.length n0_4) (hs0_4 : SlA AG F0 a0_4 x0.Jumps) (a0_5 : T3) (n0_5 : Nat) (hb0_5 : LC x0.Lines.length n0_5) (hs0_5 : SlA AD F0 a0_5 x0.Lines) (r : T2) (h : Gy N x0 = some r) :
  Calls Tryz.prog 160 ([(.agg (AK x0 a0_4 n0_4 a0_5 n0_5))] : List Value).toArray w0 (Az w0 F0 fun F' v => v = (sv r)) := by
 have hs0 := TJ hF
 refine Go 20 Tryz.func160 <| Sq (Rg [0, 1] ?_)
 refine Bx' 27 (AK x0 a0_4 n0_4 a0_5 n0_5) hs0 (fun b21 w22 hs23 => ?_)
 refine Vs 1 <| Nss (Rg [0] ?_)
 refine Vs 1 <| Nss <| Sq (Rg (rG 4) ?_)
 refine Vs 1 <| Ld hs23.at0 <| Vs 2 <| Nt ?_
 obtain ⟨o24, ho25, h26⟩ := bind_some h
 refine TO (fun f w => ∃ (s36 : (T2 × Int)) (F2 : Mem), o24 = .done s36 /\ HS w0 F0 w F2 [] /\ TH F0 F2 /\ FI f [] [(3, (sv s36.1))]) ?_ ?_
 ·refine Bk ?_
  refine TG (by kernel_rfl) (fun m f w => ∃ (s27 : (T2 × Int)) (F1 : Mem), A6 (EM N x0) m s27 = some o24 /\ HS w0 F0 w F1 [] /\ TH F0 F1 /\ FI f [] [(3, (sv s27.1)), (7, (.slice a0_4 x0.Jumps.length n0_4)), (8, (vi (x0.Jumps.length : Int))), (9, (vi s27.2))]) N ⟨(([74, 85, 77, 80, 83] : T2), 0), F0, ho25, hs23.dr0, (TI _), fI⟩ ?_
  rintro m42 f w28 ⟨s27, F1, hit43, hs29, le30, ⟨_, rfl⟩⟩
  obtain ⟨m44, fl45, rfl, hb46, hnx47⟩ := AQ hit43
  refine Sq (Rg [0] ?_)
  refine Vs 1 <| Nss <| Cd hb46 (fun hb48 h49 => ?_) (fun hb48 h50 => ?_)
  ·cases h49
  ·refine Ex ?_
   refine Au <| Au <| AA rfl ?_
   have ho51 := AR h50 hnx47
   exact .inl ⟨rfl, (s27.1, s27.2), F1, ho51, hs29, le30, fI⟩
 ·rintro f w37 ⟨s36, F2, rfl, hs38, le39, ⟨_, rfl⟩⟩
  have h52 := BN h26
  refine Ab <| Sq (Rg [0, 1] ?_)
  refine Vs 2 <| Nt <| Rt ?_
  obtain rfl := Aa h52
  exact Re [(sv s36.1)] hs38 rfl
def BR (N : Nat) (x0 : Ac) (x1 : Line) : Option (T2 × Int) :=
 ((BQ N ({ Report := x0.Report, Serial := x0.Serial, Zone := x0.Zone } : Ac) x1).bind fun r27 => (bif (!r27) then some (([] : T2), 1) else ((Cb N x1.Minute).bind fun r38 => ((A5 N ({ Report := x0.Report, Serial := x0.Serial, Zone := x0.Zone } : Ac) ({ Report := x1.Sent.Report, Serial := x1.Sent.Serial, Zone := x1.Sent.Zone } : Ad)).bind fun r46 => ((A5 N ({ Report := x0.Report, Serial := x0.Serial, Zone := x0.Zone } : Ac) ({ Report := x1.Got.Report, Serial := x1.Got.Serial, Zone := x1.Got.Zone } : Ad)).bind fun r54 => (((K0 ([32, 77, 86, 68] : T2) x1.Mode (W64 (x1.Mode + 1))).bind fun r73 => ((strconv_Itoa N x1.Num).bind fun r76 => ((strconv_Itoa N x1.Khz).bind fun r84 => ((strings_Join N ([([81, 83, 79] : T2), r76, r84, r73, r38.1, x1.Call, ([62] : T2), r46.1, ([60] : T2), r54.1]) ([32] : T2)).bind fun r101 => some r101)))).bind fun j67 => some (j67, 0)))))))
theorem CI : Ag Tryz.prog 27 := fun _ _ => by kernel_rfl
theorem CZ (N : Nat) (w0 : World) (F0 : Mem) (hF : T4 w0 F0) (hG : Bl F0) (x0 : Ac) (x1 : Line) (r : (T2 × Int)) (h : BR N x0 x1 = some r) :
  Calls Tryz.prog 27 ([(.agg (Ai x0)), (.agg (BI x1))] : List Value).toArray w0 (Az w0 F0 fun F' v => v = (.tuple #[(sv r.1), (vi r.2)])) := by
 have hs0 := TJ hF
 refine Go 55 Tryz.func27 <| Sq (Rg (rG 4) ?_)
 refine Bx' 23 (Ai x0) hs0 (fun b21 w22 hs23 => ?_)
 refine Bx' 34 (BI x1) hs23 (fun b24 w25 hs26 => ?_)
 refine Vs 2 <| Nss <| Sq (Rg (rG 4) ?_)
 refine Ld hs26.at1 <| Ld hs26.at0 ?_
 obtain ⟨r27, hr28, h29⟩ := bind_some h
 refine Cl' DK hs26 (D3 N w25 F0 hs26.pers (({ Report := x0.Report, Serial := x0.Serial, Zone := x0.Zone } : Ac)) x1 _ hr28) ?_
 rintro _ F1 w31 hs32 le33 rfl
 refine Vs 1 <| Nt <| Cd h29 (fun hb35 h36 => ?_) (fun hb35 h37 => ?_)
 ·refine Sq (Rg [0, 1] ?_)
  refine Vs 2 <| Nt <| Rt <| Am ?_
  obtain rfl := Aa h36
  exact Re [(sv (([] : T2))), (vi 1)] hs32 rfl
 ·refine Sc ?_
  refine Ab <| Sq (Rg (rG 8) ?_)
  refine Vs 1 <| Ld hs32.at0 ?_
  obtain ⟨r38, hr39, h40⟩ := bind_some h37
  refine Cl' FQ hs32 (GK N w31 F1 hs32.pers (hG.mono le33) x1.Minute _ hr39) ?_
  rintro _ F2 w42 hs43 le44 rfl
  refine Vs 5 <| Nss (Rg (rG 9) ?_)
  refine Ld hs43.at1 <| Vs 1 <| Ld hs43.at0 ?_
  obtain ⟨r46, hr47, h48⟩ := bind_some h40
  refine Cl' CO hs43 (C8 N w42 F2 hs43.pers (hG.mono (le33.t le44)) (({ Report := x0.Report, Serial := x0.Serial, Zone := x0.Zone } : Ac)) (({ Report := x1.Sent.Report, Serial := x1.Sent.Serial, Zone := x1.Sent.Zone } : Ad)) _ hr47) ?_
  rintro _ F3 w50 hs51 le52 rfl
  refine Vs 5 <| Nss (Rg (rG 9) ?_)
  refine Ld hs51.at1 <| Vs 1 <| Ld hs51.at0 ?_
  obtain ⟨r54, hr55, h56⟩ := bind_some h48
  refine Cl' CO hs51 (C8 N w50 F3 hs51.pers (hG.mono ((le33.t le44).trans le52)) (({ Report := x0.Report, Serial := x0.Serial, Zone := x0.Zone } : Ac)) (({ Report := x1.Got.Report, Serial := x1.Got.Serial, Zone := x1.Got.Zone } : Ad)) _ hr55) ?_
  rintro _ F4 w58 hs59 le60 rfl
  refine Vs 5 <| Nss ?_
  obtain ⟨j67, hj71, h72⟩ := bind_some h56
  refine RD 21 21 [(sb b24 (BI x1) 34), (sb b21 (Ai x0) 23)] [] hs59 (fun f w => ∃ (F5 : Mem), HS w0 F0 w F5 [] /\ TH F4 F5 /\ FI f [] [(4, (sv j67)), (5, (vi 0))]) (fun wd62 hw63 => ?_) ?_
  ·refine Dvl [0] (tf 1 20) ?_
   refine Dl 1 (fun _ hq => (hq.1.2 0 _ _ rfl)) <| Dvl [3] [tt, tt, ff, tt, ff, ff, ff, ff, ff, ff, ff, ff, ff, ff, ff, ff, ff, ff, ff, ff, ff] <| Dl 4 (fun _ hq => (hq.1.2 0 _ _ rfl)) <| Dvl [6] [tt, tt, ff, tt, tt, ff, tt, ff, ff, ff, ff, ff, ff, ff, ff, ff, ff, ff, ff, ff, ff] <| Dl 7 (fun _ hq => (hq.1.2 0 _ _ rfl)) <| Dvl [8] [tt, tt, ff, tt, tt, ff, tt, tt, tt, ff, ff, ff, ff, ff, ff, ff, ff, ff, ff, ff, ff] <| Dl 9 (fun _ hq => (hq.1.2 0 _ _ rfl)) <| Dvl [10] [tt, tt, ff, tt, tt, ff, tt, tt, tt, tt, tt, ff, ff, ff, ff, ff, ff, ff, ff, ff, ff] ?_
   obtain ⟨r73, hr74, h75⟩ := bind_some hj71
   refine Dtl 11 47 9 (sv r73) [tt, tt, ff, tt, tt, ff, tt, tt, tt, tt, tt, tt, ff, ff, ff, ff, ff, ff, ff, ff, ff] (fun _ hq => IU (t := 9) (x := (.const (sv ([32, 77, 86, 68] : T2)))) (lo := (some (.tmp 43))) (hi := (some (.tmp 46))) (a := ([32, 77, 86, 68] : T2)) (il := x1.Mode) (ih := (W64 (x1.Mode + 1))) (v := r73) rfl (by kernel_rfl) rfl rfl hr74) <| Dvl [12, 13] [tt, tt, ff, tt, tt, ff, tt, tt, tt, tt, tt, tt, tt, tt, ff, ff, ff, ff, ff, ff, ff] <| Dl 14 (fun _ hq => (hq.1.2 0 _ _ rfl)) <| Dvl [15, 16] [tt, tt, ff, tt, tt, ff, tt, tt, tt, tt, tt, tt, tt, tt, tt, tt, tt, ff, ff, ff, ff] <| D1 2 ?_
   obtain ⟨r76, hr77, h78⟩ := bind_some h75
   refine DCl Bw hw63 (BG N wd62 F4 hw63.pers (hG.mono (((le33.t le44).trans le52).trans le60)) x1.Num _ hr77) ?_
   rintro _ F6 w80 hs81 le82 rfl
   refine D1 5 ?_
   obtain ⟨r84, hr85, h86⟩ := bind_some h78
   refine DCl Bw hs81 (BG N w80 F6 hs81.pers (hG.mono ((((le33.t le44).trans le52).trans le60).trans le82)) x1.Khz _ hr85) ?_
   rintro _ F7 w88 hs89 le90 rfl
   refine D1 17 <| DBs 9 [(sv (([81, 83, 79] : T2))), (sv r76), (sv r84), (sv r73), (sv r38.1), (sv x1.Call), (sv (([62] : T2))), (sv r46.1), (sv (([60] : T2))), (sv r54.1)] hs89 (le82.t le90) (fun b92 w93 hs94 => ?_)
   have hr96 : Ar AH 9 F7 (some ⟨b92, 0, none⟩) 10 [([81, 83, 79] : T2), r76, r84, r73, r38.1, x1.Call, ([62] : T2), r46.1, ([60] : T2), r54.1] (some b92, .cells ([(sv (([81, 83, 79] : T2))), (sv r76), (sv r84), (sv r73), (sv r38.1), (sv x1.Call), (sv (([62] : T2))), (sv r46.1), (sv (([60] : T2))), (sv r54.1)] : List Value).toArray 9 (0, 0)) := TX ⟨rfl, ⟨rfl, ⟨rfl, ⟨rfl, ⟨rfl, ⟨rfl, ⟨rfl, ⟨rfl, ⟨rfl, ⟨rfl, rfl⟩⟩⟩⟩⟩⟩⟩⟩⟩⟩ (by simp)
   refine D1 18 ?_
   have hb100 := TV hr96
   obtain ⟨F8, hs97, le98, hs99⟩ := hs94.fr0 hr96
   obtain ⟨r101, hr102, h103⟩ := bind_some h86
   refine DCl B1 hs97 (Ck N w93 F8 hs97.pers ([([81, 83, 79] : T2), r76, r84, r73, r38.1, x1.Call, ([62] : T2), r46.1, ([60] : T2), r54.1]) (some ⟨b92, 0, none⟩) 10 hb100 hs99 (([32] : T2)) _ hr102) ?_
   rintro _ F9 w105 hs106 le107 rfl
   refine Dvl [19, 20] (tf 21 0) ?_
   obtain rfl := Aa h103
   exact TU (by kernel_rfl) ⟨F9, hs106.dr0.dr0, (((le82.t le90).trans le98).trans le107), fI⟩
  ·rintro f w64 ⟨F5, hs65, le66, ⟨_, rfl⟩⟩
   refine Ab <| Rt ?_
   obtain rfl := Aa h72
   exact Re [(sv j67), (vi 0)] hs65 rfl
theorem JM : Ag Tryz.prog 156 := fun _ _ => by kernel_rfl
set_option maxRecDepth 100000 in
theorem LZ (w0 : World) (F0 : Mem) (hF : T4 w0 F0) (b o : Nat) : Calls Tryz.prog 156 ([(.pointer (some ⟨b, o, none⟩))] : List Value).toArray w0 (Az w0 F0 fun _ v => v = .pointer (some ⟨b, o + 1, none⟩)) := by
 have hs0 := TJ hF
 refine Go 6 Tryz.func156 <| Sq <| Rg [0] <| V 2 194 (FX (x := .const (.pointer none)) (v := .pointer none) rfl) <| TD <| Ab <| Sq <| Rg [0, 1, 2, 3] <| Vs 2 <| V 5 0 (CC (s := 27) (x := .tmp 4) (i := 1) (b := b) (o0 := o) (o := 1) (k := 1) rfl (by kernel_rfl) (by decide) rfl) <| Vs 1 <| TD <| Ab <| Rt ?_
 exact Re [(.pointer (some ⟨b, o + 1, none⟩))] hs0 rfl
theorem JL : Ag Tryz.prog 157 := fun _ _ => by kernel_rfl
set_option maxRecDepth 100000 in
theorem LY (w0 : World) (F0 : Mem) (hF : T4 w0 F0) (b o : Nat) : Calls Tryz.prog 157 ([(.pointer (some ⟨b, o, none⟩))] : List Value).toArray w0 (Az w0 F0 fun _ v => v = .pointer (some ⟨b, o + 2, none⟩)) := by
 have hs0 := TJ hF
 refine Go 6 Tryz.func157 <| Sq <| Rg [0] <| V 2 194 (FX (x := .const (.pointer none)) (v := .pointer none) rfl) <| TD <| Ab <| Sq <| Rg [0, 1, 2, 3] <| Vs 2 <| V 5 0 (CC (s := 27) (x := .tmp 4) (i := 2) (b := b) (o0 := o) (o := 2) (k := 1) rfl (by kernel_rfl) (by decide) rfl) <| Vs 1 <| TD <| Ab <| Rt ?_
 exact Re [(.pointer (some ⟨b, o + 2, none⟩))] hs0 rfl
theorem JK : Ag Tryz.prog 158 := fun _ _ => by kernel_rfl
set_option maxRecDepth 100000 in
theorem LX (w0 : World) (F0 : Mem) (hF : T4 w0 F0) (b o : Nat) : Calls Tryz.prog 158 ([(.pointer (some ⟨b, o, none⟩))] : List Value).toArray w0 (Az w0 F0 fun _ v => v = .pointer (some ⟨b, o + 3, none⟩)) := by
 have hs0 := TJ hF
 refine Go 6 Tryz.func158 <| Sq <| Rg [0] <| V 2 194 (FX (x := .const (.pointer none)) (v := .pointer none) rfl) <| TD <| Ab <| Sq <| Rg [0, 1, 2, 3] <| Vs 2 <| V 5 0 (CC (s := 27) (x := .tmp 4) (i := 3) (b := b) (o0 := o) (o := 3) (k := 1) rfl (by kernel_rfl) (by decide) rfl) <| Vs 1 <| TD <| Ab <| Rt ?_
 exact Re [(.pointer (some ⟨b, o + 3, none⟩))] hs0 rfl
def FH (N : Nat) (x0 : Log) (z0 : T2) : Option T2 :=
 (((Dn z0 ([32] : T2)).bind fun r34 => ((strconv_Itoa N x0.Category).bind fun r40 => ((Dn r34 r40).bind fun r48 => some r48))).bind fun j29 => some j29)
theorem HN : Ag Tryz.prog 191 := fun _ _ => by kernel_rfl
theorem IF (N : Nat) (w0 : World) (F0 : Mem) (hF : T4 w0 F0) (hG : Bl F0) (x0 : Log) (a0_4 : T3) (n0_4 : Nat) (hb0_4 : LC x0.Jumps.length n0_4) (hs0_4 : SlA AG F0 a0_4 x0.Jumps) (a0_5 : T3) (n0_5 : Nat) (hb0_5 : LC x0.Lines.length n0_5) (hs0_5 : SlA AD F0 a0_5 x0.Lines) (bz0 : Nat) (z0 : T2) (hz0 : F0 bz0 = some (oc #[(sv z0)] 9)) (bz1 : Nat) (hz1 : F0 bz1 = some (oc #[(fV 156 #[])] 195)) (r : T2) (h : FH N x0 z0 = some r) :
  Calls Tryz.prog 191 ([(.agg (AK x0 a0_4 n0_4 a0_5 n0_5)), (pt bz0 0), (pt bz1 0)] : List Value).toArray w0 (Az w0 F0 fun F' v => v = (sv r)) := by
 have hs0 := TJ hF
 refine Go 13 Tryz.func191 <| Sq (Rg [0, 1] ?_)
 refine Bx' 27 (AK x0 a0_4 n0_4 a0_5 n0_5) hs0 (fun b21 w22 hs23 => ?_)
 refine Vs 1 <| Nss ?_
 obtain ⟨j29, hj32, h33⟩ := bind_some h
 refine RD 9 9 [(sb b21 (AK x0 a0_4 n0_4 a0_5 n0_5) 27)] [] hs23 (fun f w => ∃ (F1 : Mem), HS w0 F0 w F1 [] /\ TH F0 F1 /\ FI f [] [(4, (sv j29))]) (fun wd24 hw25 => ?_) ?_
 ·refine Dl 0 (fun _ hq => (hq.1.1 _ _ hz0)) ?_
  obtain ⟨r34, hr35, h36⟩ := bind_some hj32
  refine Dt 1 6 9 (sv r34) (fun _ hq => AU (t := 9) (t' := 9) (x := (.tmp 5)) (y := (.const (sv ([32] : T2)))) (a := z0) (b := ([32] : T2)) (v := r34) rfl rfl hr35) <| Dl 2 (fun _ hq => (hq.1.1 _ _ hz1)) <| D1 3 <| DCl JM hw25 (LZ wd24 F0 hw25.pers b21 0) ?_
  rintro _ F2 w37 hs38 le39 rfl
  refine Dv [4] <| Dl 5 (fun _ hq => (hq.1.2 0 _ _ rfl)) <| D1 6 ?_
  obtain ⟨r40, hr41, h42⟩ := bind_some h36
  refine DCl Bw hs38 (BG N w37 F2 hs38.pers (hG.mono le39) x0.Category _ hr41) ?_
  rintro _ F3 w44 hs45 le46 rfl
  obtain ⟨r48, hr49, h50⟩ := bind_some h42
  refine Dt 7 12 9 (sv r48) (fun _ hq => AU (t := 9) (t' := 9) (x := (.tmp 6)) (y := (.tmp 11)) (a := r34) (b := r40) (v := r48) rfl rfl hr49) <| Dv [8] ?_
  obtain rfl := Aa h50
  exact TU (by kernel_rfl) ⟨F3, hs45.dr0, (le39.t le46), fI⟩
 ·rintro f w26 ⟨F1, hs27, le28, ⟨_, rfl⟩⟩
  refine Ab <| Rt ?_
  obtain rfl := Aa h33
  exact Re [(sv j29)] hs27 rfl
def FF (N : Nat) (x0 : Log) (z0 : T2) : Option T2 :=
 (((Dn z0 ([32] : T2)).bind fun r34 => ((strconv_Itoa N x0.Power).bind fun r40 => ((Dn r34 r40).bind fun r48 => some r48))).bind fun j29 => some j29)
theorem HL : Ag Tryz.prog 191 := fun _ _ => by kernel_rfl
theorem ID (N : Nat) (w0 : World) (F0 : Mem) (hF : T4 w0 F0) (hG : Bl F0) (x0 : Log) (a0_4 : T3) (n0_4 : Nat) (hb0_4 : LC x0.Jumps.length n0_4) (hs0_4 : SlA AG F0 a0_4 x0.Jumps) (a0_5 : T3) (n0_5 : Nat) (hb0_5 : LC x0.Lines.length n0_5) (hs0_5 : SlA AD F0 a0_5 x0.Lines) (bz0 : Nat) (z0 : T2) (hz0 : F0 bz0 = some (oc #[(sv z0)] 9)) (bz1 : Nat) (hz1 : F0 bz1 = some (oc #[(fV 157 #[])] 195)) (r : T2) (h : FF N x0 z0 = some r) :
  Calls Tryz.prog 191 ([(.agg (AK x0 a0_4 n0_4 a0_5 n0_5)), (pt bz0 0), (pt bz1 0)] : List Value).toArray w0 (Az w0 F0 fun F' v => v = (sv r)) := by
 have hs0 := TJ hF
 refine Go 13 Tryz.func191 <| Sq (Rg [0, 1] ?_)
 refine Bx' 27 (AK x0 a0_4 n0_4 a0_5 n0_5) hs0 (fun b21 w22 hs23 => ?_)
 refine Vs 1 <| Nss ?_
 obtain ⟨j29, hj32, h33⟩ := bind_some h
 refine RD 9 9 [(sb b21 (AK x0 a0_4 n0_4 a0_5 n0_5) 27)] [] hs23 (fun f w => ∃ (F1 : Mem), HS w0 F0 w F1 [] /\ TH F0 F1 /\ FI f [] [(4, (sv j29))]) (fun wd24 hw25 => ?_) ?_
 ·refine Dl 0 (fun _ hq => (hq.1.1 _ _ hz0)) ?_
  obtain ⟨r34, hr35, h36⟩ := bind_some hj32
  refine Dt 1 6 9 (sv r34) (fun _ hq => AU (t := 9) (t' := 9) (x := (.tmp 5)) (y := (.const (sv ([32] : T2)))) (a := z0) (b := ([32] : T2)) (v := r34) rfl rfl hr35) <| Dl 2 (fun _ hq => (hq.1.1 _ _ hz1)) <| D1 3 <| DCl JL hw25 (LY wd24 F0 hw25.pers b21 0) ?_
  rintro _ F2 w37 hs38 le39 rfl
  refine Dv [4] <| Dl 5 (fun _ hq => (hq.1.2 0 _ _ rfl)) <| D1 6 ?_
  obtain ⟨r40, hr41, h42⟩ := bind_some h36
  refine DCl Bw hs38 (BG N w37 F2 hs38.pers (hG.mono le39) x0.Power _ hr41) ?_
  rintro _ F3 w44 hs45 le46 rfl
  obtain ⟨r48, hr49, h50⟩ := bind_some h42
  refine Dt 7 12 9 (sv r48) (fun _ hq => AU (t := 9) (t' := 9) (x := (.tmp 6)) (y := (.tmp 11)) (a := r34) (b := r40) (v := r48) rfl rfl hr49) <| Dv [8] ?_
  obtain rfl := Aa h50
  exact TU (by kernel_rfl) ⟨F3, hs45.dr0, (le39.t le46), fI⟩
 ·rintro f w26 ⟨F1, hs27, le28, ⟨_, rfl⟩⟩
  refine Ab <| Rt ?_
  obtain rfl := Aa h33
  exact Re [(sv j29)] hs27 rfl
def FG (N : Nat) (x0 : Log) (z0 : T2) : Option T2 :=
 (((Dn z0 ([32] : T2)).bind fun r34 => ((strconv_Itoa N x0.Claimed).bind fun r40 => ((Dn r34 r40).bind fun r48 => some r48))).bind fun j29 => some j29)
theorem HM : Ag Tryz.prog 191 := fun _ _ => by kernel_rfl
theorem IE (N : Nat) (w0 : World) (F0 : Mem) (hF : T4 w0 F0) (hG : Bl F0) (x0 : Log) (a0_4 : T3) (n0_4 : Nat) (hb0_4 : LC x0.Jumps.length n0_4) (hs0_4 : SlA AG F0 a0_4 x0.Jumps) (a0_5 : T3) (n0_5 : Nat) (hb0_5 : LC x0.Lines.length n0_5) (hs0_5 : SlA AD F0 a0_5 x0.Lines) (bz0 : Nat) (z0 : T2) (hz0 : F0 bz0 = some (oc #[(sv z0)] 9)) (bz1 : Nat) (hz1 : F0 bz1 = some (oc #[(fV 158 #[])] 195)) (r : T2) (h : FG N x0 z0 = some r) :
  Calls Tryz.prog 191 ([(.agg (AK x0 a0_4 n0_4 a0_5 n0_5)), (pt bz0 0), (pt bz1 0)] : List Value).toArray w0 (Az w0 F0 fun F' v => v = (sv r)) := by
 have hs0 := TJ hF
 refine Go 13 Tryz.func191 <| Sq (Rg [0, 1] ?_)
 refine Bx' 27 (AK x0 a0_4 n0_4 a0_5 n0_5) hs0 (fun b21 w22 hs23 => ?_)
 refine Vs 1 <| Nss ?_
 obtain ⟨j29, hj32, h33⟩ := bind_some h
 refine RD 9 9 [(sb b21 (AK x0 a0_4 n0_4 a0_5 n0_5) 27)] [] hs23 (fun f w => ∃ (F1 : Mem), HS w0 F0 w F1 [] /\ TH F0 F1 /\ FI f [] [(4, (sv j29))]) (fun wd24 hw25 => ?_) ?_
 ·refine Dl 0 (fun _ hq => (hq.1.1 _ _ hz0)) ?_
  obtain ⟨r34, hr35, h36⟩ := bind_some hj32
  refine Dt 1 6 9 (sv r34) (fun _ hq => AU (t := 9) (t' := 9) (x := (.tmp 5)) (y := (.const (sv ([32] : T2)))) (a := z0) (b := ([32] : T2)) (v := r34) rfl rfl hr35) <| Dl 2 (fun _ hq => (hq.1.1 _ _ hz1)) <| D1 3 <| DCl JK hw25 (LX wd24 F0 hw25.pers b21 0) ?_
  rintro _ F2 w37 hs38 le39 rfl
  refine Dv [4] <| Dl 5 (fun _ hq => (hq.1.2 0 _ _ rfl)) <| D1 6 ?_
  obtain ⟨r40, hr41, h42⟩ := bind_some h36
  refine DCl Bw hs38 (BG N w37 F2 hs38.pers (hG.mono le39) x0.Claimed _ hr41) ?_
  rintro _ F3 w44 hs45 le46 rfl
  obtain ⟨r48, hr49, h50⟩ := bind_some h42
  refine Dt 7 12 9 (sv r48) (fun _ hq => AU (t := 9) (t' := 9) (x := (.tmp 6)) (y := (.tmp 11)) (a := r34) (b := r40) (v := r48) rfl rfl hr49) <| Dv [8] ?_
  obtain rfl := Aa h50
  exact TU (by kernel_rfl) ⟨F3, hs45.dr0, (le39.t le46), fI⟩
 ·rintro f w26 ⟨F1, hs27, le28, ⟨_, rfl⟩⟩
  refine Ab <| Rt ?_
  obtain rfl := Aa h33
  exact Re [(sv j29)] hs27 rfl
section
open Go.Proofs Go.Lib
def Ri (a : T3) (cap : Nat) (t : T2) (e : Option Nat × Obj) : Prop :=
 (a = none /\ cap = 0 /\ t = [] /\ e.1 = none) \/ ∃ g cur, a = some ⟨g, 0, none⟩ /\ e = (some g, .cells cur 5 (0, 0)) /\ t ≠ [] /\ t.length <= cap /\ cap <= maxLen /\ cur.size = cap /\ cur.toList.take t.length = byteCells t
def IK (t s : T2) : Option T2 := if t.length + s.length <= 140737488355328 then some (t ++ s) else none
theorem PZ {t s r : T2} (h : IK t s = some r) : t.length + s.length <= 140737488355328 /\ r = t ++ s := by
 unfold IK at h; split at h
 ·rename_i h1; exact ⟨h1, by cases h; rfl⟩
 ·cases h
section
variable {w w0 : World} {F0 F : Mem} {L : Own}
theorem DQ (l : T2) : (byteCells l).length = l.length := by simp [byteCells]
theorem Q6 (l m : T2) : byteCells (l ++ m) = byteCells l ++ byteCells m := by simp [byteCells]
theorem Ow {g : Nat} {cur cs : Array Value} {e : TypeId} {fz : Nat × Nat} (hg : w.heap[g]? = some (.cells cur e fz)) : w.setRow g cs = BV w g (.cells cs e fz) := by
 have hlt : g < w.heap.size := (Array.getElem?_eq_some_iff.1 hg).1
 have hv : w.heap[g] = .cells cur e fz := (Array.getElem?_eq_some_iff.1 hg).2
 unfold World.setRow BV
 congr 1
 apply Array.ext_getElem?
 intro i
 rw [Array.getElem?_modify, Array.getElem?_setIfInBounds]
 by_cases hi : g = i
 ·subst hi; simp [hlt, hv]
 ·simp [hi]
theorem La {ty : TypeId} (hs : HS w0 F0 w F L) {k : Nat} {e : Option Nat × Obj} (hk : L[k]? = some e) {a : T3} {cap : Nat} {t s r : T2} (hr : Ri a cap t e) (hap : IK t s = some r) :
  ∃ a' cap' e' w', (Builtin.append_ #[103, 9] ty #[.slice a t.length cap, .string ⟨s.toArray⟩]).run Tryz.prog w = .ok (.slice a' r.length cap') w' /\ HS w0 F0 w' F (L.set k e') /\ Ri a' cap' r e' := by
 obtain ⟨hlen, rfl⟩ := PZ hap
 have hu9 : Tryz.prog.underlying 9 = some .string := Tryz.underlying9
 have hu42 : Tryz.prog.underlying 103 = some (.slice 5) := Tryz.underlying103
 obtain ⟨i0, hi, hz0, hz1, hz2⟩ := info_parts (show (Tryz.prog.info? 5).map (fun i => (i.zero, i.size, i.bytes)) = some (some (.int .u8 0), 1, 1) by kernel_rfl)
 have hss : (⟨s.toArray⟩ : ByteArray).size = s.length := by simp [ByteArray.size]
 have hsc : strCells ⟨s.toArray⟩ = byteCells s := by simp [strCells, byteCells]
 have hm : maxLen = 9223372036854775807 := rfl
 rcases hr with ⟨rfl, rfl, rfl, he⟩ | ⟨g, cur, rfl, rfl, hne, hlc, hcm, hcs, htk⟩
 ·by_cases h0 : s = []
  ·subst h0
   refine ⟨none, 0, e, w, ?_, by rw [K3 hk]; exact hs, .inl ⟨rfl, rfl, rfl, he⟩⟩
   simp [Builtin.append_, run_underlying hu42, run_underlying hu9, sizeOf, typeInfo, hi, hz1, Builtin.lenOf, Builtin.firstCells, ByteArray.size]
  ·have hpos : 0 < s.length := List.length_pos_iff.2 h0
   have hrun := run_append_nil_string (P := Tryz.prog) w 103 9 ty 5 i0 (.int .u8 0) hu42 hu9 hi hz0 ⟨s.toArray⟩ (by rw [hss]; exact hpos) (by rw [hss]; simp at hlen; omega) (by rw [hss, hz2]; simp at hlen; omega)
   rw [hss] at hrun
   refine ⟨_, _, _, _, hrun, (hs.heap (w' := w.drew) rfl).renew k _, .inr ⟨_, _, rfl, rfl, by simpa using h0, by simpa using grownCap_ge w s.length 0 5, grownCap_le_maxLen w s.length 0 5 (by rw [hm]; simp at hlen; omega), ?_, ?_⟩⟩
   ·have := grownCap_ge w s.length 0 5
    simp [Builtin.zeroCells, Value.cells]; omega
   ·rw [List.nil_append]
    have e1 : (s.toArray.map fun b => Value.int .u8 (b.toNat : Int)).toList = byteCells s := by simp [byteCells]
    rw [Array.toList_append, e1, List.take_append_of_le_length (by rw [DQ]; exact Nat.le_refl _), <- DQ s, List.take_length]
 ·have hg : w.heap[g]? = some (.cells cur 5 (0, 0)) := hs.ownAt hk
  by_cases hfit : t.length + s.length <= cap
  ·have hrun := run_append_room_string (P := Tryz.prog) w 103 9 ty 5 i0 hu42 hu9 hi hz1 g t.length cap cur hg ⟨s.toArray⟩ (by rw [hss]; exact hfit) (by rw [hss, hcs]; exact hfit)
   rw [hss, hsc, Ow hg] at hrun
   refine ⟨some ⟨g, 0, none⟩, cap, _, _, by rw [List.length_append]; exact hrun, hs.put hk _, .inr ⟨g, _, rfl, rfl, by simp [hne], by simpa using hfit, hcm, ?_, ?_⟩⟩
   ·simp [DQ, hcs]; omega
   ·rw [htk, List.length_append, Q6]
    rw [List.take_append_of_le_length (by simp [DQ])]
    have : t.length + s.length = (byteCells t ++ byteCells s).length := by simp [DQ]
    rw [this, List.take_length]
  ·have hholds : ∀ j v, (byteCells t)[j]? = some v -> w.cell? ((⟨g, 0, none⟩ : Addr).add j) = some v := fun j v hj => by
    have hjl : j < t.length := by
     rcases Nat.lt_or_ge j t.length with h' | h'
     ·exact h'
     ·rw [List.getElem?_eq_none (by rw [DQ]; exact h')] at hj; cases hj
    have : cur[j]? = some v := by
     rw [<- htk, List.getElem?_take_of_lt hjl, Array.getElem?_toList] at hj; exact hj
    rw [Addr.add_lit]; simp [World.cell?, hg, this]
   have hrun := run_append_grow_string (P := Tryz.prog) w 103 9 ty 5 i0 (.int .u8 0) hu42 hu9 hi hz0 ⟨g, 0, none⟩ t.length cap (byteCells t) (by rw [DQ, hz1, Nat.mul_one]) hholds ⟨s.toArray⟩ (by rw [hss]; omega) (by rw [hss]; omega) (by rw [hss, hz2]; exact growslice_fits (by omega) (by omega))
   rw [hss, hsc] at hrun
   refine ⟨_, _, _, _, by rw [List.length_append]; exact hrun, (hs.heap (w' := w.drew) rfl).renew k _, .inr ⟨_, _, rfl, rfl, by simp [hne], by simpa using grownCap_ge w (t.length + s.length) cap 5, grownCap_le_maxLen w (t.length + s.length) cap 5 (by rw [hm]; omega), ?_, ?_⟩⟩
   ·have := grownCap_ge w (t.length + s.length) cap 5
    simp [Builtin.zeroCells, Value.cells, DQ]; omega
   ·rw [Array.toList_append, Array.toList_append, Q6, List.length_append]
    have : t.length + s.length = (byteCells t ++ byteCells s).length := by simp [DQ]
    rw [List.take_append_of_le_length (by simp [DQ]), this]
    simp only [List.take_length]
end
section
variable {ρ : Operand -> Value} {w : World}
theorem He (op : BinOp) (t : TypeId) (x y : Operand) (p q : T3) : (eqGuard op t x y (.pointer p) (.pointer q)).run Tryz.prog w = .ok () w := by
 unfold eqGuard; cases op <;> simp
theorem MX (p : T3) (d : Nat) : (Op.equalIn (d + 1) 102 (.pointer p) (.pointer none)).run Tryz.prog w = .ok p.isNone w := by
 unfold Op.equalIn
 simp only [Sem.run_bind, run_underlying Tryz.underlying102, Result.andThen_ok]
 cases p <;> rfl
theorem NR {x y : Operand} {p : T3} {ty : TypeId} (hx : ρ x = .pointer p) (hy : ρ y = .pointer none) : (Ah ρ (.binOp .eql 102 x y 102) ty).run Tryz.prog w = .ok (.value (.bool p.isNone)) w := by
 have e : Ah ρ (.binOp .eql 102 x y 102) ty = (do pure (Next.value (<- (do eqGuard .eql 102 x y (ρ x) (ρ y); binOp .eql 102 (ρ x) (ρ y))))) := rfl
 have e2 : binOp .eql 102 (.pointer p) (.pointer none) = (do pure (Value.bool (<- Op.equalIn (9999 + 1) 102 (.pointer p) (.pointer none)))) := rfl
 rw [e, hx, hy, e2]
 simp only [Sem.run_bind, He, Result.andThen_ok, MX, Sem.run_pure]
theorem MT {x y : Operand} {a : Addr} {ty : TypeId} (hx : ρ x = .pointer (some a)) (hy : ρ y = .pointer (some a)) : (Ah ρ (.binOp .neq 102 x y 102) ty).run Tryz.prog w = .ok (.value (.bool false)) w := by
 have e : Ah ρ (.binOp .neq 102 x y 102) ty = (do pure (Next.value (<- (do eqGuard .neq 102 x y (ρ x) (ρ y); binOp .neq 102 (ρ x) (ρ y))))) := rfl
 obtain ⟨j, hj, _⟩ := Option.map_eq_some_iff.1 (show (Tryz.prog.info? 105).map (·.size) = some 2 by kernel_rfl)
 rw [e, hx, hy]
 simp only [Sem.run_bind, He, Result.andThen_ok, run_neq_ptr_same w a Tryz.underlying102 hj, Sem.run_pure]
theorem NT {x : Operand} {v u : Value} {s d ty : TypeId} (hx : ρ x = v) (h : (convert s d v).run Tryz.prog w = .ok u w) : (Ah ρ (.convert s d x) ty).run Tryz.prog w = .ok (.value u) w := by
 have e : Ah ρ (.convert s d x) ty = (do pure (Next.value (<- convert s d (ρ x)))) := rfl
 rw [e, hx, Sem.run_bind, h]; rfl
theorem PB {x : Operand} {v : Value} {ty : TypeId} (hx : ρ x = v) (hf : ρ (.func 192) = .func (.func 192) #[] #[]) : (Ah ρ (.call { callee := .value (.func 192), args := #[x], argTypes := #[235] }) ty).run Tryz.prog w = .ok (.value v) w := by
 have e : Ah ρ (.call { callee := .value (.func 192), args := #[x], argTypes := #[235] }) ty = (do let d <- Deferred.ofValue (ρ (.func 192)) (#[x].map ρ); invoke d.target d.args) := rfl
 rw [e, hf]
 simp only [Deferred.ofValue, Sem.run_bind, Sem.run_pure, Result.andThen_ok, invoke]
 rw [run_callFunc_extern Tryz.func192 (by kernel_rfl) (by kernel_rfl) (by kernel_rfl) (e := Extern.AbiNoEscape.same) (by kernel_rfl)]
 have : (#[] ++ Array.map ρ #[x] ++ #[] : Array Value) = #[v] := by simp [hx]
 rw [this, run_noEscape]; rfl
end
theorem Ns : Ag Tryz.prog 161 := fun _ _ => by kernel_rfl
theorem Of {wb w0 : World} {Fb F0 : Mem} {Lf : Own} (b : Nat) (p : T3) (hp : p = none \/ p = some ⟨b, 0, none⟩) (v : Value) (hv : v.oneCell' = true) (hs0 : HS wb Fb w0 F0 ((some b, .cells #[.pointer p, v] 105 (0, 0)) :: Lf)) :
  Calls Tryz.prog 161 ([(.pointer (some ⟨b, 0, none⟩))] : List Value).toArray w0 (D5 wb Fb F0 fun _ r L' => r = .tuple #[] /\ L' = (some b, .cells #[.pointer (some ⟨b, 0, none⟩), v] 105 (0, 0)) :: Lf) := by
 have hsh : w0.shape? b = some (105, 2) := by simp [World.shape?, hs0.at0]
 refine Go 20 Tryz.func161 <| Sq <| Rg [0, 1, 2, 3, 4] <| Vs 3 <| Ld hs0.at0 <| V 6 4 (NR (x := .tmp 5) (y := .const (.pointer none)) (p := p) rfl rfl) <| TD <| Ab ?_
 rcases hp with rfl | rfl
 ·refine C1 (t := true) rfl ?_
  refine Rg [0, 1, 2, 3, 4, 5, 6, 7] ?_
  obtain ⟨j, hj, hjs⟩ := Option.map_eq_some_iff.1 (show (Tryz.prog.info? 105).map (·.size) = some 2 by kernel_rfl)
  refine Vs 2 <| V 9 235 (NT (s := 102) (d := 235) (x := .tmp 8) rfl (run_to_unsafe w0 ⟨b, 0, none⟩ Tryz.underlying102 Tryz.underlying235 hj (by rw [hjs]; decide) hsh (Nat.zero_lt_succ 1))) <| V 10 235 (PB (x := .tmp 9) rfl rfl) <| V 11 102 (NT (s := 235) (d := 102) (x := .tmp 10) rfl (run_from_unsafe w0 ⟨b, 0, none⟩ Tryz.underlying235 Tryz.underlying102 hj hsh (by kernel_rfl))) <| Vs 2 <| St0 #[.pointer (some ⟨b, 0, none⟩), v] hs0 (fun w1 hs1 => ?_)
  refine TD ?_
  exact ReB [] hs1 (TI _) ⟨rfl, rfl⟩
 ·refine C0 (t := false) rfl ?_
  refine Sq <| Rg [0, 1, 2, 3, 4, 5] <| Vs 3 <| Ld hs0.at0 <| Vs 1 <| V 19 4 (MT (x := .tmp 17) (y := .tmp 18) rfl rfl) <| TD <| Ab <| C0 (t := false) rfl <| CWP.skip (by kernel_rfl) ?_
  exact ReB [] hs0 (TI _) ⟨rfl, rfl⟩
theorem Be : Ag Tryz.prog 90 := fun _ _ => by kernel_rfl
theorem Mm {wb w0 : World} {Fb F0 : Mem} {Lf : Own} (b : Nat) (p : T3) (hp : p = none \/ p = some ⟨b, 0, none⟩) (a : T3) (cap : Nat) (e : Option Nat × Obj) (t s r : T2) (hb : Ri a cap t e) (hap : IK t s = some r)
  (hs0 : HS wb Fb w0 F0 ((some b, .cells #[.pointer p, .slice a t.length cap] 105 (0, 0)) :: e :: Lf)) :
  Calls Tryz.prog 90 ([(.pointer (some ⟨b, 0, none⟩)), (.string ⟨s.toArray⟩)] : List Value).toArray w0 (D5 wb Fb F0 fun _ v L' => v = .tuple #[.int .i64 (s.length : Int), .nilIface] /\ ∃ a' cap' e', L' = (some b, .cells #[.pointer (some ⟨b, 0, none⟩), .slice a' r.length cap'] 105 (0, 0)) :: e' :: Lf /\ Ri a' cap' r e') := by
 refine Go 19 Tryz.func90 <| Sq <| Rg [0, 1] <| Vs 2 <| TD <| Ab <| Sq <| Rg [0, 1] <| Vs 1 <| CB Ns (Of b p hp (.slice a t.length cap) rfl hs0) ?_
 rintro _ F1 w1 _ hs1 le1 ⟨rfl, rfl⟩
 refine TD <| Ab <| Sq <| Rg [0, 1, 2, 3, 4, 5, 6, 7, 8, 9] <| Vs 4 <| Ld hs1.at0 <| Vs 1 ?_
 obtain ⟨a', cap', e', w2, hrun, hs2, hb2⟩ := La (ty := 103) hs1 (k := 1) rfl hb hap
 refine TE (dst := some 14) (ty := 103) (g := none) (v := .slice a' r.length cap') (by kernel_rfl) rfl (by
  have e : ∀ ρ : Operand -> Value, Ah ρ (.call { callee := .builtin .append, args := #[.tmp 12, .tmp 13], argTypes := #[103, 9] }) 103 = (do pure (Next.value (<- Builtin.append_ #[103, 9] 103 (#[.tmp 12, .tmp 13].map ρ)))) := fun _ => rfl
  rw [e]
  simp only [List.map_toArray, List.map_cons, List.map_nil]
  rw [Sem.run_bind]
  refine Eq.trans (congrArg (fun x => Result.andThen x _) (show _ = _ from hrun)) rfl) ?_
 have hs2 : HS wb Fb w2 F1 ((some b, .cells #[.pointer (some ⟨b, 0, none⟩), .slice a t.length cap] 105 (0, 0)) :: e' :: Lf) := hs2
 refine Vs 2 <| St0 #[.pointer (some ⟨b, 0, none⟩), .slice a' r.length cap'] hs2 (fun w3 hs3 => ?_)
 refine TD <| Ab <| Sq <| Rg [0, 1, 2, 3] <| Vs 4 <| TD <| Ab <| Rt ?_
 exact ReB [.int .i64 (s.length : Int), .nilIface] hs3 le1 ⟨rfl, a', cap', e', rfl, hb2⟩
def EG (b : Nat) (t : T2) (_ : Mem) (Lf : Own) : Prop := ∃ p a n e, (p = none \/ p = some ⟨b, 0, none⟩) /\ Lf = [e, (some b, .cells #[.pointer p, .slice a t.length n] 105 (0, 0))] /\ Ri a n t e
theorem EG.mono {b : Nat} : ML (EG b) := fun _ _ _ _ h _ => h
section
variable {w w0 : World} {F0 F : Mem} {L : Own} {b : Nat}
theorem EG.new (hs : HS w0 F0 w F ((some b, .cells #[.pointer none, .slice none 0 0] 105 (0, 0)) :: L)) : ∃ Lf, HS w0 F0 w F (L ++ Lf) /\ EG b [] F Lf :=
 ⟨_, HS.swap (A := [(none, .cells #[] 0 (0, 0)), _]) (hs.dummy (.cells #[] 0 (0, 0))), none, none, 0, _, .inl rfl, rfl, .inl ⟨rfl, rfl, rfl, rfl⟩⟩
theorem De {Lf : Own} {t s r : T2} (hap : IK t s = some r) (hJ : EG b t F Lf) (hs : HS w0 F0 w F (L ++ Lf)) :
  Calls Tryz.prog 90 ([(.pointer (some ⟨b, 0, none⟩)), (.string ⟨s.toArray⟩)] : List Value).toArray w (D5 w0 F0 F fun F' v L' => v = .tuple #[.int .i64 (s.length : Int), .nilIface] /\ ∃ Lf', L' = L ++ Lf' /\ EG b r F' Lf') := by
 obtain ⟨p, a, n, e, hp, rfl, hb⟩ := hJ
 have h1 : HS w0 F0 w F (e :: (some b, .cells #[.pointer p, .slice a t.length n] 105 (0, 0)) :: L) := HS.swap hs
 refine (Mm b p hp a n e t s r hb hap h1.pk1).mono ?_
 rintro _ w' ⟨F', v, _, rfl, h2, h3, rfl, a', n', e', rfl, hb'⟩
 exact ⟨F', _, L ++ [e', _], rfl, HS.swap (A := [e', _]) h2.pk1, h3, rfl, _, rfl, _, a', n', e', .inr rfl, rfl, hb'⟩
theorem LQ : Ag Tryz.prog 91 := fun _ _ => by kernel_rfl
theorem MK {Lf : Own} {t : T2} (hJ : EG b t F Lf) (hs : HS w0 F0 w F (L ++ Lf)) : Calls Tryz.prog 91 ([(.pointer (some ⟨b, 0, none⟩))] : List Value).toArray w (D5 w0 F0 F0 fun F' v L' => v = .string ⟨t.toArray⟩ /\ L' = [] /\ F' = F0) := by
 obtain ⟨p, a, n, e, hp, rfl, hb⟩ := hJ
 have h1 : HS w0 F0 w F (e :: (some b, .cells #[.pointer p, .slice a t.length n] 105 (0, 0)) :: L) := HS.swap hs
 have hB : w0.heap.size <= b := (h1.own b _ (.tail _ (.head _))).2.2
 have hbk := h1.at1
 have hbuf : IsBuilder 105 5 w0.heap.size b (byteCells t) w := by
  have : BuilderAt 105 5 w0.heap.size b (.pointer p) (byteCells t) w := by
   refine ⟨hB, .slice a t.length n, hbk, ?_, ?_⟩
   ·rcases hb with ⟨rfl, rfl, rfl, _⟩ | ⟨g, cur, rfl, rfl, hne, hlc, hcm, hcs, htk⟩
    ·exact ⟨rfl, .inl ⟨rfl, rfl⟩⟩
    ·exact ⟨by simp [DQ], .inr ⟨g, n, cur, by rw [DQ], (h1.own g _ (.head _)).2.2, h1.at0, by rw [DQ]; exact hlc, hcm, by simpa using hcs, by rw [DQ, Nat.mul_one]; exact htk⟩⟩
   ·rcases hb with ⟨rfl, rfl, rfl, _⟩ | ⟨g, cur, rfl, rfl, hne, hlc, hcm, hcs, htk⟩
    ·simp [Value.ownBlock]
    ·have := h1.nd
     simp only [Value.ownBlock]
     intro e
     simp at e
     subst e
     simp at this
  rcases hp with rfl | rfl
  ·exact .inl this
  ·exact .inr this
 refine (Tryz.Builder_String_any w0.heap.size b t w hbuf h1.size).mono ?_
 rintro _ w' ⟨rfl, hbel⟩
 refine ⟨F0, _, [], rfl, ?_, TI _, rfl, rfl, rfl⟩
 exact ⟨h1.base, h1.fix.trans ⟨hbel.os, hbel.output, hbel.tape⟩, Nat.le_trans h1.size hbel.size, fun c hc => (hbel.block c hc).trans (h1.keep c hc), fun _ _ => rfl, fun c o hc => (hbel.block c (A4 (h1.base c o hc))).trans ((h1.keep c (A4 (h1.base c o hc))).trans (h1.base c o hc)), fun _ _ h => (by cases h), List.nodup_nil⟩
end
end
theorem FB {P : Program} {w : World} {ρ : Operand -> Value} {ty t E : TypeId} {len s : Nat} {x y : Operand} {k : IntKind} {i : Int} {cs C : List Value} (hx : ρ x = .agg cs.toArray) (hy : ρ y = .int k i) (hu : P.underlying t = some (.array len E)) (ht : DT P E = some (true, s)) (hi : 0 <= i /\ i < (len : Int)) (hc : An cs.toArray (i.toNat * s) s = C) (hl : C.length = s) :
  (Ah ρ (.index t x y) ty).run P w = .ok (.value (.agg C.toArray)) w := by
 have hp := Fz (P := P) (t := E) (C := cs.toArray) (o := i.toNat * s) ht (by rw [hc]; exact hl) (.inl rfl) w
 rw [hc] at hp
 simp only [Ah, execOp, hx, hy, Instr.index, asIntOf, Sem.run_bind, Sem.run_pure, Result.andThen_ok, run_underlying hu, Co ht]
 rw [if_pos hi]
 simp only [Sem.run_bind, Co ht, Result.andThen_ok]
 rw [hp]
 rfl
theorem FA {P : Program} {w : World} {ρ : Operand -> Value} {ty t E : TypeId} {len s : Nat} {x y : Operand} {k : IntKind} {i n : Int} {cs C : List Value} (hx : ρ x = .agg cs.toArray) (hy : ρ y = .int k i) (hu : P.underlying t = some (.array len E)) (ht : DT P E = some (true, s)) (hd : decide (i = n) = true) (hi : 0 <= n /\ n < (len : Int)) (hc : An cs.toArray (n.toNat * s) s = C) (hl : C.length = s) :
  (Ah ρ (.index t x y) ty).run P w = .ok (.value (.agg C.toArray)) w := by
 have e := of_decide_eq_true hd
 subst e
 exact FB hx hy hu ht hi hc hl
theorem IV {P : Program} {w : World} {ρ : Operand -> Value} {ty t E : TypeId} {len s b o0 o1 : Nat} {g : Bool} {x y : Operand} {k : IntKind} {i n : Int} (hx : ρ x = .pointer (some ⟨b, o0, none⟩)) (hy : ρ y = .int k i) (hu : P.underlying t = some (.array len E)) (ht : DT P E = some (g, s)) (hd : decide (i = n) = true) (hi : 0 <= n /\ n < (len : Int)) (ho : o0 + n.toNat * s = o1) :
  (Ah ρ (.indexAddr t x y) ty).run P w = .ok (.value (.pointer (some ⟨b, o1, none⟩))) w := by
 have e := of_decide_eq_true hd
 subst e
 subst ho
 have hdo : Ah ρ (.indexAddr t x y) ty = (do pure (Next.value (<- Instr.indexAt t (ρ x) (ρ y)))) := rfl
 rw [hdo, hx, hy]
 have e2 : (Instr.sureAddr (.pointer (some ⟨b, o0, none⟩))).run P w = .ok ⟨b, o0, none⟩ w := rfl
 simp only [Instr.indexAt, asIntOf, Sem.run_bind, Sem.run_pure, Result.andThen_ok, run_underlying hu, e2, hi, and_self, if_true, Co ht, Addr.add]
 first | rfl | (split <;> simp_all)
section
variable {P : Program} {n : Nat} {Q : Exit -> Fr -> World -> Prop} {f : Fr} {w w0 : World} {F0 F : Mem} {L : Own}
theorem CWP.rangeRet {X α σ : Type} {enc : X -> List Value} {ok : Mem -> X -> Prop} {px : X -> α} {m : ∀ {σ : Type}, (σ -> α -> Option (Bool × σ)) -> σ -> Option σ} {c : Code} (hk : RT c = 1) {gf : FuncId} {cap : List Value} {B : Own}
  (hg : fev f (Ry c) = .func (.func gf) #[] cap.toArray) (hgf : Ag P gf) (hd : f.d = []) {ps : List Nat} (hps0 : rps c = ps) (hps : ps.all (· < n) = true) (hlen : ∀ x, (enc x).length = ps.length) (hs : HS w0 F0 w F (B ++ L)) (hseq : Pv P gf cap F B enc ok px m)
  (lp : σ -> α -> Option (σ × Bool)) (J : σ -> Mem -> Own -> Prop) (hJm : ML J) {s : σ} {r : σ × Bool} (hJ : J s F L) (hm : m (Q5 lp) (s, true) = some r)
  (hround : ∀ (l : Nat) (s : σ) (x : X) (w' : World) (F' : Mem) (Lf Rf : Own) (t : σ × Bool), TH F F' -> ok F' x -> J s F' Lf -> HS w0 F0 w' F' (Lf ++ Rf) -> lp s (px x) = some t ->
   CWP P (some l) n (Rz c) (fun e f1 w1 => e = .normal /\ ∃ F1 Lu, HS w0 F0 w1 F1 (Lu ++ Rf) /\ ∀ w2 Rg, HS w0 F0 w2 F1 (Lu ++ Rg) -> CWP P (some l) n (Pe c) (fun e f2 w3 => ((e = .normal /\ t.2 = true) \/ (e = .ret /\ t.2 = false)) /\ ∃ F2 Lf2, HS w0 F0 w3 F2 (Lf2 ++ Rg) /\ TH F' F2 /\ J t.1 F2 Lf2) f1 w2) (setps f ps (enc x)) w')
  (hdone : r.2 = true -> ∀ (D : Nat) (w' : World) (F' : Mem) (Lf : Own), HS w0 F0 w' F' ((some D, .deferred (some [])) :: Lf) -> TH F F' -> J r.1 F' Lf -> Q .normal ⟨f.v, [{ target := .collected D, args := #[] }]⟩ w')
  (hstop : r.2 = false -> ∀ (D : Nat) (w' : World) (F' : Mem) (Lf : Own), HS w0 F0 w' F' ((some D, .deferred (some [])) :: Lf) -> TH F F' -> J r.1 F' Lf -> Q .ret ⟨f.v, [{ target := .collected D, args := #[] }]⟩ w') : CWP P none n c Q f w := by
 refine CWP.rangeFunc2 hk hg hgf hd hps0 hps hlen hs hseq (Q5 lp) (fun s => s.2) (fun s F L => J s.1 F L) (fun s F F' L h hl => hJm s.1 F F' L h hl) (s := (s, true)) (r := r) hJ rfl hm (fun s x q h => ⟨(JY h).1, (JY h).2.1⟩) ?_ (fun D w' F' Lf h0 h1 h2 h3 => hdone h0 D w' F' Lf h1 h2 h3) (fun D w' F' Lf h0 h1 h2 h3 => hstop h0 D w' F' Lf h1 h2 h3)
 intro l s x w' F' Lf Rf q hle hok hJ hs hyq
 obtain ⟨h1, h2, h3⟩ := JY hyq
 refine (hround l s.1 x w' F' Lf Rf q.2 hle hok hJ hs h3).mono ?_
 rintro e f1 w1 ⟨rfl, F1, Lu, hs1, h⟩
 refine ⟨rfl, F1, Lu, hs1, fun w2 Rg hs2 => (h w2 Rg hs2).mono ?_⟩
 rintro e f2 w3 ⟨he, h⟩
 rw [h2]
 exact ⟨he, h⟩
end
def osk {α τ : Type} (q : Option α) (f : τ) (g : α -> τ) : τ := match q with
 | none => f
 | some a => g a
theorem Sf {α τ : Type} {f : τ} {g : α -> τ} {r : τ} (h : osk none f g = r) : f = r := h
theorem Se {α τ : Type} {x : α} {f : τ} {g : α -> τ} {r : τ} (h : osk (some x) f g = r) : g x = r := h
structure Ao where
 o_ : Ac
 l_ : Log
 done_ : Int
 ended_ : Bool
abbrev rdv (b1 b2 b3 b4 : Nat) : Value := .func (.func 190) #[] #[.pointer (some ⟨b1, 0, none⟩), .pointer (some ⟨b2, 0, none⟩), .pointer (some ⟨b3, 0, none⟩), .pointer (some ⟨b4, 0, none⟩)]
abbrev wrv (b1 b4 : Nat) : Value := .func (.func 191) #[] #[.pointer (some ⟨b1, 0, none⟩), .pointer (some ⟨b4, 0, none⟩)]
abbrev fcv (k : FuncId) : Value := .func (.func k) #[] #[]
theorem Es : Ag Tryz.prog 155 := fun _ _ => by kernel_rfl
set_option maxRecDepth 100000 in
theorem EQ (w0 : World) (F0 : Mem) (hF : T4 w0 F0) (s : T2) (lo hi : Int) (k : FuncId) : Calls Tryz.prog 155 ([(.string ⟨s.toArray⟩), (.int .i64 lo), (.int .i64 hi), fcv k] : List Value).toArray w0 (Az w0 F0 fun F' v => ∃ b1 b2 b3 b4, v = .agg #[rdv b1 b2 b3 b4, wrv b1 b4] /\
  F' b1 = some (.cells #[.string ⟨s.toArray⟩] 9 (0, 0)) /\ F' b2 = some (.cells #[.int .i64 lo] 3 (0, 0)) /\ F' b3 = some (.cells #[.int .i64 hi] 3 (0, 0)) /\ F' b4 = some (.cells #[fcv k] 195 (0, 0))) := by
 have hs0 := TJ hF
 refine Go 12 Tryz.func155 <| Sq <| Rg [0, 1, 2, 3, 4] <| Bx' 9 #[(.string ⟨s.toArray⟩)] hs0 (fun b1 w1 hs1 => ?_)
 refine Bx' 3 #[(.int .i64 lo)] hs1 (fun b2 w2 hs2 => ?_)
 refine Bx' 3 #[(.int .i64 hi)] hs2 (fun b3 w3 hs3 => ?_)
 refine Bx' 195 #[fcv k] hs3 (fun b4 w4 hs4 => ?_)
 refine Al' 109 #[.nilFunc, .nilFunc] hs4 (fun b5 w5 hs5 => ?_)
 refine TD <| Ab <| Sq <| Rg [0, 1, 2, 3] <| Vs 3 <| St0 #[rdv b1 b2 b3 b4, wrv b1 b4] hs5 (fun w6 hs6 => ?_)
 refine TD <| Ab <| Rt ?_
 obtain ⟨F1, hs7, le1, f4⟩ := hs6.fc1
 obtain ⟨F2, hs8, le2, f3⟩ := hs7.fc1
 obtain ⟨F3, hs9, le3, f2⟩ := hs8.fc1
 obtain ⟨F4, hs10, le4, f1⟩ := hs9.fc1
 exact ⟨rfl, (.agg #[rdv b1 b2 b3 b4, wrv b1 b4]), AN (l := [.cell 8 109]) (by kernel_rfl) (vs := [(.agg #[rdv b1 b2 b3 b4, wrv b1 b4])]) ⟨b5, 0, rfl, Ak (t := 109) (g := true) (s := 2) (by kernel_rfl) hs10.at0 rfl (by decide), trivial⟩, (.agg #[rdv b1 b2 b3 b4, wrv b1 b4]), F4, rfl, hs10.clear, b1, b2, b3, b4, rfl, f1, le4 _ _ f2, le4 _ _ (le3 _ _ f3), le4 _ _ (le3 _ _ (le2 _ _ f4))⟩
theorem D9 : Ag Tryz.prog 89 := fun _ _ => by kernel_rfl
set_option maxRecDepth 100000 in
theorem ED (w0 : World) (F0 : Mem) (hF : T4 w0 F0) : Calls Tryz.prog 89 ([] : List Value).toArray w0 (Az w0 F0 fun F' v => ∃ (b1 b2 b3 b4 b5 b6 b7 b8 b9 b10 b11 b12 : Nat), v = .agg #[fcv 153, fcv 154, rdv b1 b2 b3 b4, wrv b1 b4, rdv b5 b6 b7 b8, wrv b5 b8, rdv b9 b10 b11 b12, wrv b9 b12, fcv 159, fcv 160] /\ F' b1 = some (.cells #[(.string ⟨([67, 65, 84, 69, 71, 79, 82, 89] : T2).toArray⟩)] 9 (0, 0)) /\ F' b2 = some (.cells #[.int .i64 1] 3 (0, 0)) /\ F' b3 = some (.cells #[.int .i64 9] 3 (0, 0)) /\ F' b4 = some (.cells #[fcv 156] 195 (0, 0)) /\ F' b5 = some (.cells #[(.string ⟨([80, 79, 87, 69, 82] : T2).toArray⟩)] 9 (0, 0)) /\ F' b6 = some (.cells #[.int .i64 1] 3 (0, 0)) /\ F' b7 = some (.cells #[.int .i64 9999] 3 (0, 0)) /\ F' b8 = some (.cells #[fcv 157] 195 (0, 0)) /\ F' b9 = some (.cells #[(.string ⟨([67, 76, 65, 73, 77, 69, 68] : T2).toArray⟩)] 9 (0, 0)) /\ F' b10 = some (.cells #[.int .i64 0] 3 (0, 0)) /\ F' b11 = some (.cells #[.int .i64 1000000] 3 (0, 0)) /\ F' b12 = some (.cells #[fcv 158] 195 (0, 0))) := by
 have hs0 := TJ hF
 refine Go 7 Tryz.func89 <| Sq <| Rg [0] <| Al' 110 #[.nilFunc, .nilFunc, .nilFunc, .nilFunc, .nilFunc, .nilFunc, .nilFunc, .nilFunc, .nilFunc, .nilFunc] hs0 (fun b0 w1 hs1 => ?_)
 refine TD <| Ab <| Sq <| Rg [0, 1, 2, 3, 4, 5, 6] <| Vs 1 <| Cl' Es hs1 (EQ w1 F0 hs1.pers [67, 65, 84, 69, 71, 79, 82, 89] 1 9 156) ?_
 rintro _ F1 w2 hs2 le1 ⟨b1, b2, b3, b4, rfl, f1, f2, f3, f4⟩
 refine Cl' Es hs2 (EQ w2 F1 hs2.pers [80, 79, 87, 69, 82] 1 9999 157) ?_
 rintro _ F2 w3 hs3 le2 ⟨b5, b6, b7, b8, rfl, f5, f6, f7, f8⟩
 refine Cl' Es hs3 (EQ w3 F2 hs3.pers [67, 76, 65, 73, 77, 69, 68] 0 1000000 158) ?_
 rintro _ F3 w4 hs4 le3 ⟨b9, b10, b11, b12, rfl, f9, f10, f11, f12⟩
 refine Vs 1 <| V 6 110 (Ip (t := 110) (parts := #[(0, .tmp 1), (1, .tmp 2), (2, .tmp 3), (3, .tmp 4), (4, .tmp 5)]) (vs := [(0, .agg #[fcv 153, fcv 154]), (1, .agg #[rdv b1 b2 b3 b4, wrv b1 b4]), (2, .agg #[rdv b5 b6 b7 b8, wrv b5 b8]), (3, .agg #[rdv b9 b10 b11 b12, wrv b9 b12]), (4, .agg #[fcv 159, fcv 160])]) rfl (cs := [fcv 153, fcv 154, rdv b1 b2 b3 b4, wrv b1 b4, rdv b5 b6 b7 b8, wrv b5 b8, rdv b9 b10 b11 b12, wrv b9 b12, fcv 159, fcv 160]) (by kernel_rfl)) <| St0 #[fcv 153, fcv 154, rdv b1 b2 b3 b4, wrv b1 b4, rdv b5 b6 b7 b8, wrv b5 b8, rdv b9 b10 b11 b12, wrv b9 b12, fcv 159, fcv 160] hs4 (fun w5 hs5 => ?_)
 refine TD <| Ab <| Rt ?_
 exact ⟨rfl, (.agg #[fcv 153, fcv 154, rdv b1 b2 b3 b4, wrv b1 b4, rdv b5 b6 b7 b8, wrv b5 b8, rdv b9 b10 b11 b12, wrv b9 b12, fcv 159, fcv 160]), AN (l := [.cell 0 110]) (by kernel_rfl) (vs := [(.agg #[fcv 153, fcv 154, rdv b1 b2 b3 b4, wrv b1 b4, rdv b5 b6 b7 b8, wrv b5 b8, rdv b9 b10 b11 b12, wrv b9 b12, fcv 159, fcv 160])]) ⟨b0, 0, rfl, Ak (t := 110) (g := true) (s := 10) (by kernel_rfl) hs5.at0 rfl (by decide), trivial⟩, (.agg #[fcv 153, fcv 154, rdv b1 b2 b3 b4, wrv b1 b4, rdv b5 b6 b7 b8, wrv b5 b8, rdv b9 b10 b11 b12, wrv b9 b12, fcv 159, fcv 160]), F3, rfl, hs5.clear, b1, b2, b3, b4, b5, b6, b7, b8, b9, b10, b11, b12, rfl, le3 _ _ (le2 _ _ f1), le3 _ _ (le2 _ _ f2), le3 _ _ (le2 _ _ f3), le3 _ _ (le2 _ _ f4), le3 _ _ f5, le3 _ _ f6, le3 _ _ f7, le3 _ _ f8, f9, f10, f11, f12⟩
def H8 (N : Nat) (x0 : Ac) (x1 : Log) (r27 : (Int × Int)) (r54 : T2) (r62 : T2) (t68 : T2) (r79 : T2) (r87 : T2) (t93 : T2) (r104 : T2) (r112 : T2) (t118 : T2) (r129 : T2) (r137 : T2) (t143 : T2) (r154 : T2) (r162 : T2) (t168 : T2) : (Int × T2) -> Option (BE (T2 × Int) (Int × T2)) := fun s178 =>
 (bif (decide (s178.1 < (x1.Lines.length : Int))) then ((idx x1.Lines s178.1).bind fun x207 => ((BR N ({ Report := x0.Report, Serial := x0.Serial, Zone := x0.Zone } : Ac) x207).bind fun r226 => ((Dn r226.1 ([10] : T2)).bind fun r234 => ((IK s178.2 r234).bind fun t240 => some (.next ((W64 (s178.1 + 1)), t240)))))) else some (.done (s178.1, s178.2)))
def Ls (N : Nat) (x0 : Ac) (x1 : Log) : Option (T2 × Int) :=
 ((Ge N ({ Report := x0.Report, Serial := x0.Serial, Zone := x0.Zone } : Ac) x1).bind fun r27 => (bif (r27.1 != 0) then none else ((I4 N x1).bind fun r54 => ((Dn r54 ([10] : T2)).bind fun r62 => ((IK ([] : T2) r62).bind fun t68 => ((FH N x1 ([67, 65, 84, 69, 71, 79, 82, 89] : T2)).bind fun r79 => ((Dn r79 ([10] : T2)).bind fun r87 => ((IK t68 r87).bind fun t93 => ((FF N x1 ([80, 79, 87, 69, 82] : T2)).bind fun r104 => ((Dn r104 ([10] : T2)).bind fun r112 => ((IK t93 r112).bind fun t118 => ((FG N x1 ([67, 76, 65, 73, 77, 69, 68] : T2)).bind fun r129 => ((Dn r129 ([10] : T2)).bind fun r137 => ((IK t118 r137).bind fun t143 => ((Gy N x1).bind fun r154 => ((Dn r154 ([10] : T2)).bind fun r162 => ((IK t143 r162).bind fun t168 => ((A6 (H8 N x0 x1 r27 r54 r62 t68 r79 r87 t93 r104 r112 t118 r129 r137 t143 r154 r162 t168) N (0, t168)).bind fun o => o.k (fun r => some r) (fun s190 => ((IK s190.2 ([69, 78, 68, 10] : T2)).bind fun t252 => some (t252, 0)))))))))))))))))))))
theorem Mc : Ag Tryz.prog 29 := fun _ _ => by kernel_rfl
theorem Nz (N : Nat) (w0 : World) (F0 : Mem) (hF : T4 w0 F0) (hG : Bl F0) (x0 : Ac) (x1 : Log) (a1_4 : T3) (n1_4 : Nat) (hb1_4 : LC x1.Jumps.length n1_4) (hs1_4 : SlA AG F0 a1_4 x1.Jumps) (a1_5 : T3) (n1_5 : Nat) (hb1_5 : LC x1.Lines.length n1_5) (hs1_5 : SlA AD F0 a1_5 x1.Lines) (r : (T2 × Int)) (h : Ls N x0 x1 = some r) :
  Calls Tryz.prog 29 ([(.agg (Ai x0)), (.agg (AK x1 a1_4 n1_4 a1_5 n1_5))] : List Value).toArray w0 (Az w0 F0 fun F' v => v = (.tuple #[(sv r.1), (vi r.2)])) := by
 have hs0 := TJ hF
 refine Go 54 Tryz.func29 <| Sq (Rg (rG 4) ?_)
 refine Bx' 23 (Ai x0) hs0 (fun b21 w22 hs23 => ?_)
 refine Bx' 27 (AK x1 a1_4 n1_4 a1_5 n1_5) hs23 (fun b24 w25 hs26 => ?_)
 refine Vs 2 <| Nss <| Sq (Rg (rG 8) ?_)
 refine Ld hs26.at1 <| Ld hs26.at0 ?_
 obtain ⟨r27, hr28, h29⟩ := bind_some h
 refine Cl' Fu hs26 (Gr N w25 F0 hs26.pers hG (({ Report := x0.Report, Serial := x0.Serial, Zone := x0.Zone } : Ac)) x1 a1_4 n1_4 hb1_4 hs1_4 a1_5 n1_5 hb1_5 hs1_5 _ hr28) ?_
 rintro _ F1 w31 hs32 le33 rfl
 refine Vs 5 <| Nss (Rg [0, 1] ?_)
 refine Vs 2 <| Nt <| Cd h29 (fun hb35 h36 => ?_) (fun hb35 h37 => ?_)
 ·cases h36
 ·refine Sc ?_
  refine Ab <| Sq (Rg [0] ?_)
  refine Al' 105 #[.pointer none, .slice none 0 0] hs32 (fun b38 w39 hs40 => ?_)
  obtain ⟨Lf41, hs42, hJ43⟩ := EG.new hs40
  have hs44 : HS w0 F0 w39 F1 ((sb b24 (AK x1 a1_4 n1_4 a1_5 n1_5) 27) :: (sb b21 (Ai x0) 23) :: Lf41) := hs42
  refine Nss <| Sq (Rg [0, 1] ?_)
  refine Cl' D9 hs44 (ED w39 F1 hs44.pers) ?_
  rintro _ F2 w45 hs46 le47 ⟨tbt48_0_0, tbt48_0_1, tbt48_0_2, tbt48_0_3, tbt48_0_4, tbt48_0_5, tbt48_0_6, tbt48_0_7, tbt48_0_8, tbt48_0_9, tbt48_0_10, tbt48_0_11, rfl, htbt48_0_0, htbt48_0_1, htbt48_0_2, htbt48_0_3, htbt48_0_4, htbt48_0_5, htbt48_0_6, htbt48_0_7, htbt48_0_8, htbt48_0_9, htbt48_0_10, htbt48_0_11⟩
  refine Vs 1 <| Nt <| Bk <| CWP.unroll (by kernel_rfl) 6 <| URL.step <| Sq (Rg [0] ?_)
  refine Vs 1 <| Nss <| C1 (rfl : true = true) <| Sc <| Ab <| Sq <| Bk <| Sq (Rg [0, 1, 2] ?_)
  refine V 27 109 (FB (t := 110) (E := 109) (len := 5) (s := 2) (x := (.tmp 24)) (y := (.tmp 25)) (k := .i64) (i := 0) (cs := [(fV 153 #[]), (fV 154 #[]), (fV 190 #[(pt tbt48_0_0 0), (pt tbt48_0_1 0), (pt tbt48_0_2 0), (pt tbt48_0_3 0)]), (fV 191 #[(pt tbt48_0_0 0), (pt tbt48_0_3 0)]), (fV 190 #[(pt tbt48_0_4 0), (pt tbt48_0_5 0), (pt tbt48_0_6 0), (pt tbt48_0_7 0)]), (fV 191 #[(pt tbt48_0_4 0), (pt tbt48_0_7 0)]), (fV 190 #[(pt tbt48_0_8 0), (pt tbt48_0_9 0), (pt tbt48_0_10 0), (pt tbt48_0_11 0)]), (fV 191 #[(pt tbt48_0_8 0), (pt tbt48_0_11 0)]), (fV 159 #[]), (fV 160 #[])]) (C := [(fV 153 #[]), (fV 154 #[])]) rfl rfl (by kernel_rfl) (by kernel_rfl) (by decide) rfl rfl) <| Al' 109 #[.nilFunc, .nilFunc] hs46 (fun b49 w50 hs51 => ?_)
  refine St0 #[(fV 153 #[]), (fV 154 #[])] hs51 (fun w52 hs53 => ?_)
  refine Nt <| Rg (rG 6) <| Vs 1 <| Ld hs53.at0 <| Ld hs53.at1 ?_
  obtain ⟨r54, hr55, h56⟩ := bind_some h37
  refine Cl' KD hs53 (L0 N w52 F2 hs53.pers x1 a1_4 n1_4 hb1_4 (TK hs1_4 (le33.t le47)) a1_5 n1_5 hb1_5 (TK hs1_5 (le33.t le47)) _ hr55) ?_
  rintro _ F3 w58 hs59 le60 rfl
  obtain ⟨r62, hr63, h64⟩ := bind_some h56
  refine V 32 9 (AU (t := 9) (t' := 9) (x := (.tmp 31)) (y := (.const (sv ([10] : T2)))) (a := r54) (b := ([10] : T2)) (v := r62) rfl rfl hr63) ?_
  obtain ⟨t68, ht69, h70⟩ := bind_some h64
  refine CB Be (De (L := [(sb b49 #[(fV 153 #[]), (fV 154 #[])] 109), (sb b24 (AK x1 a1_4 n1_4 a1_5 n1_5) 27), (sb b21 (Ai x0) 23)]) ht69 (EG.mono _ _ _ _ hJ43 (le47.t le60)) hs59) ?_
  rintro _ F4 w65 _ hs66 le67 ⟨rfl, Lf71, rfl, hJ72⟩
  have hs73 : HS w0 F0 w65 F4 ((sb b49 #[(fV 153 #[]), (fV 154 #[])] 109) :: (sb b24 (AK x1 a1_4 n1_4 a1_5 n1_5) 27) :: (sb b21 (Ai x0) 23) :: Lf71) := hs66
  refine TD <| Aw <| Ab <| Rg [0, 1] <| Vs 2 <| Nt <| URL.step <| Sq (Rg [0] ?_)
  refine Vs 1 <| Nss <| C1 (rfl : true = true) <| Sc <| Ab <| Sq <| Bk <| Sq (Rg [0, 1, 2] ?_)
  refine V 27 109 (FB (t := 110) (E := 109) (len := 5) (s := 2) (x := (.tmp 24)) (y := (.tmp 25)) (k := .i64) (i := 1) (cs := [(fV 153 #[]), (fV 154 #[]), (fV 190 #[(pt tbt48_0_0 0), (pt tbt48_0_1 0), (pt tbt48_0_2 0), (pt tbt48_0_3 0)]), (fV 191 #[(pt tbt48_0_0 0), (pt tbt48_0_3 0)]), (fV 190 #[(pt tbt48_0_4 0), (pt tbt48_0_5 0), (pt tbt48_0_6 0), (pt tbt48_0_7 0)]), (fV 191 #[(pt tbt48_0_4 0), (pt tbt48_0_7 0)]), (fV 190 #[(pt tbt48_0_8 0), (pt tbt48_0_9 0), (pt tbt48_0_10 0), (pt tbt48_0_11 0)]), (fV 191 #[(pt tbt48_0_8 0), (pt tbt48_0_11 0)]), (fV 159 #[]), (fV 160 #[])]) (C := [(fV 190 #[(pt tbt48_0_0 0), (pt tbt48_0_1 0), (pt tbt48_0_2 0), (pt tbt48_0_3 0)]), (fV 191 #[(pt tbt48_0_0 0), (pt tbt48_0_3 0)])]) rfl rfl (by kernel_rfl) (by kernel_rfl) (by decide) rfl rfl) <| Al' 109 #[.nilFunc, .nilFunc] hs73 (fun b74 w75 hs76 => ?_)
  refine St0 #[(fV 190 #[(pt tbt48_0_0 0), (pt tbt48_0_1 0), (pt tbt48_0_2 0), (pt tbt48_0_3 0)]), (fV 191 #[(pt tbt48_0_0 0), (pt tbt48_0_3 0)])] hs76 (fun w77 hs78 => ?_)
  refine Nt <| Rg (rG 6) <| Vs 1 <| Ld hs78.at0 <| Ld hs78.at2 ?_
  obtain ⟨r79, hr80, h81⟩ := bind_some h70
  refine Cl' HN hs78 (IF N w77 F4 hs78.pers (hG.mono (((le33.t le47).trans le60).trans le67)) x1 a1_4 n1_4 hb1_4 (TK hs1_4 (((le33.t le47).trans le60).trans le67)) a1_5 n1_5 hb1_5 (TK hs1_5 (((le33.t le47).trans le60).trans le67)) tbt48_0_0 ([67, 65, 84, 69, 71, 79, 82, 89] : T2) ((le60.t le67) _ _ htbt48_0_0) tbt48_0_3 ((le60.t le67) _ _ htbt48_0_3) _ hr80) ?_
  rintro _ F5 w83 hs84 le85 rfl
  obtain ⟨r87, hr88, h89⟩ := bind_some h81
  refine V 32 9 (AU (t := 9) (t' := 9) (x := (.tmp 31)) (y := (.const (sv ([10] : T2)))) (a := r79) (b := ([10] : T2)) (v := r87) rfl rfl hr88) ?_
  obtain ⟨t93, ht94, h95⟩ := bind_some h89
  refine CB Be (De (L := [(sb b74 #[(fV 190 #[(pt tbt48_0_0 0), (pt tbt48_0_1 0), (pt tbt48_0_2 0), (pt tbt48_0_3 0)]), (fV 191 #[(pt tbt48_0_0 0), (pt tbt48_0_3 0)])] 109), (sb b49 #[(fV 153 #[]), (fV 154 #[])] 109), (sb b24 (AK x1 a1_4 n1_4 a1_5 n1_5) 27), (sb b21 (Ai x0) 23)]) ht94 (EG.mono _ _ _ _ hJ72 le85) hs84) ?_
  rintro _ F6 w90 _ hs91 le92 ⟨rfl, Lf96, rfl, hJ97⟩
  have hs98 : HS w0 F0 w90 F6 ((sb b74 #[(fV 190 #[(pt tbt48_0_0 0), (pt tbt48_0_1 0), (pt tbt48_0_2 0), (pt tbt48_0_3 0)]), (fV 191 #[(pt tbt48_0_0 0), (pt tbt48_0_3 0)])] 109) :: (sb b49 #[(fV 153 #[]), (fV 154 #[])] 109) :: (sb b24 (AK x1 a1_4 n1_4 a1_5 n1_5) 27) :: (sb b21 (Ai x0) 23) :: Lf96) := hs91
  refine TD <| Aw <| Ab <| Rg [0, 1] <| Vs 2 <| Nt <| URL.step <| Sq (Rg [0] ?_)
  refine Vs 1 <| Nss <| C1 (rfl : true = true) <| Sc <| Ab <| Sq <| Bk <| Sq (Rg [0, 1, 2] ?_)
  refine V 27 109 (FB (t := 110) (E := 109) (len := 5) (s := 2) (x := (.tmp 24)) (y := (.tmp 25)) (k := .i64) (i := 2) (cs := [(fV 153 #[]), (fV 154 #[]), (fV 190 #[(pt tbt48_0_0 0), (pt tbt48_0_1 0), (pt tbt48_0_2 0), (pt tbt48_0_3 0)]), (fV 191 #[(pt tbt48_0_0 0), (pt tbt48_0_3 0)]), (fV 190 #[(pt tbt48_0_4 0), (pt tbt48_0_5 0), (pt tbt48_0_6 0), (pt tbt48_0_7 0)]), (fV 191 #[(pt tbt48_0_4 0), (pt tbt48_0_7 0)]), (fV 190 #[(pt tbt48_0_8 0), (pt tbt48_0_9 0), (pt tbt48_0_10 0), (pt tbt48_0_11 0)]), (fV 191 #[(pt tbt48_0_8 0), (pt tbt48_0_11 0)]), (fV 159 #[]), (fV 160 #[])]) (C := [(fV 190 #[(pt tbt48_0_4 0), (pt tbt48_0_5 0), (pt tbt48_0_6 0), (pt tbt48_0_7 0)]), (fV 191 #[(pt tbt48_0_4 0), (pt tbt48_0_7 0)])]) rfl rfl (by kernel_rfl) (by kernel_rfl) (by decide) rfl rfl) <| Al' 109 #[.nilFunc, .nilFunc] hs98 (fun b99 w100 hs101 => ?_)
  refine St0 #[(fV 190 #[(pt tbt48_0_4 0), (pt tbt48_0_5 0), (pt tbt48_0_6 0), (pt tbt48_0_7 0)]), (fV 191 #[(pt tbt48_0_4 0), (pt tbt48_0_7 0)])] hs101 (fun w102 hs103 => ?_)
  refine Nt <| Rg (rG 6) <| Vs 1 <| Ld hs103.at0 <| Ld hs103.at3 ?_
  obtain ⟨r104, hr105, h106⟩ := bind_some h95
  refine Cl' HL hs103 (ID N w102 F6 hs103.pers (hG.mono (((((le33.t le47).trans le60).trans le67).trans le85).trans le92)) x1 a1_4 n1_4 hb1_4 (TK hs1_4 (((((le33.t le47).trans le60).trans le67).trans le85).trans le92)) a1_5 n1_5 hb1_5 (TK hs1_5 (((((le33.t le47).trans le60).trans le67).trans le85).trans le92)) tbt48_0_4 ([80, 79, 87, 69, 82] : T2) ((((le60.t le67).trans le85).trans le92) _ _ htbt48_0_4) tbt48_0_7 ((((le60.t le67).trans le85).trans le92) _ _ htbt48_0_7) _ hr105) ?_
  rintro _ F7 w108 hs109 le110 rfl
  obtain ⟨r112, hr113, h114⟩ := bind_some h106
  refine V 32 9 (AU (t := 9) (t' := 9) (x := (.tmp 31)) (y := (.const (sv ([10] : T2)))) (a := r104) (b := ([10] : T2)) (v := r112) rfl rfl hr113) ?_
  obtain ⟨t118, ht119, h120⟩ := bind_some h114
  refine CB Be (De (L := [(sb b99 #[(fV 190 #[(pt tbt48_0_4 0), (pt tbt48_0_5 0), (pt tbt48_0_6 0), (pt tbt48_0_7 0)]), (fV 191 #[(pt tbt48_0_4 0), (pt tbt48_0_7 0)])] 109), (sb b74 #[(fV 190 #[(pt tbt48_0_0 0), (pt tbt48_0_1 0), (pt tbt48_0_2 0), (pt tbt48_0_3 0)]), (fV 191 #[(pt tbt48_0_0 0), (pt tbt48_0_3 0)])] 109), (sb b49 #[(fV 153 #[]), (fV 154 #[])] 109), (sb b24 (AK x1 a1_4 n1_4 a1_5 n1_5) 27), (sb b21 (Ai x0) 23)]) ht119 (EG.mono _ _ _ _ hJ97 le110) hs109) ?_
  rintro _ F8 w115 _ hs116 le117 ⟨rfl, Lf121, rfl, hJ122⟩
  have hs123 : HS w0 F0 w115 F8 ((sb b99 #[(fV 190 #[(pt tbt48_0_4 0), (pt tbt48_0_5 0), (pt tbt48_0_6 0), (pt tbt48_0_7 0)]), (fV 191 #[(pt tbt48_0_4 0), (pt tbt48_0_7 0)])] 109) :: (sb b74 #[(fV 190 #[(pt tbt48_0_0 0), (pt tbt48_0_1 0), (pt tbt48_0_2 0), (pt tbt48_0_3 0)]), (fV 191 #[(pt tbt48_0_0 0), (pt tbt48_0_3 0)])] 109) :: (sb b49 #[(fV 153 #[]), (fV 154 #[])] 109) :: (sb b24 (AK x1 a1_4 n1_4 a1_5 n1_5) 27) :: (sb b21 (Ai x0) 23) :: Lf121) := hs116
  refine TD <| Aw <| Ab <| Rg [0, 1] <| Vs 2 <| Nt <| URL.step <| Sq (Rg [0] ?_)
  refine Vs 1 <| Nss <| C1 (rfl : true = true) <| Sc <| Ab <| Sq <| Bk <| Sq (Rg [0, 1, 2] ?_)
  refine V 27 109 (FB (t := 110) (E := 109) (len := 5) (s := 2) (x := (.tmp 24)) (y := (.tmp 25)) (k := .i64) (i := 3) (cs := [(fV 153 #[]), (fV 154 #[]), (fV 190 #[(pt tbt48_0_0 0), (pt tbt48_0_1 0), (pt tbt48_0_2 0), (pt tbt48_0_3 0)]), (fV 191 #[(pt tbt48_0_0 0), (pt tbt48_0_3 0)]), (fV 190 #[(pt tbt48_0_4 0), (pt tbt48_0_5 0), (pt tbt48_0_6 0), (pt tbt48_0_7 0)]), (fV 191 #[(pt tbt48_0_4 0), (pt tbt48_0_7 0)]), (fV 190 #[(pt tbt48_0_8 0), (pt tbt48_0_9 0), (pt tbt48_0_10 0), (pt tbt48_0_11 0)]), (fV 191 #[(pt tbt48_0_8 0), (pt tbt48_0_11 0)]), (fV 159 #[]), (fV 160 #[])]) (C := [(fV 190 #[(pt tbt48_0_8 0), (pt tbt48_0_9 0), (pt tbt48_0_10 0), (pt tbt48_0_11 0)]), (fV 191 #[(pt tbt48_0_8 0), (pt tbt48_0_11 0)])]) rfl rfl (by kernel_rfl) (by kernel_rfl) (by decide) rfl rfl) <| Al' 109 #[.nilFunc, .nilFunc] hs123 (fun b124 w125 hs126 => ?_)
  refine St0 #[(fV 190 #[(pt tbt48_0_8 0), (pt tbt48_0_9 0), (pt tbt48_0_10 0), (pt tbt48_0_11 0)]), (fV 191 #[(pt tbt48_0_8 0), (pt tbt48_0_11 0)])] hs126 (fun w127 hs128 => ?_)
  refine Nt <| Rg (rG 6) <| Vs 1 <| Ld hs128.at0 <| Ld hs128.at4 ?_
  obtain ⟨r129, hr130, h131⟩ := bind_some h120
  refine Cl' HM hs128 (IE N w127 F8 hs128.pers (hG.mono (((((((le33.t le47).trans le60).trans le67).trans le85).trans le92).trans le110).trans le117)) x1 a1_4 n1_4 hb1_4 (TK hs1_4 (((((((le33.t le47).trans le60).trans le67).trans le85).trans le92).trans le110).trans le117)) a1_5 n1_5 hb1_5 (TK hs1_5 (((((((le33.t le47).trans le60).trans le67).trans le85).trans le92).trans le110).trans le117)) tbt48_0_8 ([67, 76, 65, 73, 77, 69, 68] : T2) ((((((le60.t le67).trans le85).trans le92).trans le110).trans le117) _ _ htbt48_0_8) tbt48_0_11 ((((((le60.t le67).trans le85).trans le92).trans le110).trans le117) _ _ htbt48_0_11) _ hr130) ?_
  rintro _ F9 w133 hs134 le135 rfl
  obtain ⟨r137, hr138, h139⟩ := bind_some h131
  refine V 32 9 (AU (t := 9) (t' := 9) (x := (.tmp 31)) (y := (.const (sv ([10] : T2)))) (a := r129) (b := ([10] : T2)) (v := r137) rfl rfl hr138) ?_
  obtain ⟨t143, ht144, h145⟩ := bind_some h139
  refine CB Be (De (L := [(sb b124 #[(fV 190 #[(pt tbt48_0_8 0), (pt tbt48_0_9 0), (pt tbt48_0_10 0), (pt tbt48_0_11 0)]), (fV 191 #[(pt tbt48_0_8 0), (pt tbt48_0_11 0)])] 109), (sb b99 #[(fV 190 #[(pt tbt48_0_4 0), (pt tbt48_0_5 0), (pt tbt48_0_6 0), (pt tbt48_0_7 0)]), (fV 191 #[(pt tbt48_0_4 0), (pt tbt48_0_7 0)])] 109), (sb b74 #[(fV 190 #[(pt tbt48_0_0 0), (pt tbt48_0_1 0), (pt tbt48_0_2 0), (pt tbt48_0_3 0)]), (fV 191 #[(pt tbt48_0_0 0), (pt tbt48_0_3 0)])] 109), (sb b49 #[(fV 153 #[]), (fV 154 #[])] 109), (sb b24 (AK x1 a1_4 n1_4 a1_5 n1_5) 27), (sb b21 (Ai x0) 23)]) ht144 (EG.mono _ _ _ _ hJ122 le135) hs134) ?_
  rintro _ F10 w140 _ hs141 le142 ⟨rfl, Lf146, rfl, hJ147⟩
  have hs148 : HS w0 F0 w140 F10 ((sb b124 #[(fV 190 #[(pt tbt48_0_8 0), (pt tbt48_0_9 0), (pt tbt48_0_10 0), (pt tbt48_0_11 0)]), (fV 191 #[(pt tbt48_0_8 0), (pt tbt48_0_11 0)])] 109) :: (sb b99 #[(fV 190 #[(pt tbt48_0_4 0), (pt tbt48_0_5 0), (pt tbt48_0_6 0), (pt tbt48_0_7 0)]), (fV 191 #[(pt tbt48_0_4 0), (pt tbt48_0_7 0)])] 109) :: (sb b74 #[(fV 190 #[(pt tbt48_0_0 0), (pt tbt48_0_1 0), (pt tbt48_0_2 0), (pt tbt48_0_3 0)]), (fV 191 #[(pt tbt48_0_0 0), (pt tbt48_0_3 0)])] 109) :: (sb b49 #[(fV 153 #[]), (fV 154 #[])] 109) :: (sb b24 (AK x1 a1_4 n1_4 a1_5 n1_5) 27) :: (sb b21 (Ai x0) 23) :: Lf146) := hs141
  refine TD <| Aw <| Ab <| Rg [0, 1] <| Vs 2 <| Nt <| URL.step <| Sq (Rg [0] ?_)
  refine Vs 1 <| Nss <| C1 (rfl : true = true) <| Sc <| Ab <| Sq <| Bk <| Sq (Rg [0, 1, 2] ?_)
  refine V 27 109 (FB (t := 110) (E := 109) (len := 5) (s := 2) (x := (.tmp 24)) (y := (.tmp 25)) (k := .i64) (i := 4) (cs := [(fV 153 #[]), (fV 154 #[]), (fV 190 #[(pt tbt48_0_0 0), (pt tbt48_0_1 0), (pt tbt48_0_2 0), (pt tbt48_0_3 0)]), (fV 191 #[(pt tbt48_0_0 0), (pt tbt48_0_3 0)]), (fV 190 #[(pt tbt48_0_4 0), (pt tbt48_0_5 0), (pt tbt48_0_6 0), (pt tbt48_0_7 0)]), (fV 191 #[(pt tbt48_0_4 0), (pt tbt48_0_7 0)]), (fV 190 #[(pt tbt48_0_8 0), (pt tbt48_0_9 0), (pt tbt48_0_10 0), (pt tbt48_0_11 0)]), (fV 191 #[(pt tbt48_0_8 0), (pt tbt48_0_11 0)]), (fV 159 #[]), (fV 160 #[])]) (C := [(fV 159 #[]), (fV 160 #[])]) rfl rfl (by kernel_rfl) (by kernel_rfl) (by decide) rfl rfl) <| Al' 109 #[.nilFunc, .nilFunc] hs148 (fun b149 w150 hs151 => ?_)
  refine St0 #[(fV 159 #[]), (fV 160 #[])] hs151 (fun w152 hs153 => ?_)
  refine Nt <| Rg (rG 6) <| Vs 1 <| Ld hs153.at0 <| Ld hs153.at5 ?_
  obtain ⟨r154, hr155, h156⟩ := bind_some h145
  refine Cl' IA hs153 (Jn N w152 F10 hs153.pers (hG.mono (((((((((le33.t le47).trans le60).trans le67).trans le85).trans le92).trans le110).trans le117).trans le135).trans le142)) x1 a1_4 n1_4 hb1_4 (TK hs1_4 (((((((((le33.t le47).trans le60).trans le67).trans le85).trans le92).trans le110).trans le117).trans le135).trans le142)) a1_5 n1_5 hb1_5 (TK hs1_5 (((((((((le33.t le47).trans le60).trans le67).trans le85).trans le92).trans le110).trans le117).trans le135).trans le142)) _ hr155) ?_
  rintro _ F11 w158 hs159 le160 rfl
  obtain ⟨r162, hr163, h164⟩ := bind_some h156
  refine V 32 9 (AU (t := 9) (t' := 9) (x := (.tmp 31)) (y := (.const (sv ([10] : T2)))) (a := r154) (b := ([10] : T2)) (v := r162) rfl rfl hr163) ?_
  obtain ⟨t168, ht169, h170⟩ := bind_some h164
  refine CB Be (De (L := [(sb b149 #[(fV 159 #[]), (fV 160 #[])] 109), (sb b124 #[(fV 190 #[(pt tbt48_0_8 0), (pt tbt48_0_9 0), (pt tbt48_0_10 0), (pt tbt48_0_11 0)]), (fV 191 #[(pt tbt48_0_8 0), (pt tbt48_0_11 0)])] 109), (sb b99 #[(fV 190 #[(pt tbt48_0_4 0), (pt tbt48_0_5 0), (pt tbt48_0_6 0), (pt tbt48_0_7 0)]), (fV 191 #[(pt tbt48_0_4 0), (pt tbt48_0_7 0)])] 109), (sb b74 #[(fV 190 #[(pt tbt48_0_0 0), (pt tbt48_0_1 0), (pt tbt48_0_2 0), (pt tbt48_0_3 0)]), (fV 191 #[(pt tbt48_0_0 0), (pt tbt48_0_3 0)])] 109), (sb b49 #[(fV 153 #[]), (fV 154 #[])] 109), (sb b24 (AK x1 a1_4 n1_4 a1_5 n1_5) 27), (sb b21 (Ai x0) 23)]) ht169 (EG.mono _ _ _ _ hJ147 le160) hs159) ?_
  rintro _ F12 w165 _ hs166 le167 ⟨rfl, Lf171, rfl, hJ172⟩
  have hs173 : HS w0 F0 w165 F12 ((sb b149 #[(fV 159 #[]), (fV 160 #[])] 109) :: (sb b124 #[(fV 190 #[(pt tbt48_0_8 0), (pt tbt48_0_9 0), (pt tbt48_0_10 0), (pt tbt48_0_11 0)]), (fV 191 #[(pt tbt48_0_8 0), (pt tbt48_0_11 0)])] 109) :: (sb b99 #[(fV 190 #[(pt tbt48_0_4 0), (pt tbt48_0_5 0), (pt tbt48_0_6 0), (pt tbt48_0_7 0)]), (fV 191 #[(pt tbt48_0_4 0), (pt tbt48_0_7 0)])] 109) :: (sb b74 #[(fV 190 #[(pt tbt48_0_0 0), (pt tbt48_0_1 0), (pt tbt48_0_2 0), (pt tbt48_0_3 0)]), (fV 191 #[(pt tbt48_0_0 0), (pt tbt48_0_3 0)])] 109) :: (sb b49 #[(fV 153 #[]), (fV 154 #[])] 109) :: (sb b24 (AK x1 a1_4 n1_4 a1_5 n1_5) 27) :: (sb b21 (Ai x0) 23) :: Lf171) := hs166
  refine TD <| Aw <| Ab <| Rg [0, 1] <| Vs 2 <| Nt <| URL.step <| Sq (Rg [0] ?_)
  refine Vs 1 <| Nss <| C0 (rfl : false = false) <| Ex <| Au <| Au <| AA rfl <| Ab <| Sq <| Sq (Rg (rG 4) ?_)
  refine Vs 1 <| Ld hs173.at5 <| Vs 2 <| Nt ?_
  have hs174 := hs173.dr0.dr0.dr0.dr0.dr0
  obtain ⟨o175, ho176, h177⟩ := bind_some h170
  refine TO (fun f w => ∃ (s190 : (Int × T2)) (F14 : Mem) (Lf194 : Own), o175 = .done s190 /\ HS w0 F0 w F14 Lf194 /\ TH F12 F14 /\ FI f [] [(8, (pt b38 0))] /\ EG b38 s190.2 F14 Lf194) ?_ ?_
  ·refine Bk ?_
   refine TG (by kernel_rfl) (fun m f w => ∃ (s178 : (Int × T2)) (F13 : Mem) (Lf182 : Own), A6 (H8 N x0 x1 r27 r54 r62 t68 r79 r87 t93 r104 r112 t118 r129 r137 t143 r154 r162 t168) m s178 = some o175 /\ HS w0 F0 w F13 ((sb b21 (Ai x0) 23) :: Lf182) /\ TH F12 F13 /\ FI f [] [(2, (pt b21 0)), (8, (pt b38 0)), (36, (.slice a1_5 x1.Lines.length n1_5)), (37, (vi (x1.Lines.length : Int))), (38, (vi s178.1))] /\ EG b38 s178.2 F13 Lf182) N ⟨(0, t168), F12, Lf171, ho176, hs174.dr0, (TI _), fI, hJ172⟩ ?_
   rintro m198 f w179 ⟨s178, F13, Lf182, hit199, hs180, le181, ⟨_, rfl⟩, hJ183⟩
   obtain ⟨m200, fl201, rfl, hb202, hnx203⟩ := AQ hit199
   refine Sq (Rg [0] ?_)
   refine Vs 1 <| Nss <| Cd hb202 (fun hb204 h205 => ?_) (fun hb204 h206 => ?_)
   ·refine Sc ?_
    refine Ab <| Sq <| Bk <| Sq (Rg (rG 4) ?_)
    obtain ⟨x207, hx208, h210⟩ := bind_some h205
    obtain ⟨hi209, hx208'⟩ := As hx208
    obtain ⟨b211, o212, C213, E214, fz215, rfl, hF217, hE218⟩ := TP (TK hs1_5 ((((((((((((le33.t le47).trans le60).trans le67).trans le85).trans le92).trans le110).trans le117).trans le135).trans le142).trans le160).trans le167).trans le181)) hx208'
    have hc220 := hE218 _ _ hx208'
    refine Ix hi209 <| Lx 0 (hs180.pers _ _ hF217) hc220 <| Al' 34 #[(vi 0), (vi 0), (vi 0), (vi 0), (sv (([] : T2))), (vi 0), (vi 0), (vi 0), (vi 0), (vi 0), (vi 0)] hs180 (fun b221 w222 hs223 => ?_)
    refine St0 (BI x207) hs223 (fun w224 hs225 => ?_)
    refine Nss (Rg (rG 8) ?_)
    refine Ld hs225.at1 <| Ld hs225.at0 ?_
    obtain ⟨r226, hr227, h228⟩ := bind_some h210
    refine Cl' CI hs225 (CZ N w224 F13 hs225.pers (hG.mono ((((((((((((le33.t le47).trans le60).trans le67).trans le85).trans le92).trans le110).trans le117).trans le135).trans le142).trans le160).trans le167).trans le181)) (({ Report := x0.Report, Serial := x0.Serial, Zone := x0.Zone } : Ac)) x207 _ hr227) ?_
    rintro _ F15 w230 hs231 le232 rfl
    refine Vs 5 <| Nt <| Rg [0, 1, 2] <| Vs 1 ?_
    obtain ⟨r234, hr235, h236⟩ := bind_some h228
    refine V 49 9 (AU (t := 9) (t' := 9) (x := (.tmp 48)) (y := (.const (sv ([10] : T2)))) (a := r226.1) (b := ([10] : T2)) (v := r234) rfl rfl hr235) ?_
    obtain ⟨t240, ht241, h242⟩ := bind_some h236
    refine CB Be (De (L := [(sb b221 (BI x207) 34), (sb b21 (Ai x0) 23)]) ht241 (EG.mono _ _ _ _ hJ183 le232) hs231) ?_
    rintro _ F16 w237 _ hs238 le239 ⟨rfl, Lf243, rfl, hJ244⟩
    have hs245 : HS w0 F0 w237 F16 ((sb b221 (BI x207) 34) :: (sb b21 (Ai x0) 23) :: Lf243) := hs238
    refine TD <| Aw <| Ab <| Rg [0, 1] <| Vs 2 <| TD ?_
    have hn246 := A2 h242 hnx203
    exact ⟨m200, Nat.lt_succ_self _, ((W64 (s178.1 + 1)), t240), F16, Lf243, hn246, hs245.dr0, ((le181.t le232).trans le239), fI, hJ244⟩
   ·refine Ex ?_
    refine Au <| Au <| AA rfl ?_
    have ho247 := AR h206 hnx203
    exact .inl ⟨rfl, (s178.1, s178.2), F13, Lf182, ho247, hs180.dr0, le181, fI, hJ183⟩
  ·rintro f w191 ⟨s190, F14, Lf194, rfl, hs192, le193, ⟨_, rfl⟩, hJ195⟩
   have h248 := BN h177
   refine Ab <| Sq (Rg [0] ?_)
   obtain ⟨t252, ht253, h254⟩ := bind_some h248
   refine CB Be (De (L := []) ht253 hJ195 hs192) ?_
   rintro _ F17 w249 Lf255 hs250 le251 ⟨rfl, _, rfl, hJ256⟩
   have hs257 : HS w0 F0 w249 F17 Lf255 := hs250
   refine Nss (Rg [0, 1, 2] ?_)
   refine CB LQ (MK (L := []) hJ256 hs257) ?_
   rintro _ _ w258 _ hs259 _ ⟨rfl, rfl, rfl⟩
   refine Vs 2 <| Nt <| Rt ?_
   obtain rfl := Aa h254
   exact Re [(sv t252), (vi 0)] hs259 rfl
def AW (N : Nat) (x0 : T2) : Option (Int × Bool) :=
 ((Ct N x0).bind fun r21 => ((bif (!r21.2) then ((strconv_Itoa N r21.1).bind fun r41 => some (r41 == x0)) else some false).bind fun j32 => some (r21.1, j32)))
theorem Bf : Ag Tryz.prog 95 := fun _ _ => by kernel_rfl
theorem Bq (N : Nat) (w0 : World) (F0 : Mem) (hF : T4 w0 F0) (hG : Bl F0) (x0 : T2) (r : (Int × Bool)) (h : AW N x0 = some r) :
  Calls Tryz.prog 95 ([(sv x0)] : List Value).toArray w0 (Az w0 F0 fun F' v => v = (.tuple #[(vi r.1), (.bool r.2)])) := by
 have hs0 := TJ hF
 refine Go 20 Tryz.func95 <| Sq (Rg [0, 1] ?_)
 refine Vs 2 <| Nss (Rg (rG 7) ?_)
 refine Vs 1 ?_
 obtain ⟨r21, hr22, h23⟩ := bind_some h
 refine Cl' GE hs0 (Ht N w0 F0 hs0.pers hG x0 _ hr22) ?_
 rintro _ F1 w25 hs26 le27 ⟨vr21_1_0, rfl, her21_1_0⟩
 refine Vs 5 <| Nss (Rg (rG 11) ?_)
 obtain ⟨j32, hj36, h37⟩ := bind_some h23
 refine TN (fun f w => ∃ (F2 : Mem), HS w0 F0 w F2 [] /\ TH F1 F2 /\ FI f [] [(2, (vi r21.1)), (3, (.bool j32))]) ?_ ?_
 ·refine Vs 2 ?_
  refine V 13 4 (OH (t := 113) (t' := 113) (x := (.tmp 12)) (c := .nilIface) her21_1_0 rfl rfl (by kernel_rfl)) <| Vs 1 <| Sp hj36 (fun hb38 h39 => ?_) (fun hb38 h40 => ?_)
  ·refine Vgs hb38 1 ?_
   obtain ⟨r41, hr42, h43⟩ := bind_some h39
   refine Cg hb38 Bw hs26 (BG N w25 F1 hs26.pers (hG.mono le27) r21.1 _ hr42) ?_
   rintro _ F3 w45 hs46 le47 rfl
   refine Vgs hb38 2 <| Pk1 hb38 <| Vs 2 ?_
   obtain rfl := Aa h43
   exact TD ⟨rfl, F3, hs46, le47, fI⟩
  ·refine Ss hb38 4 ?_
   refine Pk0 hb38 <| Vs 2 ?_
   obtain rfl := Aa h40
   exact TD ⟨rfl, F1, hs26, (TI _), fI⟩
 ·rintro f w29 ⟨F2, hs30, le31, ⟨_, rfl⟩⟩
  refine Ab <| Rt ?_
  obtain rfl := Aa h37
  exact Re [(vi r21.1), (.bool j32)] hs30 rfl
def BS (N : Nat) (x0 : Ac) (x1 : T2) : Option (Line × Int) :=
 ((strings_Split N x1 ([32] : T2)).bind fun r27 => ((AL N r27 ([60] : T2)).bind fun r35 => ((bif (decide ((r27.length : Int) < 9)) then some true else (bif (decide (r35 < 8)) then some true else ((idx r27 7).bind fun x62 => some (x62 != ([62] : T2))))).bind fun j46 => (bif j46 then some (({ Num := 0, Khz := 0, Mode := 0, Minute := 0, Call := ([] : T2), Sent := ({ Report := 0, Serial := 0, Zone := 0 } : Ad), Got := ({ Report := 0, Serial := 0, Zone := 0 } : Ad) } : Line), 20) else ((idx r27 1).bind fun x81 => ((AW N x81).bind fun r95 => ((idx r27 2).bind fun x103 => ((AW N x103).bind fun r109 => (((idx r27 4).bind fun x134 => ((Dn x134 ([32] : T2)).bind fun r140 => ((idx r27 5).bind fun x143 => ((Dn r140 x143).bind fun r149 => ((Ef N r149).bind fun r152 => some r152.1))))).bind fun j122 => (((sub r27 8 r35).bind fun r179 => ((strings_Join N r179 ([32] : T2)).bind fun r187 => ((B9 N ({ Report := x0.Report, Serial := x0.Serial, Zone := x0.Zone } : Ac) r187).bind fun r195 => some (r195.1.Report, r195.1.Serial, r195.1.Zone)))).bind fun j166 => (((sub r27 (W64 (r35 + 1)) (r27.length : Int)).bind fun r261 => ((strings_Join N r261 ([32] : T2)).bind fun r269 => ((B9 N ({ Report := x0.Report, Serial := x0.Serial, Zone := x0.Zone } : Ac) r269).bind fun r277 => some (r277.1.Report, r277.1.Serial, r277.1.Zone)))).bind fun j248 => (((idx r27 3).bind fun x338 => ((idx r27 6).bind fun x344 => ((strings_Index N ([32, 77, 86, 68] : T2) x338).bind fun r350 => some (r350, x344)))).bind fun j330 => ((BR N ({ Report := x0.Report, Serial := x0.Serial, Zone := x0.Zone } : Ac) ({ Num := r95.1, Khz := r109.1, Mode := j330.1, Minute := j122, Call := j330.2, Sent := ({ Report := j166.1, Serial := j166.2.1, Zone := j166.2.2 } : Ad), Got := ({ Report := j248.1, Serial := j248.2.1, Zone := j248.2.2 } : Ad) } : Line)).bind fun r376 => (bif ((r376.2 != 0) || (r376.1 != x1)) then some (({ Num := 0, Khz := 0, Mode := 0, Minute := 0, Call := ([] : T2), Sent := ({ Report := 0, Serial := 0, Zone := 0 } : Ad), Got := ({ Report := 0, Serial := 0, Zone := 0 } : Ad) } : Line), 20) else some (({ Num := r95.1, Khz := r109.1, Mode := j330.1, Minute := j122, Call := j330.2, Sent := ({ Report := j166.1, Serial := j166.2.1, Zone := j166.2.2 } : Ad), Got := ({ Report := j248.1, Serial := j248.2.1, Zone := j248.2.2 } : Ad) } : Line), 0)))))))))))))))
theorem CJ : Ag Tryz.prog 31 := fun _ _ => by kernel_rfl
theorem C2 (N : Nat) (w0 : World) (F0 : Mem) (hF : T4 w0 F0) (hG : Bl F0) (x0 : Ac) (x1 : T2) (r : (Line × Int)) (h : BS N x0 x1 = some r) :
  Calls Tryz.prog 31 ([(.agg (Ai x0)), (sv x1)] : List Value).toArray w0 (Az w0 F0 fun F' v => v = (.tuple #[(.agg (BI r.1)), (vi r.2)])) := by
 have hs0 := TJ hF
 refine Go 112 Tryz.func31 <| Sq (Rg [0, 1, 2] ?_)
 refine Bx' 23 (Ai x0) hs0 (fun b21 w22 hs23 => ?_)
 refine Al' 34 #[(vi 0), (vi 0), (vi 0), (vi 0), (sv (([] : T2))), (vi 0), (vi 0), (vi 0), (vi 0), (vi 0), (vi 0)] hs23 (fun b24 w25 hs26 => ?_)
 refine Vs 1 <| Nss (Rg [0, 1, 2] ?_)
 refine Vs 1 ?_
 obtain ⟨r27, hr28, h29⟩ := bind_some h
 refine Cl' Ch hs26 (Cy N w25 F0 hs26.pers hG x1 (([32] : T2)) _ hr28) ?_
 rintro _ F1 w31 hs32 le33 ⟨ar27_0_0, nr27_0_0, rfl, hbr27_0_0, hsr27_0_0⟩
 refine Vs 1 <| Nss (Rg [0, 1, 2] ?_)
 refine Vs 1 ?_
 obtain ⟨r35, hr36, h37⟩ := bind_some h29
 refine Cl' Cr hs32 (Cz N w31 F1 hs32.pers r27 ar27_0_0 nr27_0_0 hbr27_0_0 hsr27_0_0 (([60] : T2)) _ hr36) ?_
 rintro _ F2 w39 hs40 le41 rfl
 refine Vs 1 <| Nss <| Sq (Rg (rG 13) ?_)
 obtain ⟨j46, hj54, h55⟩ := bind_some h37
 refine TN (fun f w => ∃ (F3 : Mem), HS w0 F0 w F3 [(sb b24 #[(vi 0), (vi 0), (vi 0), (vi 0), (sv (([] : T2))), (vi 0), (vi 0), (vi 0), (vi 0), (vi 0), (vi 0)] 34), (sb b21 (Ai x0) 23)] /\ TH F2 F3 /\ FI f [] [(1, (sv x1)), (2, (pt b21 0)), (4, (pt b24 0)), (6, (.slice ar27_0_0 r27.length nr27_0_0)), (7, (vi r35)), (37, (.bool j46))]) ?_ ?_
 ·refine Vs 4 ?_
  refine Sp hj54 (fun hb56 h57 => ?_) (fun hb56 h58 => ?_)
  ·refine Ss hb56 2 ?_
   refine Pk1 hb56 <| Vs 1 <| Ss (rfl : true = true) 4 <| Pk1 (rfl : true = true) ?_
   obtain rfl := Aa h57
   exact TD ⟨rfl, F2, hs40, (TI _), fI⟩
  ·refine Vgs hb56 2 ?_
   refine Pk0 hb56 <| Vs 1 <| Sp h58 (fun hb59 h60 => ?_) (fun hb59 h61 => ?_)
   ·refine Ss hb59 4 ?_
    refine Pk1 hb59 ?_
    obtain rfl := Aa h60
    exact TD ⟨rfl, F2, hs40, (TI _), fI⟩
   ·refine Vgs hb59 1 ?_
    obtain ⟨x62, hx63, h65⟩ := bind_some h61
    obtain ⟨hi64, hx63'⟩ := As hx63
    obtain ⟨b66, o67, C68, E69, fz70, rfl, hF72, hE73⟩ := TP (TK hsr27_0_0 le41) hx63'
    have hc75 := hE73 _ _ hx63'
    refine Ixg hb59 hi64 <| Lxg hb59 0 (hs40.pers _ _ hF72) hc75 <| Vgs hb59 1 <| Pk0 hb59 ?_
    obtain rfl := Aa h65
    exact TD ⟨rfl, F2, hs40, (TI _), fI⟩
 ·rintro f w43 ⟨F3, hs44, le45, ⟨_, rfl⟩⟩
  refine Ab <| Cd h55 (fun hb76 h77 => ?_) (fun hb76 h78 => ?_)
  ·refine Sq (Rg [0, 1, 2] ?_)
   refine Vs 1 <| St0 #[(vi 0), (vi 0), (vi 0), (vi 0), (sv (([] : T2))), (vi 0), (vi 0), (vi 0), (vi 0), (vi 0), (vi 0)] hs44 (fun w79 hs80 => ?_)
   refine Vs 1 <| Nt <| Rt <| Am ?_
   obtain rfl := Aa h77
   exact ⟨rfl, (.tuple #[(.agg #[(vi 0), (vi 0), (vi 0), (vi 0), (sv (([] : T2))), (vi 0), (vi 0), (vi 0), (vi 0), (vi 0), (vi 0)]), (vi 20)]), AN (l := [.cell 4 34, .tmp 5]) (by kernel_rfl) (vs := [(.agg #[(vi 0), (vi 0), (vi 0), (vi 0), (sv (([] : T2))), (vi 0), (vi 0), (vi 0), (vi 0), (vi 0), (vi 0)]), (vi 20)]) ⟨b24, 0, rfl, Ak (t := 34) (g := true) (s := 11) (by kernel_rfl) hs80.at0 rfl (by decide), ⟨rfl, trivial⟩⟩, (.tuple #[(.agg #[(vi 0), (vi 0), (vi 0), (vi 0), (sv (([] : T2))), (vi 0), (vi 0), (vi 0), (vi 0), (vi 0), (vi 0)]), (vi 20)]), F3, rfl, hs80.clear, rfl⟩
  ·refine Sc ?_
   refine Ab <| Sq (Rg (rG 9) ?_)
   refine Vs 1 ?_
   obtain ⟨x81, hx82, h84⟩ := bind_some h78
   obtain ⟨hi83, hx82'⟩ := As hx82
   obtain ⟨b85, o86, C87, E88, fz89, rfl, hF91, hE92⟩ := TP (TK hsr27_0_0 (le41.t le45)) hx82'
   have hc94 := hE92 _ _ hx82'
   refine Ix hi83 <| Lx 0 (hs44.pers _ _ hF91) hc94 ?_
   obtain ⟨r95, hr96, h97⟩ := bind_some h84
   refine Cl' Bf hs44 (Bq N w43 F3 hs44.pers (hG.mono ((le33.t le41).trans le45)) x81 _ hr96) ?_
   rintro _ F4 w99 hs100 le101 rfl
   refine Vs 5 <| Nss (Rg (rG 9) ?_)
   refine Vs 1 ?_
   obtain ⟨x103, hx104, h106⟩ := bind_some h97
   obtain ⟨hi105, hx104'⟩ := As hx104
   have hc108 := hE92 _ _ hx104'
   refine Ix hi105 <| Lx 0 (hs100.pers _ _ (le101 _ _ hF91)) hc108 ?_
   obtain ⟨r109, hr110, h111⟩ := bind_some h106
   refine Cl' Bf hs100 (Bq N w99 F4 hs100.pers (hG.mono (((le33.t le41).trans le45).trans le101)) x103 _ hr110) ?_
   rintro _ F5 w113 hs114 le115 rfl
   refine Vs 5 <| Nss ?_
   obtain ⟨j122, hj132, h133⟩ := bind_some h111
   refine RD 14 14 [(sb b24 #[(vi 0), (vi 0), (vi 0), (vi 0), (sv (([] : T2))), (vi 0), (vi 0), (vi 0), (vi 0), (vi 0), (vi 0)] 34), (sb b21 (Ai x0) 23)] [] hs114 (fun f w => ∃ (F6 : Mem), HS w0 F0 w F6 [(sb b24 #[(vi 0), (vi 0), (vi 0), (vi 0), (sv (([] : T2))), (vi 0), (vi 0), (vi 0), (vi 0), (vi 0), (vi 0)] 34), (sb b21 (Ai x0) 23)] /\ TH F5 F6 /\ FI f [] [(1, (sv x1)), (2, (pt b21 0)), (4, (pt b24 0)), (6, (.slice (some ⟨b85, o86, none⟩) r27.length nr27_0_0)), (7, (vi r35)), (8, (vi r95.1)), (10, (vi r109.1)), (12, (vi j122))]) (fun wd117 hw118 => ?_) ?_
   ·refine Dv [0] ?_
    obtain ⟨x134, hx135, h137⟩ := bind_some hj132
    obtain ⟨hi136, hx135'⟩ := As hx135
    have hc139 := hE92 _ _ hx135'
    refine Di 1 hi136 <| Dx 2 0 (fun _ hq => hq.1.1 _ _ ((le101.t le115) _ _ hF91)) hc139 ?_
    obtain ⟨r140, hr141, h142⟩ := bind_some h137
    refine Dt 3 57 9 (sv r140) (fun _ hq => AU (t := 9) (t' := 9) (x := (.tmp 56)) (y := (.const (sv ([32] : T2)))) (a := x134) (b := ([32] : T2)) (v := r140) rfl rfl hr141) <| Dv [4] ?_
    obtain ⟨x143, hx144, h146⟩ := bind_some h142
    obtain ⟨hi145, hx144'⟩ := As hx144
    have hc148 := hE92 _ _ hx144'
    refine Di 5 hi145 <| Dx 6 0 (fun _ hq => hq.1.1 _ _ ((le101.t le115) _ _ hF91)) hc148 ?_
    obtain ⟨r149, hr150, h151⟩ := bind_some h146
    refine Dt 7 61 9 (sv r149) (fun _ hq => AU (t := 9) (t' := 9) (x := (.tmp 57)) (y := (.tmp 60)) (a := r140) (b := x143) (v := r149) rfl rfl hr150) <| D1 8 ?_
    obtain ⟨r152, hr153, h154⟩ := bind_some h151
    refine DCl JQ hw118 (KJ N wd117 F5 hw118.pers (hG.mono ((((le33.t le41).trans le45).trans le101).trans le115)) r149 _ hr153) ?_
    rintro _ F7 w156 hs157 le158 rfl
    refine Dv [9, 10, 11, 12, 13] ?_
    obtain rfl := Aa h154
    exact TU (by kernel_rfl) ⟨F7, hs157, le158, fI⟩
   ·rintro f w119 ⟨F6, hs120, le121, ⟨_, rfl⟩⟩
    refine Ab <| Sq ?_
    obtain ⟨j166, hj177, h178⟩ := bind_some h133
    refine RD 12 12 [(sb b24 #[(vi 0), (vi 0), (vi 0), (vi 0), (sv (([] : T2))), (vi 0), (vi 0), (vi 0), (vi 0), (vi 0), (vi 0)] 34), (sb b21 (Ai x0) 23)] [] hs120 (fun f w => ∃ (F8 : Mem) (b165 : Nat), HS w0 F0 w F8 [(sb b165 #[(vi j166.1), (vi j166.2.1), (vi j166.2.2)] 32), (sb b24 #[(vi 0), (vi 0), (vi 0), (vi 0), (sv (([] : T2))), (vi 0), (vi 0), (vi 0), (vi 0), (vi 0), (vi 0)] 34), (sb b21 (Ai x0) 23)] /\ TH F6 F8 /\ FI f [] [(1, (sv x1)), (2, (pt b21 0)), (4, (pt b24 0)), (6, (.slice (some ⟨b85, o86, none⟩) r27.length nr27_0_0)), (7, (vi r35)), (8, (vi r95.1)), (10, (vi r109.1)), (12, (vi j122)), (14, (pt b165 0))]) (fun wd160 hw161 => ?_) ?_
    ·refine Dl 0 (fun _ hq => (hq.1.2 1 _ _ rfl)) ?_
     refine Dv [1, 2] ?_
     obtain ⟨r179, hr180, h181⟩ := bind_some hj177
     obtain ⟨a182, n183, hb184, hs185, hrun186⟩ := EL (P := Tryz.prog) (T := AH) (lo := (some (.const (vi 8)))) (hi := (some (.tmp 68))) (mx := none) (t := 55) (E := 9) (by_ := 16) (c := nr27_0_0) (a := (some ⟨b85, o86, none⟩)) (l := r27) (r := r179) (il := 8) (ih := r35) (im := 0) (by kernel_rfl) (by kernel_rfl) hbr27_0_0 (TK hsr27_0_0 ((((le41.t le45).trans le101).trans le115).trans le121)) (fun h => by first | rfl | cases h) hr180
     refine Dt 3 69 55 (.slice a182 r179.length n183) (fun _ hq => hrun186 (x := (.tmp 67)) rfl rfl rfl trivial) <| TQ (i := 4) (j := 9) (by kernel_rfl) ?_ ?_
     ·obtain ⟨r187, hr188, h189⟩ := bind_some h181
      refine DCl B1 hw161 (Ck N wd160 F6 hw161.pers r179 a182 n183 hb184 hs185 (([32] : T2)) _ hr188) ?_
      rintro _ F9 w191 hs192 le193 rfl
      refine TQ (i := 5) (j := 9) (by kernel_rfl) ?_ ?_
      ·obtain ⟨r195, hr196, h197⟩ := bind_some h189
       refine DCl Bj hs192 (Bu N w191 F9 hs192.pers (hG.mono ((((((le33.t le41).trans le45).trans le101).trans le115).trans le121).trans le193)) (({ Report := x0.Report, Serial := x0.Serial, Zone := x0.Zone } : Ac)) r187 _ hr196) ?_
       rintro _ F10 w199 hs200 le201 rfl
       refine Dv [6, 7, 8] <| D1 9 <| DAl 32 #[(vi 0), (vi 0), (vi 0)] hs200 (le193.t le201) (fun b203 w204 hs205 => ?_)
       refine D1 10 <| Fy (BO r195.1) hs205 (le193.t le201) (fun w206 hs207 => ?_)
       refine Dv [11] ?_
       obtain rfl := Aa h197
       exact TU (by kernel_rfl) ⟨F10, b203, hs207, (le193.t le201), fI⟩
      ·refine DAl 32 #[(vi 0), (vi 0), (vi 0)] hs192 le193 (fun b208 w209 hs210 => ?_)
       refine D1 5 ?_
       obtain ⟨r211, hr212, h213⟩ := bind_some h189
       refine DCl Bj hs210 (Bu N w209 F9 hs210.pers (hG.mono ((((((le33.t le41).trans le45).trans le101).trans le115).trans le121).trans le193)) (({ Report := x0.Report, Serial := x0.Serial, Zone := x0.Zone } : Ac)) r187 _ hr212) ?_
       rintro _ F11 w215 hs216 le217 rfl
       refine Dv [6, 7, 8] <| D1 10 <| Fy (BO r211.1) hs216 (le193.t le217) (fun w219 hs220 => ?_)
       refine Dv [11] ?_
       obtain rfl := Aa h213
       exact TU (by kernel_rfl) ⟨F11, b208, hs220, (le193.t le217), fI⟩
     ·refine DAl 32 #[(vi 0), (vi 0), (vi 0)] hw161 (TI _) (fun b221 w222 hs223 => ?_)
      refine D1 4 ?_
      obtain ⟨r224, hr225, h226⟩ := bind_some h181
      refine DCl B1 hs223 (Ck N w222 F6 hs223.pers r179 a182 n183 hb184 hs185 (([32] : T2)) _ hr225) ?_
      rintro _ F12 w228 hs229 le230 rfl
      refine D1 5 ?_
      obtain ⟨r232, hr233, h234⟩ := bind_some h226
      refine DCl Bj hs229 (Bu N w228 F12 hs229.pers (hG.mono ((((((le33.t le41).trans le45).trans le101).trans le115).trans le121).trans le230)) (({ Report := x0.Report, Serial := x0.Serial, Zone := x0.Zone } : Ac)) r224 _ hr233) ?_
      rintro _ F13 w236 hs237 le238 rfl
      refine Dv [6, 7, 8] <| D1 10 <| Fy (BO r232.1) hs237 (le230.t le238) (fun w240 hs241 => ?_)
      refine Dv [11] ?_
      obtain rfl := Aa h234
      exact TU (by kernel_rfl) ⟨F13, b221, hs241, (le230.t le238), fI⟩
    ·rintro f w162 ⟨F8, b165, hs163, le164, ⟨_, rfl⟩⟩
     refine Ab <| Sq ?_
     obtain ⟨j248, hj259, h260⟩ := bind_some h178
     refine RD 13 13 [(sb b165 #[(vi j166.1), (vi j166.2.1), (vi j166.2.2)] 32), (sb b24 #[(vi 0), (vi 0), (vi 0), (vi 0), (sv (([] : T2))), (vi 0), (vi 0), (vi 0), (vi 0), (vi 0), (vi 0)] 34), (sb b21 (Ai x0) 23)] [] hs163 (fun f w => ∃ (F14 : Mem) (b247 : Nat), HS w0 F0 w F14 [(sb b247 #[(vi j248.1), (vi j248.2.1), (vi j248.2.2)] 32), (sb b165 #[(vi j166.1), (vi j166.2.1), (vi j166.2.2)] 32), (sb b24 #[(vi 0), (vi 0), (vi 0), (vi 0), (sv (([] : T2))), (vi 0), (vi 0), (vi 0), (vi 0), (vi 0), (vi 0)] 34), (sb b21 (Ai x0) 23)] /\ TH F8 F14 /\ FI f [] [(1, (sv x1)), (2, (pt b21 0)), (4, (pt b24 0)), (6, (.slice (some ⟨b85, o86, none⟩) r27.length nr27_0_0)), (8, (vi r95.1)), (10, (vi r109.1)), (12, (vi j122)), (14, (pt b165 0)), (16, (pt b247 0))]) (fun wd242 hw243 => ?_) ?_
     ·refine Dl 0 (fun _ hq => (hq.1.2 2 _ _ rfl)) ?_
      refine Dv [1, 2, 3] ?_
      obtain ⟨r261, hr262, h263⟩ := bind_some hj259
      obtain ⟨a264, n265, hb266, hs267, hrun268⟩ := EL (P := Tryz.prog) (T := AH) (lo := (some (.tmp 78))) (hi := none) (mx := none) (t := 55) (E := 9) (by_ := 16) (c := nr27_0_0) (a := (some ⟨b85, o86, none⟩)) (l := r27) (r := r261) (il := (W64 (r35 + 1))) (ih := (r27.length : Int)) (im := 0) (by kernel_rfl) (by kernel_rfl) hbr27_0_0 (TK hsr27_0_0 (((((le41.t le45).trans le101).trans le115).trans le121).trans le164)) (fun h => by first | rfl | cases h) hr262
      refine Dt 4 79 55 (.slice a264 r261.length n265) (fun _ hq => hrun268 (x := (.tmp 76)) rfl rfl rfl trivial) <| TQ (i := 5) (j := 10) (by kernel_rfl) ?_ ?_
      ·obtain ⟨r269, hr270, h271⟩ := bind_some h263
       refine DCl B1 hw243 (Ck N wd242 F8 hw243.pers r261 a264 n265 hb266 hs267 (([32] : T2)) _ hr270) ?_
       rintro _ F15 w273 hs274 le275 rfl
       refine TQ (i := 6) (j := 10) (by kernel_rfl) ?_ ?_
       ·obtain ⟨r277, hr278, h279⟩ := bind_some h271
        refine DCl Bj hs274 (Bu N w273 F15 hs274.pers (hG.mono (((((((le33.t le41).trans le45).trans le101).trans le115).trans le121).trans le164).trans le275)) (({ Report := x0.Report, Serial := x0.Serial, Zone := x0.Zone } : Ac)) r269 _ hr278) ?_
        rintro _ F16 w281 hs282 le283 rfl
        refine Dv [7, 8, 9] <| D1 10 <| DAl 32 #[(vi 0), (vi 0), (vi 0)] hs282 (le275.t le283) (fun b285 w286 hs287 => ?_)
        refine D1 11 <| Fy (BO r277.1) hs287 (le275.t le283) (fun w288 hs289 => ?_)
        refine Dv [12] ?_
        obtain rfl := Aa h279
        exact TU (by kernel_rfl) ⟨F16, b285, hs289, (le275.t le283), fI⟩
       ·refine DAl 32 #[(vi 0), (vi 0), (vi 0)] hs274 le275 (fun b290 w291 hs292 => ?_)
        refine D1 6 ?_
        obtain ⟨r293, hr294, h295⟩ := bind_some h271
        refine DCl Bj hs292 (Bu N w291 F15 hs292.pers (hG.mono (((((((le33.t le41).trans le45).trans le101).trans le115).trans le121).trans le164).trans le275)) (({ Report := x0.Report, Serial := x0.Serial, Zone := x0.Zone } : Ac)) r269 _ hr294) ?_
        rintro _ F17 w297 hs298 le299 rfl
        refine Dv [7, 8, 9] <| D1 11 <| Fy (BO r293.1) hs298 (le275.t le299) (fun w301 hs302 => ?_)
        refine Dv [12] ?_
        obtain rfl := Aa h295
        exact TU (by kernel_rfl) ⟨F17, b290, hs302, (le275.t le299), fI⟩
      ·refine DAl 32 #[(vi 0), (vi 0), (vi 0)] hw243 (TI _) (fun b303 w304 hs305 => ?_)
       refine D1 5 ?_
       obtain ⟨r306, hr307, h308⟩ := bind_some h263
       refine DCl B1 hs305 (Ck N w304 F8 hs305.pers r261 a264 n265 hb266 hs267 (([32] : T2)) _ hr307) ?_
       rintro _ F18 w310 hs311 le312 rfl
       refine D1 6 ?_
       obtain ⟨r314, hr315, h316⟩ := bind_some h308
       refine DCl Bj hs311 (Bu N w310 F18 hs311.pers (hG.mono (((((((le33.t le41).trans le45).trans le101).trans le115).trans le121).trans le164).trans le312)) (({ Report := x0.Report, Serial := x0.Serial, Zone := x0.Zone } : Ac)) r306 _ hr315) ?_
       rintro _ F19 w318 hs319 le320 rfl
       refine Dv [7, 8, 9] <| D1 11 <| Fy (BO r314.1) hs319 (le312.t le320) (fun w322 hs323 => ?_)
       refine Dv [12] ?_
       obtain rfl := Aa h316
       exact TU (by kernel_rfl) ⟨F19, b303, hs323, (le312.t le320), fI⟩
     ·rintro f w244 ⟨F14, b247, hs245, le246, ⟨_, rfl⟩⟩
      refine Ab <| Sq ?_
      obtain ⟨j330, hj336, h337⟩ := bind_some h260
      refine RD 14 15 [(sb b247 #[(vi j248.1), (vi j248.2.1), (vi j248.2.2)] 32), (sb b165 #[(vi j166.1), (vi j166.2.1), (vi j166.2.2)] 32), (sb b24 #[(vi 0), (vi 0), (vi 0), (vi 0), (sv (([] : T2))), (vi 0), (vi 0), (vi 0), (vi 0), (vi 0), (vi 0)] 34), (sb b21 (Ai x0) 23)] [] hs245 (fun f w => ∃ (F20 : Mem) (b329 : Nat), HS w0 F0 w F20 [(sb b329 #[(vi r95.1), (vi r109.1), (vi j330.1), (vi j122), (sv j330.2), (vi j166.1), (vi j166.2.1), (vi j166.2.2), (vi j248.1), (vi j248.2.1), (vi j248.2.2)] 34), (sb b24 #[(vi 0), (vi 0), (vi 0), (vi 0), (sv (([] : T2))), (vi 0), (vi 0), (vi 0), (vi 0), (vi 0), (vi 0)] 34), (sb b21 (Ai x0) 23)] /\ TH F14 F20 /\ FI f [] [(1, (sv x1)), (2, (pt b21 0)), (4, (pt b24 0)), (18, (pt b329 0))]) (fun wd324 hw325 => ?_) ?_
      ·refine Dv [0, 1, 2] ?_
       obtain ⟨x338, hx339, h341⟩ := bind_some hj336
       obtain ⟨hi340, hx339'⟩ := As hx339
       have hc343 := hE92 _ _ hx339'
       refine Di 3 hi340 <| Dx 4 0 (fun _ hq => hq.1.1 _ _ (((((le101.t le115).trans le121).trans le164).trans le246) _ _ hF91)) hc343 <| Dv [6, 7] ?_
       obtain ⟨x344, hx345, h347⟩ := bind_some h341
       obtain ⟨hi346, hx345'⟩ := As hx345
       have hc349 := hE92 _ _ hx345'
       refine Di 8 hi346 <| Dx 9 0 (fun _ hq => hq.1.1 _ _ (((((le101.t le115).trans le121).trans le164).trans le246) _ _ hF91)) hc349 <| Dl 10 (fun _ hq => (hq.1.2 1 _ _ rfl)) <| Dl 11 (fun _ hq => (hq.1.2 0 _ _ rfl)) <| TQ (i := 5) (j := 13) (by kernel_rfl) ?_ ?_
       ·obtain ⟨r350, hr351, h352⟩ := bind_some h347
        refine DCl FO hw325 (GI N wd324 F14 hw325.pers (hG.mono (((((((le33.t le41).trans le45).trans le101).trans le115).trans le121).trans le164).trans le246)) (([32, 77, 86, 68] : T2)) x338 _ hr351) ?_
        rintro _ F21 w354 hs355 le356 rfl
        refine Dv [12] <| D1 13 <| DAl 34 #[(vi 0), (vi 0), (vi 0), (vi 0), (sv (([] : T2))), (vi 0), (vi 0), (vi 0), (vi 0), (vi 0), (vi 0)] hs355 le356 (fun b358 w359 hs360 => ?_)
        refine D1 14 <| Fy #[(vi r95.1), (vi r109.1), (vi r350), (vi j122), (sv x344), (vi j166.1), (vi j166.2.1), (vi j166.2.2), (vi j248.1), (vi j248.2.1), (vi j248.2.2)] hs360 le356 (fun w361 hs362 => ?_)
        obtain rfl := Aa h352
        exact TU (by kernel_rfl) ⟨F21, b358, hs362.dr1.dr1, le356, fI⟩
       ·refine DAl 34 #[(vi 0), (vi 0), (vi 0), (vi 0), (sv (([] : T2))), (vi 0), (vi 0), (vi 0), (vi 0), (vi 0), (vi 0)] hw325 (TI _) (fun b363 w364 hs365 => ?_)
        refine D1 5 ?_
        obtain ⟨r366, hr367, h368⟩ := bind_some h347
        refine DCl FO hs365 (GI N w364 F14 hs365.pers (hG.mono (((((((le33.t le41).trans le45).trans le101).trans le115).trans le121).trans le164).trans le246)) (([32, 77, 86, 68] : T2)) x338 _ hr367) ?_
        rintro _ F22 w370 hs371 le372 rfl
        refine Dv [12] <| D1 14 <| Fy #[(vi r95.1), (vi r109.1), (vi r366), (vi j122), (sv x344), (vi j166.1), (vi j166.2.1), (vi j166.2.2), (vi j248.1), (vi j248.2.1), (vi j248.2.2)] hs371 le372 (fun w374 hs375 => ?_)
        obtain rfl := Aa h368
        exact TU (by kernel_rfl) ⟨F22, b363, hs375.dr1.dr1, le372, fI⟩
      ·rintro f w326 ⟨F20, b329, hs327, le328, ⟨_, rfl⟩⟩
       refine Ab <| Sq <| Sq (Rg (rG 8) ?_)
       refine Ld hs327.at2 <| Ld hs327.at0 ?_
       obtain ⟨r376, hr377, h378⟩ := bind_some h337
       refine Cl' CI hs327 (CZ N w326 F20 hs327.pers (hG.mono ((((((((le33.t le41).trans le45).trans le101).trans le115).trans le121).trans le164).trans le246).trans le328)) (({ Report := x0.Report, Serial := x0.Serial, Zone := x0.Zone } : Ac)) (({ Num := r95.1, Khz := r109.1, Mode := j330.1, Minute := j122, Call := j330.2, Sent := ({ Report := j166.1, Serial := j166.2.1, Zone := j166.2.2 } : Ad), Got := ({ Report := j248.1, Serial := j248.2.1, Zone := j248.2.2 } : Ad) } : Line)) _ hr377) ?_
       rintro _ F23 w380 hs381 le382 rfl
       refine Vs 5 <| Nss (Rg (rG 7) ?_)
       refine TN (fun f w => ∃ (F24 : Mem), HS w0 F0 w F24 [(sb b329 #[(vi r95.1), (vi r109.1), (vi j330.1), (vi j122), (sv j330.2), (vi j166.1), (vi j166.2.1), (vi j166.2.2), (vi j248.1), (vi j248.2.1), (vi j248.2.2)] 34), (sb b24 #[(vi 0), (vi 0), (vi 0), (vi 0), (sv (([] : T2))), (vi 0), (vi 0), (vi 0), (vi 0), (vi 0), (vi 0)] 34)] /\ TH F23 F24 /\ FI f [] [(4, (pt b24 0)), (18, (pt b329 0)), (109, (.bool ((r376.2 != 0) || (r376.1 != x1))))]) ?_ ?_
       ·refine Vs 3 ?_
        refine TM (r376.2 != 0) (fun hb391 => ?_) (fun hb391 => ?_)
        ·refine Ss hb391 3 ?_
         refine Pk1 hb391 ?_
         exact TD ⟨rfl, F23, hs381.dr2, (TI _), (fJ ⟨rfl, rfl, (congrArg Value.bool (GL hb391 rfl)), trivial⟩)⟩
        ·refine Vgs hb391 3 ?_
         refine Pk0 hb391 ?_
         exact TD ⟨rfl, F23, hs381.dr2, (TI _), (fJ ⟨rfl, rfl, (congrArg Value.bool (CV hb391 rfl)), trivial⟩)⟩
       ·rintro f w384 ⟨F24, hs385, le386, ⟨_, rfl⟩⟩
        refine Ab <| Cd h378 (fun hb392 h393 => ?_) (fun hb392 h394 => ?_)
        ·refine Sq (Rg [0, 1, 2] ?_)
         refine Vs 1 <| St1 #[(vi 0), (vi 0), (vi 0), (vi 0), (sv (([] : T2))), (vi 0), (vi 0), (vi 0), (vi 0), (vi 0), (vi 0)] hs385 (fun w395 hs396 => ?_)
         refine Vs 1 <| Nt <| Rt <| Am ?_
         obtain rfl := Aa h393
         exact ⟨rfl, (.tuple #[(.agg #[(vi 0), (vi 0), (vi 0), (vi 0), (sv (([] : T2))), (vi 0), (vi 0), (vi 0), (vi 0), (vi 0), (vi 0)]), (vi 20)]), AN (l := [.cell 4 34, .tmp 5]) (by kernel_rfl) (vs := [(.agg #[(vi 0), (vi 0), (vi 0), (vi 0), (sv (([] : T2))), (vi 0), (vi 0), (vi 0), (vi 0), (vi 0), (vi 0)]), (vi 20)]) ⟨b24, 0, rfl, Ak (t := 34) (g := true) (s := 11) (by kernel_rfl) hs396.at1 rfl (by decide), ⟨rfl, trivial⟩⟩, (.tuple #[(.agg #[(vi 0), (vi 0), (vi 0), (vi 0), (sv (([] : T2))), (vi 0), (vi 0), (vi 0), (vi 0), (vi 0), (vi 0)]), (vi 20)]), F24, rfl, hs396.clear, rfl⟩
        ·refine Sc ?_
         refine Ab <| Sq (Rg [0, 1, 2] ?_)
         refine Ld hs385.at0 <| St1 #[(vi r95.1), (vi r109.1), (vi j330.1), (vi j122), (sv j330.2), (vi j166.1), (vi j166.2.1), (vi j166.2.2), (vi j248.1), (vi j248.2.1), (vi j248.2.2)] hs385 (fun w397 hs398 => ?_)
         refine Vs 1 <| Nt <| Rt ?_
         obtain rfl := Aa h394
         exact ⟨rfl, (.tuple #[(.agg #[(vi r95.1), (vi r109.1), (vi j330.1), (vi j122), (sv j330.2), (vi j166.1), (vi j166.2.1), (vi j166.2.2), (vi j248.1), (vi j248.2.1), (vi j248.2.2)]), (vi 0)]), AN (l := [.cell 4 34, .tmp 5]) (by kernel_rfl) (vs := [(.agg #[(vi r95.1), (vi r109.1), (vi j330.1), (vi j122), (sv j330.2), (vi j166.1), (vi j166.2.1), (vi j166.2.2), (vi j248.1), (vi j248.2.1), (vi j248.2.2)]), (vi 0)]) ⟨b24, 0, rfl, Ak (t := 34) (g := true) (s := 11) (by kernel_rfl) hs398.at1 rfl (by decide), ⟨rfl, trivial⟩⟩, (.tuple #[(.agg #[(vi r95.1), (vi r109.1), (vi j330.1), (vi j122), (sv j330.2), (vi j166.1), (vi j166.2.1), (vi j166.2.2), (vi j248.1), (vi j248.2.1), (vi j248.2.2)]), (vi 0)]), F24, rfl, hs398.clear, rfl⟩
def G4 (N : Nat) (x0 : Ao) (x1 : T2) : Option (Ao × Bool) :=
 ((strings_CutPrefix N x1 ([67, 65, 76, 76, 32] : T2)).bind fun r21 => (bif r21.2 then ((Ee N r21.1).bind fun r34 => some (({ o_ := ({ Report := x0.o_.Report, Serial := x0.o_.Serial, Zone := x0.o_.Zone } : Ac), l_ := ({ Call := r21.1, Category := x0.l_.Category, Power := x0.l_.Power, Claimed := x0.l_.Claimed, Jumps := x0.l_.Jumps, Lines := x0.l_.Lines } : Log), done_ := x0.done_, ended_ := x0.ended_ } : Ao), r34)) else none))
theorem Jg : Ag Tryz.prog 153 := fun _ _ => by kernel_rfl
theorem JU (N : Nat) {wb w0 : World} {Fb F0 : Mem} {Lf : Own} (hG : Bl F0) (bp0 : Nat) (x0 : Ao) (a0_7 : T3) (n0_7 : Nat) (tb0_9_0 : Nat) (tb0_9_1 : Nat) (tb0_9_2 : Nat) (tb0_9_3 : Nat) (tb0_9_4 : Nat) (tb0_9_5 : Nat) (tb0_9_6 : Nat) (tb0_9_7 : Nat) (tb0_9_8 : Nat) (tb0_9_9 : Nat) (tb0_9_10 : Nat) (tb0_9_11 : Nat) (a0_8 : T3) (n0_8 : Nat) (e0_8 : Option Nat × Obj) (hb0_7 : LC x0.l_.Jumps.length n0_7) (hs0_7 : SlA AG F0 a0_7 x0.l_.Jumps) (htb0_9_0 : F0 tb0_9_0 = some (oc #[(sv (([67, 65, 84, 69, 71, 79, 82, 89] : T2)))] 9)) (htb0_9_1 : F0 tb0_9_1 = some (oc #[(vi 1)] 3)) (htb0_9_2 : F0 tb0_9_2 = some (oc #[(vi 9)] 3)) (htb0_9_3 : F0 tb0_9_3 = some (oc #[(fV 156 #[])] 195)) (htb0_9_4 : F0 tb0_9_4 = some (oc #[(sv (([80, 79, 87, 69, 82] : T2)))] 9)) (htb0_9_5 : F0 tb0_9_5 = some (oc #[(vi 1)] 3)) (htb0_9_6 : F0 tb0_9_6 = some (oc #[(vi 9999)] 3)) (htb0_9_7 : F0 tb0_9_7 = some (oc #[(fV 157 #[])] 195)) (htb0_9_8 : F0 tb0_9_8 = some (oc #[(sv (([67, 76, 65, 73, 77, 69, 68] : T2)))] 9)) (htb0_9_9 : F0 tb0_9_9 = some (oc #[(vi 0)] 3)) (htb0_9_10 : F0 tb0_9_10 = some (oc #[(vi 1000000)] 3)) (htb0_9_11 : F0 tb0_9_11 = some (oc #[(fV 158 #[])] 195)) (hr0_8 : Ar AD 34 F0 a0_8 n0_8 x0.l_.Lines e0_8) (x1 : T2) (hs0 : HS wb Fb w0 F0 ((sb bp0 #[(.bool x0.o_.Report), (.bool x0.o_.Serial), (.bool x0.o_.Zone), (sv x0.l_.Call), (vi x0.l_.Category), (vi x0.l_.Power), (vi x0.l_.Claimed), (.slice a0_7 x0.l_.Jumps.length n0_7), (.slice a0_8 x0.l_.Lines.length n0_8), (fV 153 #[]), (fV 154 #[]), (fV 190 #[(pt tb0_9_0 0), (pt tb0_9_1 0), (pt tb0_9_2 0), (pt tb0_9_3 0)]), (fV 191 #[(pt tb0_9_0 0), (pt tb0_9_3 0)]), (fV 190 #[(pt tb0_9_4 0), (pt tb0_9_5 0), (pt tb0_9_6 0), (pt tb0_9_7 0)]), (fV 191 #[(pt tb0_9_4 0), (pt tb0_9_7 0)]), (fV 190 #[(pt tb0_9_8 0), (pt tb0_9_9 0), (pt tb0_9_10 0), (pt tb0_9_11 0)]), (fV 191 #[(pt tb0_9_8 0), (pt tb0_9_11 0)]), (fV 159 #[]), (fV 160 #[]), (vi x0.done_), (.bool x0.ended_)] 130) :: e0_8 :: Lf)) (r : (Ao × Bool)) (h : G4 N x0 x1 = some r) :
  Calls Tryz.prog 153 ([(pt bp0 3), (sv x1)] : List Value).toArray w0 (D5 wb Fb F0 fun F' v L' => ∃ (aq0_7 : T3) (nq0_7 : Nat) (aq0_8 : T3) (nq0_8 : Nat) (eq0_8 : Option Nat × Obj), v = (.bool r.2) /\ L' = (sb bp0 #[(.bool r.1.o_.Report), (.bool r.1.o_.Serial), (.bool r.1.o_.Zone), (sv r.1.l_.Call), (vi r.1.l_.Category), (vi r.1.l_.Power), (vi r.1.l_.Claimed), (.slice aq0_7 r.1.l_.Jumps.length nq0_7), (.slice aq0_8 r.1.l_.Lines.length nq0_8), (fV 153 #[]), (fV 154 #[]), (fV 190 #[(pt tb0_9_0 0), (pt tb0_9_1 0), (pt tb0_9_2 0), (pt tb0_9_3 0)]), (fV 191 #[(pt tb0_9_0 0), (pt tb0_9_3 0)]), (fV 190 #[(pt tb0_9_4 0), (pt tb0_9_5 0), (pt tb0_9_6 0), (pt tb0_9_7 0)]), (fV 191 #[(pt tb0_9_4 0), (pt tb0_9_7 0)]), (fV 190 #[(pt tb0_9_8 0), (pt tb0_9_9 0), (pt tb0_9_10 0), (pt tb0_9_11 0)]), (fV 191 #[(pt tb0_9_8 0), (pt tb0_9_11 0)]), (fV 159 #[]), (fV 160 #[]), (vi r.1.done_), (.bool r.1.ended_)] 130) :: eq0_8 :: Lf /\ LC r.1.l_.Jumps.length nq0_7 /\ SlA AG F' aq0_7 r.1.l_.Jumps /\ Ar AD 34 F' aq0_8 nq0_8 r.1.l_.Lines eq0_8) := by
 refine Go 21 Tryz.func153 <| Sq (Rg [0] ?_)
 refine Vs 1 <| Nss (Rg (rG 7) ?_)
 refine Vs 1 ?_
 obtain ⟨r21, hr22, h23⟩ := bind_some h
 refine Cl' AX hs0 (A3 N w0 F0 hs0.pers x1 (([67, 65, 76, 76, 32] : T2)) _ hr22) ?_
 rintro _ F1 w25 hs26 le27 rfl
 refine Vs 5 <| Nss (Rg (rG 5) ?_)
 refine Vs 4 <| St0 #[(.bool x0.o_.Report), (.bool x0.o_.Serial), (.bool x0.o_.Zone), (sv r21.1), (vi x0.l_.Category), (vi x0.l_.Power), (vi x0.l_.Claimed), (.slice a0_7 x0.l_.Jumps.length n0_7), (.slice a0_8 x0.l_.Lines.length n0_8), (fV 153 #[]), (fV 154 #[]), (fV 190 #[(pt tb0_9_0 0), (pt tb0_9_1 0), (pt tb0_9_2 0), (pt tb0_9_3 0)]), (fV 191 #[(pt tb0_9_0 0), (pt tb0_9_3 0)]), (fV 190 #[(pt tb0_9_4 0), (pt tb0_9_5 0), (pt tb0_9_6 0), (pt tb0_9_7 0)]), (fV 191 #[(pt tb0_9_4 0), (pt tb0_9_7 0)]), (fV 190 #[(pt tb0_9_8 0), (pt tb0_9_9 0), (pt tb0_9_10 0), (pt tb0_9_11 0)]), (fV 191 #[(pt tb0_9_8 0), (pt tb0_9_11 0)]), (fV 159 #[]), (fV 160 #[]), (vi x0.done_), (.bool x0.ended_)] hs26 (fun w29 hs30 => ?_)
 refine Nss (Rg (rG 6) ?_)
 refine Vs 2 <| Sp h23 (fun hb31 h32 => ?_) (fun hb31 h33 => ?_)
 ·refine Vgs hb31 1 ?_
  obtain ⟨r34, hr35, h36⟩ := bind_some h32
  refine Cg hb31 D2 hs30 (Et N w29 F1 hs30.pers (hG.mono le27) r21.1 _ hr35) ?_
  rintro _ F2 w38 hs39 le40 rfl
  refine Pk1 hb31 <| Vs 1 <| Nt <| Rt ?_
  obtain rfl := Aa h36
  exact ReB [(.bool r34)] hs39 (le27.t le40) ⟨a0_7, n0_7, a0_8, n0_8, e0_8, rfl, rfl, hb0_7, (TK hs0_7 (le27.t le40)), (hr0_8.mono (le27.t le40))⟩
 ·cases h33
def EN (N : Nat) (x0 : Ao) (x1 : T2) (r21 : (List T2)) (r29 : List T2) : (List Int × Int) -> Option (BE (Ao × Bool) (List Int × Int)) := fun s40 =>
 (bif (decide (s40.2 < (r29.length : Int))) then none else some (.done (s40.1, s40.2)))
def Gz (N : Nat) (x0 : Ao) (x1 : T2) : Option (Ao × Bool) :=
 ((strings_Split N x1 ([32] : T2)).bind fun r21 => ((sub r21 1 (r21.length : Int)).bind fun r29 => ((A6 (EN N x0 x1 r21 r29) N (([] : List Int), 0)).bind fun o => o.k (fun r => some r) (fun s51 => ((idx r21 0).bind fun x72 => (bif (x72 == ([74, 85, 77, 80, 83] : T2)) then ((Gc N s51.1).bind fun r89 => some (({ o_ := ({ Report := x0.o_.Report, Serial := x0.o_.Serial, Zone := x0.o_.Zone } : Ac), l_ := ({ Call := x0.l_.Call, Category := x0.l_.Category, Power := x0.l_.Power, Claimed := x0.l_.Claimed, Jumps := s51.1, Lines := x0.l_.Lines } : Log), done_ := x0.done_, ended_ := x0.ended_ } : Ao), r89)) else none))))))
theorem IB : Ag Tryz.prog 159 := fun _ _ => by kernel_rfl
theorem Jp (N : Nat) {wb w0 : World} {Fb F0 : Mem} {Lf : Own} (hG : Bl F0) (bp0 : Nat) (x0 : Ao) (a0_7 : T3) (n0_7 : Nat) (tb0_9_0 : Nat) (tb0_9_1 : Nat) (tb0_9_2 : Nat) (tb0_9_3 : Nat) (tb0_9_4 : Nat) (tb0_9_5 : Nat) (tb0_9_6 : Nat) (tb0_9_7 : Nat) (tb0_9_8 : Nat) (tb0_9_9 : Nat) (tb0_9_10 : Nat) (tb0_9_11 : Nat) (a0_8 : T3) (n0_8 : Nat) (e0_8 : Option Nat × Obj) (hb0_7 : LC x0.l_.Jumps.length n0_7) (hs0_7 : SlA AG F0 a0_7 x0.l_.Jumps) (htb0_9_0 : F0 tb0_9_0 = some (oc #[(sv (([67, 65, 84, 69, 71, 79, 82, 89] : T2)))] 9)) (htb0_9_1 : F0 tb0_9_1 = some (oc #[(vi 1)] 3)) (htb0_9_2 : F0 tb0_9_2 = some (oc #[(vi 9)] 3)) (htb0_9_3 : F0 tb0_9_3 = some (oc #[(fV 156 #[])] 195)) (htb0_9_4 : F0 tb0_9_4 = some (oc #[(sv (([80, 79, 87, 69, 82] : T2)))] 9)) (htb0_9_5 : F0 tb0_9_5 = some (oc #[(vi 1)] 3)) (htb0_9_6 : F0 tb0_9_6 = some (oc #[(vi 9999)] 3)) (htb0_9_7 : F0 tb0_9_7 = some (oc #[(fV 157 #[])] 195)) (htb0_9_8 : F0 tb0_9_8 = some (oc #[(sv (([67, 76, 65, 73, 77, 69, 68] : T2)))] 9)) (htb0_9_9 : F0 tb0_9_9 = some (oc #[(vi 0)] 3)) (htb0_9_10 : F0 tb0_9_10 = some (oc #[(vi 1000000)] 3)) (htb0_9_11 : F0 tb0_9_11 = some (oc #[(fV 158 #[])] 195)) (hr0_8 : Ar AD 34 F0 a0_8 n0_8 x0.l_.Lines e0_8) (x1 : T2) (hs0 : HS wb Fb w0 F0 ((sb bp0 #[(.bool x0.o_.Report), (.bool x0.o_.Serial), (.bool x0.o_.Zone), (sv x0.l_.Call), (vi x0.l_.Category), (vi x0.l_.Power), (vi x0.l_.Claimed), (.slice a0_7 x0.l_.Jumps.length n0_7), (.slice a0_8 x0.l_.Lines.length n0_8), (fV 153 #[]), (fV 154 #[]), (fV 190 #[(pt tb0_9_0 0), (pt tb0_9_1 0), (pt tb0_9_2 0), (pt tb0_9_3 0)]), (fV 191 #[(pt tb0_9_0 0), (pt tb0_9_3 0)]), (fV 190 #[(pt tb0_9_4 0), (pt tb0_9_5 0), (pt tb0_9_6 0), (pt tb0_9_7 0)]), (fV 191 #[(pt tb0_9_4 0), (pt tb0_9_7 0)]), (fV 190 #[(pt tb0_9_8 0), (pt tb0_9_9 0), (pt tb0_9_10 0), (pt tb0_9_11 0)]), (fV 191 #[(pt tb0_9_8 0), (pt tb0_9_11 0)]), (fV 159 #[]), (fV 160 #[]), (vi x0.done_), (.bool x0.ended_)] 130) :: e0_8 :: Lf)) (r : (Ao × Bool)) (h : Gz N x0 x1 = some r) :
  Calls Tryz.prog 159 ([(pt bp0 3), (sv x1)] : List Value).toArray w0 (D5 wb Fb F0 fun F' v L' => ∃ (aq0_7 : T3) (nq0_7 : Nat) (aq0_8 : T3) (nq0_8 : Nat) (eq0_8 : Option Nat × Obj), v = (.bool r.2) /\ L' = (sb bp0 #[(.bool r.1.o_.Report), (.bool r.1.o_.Serial), (.bool r.1.o_.Zone), (sv r.1.l_.Call), (vi r.1.l_.Category), (vi r.1.l_.Power), (vi r.1.l_.Claimed), (.slice aq0_7 r.1.l_.Jumps.length nq0_7), (.slice aq0_8 r.1.l_.Lines.length nq0_8), (fV 153 #[]), (fV 154 #[]), (fV 190 #[(pt tb0_9_0 0), (pt tb0_9_1 0), (pt tb0_9_2 0), (pt tb0_9_3 0)]), (fV 191 #[(pt tb0_9_0 0), (pt tb0_9_3 0)]), (fV 190 #[(pt tb0_9_4 0), (pt tb0_9_5 0), (pt tb0_9_6 0), (pt tb0_9_7 0)]), (fV 191 #[(pt tb0_9_4 0), (pt tb0_9_7 0)]), (fV 190 #[(pt tb0_9_8 0), (pt tb0_9_9 0), (pt tb0_9_10 0), (pt tb0_9_11 0)]), (fV 191 #[(pt tb0_9_8 0), (pt tb0_9_11 0)]), (fV 159 #[]), (fV 160 #[]), (vi r.1.done_), (.bool r.1.ended_)] 130) :: eq0_8 :: Lf /\ LC r.1.l_.Jumps.length nq0_7 /\ SlA AG F' aq0_7 r.1.l_.Jumps /\ Ar AD 34 F' aq0_8 nq0_8 r.1.l_.Lines eq0_8) := by
 refine Go 44 Tryz.func159 <| Sq (Rg [0] ?_)
 refine Vs 1 <| Nss (Rg [0, 1, 2] ?_)
 refine Vs 1 ?_
 obtain ⟨r21, hr22, h23⟩ := bind_some h
 refine Cl' Ch hs0 (Cy N w0 F0 hs0.pers hG x1 (([32] : T2)) _ hr22) ?_
 rintro _ F1 w25 hs26 le27 ⟨ar21_0_0, nr21_0_0, rfl, hbr21_0_0, hsr21_0_0⟩
 refine Vs 1 <| Nss (Rg [0] ?_)
 refine Vs 1 <| Nss <| Sq (Rg (rG 4) ?_)
 refine Vs 1 ?_
 obtain ⟨r29, hr30, h31⟩ := bind_some h23
 obtain ⟨a32, n33, hb34, hs35, hrun36⟩ := EL (P := Tryz.prog) (T := AH) (lo := (some (.const (vi 1)))) (hi := none) (mx := none) (t := 55) (E := 9) (by_ := 16) (c := nr21_0_0) (a := ar21_0_0) (l := r21) (r := r29) (il := 1) (ih := (r21.length : Int)) (im := 0) (by kernel_rfl) (by kernel_rfl) hbr21_0_0 hsr21_0_0 (fun h => by first | rfl | cases h) hr30
 refine V 14 55 (hrun36 (x := (.tmp 13)) rfl rfl rfl trivial) <| Vs 2 <| Nt ?_
 obtain ⟨o37, ho38, h39⟩ := bind_some h31
 refine TO (fun f w => ∃ (s51 : (List Int × Int)) (F3 : Mem) (as51_0 : T3) (ns51_0 : Nat), o37 = .done s51 /\ HS wb Fb w F3 ((sb bp0 #[(.bool x0.o_.Report), (.bool x0.o_.Serial), (.bool x0.o_.Zone), (sv x0.l_.Call), (vi x0.l_.Category), (vi x0.l_.Power), (vi x0.l_.Claimed), (.slice a0_7 x0.l_.Jumps.length n0_7), (.slice a0_8 x0.l_.Lines.length n0_8), (fV 153 #[]), (fV 154 #[]), (fV 190 #[(pt tb0_9_0 0), (pt tb0_9_1 0), (pt tb0_9_2 0), (pt tb0_9_3 0)]), (fV 191 #[(pt tb0_9_0 0), (pt tb0_9_3 0)]), (fV 190 #[(pt tb0_9_4 0), (pt tb0_9_5 0), (pt tb0_9_6 0), (pt tb0_9_7 0)]), (fV 191 #[(pt tb0_9_4 0), (pt tb0_9_7 0)]), (fV 190 #[(pt tb0_9_8 0), (pt tb0_9_9 0), (pt tb0_9_10 0), (pt tb0_9_11 0)]), (fV 191 #[(pt tb0_9_8 0), (pt tb0_9_11 0)]), (fV 159 #[]), (fV 160 #[]), (vi x0.done_), (.bool x0.ended_)] 130) :: e0_8 :: Lf) /\ TH F1 F3 /\ FI f [] [(0, (pt bp0 3)), (5, (.slice ar21_0_0 r21.length nr21_0_0)), (6, (.slice as51_0 s51.1.length ns51_0))] /\ LC s51.1.length ns51_0 /\ SlA AG F3 as51_0 s51.1) ?_ ?_
 ·refine Bk ?_
  refine TG (by kernel_rfl) (fun m f w => ∃ (s40 : (List Int × Int)) (F2 : Mem) (as40_0 : T3) (ns40_0 : Nat), A6 (EN N x0 x1 r21 r29) m s40 = some o37 /\ HS wb Fb w F2 ((sb bp0 #[(.bool x0.o_.Report), (.bool x0.o_.Serial), (.bool x0.o_.Zone), (sv x0.l_.Call), (vi x0.l_.Category), (vi x0.l_.Power), (vi x0.l_.Claimed), (.slice a0_7 x0.l_.Jumps.length n0_7), (.slice a0_8 x0.l_.Lines.length n0_8), (fV 153 #[]), (fV 154 #[]), (fV 190 #[(pt tb0_9_0 0), (pt tb0_9_1 0), (pt tb0_9_2 0), (pt tb0_9_3 0)]), (fV 191 #[(pt tb0_9_0 0), (pt tb0_9_3 0)]), (fV 190 #[(pt tb0_9_4 0), (pt tb0_9_5 0), (pt tb0_9_6 0), (pt tb0_9_7 0)]), (fV 191 #[(pt tb0_9_4 0), (pt tb0_9_7 0)]), (fV 190 #[(pt tb0_9_8 0), (pt tb0_9_9 0), (pt tb0_9_10 0), (pt tb0_9_11 0)]), (fV 191 #[(pt tb0_9_8 0), (pt tb0_9_11 0)]), (fV 159 #[]), (fV 160 #[]), (vi x0.done_), (.bool x0.ended_)] 130) :: e0_8 :: Lf) /\ TH F1 F2 /\ FI f [] [(0, (pt bp0 3)), (5, (.slice ar21_0_0 r21.length nr21_0_0)), (6, (.slice as40_0 s40.1.length ns40_0)), (14, (.slice a32 r29.length n33)), (15, (vi (r29.length : Int))), (16, (vi s40.2))] /\ LC s40.1.length ns40_0 /\ SlA AG F2 as40_0 s40.1) N ⟨(([] : List Int), 0), F1, none, 0, ho38, hs26, (TI _), fI, TL, (.inl rfl)⟩ ?_
  rintro m59 f w41 ⟨s40, F2, as40_0, ns40_0, hit60, hs42, le43, ⟨_, rfl⟩, hbs40_0, hss40_0⟩
  obtain ⟨m61, fl62, rfl, hb63, hnx64⟩ := AQ hit60
  refine Sq (Rg [0] ?_)
  refine Vs 1 <| Nss <| Cd hb63 (fun hb65 h66 => ?_) (fun hb65 h67 => ?_)
  ·cases h66
  ·refine Ex ?_
   refine Au <| Au <| AA rfl ?_
   have ho68 := AR h67 hnx64
   exact .inl ⟨rfl, (s40.1, s40.2), F2, as40_0, ns40_0, ho68, hs42, le43, fI, hbs40_0, hss40_0⟩
 ·rintro f w52 ⟨s51, F3, as51_0, ns51_0, rfl, hs53, le54, ⟨_, rfl⟩, hbs51_0, hss51_0⟩
  have h69 := BN h39
  refine Ab <| Sq (Rg (rG 5) ?_)
  refine Vs 4 <| St0 #[(.bool x0.o_.Report), (.bool x0.o_.Serial), (.bool x0.o_.Zone), (sv x0.l_.Call), (vi x0.l_.Category), (vi x0.l_.Power), (vi x0.l_.Claimed), (.slice as51_0 s51.1.length ns51_0), (.slice a0_8 x0.l_.Lines.length n0_8), (fV 153 #[]), (fV 154 #[]), (fV 190 #[(pt tb0_9_0 0), (pt tb0_9_1 0), (pt tb0_9_2 0), (pt tb0_9_3 0)]), (fV 191 #[(pt tb0_9_0 0), (pt tb0_9_3 0)]), (fV 190 #[(pt tb0_9_4 0), (pt tb0_9_5 0), (pt tb0_9_6 0), (pt tb0_9_7 0)]), (fV 191 #[(pt tb0_9_4 0), (pt tb0_9_7 0)]), (fV 190 #[(pt tb0_9_8 0), (pt tb0_9_9 0), (pt tb0_9_10 0), (pt tb0_9_11 0)]), (fV 191 #[(pt tb0_9_8 0), (pt tb0_9_11 0)]), (fV 159 #[]), (fV 160 #[]), (vi x0.done_), (.bool x0.ended_)] hs53 (fun w70 hs71 => ?_)
  refine Nss (Rg (rG 9) ?_)
  refine Vs 1 ?_
  obtain ⟨x72, hx73, h75⟩ := bind_some h69
  obtain ⟨hi74, hx73'⟩ := As hx73
  obtain ⟨b76, o77, C78, E79, fz80, rfl, hF82, hE83⟩ := TP (TK hsr21_0_0 le54) hx73'
  have hc85 := hE83 _ _ hx73'
  refine Ix hi74 <| Lx 0 (hs71.pers _ _ hF82) hc85 <| Vs 2 <| Sp h75 (fun hb86 h87 => ?_) (fun hb86 h88 => ?_)
  ·refine Vgs hb86 1 ?_
   obtain ⟨r89, hr90, h91⟩ := bind_some h87
   refine Cg hb86 Fq hs71 (Gq N w70 F3 hs71.pers s51.1 as51_0 ns51_0 hbs51_0 hss51_0 _ hr90) ?_
   rintro _ F4 w93 hs94 le95 rfl
   refine Pk1 hb86 <| Vs 1 <| Nt <| Rt ?_
   obtain rfl := Aa h91
   exact ReB [(.bool r89)] hs94 ((le27.t le54).trans le95) ⟨as51_0, ns51_0, a0_8, n0_8, e0_8, rfl, rfl, hbs51_0, (TK hss51_0 le95), (hr0_8.mono ((le27.t le54).trans le95))⟩
  ·cases h88
def Fd (N : Nat) (x0 : Ao) (x1 : T2) (z0 : T2) (z1 : Int) (z2 : Int) : Option (Ao × Bool) :=
 ((Dn z0 ([32] : T2)).bind fun r21 => ((strings_CutPrefix N x1 r21).bind fun r24 => ((AW N r24.1).bind fun r32 => (bif (!r24.2) then none else (bif (!r32.2) then none else ((AO N r32.1 z1 z2).bind fun r46 => (bif (!r46) then some (x0, false) else some (({ o_ := ({ Report := x0.o_.Report, Serial := x0.o_.Serial, Zone := x0.o_.Zone } : Ac), l_ := ({ Call := x0.l_.Call, Category := r32.1, Power := x0.l_.Power, Claimed := x0.l_.Claimed, Jumps := x0.l_.Jumps, Lines := x0.l_.Lines } : Log), done_ := x0.done_, ended_ := x0.ended_ } : Ao), true))))))))
theorem Ho : Ag Tryz.prog 190 := fun _ _ => by kernel_rfl
theorem HW (N : Nat) {wb w0 : World} {Fb F0 : Mem} {Lf : Own} (hG : Bl F0) (bp0 : Nat) (x0 : Ao) (a0_7 : T3) (n0_7 : Nat) (tb0_9_0 : Nat) (tb0_9_1 : Nat) (tb0_9_2 : Nat) (tb0_9_3 : Nat) (tb0_9_4 : Nat) (tb0_9_5 : Nat) (tb0_9_6 : Nat) (tb0_9_7 : Nat) (tb0_9_8 : Nat) (tb0_9_9 : Nat) (tb0_9_10 : Nat) (tb0_9_11 : Nat) (a0_8 : T3) (n0_8 : Nat) (e0_8 : Option Nat × Obj) (hb0_7 : LC x0.l_.Jumps.length n0_7) (hs0_7 : SlA AG F0 a0_7 x0.l_.Jumps) (htb0_9_0 : F0 tb0_9_0 = some (oc #[(sv (([67, 65, 84, 69, 71, 79, 82, 89] : T2)))] 9)) (htb0_9_1 : F0 tb0_9_1 = some (oc #[(vi 1)] 3)) (htb0_9_2 : F0 tb0_9_2 = some (oc #[(vi 9)] 3)) (htb0_9_3 : F0 tb0_9_3 = some (oc #[(fV 156 #[])] 195)) (htb0_9_4 : F0 tb0_9_4 = some (oc #[(sv (([80, 79, 87, 69, 82] : T2)))] 9)) (htb0_9_5 : F0 tb0_9_5 = some (oc #[(vi 1)] 3)) (htb0_9_6 : F0 tb0_9_6 = some (oc #[(vi 9999)] 3)) (htb0_9_7 : F0 tb0_9_7 = some (oc #[(fV 157 #[])] 195)) (htb0_9_8 : F0 tb0_9_8 = some (oc #[(sv (([67, 76, 65, 73, 77, 69, 68] : T2)))] 9)) (htb0_9_9 : F0 tb0_9_9 = some (oc #[(vi 0)] 3)) (htb0_9_10 : F0 tb0_9_10 = some (oc #[(vi 1000000)] 3)) (htb0_9_11 : F0 tb0_9_11 = some (oc #[(fV 158 #[])] 195)) (hr0_8 : Ar AD 34 F0 a0_8 n0_8 x0.l_.Lines e0_8) (x1 : T2) (bz0 : Nat) (z0 : T2) (hz0 : F0 bz0 = some (oc #[(sv z0)] 9)) (bz1 : Nat) (z1 : Int) (hz1 : F0 bz1 = some (oc #[(vi z1)] 3)) (bz2 : Nat) (z2 : Int) (hz2 : F0 bz2 = some (oc #[(vi z2)] 3)) (bz3 : Nat) (hz3 : F0 bz3 = some (oc #[(fV 156 #[])] 195)) (hs0 : HS wb Fb w0 F0 ((sb bp0 #[(.bool x0.o_.Report), (.bool x0.o_.Serial), (.bool x0.o_.Zone), (sv x0.l_.Call), (vi x0.l_.Category), (vi x0.l_.Power), (vi x0.l_.Claimed), (.slice a0_7 x0.l_.Jumps.length n0_7), (.slice a0_8 x0.l_.Lines.length n0_8), (fV 153 #[]), (fV 154 #[]), (fV 190 #[(pt tb0_9_0 0), (pt tb0_9_1 0), (pt tb0_9_2 0), (pt tb0_9_3 0)]), (fV 191 #[(pt tb0_9_0 0), (pt tb0_9_3 0)]), (fV 190 #[(pt tb0_9_4 0), (pt tb0_9_5 0), (pt tb0_9_6 0), (pt tb0_9_7 0)]), (fV 191 #[(pt tb0_9_4 0), (pt tb0_9_7 0)]), (fV 190 #[(pt tb0_9_8 0), (pt tb0_9_9 0), (pt tb0_9_10 0), (pt tb0_9_11 0)]), (fV 191 #[(pt tb0_9_8 0), (pt tb0_9_11 0)]), (fV 159 #[]), (fV 160 #[]), (vi x0.done_), (.bool x0.ended_)] 130) :: e0_8 :: Lf)) (r : (Ao × Bool)) (h : Fd N x0 x1 z0 z1 z2 = some r) :
  Calls Tryz.prog 190 ([(pt bp0 3), (sv x1), (pt bz0 0), (pt bz1 0), (pt bz2 0), (pt bz3 0)] : List Value).toArray w0 (D5 wb Fb F0 fun F' v L' => ∃ (aq0_7 : T3) (nq0_7 : Nat) (aq0_8 : T3) (nq0_8 : Nat) (eq0_8 : Option Nat × Obj), v = (.bool r.2) /\ L' = (sb bp0 #[(.bool r.1.o_.Report), (.bool r.1.o_.Serial), (.bool r.1.o_.Zone), (sv r.1.l_.Call), (vi r.1.l_.Category), (vi r.1.l_.Power), (vi r.1.l_.Claimed), (.slice aq0_7 r.1.l_.Jumps.length nq0_7), (.slice aq0_8 r.1.l_.Lines.length nq0_8), (fV 153 #[]), (fV 154 #[]), (fV 190 #[(pt tb0_9_0 0), (pt tb0_9_1 0), (pt tb0_9_2 0), (pt tb0_9_3 0)]), (fV 191 #[(pt tb0_9_0 0), (pt tb0_9_3 0)]), (fV 190 #[(pt tb0_9_4 0), (pt tb0_9_5 0), (pt tb0_9_6 0), (pt tb0_9_7 0)]), (fV 191 #[(pt tb0_9_4 0), (pt tb0_9_7 0)]), (fV 190 #[(pt tb0_9_8 0), (pt tb0_9_9 0), (pt tb0_9_10 0), (pt tb0_9_11 0)]), (fV 191 #[(pt tb0_9_8 0), (pt tb0_9_11 0)]), (fV 159 #[]), (fV 160 #[]), (vi r.1.done_), (.bool r.1.ended_)] 130) :: eq0_8 :: Lf /\ LC r.1.l_.Jumps.length nq0_7 /\ SlA AG F' aq0_7 r.1.l_.Jumps /\ Ar AD 34 F' aq0_8 nq0_8 r.1.l_.Lines eq0_8) := by
 refine Go 43 Tryz.func190 <| Sq (Rg [0] ?_)
 refine Vs 1 <| Nss (Rg (rG 9) ?_)
 refine Vs 1 <| Ld (hs0.pers _ _ hz0) ?_
 obtain ⟨r21, hr22, h23⟩ := bind_some h
 refine V 16 9 (AU (t := 9) (t' := 9) (x := (.tmp 15)) (y := (.const (sv ([32] : T2)))) (a := z0) (b := ([32] : T2)) (v := r21) rfl rfl hr22) ?_
 obtain ⟨r24, hr25, h26⟩ := bind_some h23
 refine Cl' AX hs0 (A3 N w0 F0 hs0.pers x1 r21 _ hr25) ?_
 rintro _ F1 w28 hs29 le30 rfl
 refine Vs 5 <| Nss (Rg (rG 7) ?_)
 refine Vs 1 ?_
 obtain ⟨r32, hr33, h34⟩ := bind_some h26
 refine Cl' Bf hs29 (Bq N w28 F1 hs29.pers (hG.mono le30) r24.1 _ hr33) ?_
 rintro _ F2 w36 hs37 le38 rfl
 refine Vs 5 <| Nss <| Sq (Rg (rG 13) ?_)
 refine Vs 3 <| Sp h34 (fun hb40 h41 => ?_) (fun hb40 h42 => ?_)
 ·cases h41
 ·refine Vgs hb40 2 ?_
  refine Pk0 hb40 <| Vs 1 <| Sp h42 (fun hb43 h44 => ?_) (fun hb43 h45 => ?_)
  ·cases h44
  ·refine Vgs hb43 1 ?_
   refine Lg hb43 (hs37.pers _ _ ((le30.t le38) _ _ hz1)) <| Lg hb43 (hs37.pers _ _ ((le30.t le38) _ _ hz2)) ?_
   obtain ⟨r46, hr47, h48⟩ := bind_some h45
   refine Cg hb43 AC hs37 (AJ N w36 F2 hs37.pers r32.1 z1 z2 _ hr47) ?_
   rintro _ F3 w50 hs51 le52 rfl
   refine Vgs hb43 1 <| Pk0 hb43 <| Nt <| Cd h48 (fun hb54 h55 => ?_) (fun hb54 h56 => ?_)
   ·refine Sq (Rg [0] ?_)
    refine Vs 1 <| Nt <| Rt <| Am ?_
    obtain rfl := Aa h55
    exact ReB [(.bool false)] hs51 ((le30.t le38).trans le52) ⟨a0_7, n0_7, a0_8, n0_8, e0_8, rfl, rfl, hb0_7, (TK hs0_7 ((le30.t le38).trans le52)), (hr0_8.mono ((le30.t le38).trans le52))⟩
   ·refine Sc ?_
    refine Ab <| Sq (Rg (rG 6) ?_)
    refine Ld (hs51.pers _ _ (((le30.t le38).trans le52) _ _ hz3)) <| Vs 1 <| Cl' JM hs51 (LZ w50 F3 hs51.pers bp0 3) ?_
    rintro _ F4 w57 hs58 le59 rfl
    refine Vs 2 <| St0 #[(.bool x0.o_.Report), (.bool x0.o_.Serial), (.bool x0.o_.Zone), (sv x0.l_.Call), (vi r32.1), (vi x0.l_.Power), (vi x0.l_.Claimed), (.slice a0_7 x0.l_.Jumps.length n0_7), (.slice a0_8 x0.l_.Lines.length n0_8), (fV 153 #[]), (fV 154 #[]), (fV 190 #[(pt tb0_9_0 0), (pt tb0_9_1 0), (pt tb0_9_2 0), (pt tb0_9_3 0)]), (fV 191 #[(pt tb0_9_0 0), (pt tb0_9_3 0)]), (fV 190 #[(pt tb0_9_4 0), (pt tb0_9_5 0), (pt tb0_9_6 0), (pt tb0_9_7 0)]), (fV 191 #[(pt tb0_9_4 0), (pt tb0_9_7 0)]), (fV 190 #[(pt tb0_9_8 0), (pt tb0_9_9 0), (pt tb0_9_10 0), (pt tb0_9_11 0)]), (fV 191 #[(pt tb0_9_8 0), (pt tb0_9_11 0)]), (fV 159 #[]), (fV 160 #[]), (vi x0.done_), (.bool x0.ended_)] hs58 (fun w60 hs61 => ?_)
    refine Nss (Rg [0] ?_)
    refine Vs 1 <| Nt <| Rt ?_
    obtain rfl := Aa h56
    exact ReB [(.bool true)] hs61 (((le30.t le38).trans le52).trans le59) ⟨a0_7, n0_7, a0_8, n0_8, e0_8, rfl, rfl, hb0_7, (TK hs0_7 (((le30.t le38).trans le52).trans le59)), (hr0_8.mono (((le30.t le38).trans le52).trans le59))⟩
def Fa (N : Nat) (x0 : Ao) (x1 : T2) (z0 : T2) (z1 : Int) (z2 : Int) : Option (Ao × Bool) :=
 ((Dn z0 ([32] : T2)).bind fun r21 => ((strings_CutPrefix N x1 r21).bind fun r24 => ((AW N r24.1).bind fun r32 => (bif (!r24.2) then none else (bif (!r32.2) then none else ((AO N r32.1 z1 z2).bind fun r46 => (bif (!r46) then some (x0, false) else some (({ o_ := ({ Report := x0.o_.Report, Serial := x0.o_.Serial, Zone := x0.o_.Zone } : Ac), l_ := ({ Call := x0.l_.Call, Category := x0.l_.Category, Power := r32.1, Claimed := x0.l_.Claimed, Jumps := x0.l_.Jumps, Lines := x0.l_.Lines } : Log), done_ := x0.done_, ended_ := x0.ended_ } : Ao), true))))))))
theorem Hm : Ag Tryz.prog 190 := fun _ _ => by kernel_rfl
theorem HU (N : Nat) {wb w0 : World} {Fb F0 : Mem} {Lf : Own} (hG : Bl F0) (bp0 : Nat) (x0 : Ao) (a0_7 : T3) (n0_7 : Nat) (tb0_9_0 : Nat) (tb0_9_1 : Nat) (tb0_9_2 : Nat) (tb0_9_3 : Nat) (tb0_9_4 : Nat) (tb0_9_5 : Nat) (tb0_9_6 : Nat) (tb0_9_7 : Nat) (tb0_9_8 : Nat) (tb0_9_9 : Nat) (tb0_9_10 : Nat) (tb0_9_11 : Nat) (a0_8 : T3) (n0_8 : Nat) (e0_8 : Option Nat × Obj) (hb0_7 : LC x0.l_.Jumps.length n0_7) (hs0_7 : SlA AG F0 a0_7 x0.l_.Jumps) (htb0_9_0 : F0 tb0_9_0 = some (oc #[(sv (([67, 65, 84, 69, 71, 79, 82, 89] : T2)))] 9)) (htb0_9_1 : F0 tb0_9_1 = some (oc #[(vi 1)] 3)) (htb0_9_2 : F0 tb0_9_2 = some (oc #[(vi 9)] 3)) (htb0_9_3 : F0 tb0_9_3 = some (oc #[(fV 156 #[])] 195)) (htb0_9_4 : F0 tb0_9_4 = some (oc #[(sv (([80, 79, 87, 69, 82] : T2)))] 9)) (htb0_9_5 : F0 tb0_9_5 = some (oc #[(vi 1)] 3)) (htb0_9_6 : F0 tb0_9_6 = some (oc #[(vi 9999)] 3)) (htb0_9_7 : F0 tb0_9_7 = some (oc #[(fV 157 #[])] 195)) (htb0_9_8 : F0 tb0_9_8 = some (oc #[(sv (([67, 76, 65, 73, 77, 69, 68] : T2)))] 9)) (htb0_9_9 : F0 tb0_9_9 = some (oc #[(vi 0)] 3)) (htb0_9_10 : F0 tb0_9_10 = some (oc #[(vi 1000000)] 3)) (htb0_9_11 : F0 tb0_9_11 = some (oc #[(fV 158 #[])] 195)) (hr0_8 : Ar AD 34 F0 a0_8 n0_8 x0.l_.Lines e0_8) (x1 : T2) (bz0 : Nat) (z0 : T2) (hz0 : F0 bz0 = some (oc #[(sv z0)] 9)) (bz1 : Nat) (z1 : Int) (hz1 : F0 bz1 = some (oc #[(vi z1)] 3)) (bz2 : Nat) (z2 : Int) (hz2 : F0 bz2 = some (oc #[(vi z2)] 3)) (bz3 : Nat) (hz3 : F0 bz3 = some (oc #[(fV 157 #[])] 195)) (hs0 : HS wb Fb w0 F0 ((sb bp0 #[(.bool x0.o_.Report), (.bool x0.o_.Serial), (.bool x0.o_.Zone), (sv x0.l_.Call), (vi x0.l_.Category), (vi x0.l_.Power), (vi x0.l_.Claimed), (.slice a0_7 x0.l_.Jumps.length n0_7), (.slice a0_8 x0.l_.Lines.length n0_8), (fV 153 #[]), (fV 154 #[]), (fV 190 #[(pt tb0_9_0 0), (pt tb0_9_1 0), (pt tb0_9_2 0), (pt tb0_9_3 0)]), (fV 191 #[(pt tb0_9_0 0), (pt tb0_9_3 0)]), (fV 190 #[(pt tb0_9_4 0), (pt tb0_9_5 0), (pt tb0_9_6 0), (pt tb0_9_7 0)]), (fV 191 #[(pt tb0_9_4 0), (pt tb0_9_7 0)]), (fV 190 #[(pt tb0_9_8 0), (pt tb0_9_9 0), (pt tb0_9_10 0), (pt tb0_9_11 0)]), (fV 191 #[(pt tb0_9_8 0), (pt tb0_9_11 0)]), (fV 159 #[]), (fV 160 #[]), (vi x0.done_), (.bool x0.ended_)] 130) :: e0_8 :: Lf)) (r : (Ao × Bool)) (h : Fa N x0 x1 z0 z1 z2 = some r) :
  Calls Tryz.prog 190 ([(pt bp0 3), (sv x1), (pt bz0 0), (pt bz1 0), (pt bz2 0), (pt bz3 0)] : List Value).toArray w0 (D5 wb Fb F0 fun F' v L' => ∃ (aq0_7 : T3) (nq0_7 : Nat) (aq0_8 : T3) (nq0_8 : Nat) (eq0_8 : Option Nat × Obj), v = (.bool r.2) /\ L' = (sb bp0 #[(.bool r.1.o_.Report), (.bool r.1.o_.Serial), (.bool r.1.o_.Zone), (sv r.1.l_.Call), (vi r.1.l_.Category), (vi r.1.l_.Power), (vi r.1.l_.Claimed), (.slice aq0_7 r.1.l_.Jumps.length nq0_7), (.slice aq0_8 r.1.l_.Lines.length nq0_8), (fV 153 #[]), (fV 154 #[]), (fV 190 #[(pt tb0_9_0 0), (pt tb0_9_1 0), (pt tb0_9_2 0), (pt tb0_9_3 0)]), (fV 191 #[(pt tb0_9_0 0), (pt tb0_9_3 0)]), (fV 190 #[(pt tb0_9_4 0), (pt tb0_9_5 0), (pt tb0_9_6 0), (pt tb0_9_7 0)]), (fV 191 #[(pt tb0_9_4 0), (pt tb0_9_7 0)]), (fV 190 #[(pt tb0_9_8 0), (pt tb0_9_9 0), (pt tb0_9_10 0), (pt tb0_9_11 0)]), (fV 191 #[(pt tb0_9_8 0), (pt tb0_9_11 0)]), (fV 159 #[]), (fV 160 #[]), (vi r.1.done_), (.bool r.1.ended_)] 130) :: eq0_8 :: Lf /\ LC r.1.l_.Jumps.length nq0_7 /\ SlA AG F' aq0_7 r.1.l_.Jumps /\ Ar AD 34 F' aq0_8 nq0_8 r.1.l_.Lines eq0_8) := by
 refine Go 43 Tryz.func190 <| Sq (Rg [0] ?_)
 refine Vs 1 <| Nss (Rg (rG 9) ?_)
 refine Vs 1 <| Ld (hs0.pers _ _ hz0) ?_
 obtain ⟨r21, hr22, h23⟩ := bind_some h
 refine V 16 9 (AU (t := 9) (t' := 9) (x := (.tmp 15)) (y := (.const (sv ([32] : T2)))) (a := z0) (b := ([32] : T2)) (v := r21) rfl rfl hr22) ?_
 obtain ⟨r24, hr25, h26⟩ := bind_some h23
 refine Cl' AX hs0 (A3 N w0 F0 hs0.pers x1 r21 _ hr25) ?_
 rintro _ F1 w28 hs29 le30 rfl
 refine Vs 5 <| Nss (Rg (rG 7) ?_)
 refine Vs 1 ?_
 obtain ⟨r32, hr33, h34⟩ := bind_some h26
 refine Cl' Bf hs29 (Bq N w28 F1 hs29.pers (hG.mono le30) r24.1 _ hr33) ?_
 rintro _ F2 w36 hs37 le38 rfl
 refine Vs 5 <| Nss <| Sq (Rg (rG 13) ?_)
 refine Vs 3 <| Sp h34 (fun hb40 h41 => ?_) (fun hb40 h42 => ?_)
 ·cases h41
 ·refine Vgs hb40 2 ?_
  refine Pk0 hb40 <| Vs 1 <| Sp h42 (fun hb43 h44 => ?_) (fun hb43 h45 => ?_)
  ·cases h44
  ·refine Vgs hb43 1 ?_
   refine Lg hb43 (hs37.pers _ _ ((le30.t le38) _ _ hz1)) <| Lg hb43 (hs37.pers _ _ ((le30.t le38) _ _ hz2)) ?_
   obtain ⟨r46, hr47, h48⟩ := bind_some h45
   refine Cg hb43 AC hs37 (AJ N w36 F2 hs37.pers r32.1 z1 z2 _ hr47) ?_
   rintro _ F3 w50 hs51 le52 rfl
   refine Vgs hb43 1 <| Pk0 hb43 <| Nt <| Cd h48 (fun hb54 h55 => ?_) (fun hb54 h56 => ?_)
   ·refine Sq (Rg [0] ?_)
    refine Vs 1 <| Nt <| Rt <| Am ?_
    obtain rfl := Aa h55
    exact ReB [(.bool false)] hs51 ((le30.t le38).trans le52) ⟨a0_7, n0_7, a0_8, n0_8, e0_8, rfl, rfl, hb0_7, (TK hs0_7 ((le30.t le38).trans le52)), (hr0_8.mono ((le30.t le38).trans le52))⟩
   ·refine Sc ?_
    refine Ab <| Sq (Rg (rG 6) ?_)
    refine Ld (hs51.pers _ _ (((le30.t le38).trans le52) _ _ hz3)) <| Vs 1 <| Cl' JL hs51 (LY w50 F3 hs51.pers bp0 3) ?_
    rintro _ F4 w57 hs58 le59 rfl
    refine Vs 2 <| St0 #[(.bool x0.o_.Report), (.bool x0.o_.Serial), (.bool x0.o_.Zone), (sv x0.l_.Call), (vi x0.l_.Category), (vi r32.1), (vi x0.l_.Claimed), (.slice a0_7 x0.l_.Jumps.length n0_7), (.slice a0_8 x0.l_.Lines.length n0_8), (fV 153 #[]), (fV 154 #[]), (fV 190 #[(pt tb0_9_0 0), (pt tb0_9_1 0), (pt tb0_9_2 0), (pt tb0_9_3 0)]), (fV 191 #[(pt tb0_9_0 0), (pt tb0_9_3 0)]), (fV 190 #[(pt tb0_9_4 0), (pt tb0_9_5 0), (pt tb0_9_6 0), (pt tb0_9_7 0)]), (fV 191 #[(pt tb0_9_4 0), (pt tb0_9_7 0)]), (fV 190 #[(pt tb0_9_8 0), (pt tb0_9_9 0), (pt tb0_9_10 0), (pt tb0_9_11 0)]), (fV 191 #[(pt tb0_9_8 0), (pt tb0_9_11 0)]), (fV 159 #[]), (fV 160 #[]), (vi x0.done_), (.bool x0.ended_)] hs58 (fun w60 hs61 => ?_)
    refine Nss (Rg [0] ?_)
    refine Vs 1 <| Nt <| Rt ?_
    obtain rfl := Aa h56
    exact ReB [(.bool true)] hs61 (((le30.t le38).trans le52).trans le59) ⟨a0_7, n0_7, a0_8, n0_8, e0_8, rfl, rfl, hb0_7, (TK hs0_7 (((le30.t le38).trans le52).trans le59)), (hr0_8.mono (((le30.t le38).trans le52).trans le59))⟩
def Fc (N : Nat) (x0 : Ao) (x1 : T2) (z0 : T2) (z1 : Int) (z2 : Int) : Option (Ao × Bool) :=
 ((Dn z0 ([32] : T2)).bind fun r21 => ((strings_CutPrefix N x1 r21).bind fun r24 => ((AW N r24.1).bind fun r32 => (bif (!r24.2) then none else (bif (!r32.2) then none else ((AO N r32.1 z1 z2).bind fun r46 => (bif (!r46) then some (x0, false) else some (({ o_ := ({ Report := x0.o_.Report, Serial := x0.o_.Serial, Zone := x0.o_.Zone } : Ac), l_ := ({ Call := x0.l_.Call, Category := x0.l_.Category, Power := x0.l_.Power, Claimed := r32.1, Jumps := x0.l_.Jumps, Lines := x0.l_.Lines } : Log), done_ := x0.done_, ended_ := x0.ended_ } : Ao), true))))))))
theorem Hn : Ag Tryz.prog 190 := fun _ _ => by kernel_rfl
theorem HV (N : Nat) {wb w0 : World} {Fb F0 : Mem} {Lf : Own} (hG : Bl F0) (bp0 : Nat) (x0 : Ao) (a0_7 : T3) (n0_7 : Nat) (tb0_9_0 : Nat) (tb0_9_1 : Nat) (tb0_9_2 : Nat) (tb0_9_3 : Nat) (tb0_9_4 : Nat) (tb0_9_5 : Nat) (tb0_9_6 : Nat) (tb0_9_7 : Nat) (tb0_9_8 : Nat) (tb0_9_9 : Nat) (tb0_9_10 : Nat) (tb0_9_11 : Nat) (a0_8 : T3) (n0_8 : Nat) (e0_8 : Option Nat × Obj) (hb0_7 : LC x0.l_.Jumps.length n0_7) (hs0_7 : SlA AG F0 a0_7 x0.l_.Jumps) (htb0_9_0 : F0 tb0_9_0 = some (oc #[(sv (([67, 65, 84, 69, 71, 79, 82, 89] : T2)))] 9)) (htb0_9_1 : F0 tb0_9_1 = some (oc #[(vi 1)] 3)) (htb0_9_2 : F0 tb0_9_2 = some (oc #[(vi 9)] 3)) (htb0_9_3 : F0 tb0_9_3 = some (oc #[(fV 156 #[])] 195)) (htb0_9_4 : F0 tb0_9_4 = some (oc #[(sv (([80, 79, 87, 69, 82] : T2)))] 9)) (htb0_9_5 : F0 tb0_9_5 = some (oc #[(vi 1)] 3)) (htb0_9_6 : F0 tb0_9_6 = some (oc #[(vi 9999)] 3)) (htb0_9_7 : F0 tb0_9_7 = some (oc #[(fV 157 #[])] 195)) (htb0_9_8 : F0 tb0_9_8 = some (oc #[(sv (([67, 76, 65, 73, 77, 69, 68] : T2)))] 9)) (htb0_9_9 : F0 tb0_9_9 = some (oc #[(vi 0)] 3)) (htb0_9_10 : F0 tb0_9_10 = some (oc #[(vi 1000000)] 3)) (htb0_9_11 : F0 tb0_9_11 = some (oc #[(fV 158 #[])] 195)) (hr0_8 : Ar AD 34 F0 a0_8 n0_8 x0.l_.Lines e0_8) (x1 : T2) (bz0 : Nat) (z0 : T2) (hz0 : F0 bz0 = some (oc #[(sv z0)] 9)) (bz1 : Nat) (z1 : Int) (hz1 : F0 bz1 = some (oc #[(vi z1)] 3)) (bz2 : Nat) (z2 : Int) (hz2 : F0 bz2 = some (oc #[(vi z2)] 3)) (bz3 : Nat) (hz3 : F0 bz3 = some (oc #[(fV 158 #[])] 195)) (hs0 : HS wb Fb w0 F0 ((sb bp0 #[(.bool x0.o_.Report), (.bool x0.o_.Serial), (.bool x0.o_.Zone), (sv x0.l_.Call), (vi x0.l_.Category), (vi x0.l_.Power), (vi x0.l_.Claimed), (.slice a0_7 x0.l_.Jumps.length n0_7), (.slice a0_8 x0.l_.Lines.length n0_8), (fV 153 #[]), (fV 154 #[]), (fV 190 #[(pt tb0_9_0 0), (pt tb0_9_1 0), (pt tb0_9_2 0), (pt tb0_9_3 0)]), (fV 191 #[(pt tb0_9_0 0), (pt tb0_9_3 0)]), (fV 190 #[(pt tb0_9_4 0), (pt tb0_9_5 0), (pt tb0_9_6 0), (pt tb0_9_7 0)]), (fV 191 #[(pt tb0_9_4 0), (pt tb0_9_7 0)]), (fV 190 #[(pt tb0_9_8 0), (pt tb0_9_9 0), (pt tb0_9_10 0), (pt tb0_9_11 0)]), (fV 191 #[(pt tb0_9_8 0), (pt tb0_9_11 0)]), (fV 159 #[]), (fV 160 #[]), (vi x0.done_), (.bool x0.ended_)] 130) :: e0_8 :: Lf)) (r : (Ao × Bool)) (h : Fc N x0 x1 z0 z1 z2 = some r) :
  Calls Tryz.prog 190 ([(pt bp0 3), (sv x1), (pt bz0 0), (pt bz1 0), (pt bz2 0), (pt bz3 0)] : List Value).toArray w0 (D5 wb Fb F0 fun F' v L' => ∃ (aq0_7 : T3) (nq0_7 : Nat) (aq0_8 : T3) (nq0_8 : Nat) (eq0_8 : Option Nat × Obj), v = (.bool r.2) /\ L' = (sb bp0 #[(.bool r.1.o_.Report), (.bool r.1.o_.Serial), (.bool r.1.o_.Zone), (sv r.1.l_.Call), (vi r.1.l_.Category), (vi r.1.l_.Power), (vi r.1.l_.Claimed), (.slice aq0_7 r.1.l_.Jumps.length nq0_7), (.slice aq0_8 r.1.l_.Lines.length nq0_8), (fV 153 #[]), (fV 154 #[]), (fV 190 #[(pt tb0_9_0 0), (pt tb0_9_1 0), (pt tb0_9_2 0), (pt tb0_9_3 0)]), (fV 191 #[(pt tb0_9_0 0), (pt tb0_9_3 0)]), (fV 190 #[(pt tb0_9_4 0), (pt tb0_9_5 0), (pt tb0_9_6 0), (pt tb0_9_7 0)]), (fV 191 #[(pt tb0_9_4 0), (pt tb0_9_7 0)]), (fV 190 #[(pt tb0_9_8 0), (pt tb0_9_9 0), (pt tb0_9_10 0), (pt tb0_9_11 0)]), (fV 191 #[(pt tb0_9_8 0), (pt tb0_9_11 0)]), (fV 159 #[]), (fV 160 #[]), (vi r.1.done_), (.bool r.1.ended_)] 130) :: eq0_8 :: Lf /\ LC r.1.l_.Jumps.length nq0_7 /\ SlA AG F' aq0_7 r.1.l_.Jumps /\ Ar AD 34 F' aq0_8 nq0_8 r.1.l_.Lines eq0_8) := by
 refine Go 43 Tryz.func190 <| Sq (Rg [0] ?_)
 refine Vs 1 <| Nss (Rg (rG 9) ?_)
 refine Vs 1 <| Ld (hs0.pers _ _ hz0) ?_
 obtain ⟨r21, hr22, h23⟩ := bind_some h
 refine V 16 9 (AU (t := 9) (t' := 9) (x := (.tmp 15)) (y := (.const (sv ([32] : T2)))) (a := z0) (b := ([32] : T2)) (v := r21) rfl rfl hr22) ?_
 obtain ⟨r24, hr25, h26⟩ := bind_some h23
 refine Cl' AX hs0 (A3 N w0 F0 hs0.pers x1 r21 _ hr25) ?_
 rintro _ F1 w28 hs29 le30 rfl
 refine Vs 5 <| Nss (Rg (rG 7) ?_)
 refine Vs 1 ?_
 obtain ⟨r32, hr33, h34⟩ := bind_some h26
 refine Cl' Bf hs29 (Bq N w28 F1 hs29.pers (hG.mono le30) r24.1 _ hr33) ?_
 rintro _ F2 w36 hs37 le38 rfl
 refine Vs 5 <| Nss <| Sq (Rg (rG 13) ?_)
 refine Vs 3 <| Sp h34 (fun hb40 h41 => ?_) (fun hb40 h42 => ?_)
 ·cases h41
 ·refine Vgs hb40 2 ?_
  refine Pk0 hb40 <| Vs 1 <| Sp h42 (fun hb43 h44 => ?_) (fun hb43 h45 => ?_)
  ·cases h44
  ·refine Vgs hb43 1 ?_
   refine Lg hb43 (hs37.pers _ _ ((le30.t le38) _ _ hz1)) <| Lg hb43 (hs37.pers _ _ ((le30.t le38) _ _ hz2)) ?_
   obtain ⟨r46, hr47, h48⟩ := bind_some h45
   refine Cg hb43 AC hs37 (AJ N w36 F2 hs37.pers r32.1 z1 z2 _ hr47) ?_
   rintro _ F3 w50 hs51 le52 rfl
   refine Vgs hb43 1 <| Pk0 hb43 <| Nt <| Cd h48 (fun hb54 h55 => ?_) (fun hb54 h56 => ?_)
   ·refine Sq (Rg [0] ?_)
    refine Vs 1 <| Nt <| Rt <| Am ?_
    obtain rfl := Aa h55
    exact ReB [(.bool false)] hs51 ((le30.t le38).trans le52) ⟨a0_7, n0_7, a0_8, n0_8, e0_8, rfl, rfl, hb0_7, (TK hs0_7 ((le30.t le38).trans le52)), (hr0_8.mono ((le30.t le38).trans le52))⟩
   ·refine Sc ?_
    refine Ab <| Sq (Rg (rG 6) ?_)
    refine Ld (hs51.pers _ _ (((le30.t le38).trans le52) _ _ hz3)) <| Vs 1 <| Cl' JK hs51 (LX w50 F3 hs51.pers bp0 3) ?_
    rintro _ F4 w57 hs58 le59 rfl
    refine Vs 2 <| St0 #[(.bool x0.o_.Report), (.bool x0.o_.Serial), (.bool x0.o_.Zone), (sv x0.l_.Call), (vi x0.l_.Category), (vi x0.l_.Power), (vi r32.1), (.slice a0_7 x0.l_.Jumps.length n0_7), (.slice a0_8 x0.l_.Lines.length n0_8), (fV 153 #[]), (fV 154 #[]), (fV 190 #[(pt tb0_9_0 0), (pt tb0_9_1 0), (pt tb0_9_2 0), (pt tb0_9_3 0)]), (fV 191 #[(pt tb0_9_0 0), (pt tb0_9_3 0)]), (fV 190 #[(pt tb0_9_4 0), (pt tb0_9_5 0), (pt tb0_9_6 0), (pt tb0_9_7 0)]), (fV 191 #[(pt tb0_9_4 0), (pt tb0_9_7 0)]), (fV 190 #[(pt tb0_9_8 0), (pt tb0_9_9 0), (pt tb0_9_10 0), (pt tb0_9_11 0)]), (fV 191 #[(pt tb0_9_8 0), (pt tb0_9_11 0)]), (fV 159 #[]), (fV 160 #[]), (vi x0.done_), (.bool x0.ended_)] hs58 (fun w60 hs61 => ?_)
    refine Nss (Rg [0] ?_)
    refine Vs 1 <| Nt <| Rt ?_
    obtain rfl := Aa h56
    exact ReB [(.bool true)] hs61 (((le30.t le38).trans le52).trans le59) ⟨a0_7, n0_7, a0_8, n0_8, e0_8, rfl, rfl, hb0_7, (TK hs0_7 (((le30.t le38).trans le52).trans le59)), (hr0_8.mono (((le30.t le38).trans le52).trans le59))⟩
def E8 (N : Nat) (x0 : Ao) (x1 : T2) : Option (Ao × Bool × Bool) :=
 (bif x0.ended_ then some (x0, false, false) else (bif (decide (x0.done_ < 5)) then ((bif (decide (x0.done_ = 0)) then ((G4 N x0 x1).bind fun r41 => some (r41.2, r41.1.o_.Report, r41.1.o_.Serial, r41.1.o_.Zone, r41.1.l_.Call, r41.1.l_.Category, r41.1.l_.Power, r41.1.l_.Claimed, r41.1.l_.Jumps, r41.1.l_.Lines, r41.1.done_, r41.1.ended_)) else (bif (decide (x0.done_ = 1)) then ((Fd N x0 x1 ([67, 65, 84, 69, 71, 79, 82, 89] : T2) 1 9).bind fun r51 => some (r51.2, r51.1.o_.Report, r51.1.o_.Serial, r51.1.o_.Zone, r51.1.l_.Call, r51.1.l_.Category, r51.1.l_.Power, r51.1.l_.Claimed, r51.1.l_.Jumps, r51.1.l_.Lines, r51.1.done_, r51.1.ended_)) else (bif (decide (x0.done_ = 2)) then ((Fa N x0 x1 ([80, 79, 87, 69, 82] : T2) 1 9999).bind fun r61 => some (r61.2, r61.1.o_.Report, r61.1.o_.Serial, r61.1.o_.Zone, r61.1.l_.Call, r61.1.l_.Category, r61.1.l_.Power, r61.1.l_.Claimed, r61.1.l_.Jumps, r61.1.l_.Lines, r61.1.done_, r61.1.ended_)) else (bif (decide (x0.done_ = 3)) then ((Fc N x0 x1 ([67, 76, 65, 73, 77, 69, 68] : T2) 0 1000000).bind fun r71 => some (r71.2, r71.1.o_.Report, r71.1.o_.Serial, r71.1.o_.Zone, r71.1.l_.Call, r71.1.l_.Category, r71.1.l_.Power, r71.1.l_.Claimed, r71.1.l_.Jumps, r71.1.l_.Lines, r71.1.done_, r71.1.ended_)) else (bif (decide (x0.done_ = 4)) then ((Gz N x0 x1).bind fun r81 => some (r81.2, r81.1.o_.Report, r81.1.o_.Serial, r81.1.o_.Zone, r81.1.l_.Call, r81.1.l_.Category, r81.1.l_.Power, r81.1.l_.Claimed, r81.1.l_.Jumps, r81.1.l_.Lines, r81.1.done_, r81.1.ended_)) else none))))).bind fun j32 => ((bif j32.1 then some (W64 (j32.2.2.2.2.2.2.2.2.2.2.1 + 1)) else some j32.2.2.2.2.2.2.2.2.2.2.1).bind fun j91 => some (({ o_ := ({ Report := j32.2.1, Serial := j32.2.2.1, Zone := j32.2.2.2.1 } : Ac), l_ := ({ Call := j32.2.2.2.2.1, Category := j32.2.2.2.2.2.1, Power := j32.2.2.2.2.2.2.1, Claimed := j32.2.2.2.2.2.2.2.1, Jumps := j32.2.2.2.2.2.2.2.2.1, Lines := j32.2.2.2.2.2.2.2.2.2.1 } : Log), done_ := j91, ended_ := j32.2.2.2.2.2.2.2.2.2.2.2 } : Ao), j32.1, false))) else (bif (x1 == ([69, 78, 68] : T2)) then some (({ o_ := ({ Report := x0.o_.Report, Serial := x0.o_.Serial, Zone := x0.o_.Zone } : Ac), l_ := x0.l_, done_ := x0.done_, ended_ := true } : Ao), true, false) else ((BS N ({ Report := x0.o_.Report, Serial := x0.o_.Serial, Zone := x0.o_.Zone } : Ac) x1).bind fun r106 => ((bif (decide ((x0.l_.Lines.length : Int) > 0)) then ((idx x0.l_.Lines (W64 ((x0.l_.Lines.length : Int) - 1))).bind fun x134 => (bif (decide (r106.1.Num <= x134.Num)) then some true else ((idx x0.l_.Lines (W64 ((x0.l_.Lines.length : Int) - 1))).bind fun x149 => (bif (decide (r106.1.Minute < x149.Minute)) then some true else some (r106.2 != 0))))) else some (r106.2 != 0)).bind fun j124 => (bif j124 then some (x0, false, false) else (bif ((x0.l_.Lines.length : Int) == 400) then some (x0, false, true) else (((DC x0.l_.Lines [r106.1]).bind fun r183 => some r183).bind fun j174 => some (({ o_ := ({ Report := x0.o_.Report, Serial := x0.o_.Serial, Zone := x0.o_.Zone } : Ac), l_ := ({ Call := x0.l_.Call, Category := x0.l_.Category, Power := x0.l_.Power, Claimed := x0.l_.Claimed, Jumps := x0.l_.Jumps, Lines := j174 } : Log), done_ := x0.done_, ended_ := x0.ended_ } : Ao), true, false)))))))))
theorem Hl : Ag Tryz.prog 106 := fun _ _ => by kernel_rfl
theorem HT (N : Nat) {wb w0 : World} {Fb F0 : Mem} {Lf : Own} (hG : Bl F0) (bp0 : Nat) (x0 : Ao) (a0_7 : T3) (n0_7 : Nat) (tb0_9_0 : Nat) (tb0_9_1 : Nat) (tb0_9_2 : Nat) (tb0_9_3 : Nat) (tb0_9_4 : Nat) (tb0_9_5 : Nat) (tb0_9_6 : Nat) (tb0_9_7 : Nat) (tb0_9_8 : Nat) (tb0_9_9 : Nat) (tb0_9_10 : Nat) (tb0_9_11 : Nat) (a0_8 : T3) (n0_8 : Nat) (e0_8 : Option Nat × Obj) (hb0_7 : LC x0.l_.Jumps.length n0_7) (hs0_7 : SlA AG F0 a0_7 x0.l_.Jumps) (htb0_9_0 : F0 tb0_9_0 = some (oc #[(sv (([67, 65, 84, 69, 71, 79, 82, 89] : T2)))] 9)) (htb0_9_1 : F0 tb0_9_1 = some (oc #[(vi 1)] 3)) (htb0_9_2 : F0 tb0_9_2 = some (oc #[(vi 9)] 3)) (htb0_9_3 : F0 tb0_9_3 = some (oc #[(fV 156 #[])] 195)) (htb0_9_4 : F0 tb0_9_4 = some (oc #[(sv (([80, 79, 87, 69, 82] : T2)))] 9)) (htb0_9_5 : F0 tb0_9_5 = some (oc #[(vi 1)] 3)) (htb0_9_6 : F0 tb0_9_6 = some (oc #[(vi 9999)] 3)) (htb0_9_7 : F0 tb0_9_7 = some (oc #[(fV 157 #[])] 195)) (htb0_9_8 : F0 tb0_9_8 = some (oc #[(sv (([67, 76, 65, 73, 77, 69, 68] : T2)))] 9)) (htb0_9_9 : F0 tb0_9_9 = some (oc #[(vi 0)] 3)) (htb0_9_10 : F0 tb0_9_10 = some (oc #[(vi 1000000)] 3)) (htb0_9_11 : F0 tb0_9_11 = some (oc #[(fV 158 #[])] 195)) (hr0_8 : Ar AD 34 F0 a0_8 n0_8 x0.l_.Lines e0_8) (x1 : T2) (hs0 : HS wb Fb w0 F0 ((sb bp0 #[(.bool x0.o_.Report), (.bool x0.o_.Serial), (.bool x0.o_.Zone), (sv x0.l_.Call), (vi x0.l_.Category), (vi x0.l_.Power), (vi x0.l_.Claimed), (.slice a0_7 x0.l_.Jumps.length n0_7), (.slice a0_8 x0.l_.Lines.length n0_8), (fV 153 #[]), (fV 154 #[]), (fV 190 #[(pt tb0_9_0 0), (pt tb0_9_1 0), (pt tb0_9_2 0), (pt tb0_9_3 0)]), (fV 191 #[(pt tb0_9_0 0), (pt tb0_9_3 0)]), (fV 190 #[(pt tb0_9_4 0), (pt tb0_9_5 0), (pt tb0_9_6 0), (pt tb0_9_7 0)]), (fV 191 #[(pt tb0_9_4 0), (pt tb0_9_7 0)]), (fV 190 #[(pt tb0_9_8 0), (pt tb0_9_9 0), (pt tb0_9_10 0), (pt tb0_9_11 0)]), (fV 191 #[(pt tb0_9_8 0), (pt tb0_9_11 0)]), (fV 159 #[]), (fV 160 #[]), (vi x0.done_), (.bool x0.ended_)] 130) :: e0_8 :: Lf)) (r : (Ao × Bool × Bool)) (h : E8 N x0 x1 = some r) :
  Calls Tryz.prog 106 ([(pt bp0 0), (sv x1)] : List Value).toArray w0 (D5 wb Fb F0 fun F' v L' => ∃ (aq0_7 : T3) (nq0_7 : Nat) (aq0_8 : T3) (nq0_8 : Nat) (eq0_8 : Option Nat × Obj), v = (.tuple #[(.bool r.2.1), (.bool r.2.2)]) /\ L' = (sb bp0 #[(.bool r.1.o_.Report), (.bool r.1.o_.Serial), (.bool r.1.o_.Zone), (sv r.1.l_.Call), (vi r.1.l_.Category), (vi r.1.l_.Power), (vi r.1.l_.Claimed), (.slice aq0_7 r.1.l_.Jumps.length nq0_7), (.slice aq0_8 r.1.l_.Lines.length nq0_8), (fV 153 #[]), (fV 154 #[]), (fV 190 #[(pt tb0_9_0 0), (pt tb0_9_1 0), (pt tb0_9_2 0), (pt tb0_9_3 0)]), (fV 191 #[(pt tb0_9_0 0), (pt tb0_9_3 0)]), (fV 190 #[(pt tb0_9_4 0), (pt tb0_9_5 0), (pt tb0_9_6 0), (pt tb0_9_7 0)]), (fV 191 #[(pt tb0_9_4 0), (pt tb0_9_7 0)]), (fV 190 #[(pt tb0_9_8 0), (pt tb0_9_9 0), (pt tb0_9_10 0), (pt tb0_9_11 0)]), (fV 191 #[(pt tb0_9_8 0), (pt tb0_9_11 0)]), (fV 159 #[]), (fV 160 #[]), (vi r.1.done_), (.bool r.1.ended_)] 130) :: eq0_8 :: Lf /\ LC r.1.l_.Jumps.length nq0_7 /\ SlA AG F' aq0_7 r.1.l_.Jumps /\ Ar AD 34 F' aq0_8 nq0_8 r.1.l_.Lines eq0_8) := by
 refine Go 120 Tryz.func106 <| Sq (Rg [0, 1] ?_)
 refine Vs 2 <| Nss <| Bk <| Sq (Rg (rG 5) ?_)
 refine Vs 3 <| Ld hs0.at0 <| Vs 1 <| Nt <| Cd h (fun hb21 h22 => ?_) (fun hb21 h23 => ?_)
 ·refine Sq (Rg [0, 1] ?_)
  refine Vs 2 <| Nt <| Rt <| AM <| Am ?_
  obtain rfl := Aa h22
  exact ReB [(.bool false), (.bool false)] hs0 (TI _) ⟨a0_7, n0_7, a0_8, n0_8, e0_8, rfl, rfl, hb0_7, hs0_7, hr0_8⟩
 ·refine Sq (Rg (rG 6) ?_)
  refine Vs 3 <| Ld hs0.at0 <| Vs 2 <| Nt <| Cd h23 (fun hb24 h25 => ?_) (fun hb24 h26 => ?_)
  ·refine Sq ?_
   refine Sq ?_
   obtain ⟨j32, hj36, h37⟩ := bind_some h25
   refine RD 16 16 [] [] hs0 (fun f w => ∃ (F1 : Mem) (aj32_8 : T3) (nj32_8 : Nat) (aj32_9 : T3) (nj32_9 : Nat) (ej32_9 : Option Nat × Obj), HS wb Fb w F1 ((sb bp0 #[(.bool j32.2.1), (.bool j32.2.2.1), (.bool j32.2.2.2.1), (sv j32.2.2.2.2.1), (vi j32.2.2.2.2.2.1), (vi j32.2.2.2.2.2.2.1), (vi j32.2.2.2.2.2.2.2.1), (.slice aj32_8 j32.2.2.2.2.2.2.2.2.1.length nj32_8), (.slice aj32_9 j32.2.2.2.2.2.2.2.2.2.1.length nj32_9), (fV 153 #[]), (fV 154 #[]), (fV 190 #[(pt tb0_9_0 0), (pt tb0_9_1 0), (pt tb0_9_2 0), (pt tb0_9_3 0)]), (fV 191 #[(pt tb0_9_0 0), (pt tb0_9_3 0)]), (fV 190 #[(pt tb0_9_4 0), (pt tb0_9_5 0), (pt tb0_9_6 0), (pt tb0_9_7 0)]), (fV 191 #[(pt tb0_9_4 0), (pt tb0_9_7 0)]), (fV 190 #[(pt tb0_9_8 0), (pt tb0_9_9 0), (pt tb0_9_10 0), (pt tb0_9_11 0)]), (fV 191 #[(pt tb0_9_8 0), (pt tb0_9_11 0)]), (fV 159 #[]), (fV 160 #[]), (vi j32.2.2.2.2.2.2.2.2.2.2.1), (.bool j32.2.2.2.2.2.2.2.2.2.2.2)] 130) :: ej32_9 :: Lf) /\ TH F0 F1 /\ FI f [] [(0, (pt bp0 0)), (4, (.bool j32.1))] /\ LC j32.2.2.2.2.2.2.2.2.1.length nj32_8 /\ SlA AG F1 aj32_8 j32.2.2.2.2.2.2.2.2.1 /\ Ar AD 34 F1 aj32_9 nj32_9 j32.2.2.2.2.2.2.2.2.2.1 ej32_9) (fun wd27 hw28 => ?_) ?_
   ·refine Dv [0, 1, 2, 3, 5, 6, 10, 11, 12, 13] ?_
    refine D1 4 <| TR (l' := [true, true, true, true, true, true, true, false, false, false, true, true, true, true, false, false]) (zd := true) (by kernel_rfl) (by kernel_rfl) (dst := (some 24)) (ty := 3) (g := none) (by kernel_rfl) rfl (Bt (t := 3) (x := (.tmp 23)) (b := bp0) (o := 19) (g := false) (s := 1) (C := #[(.bool x0.o_.Report), (.bool x0.o_.Serial), (.bool x0.o_.Zone), (sv x0.l_.Call), (vi x0.l_.Category), (vi x0.l_.Power), (vi x0.l_.Claimed), (.slice a0_7 x0.l_.Jumps.length n0_7), (.slice a0_8 x0.l_.Lines.length n0_8), (fV 153 #[]), (fV 154 #[]), (fV 190 #[(pt tb0_9_0 0), (pt tb0_9_1 0), (pt tb0_9_2 0), (pt tb0_9_3 0)]), (fV 191 #[(pt tb0_9_0 0), (pt tb0_9_3 0)]), (fV 190 #[(pt tb0_9_4 0), (pt tb0_9_5 0), (pt tb0_9_6 0), (pt tb0_9_7 0)]), (fV 191 #[(pt tb0_9_4 0), (pt tb0_9_7 0)]), (fV 190 #[(pt tb0_9_8 0), (pt tb0_9_9 0), (pt tb0_9_10 0), (pt tb0_9_11 0)]), (fV 191 #[(pt tb0_9_8 0), (pt tb0_9_11 0)]), (fV 159 #[]), (fV 160 #[]), (vi x0.done_), (.bool x0.ended_)]) (v := (vi x0.done_)) rfl (by kernel_rfl) hw28.at0 rfl rfl rfl) (A8 hw28 (TI _) (by simp) (fun e => by cases e)) <| Sd hj36 (fun hb38 h39 => ?_) (fun hb38 h40 => ?_)
    ·refine Dt 7 27 0 (pt bp0 9) (fun _ hq => IV (t := 110) (E := 109) (len := 5) (s := 2) (g := true) (x := (.tmp 26)) (y := (.tmp 24)) (k := .i64) (b := bp0) (o0 := 9) (o1 := 9) (i := x0.done_) (n := 0) rfl rfl (by kernel_rfl) (by kernel_rfl) hb38 (by decide) rfl) ?_
     refine Dv [8] <| D1 9 <| TR (l' := [true, true, true, true, true, true, true, true, true, true, true, true, true, true, false, false]) (zd := true) (by kernel_rfl) (by kernel_rfl) (dst := (some 29)) (ty := 106) (g := none) (by kernel_rfl) rfl (Bt (t := 106) (x := (.tmp 28)) (b := bp0) (o := 9) (g := false) (s := 1) (C := #[(.bool x0.o_.Report), (.bool x0.o_.Serial), (.bool x0.o_.Zone), (sv x0.l_.Call), (vi x0.l_.Category), (vi x0.l_.Power), (vi x0.l_.Claimed), (.slice a0_7 x0.l_.Jumps.length n0_7), (.slice a0_8 x0.l_.Lines.length n0_8), (fV 153 #[]), (fV 154 #[]), (fV 190 #[(pt tb0_9_0 0), (pt tb0_9_1 0), (pt tb0_9_2 0), (pt tb0_9_3 0)]), (fV 191 #[(pt tb0_9_0 0), (pt tb0_9_3 0)]), (fV 190 #[(pt tb0_9_4 0), (pt tb0_9_5 0), (pt tb0_9_6 0), (pt tb0_9_7 0)]), (fV 191 #[(pt tb0_9_4 0), (pt tb0_9_7 0)]), (fV 190 #[(pt tb0_9_8 0), (pt tb0_9_9 0), (pt tb0_9_10 0), (pt tb0_9_11 0)]), (fV 191 #[(pt tb0_9_8 0), (pt tb0_9_11 0)]), (fV 159 #[]), (fV 160 #[]), (vi x0.done_), (.bool x0.ended_)]) (v := (fV 153 #[])) rfl (by kernel_rfl) hw28.at0 rfl rfl rfl) (A8 hw28 (TI _) (by simp) (fun e => by cases e)) <| D1 14 ?_
     obtain ⟨r41, hr42, h43⟩ := bind_some h39
     refine DCB Jg (JU N hG bp0 x0 a0_7 n0_7 tb0_9_0 tb0_9_1 tb0_9_2 tb0_9_3 tb0_9_4 tb0_9_5 tb0_9_6 tb0_9_7 tb0_9_8 tb0_9_9 tb0_9_10 tb0_9_11 a0_8 n0_8 e0_8 hb0_7 hs0_7 htb0_9_0 htb0_9_1 htb0_9_2 htb0_9_3 htb0_9_4 htb0_9_5 htb0_9_6 htb0_9_7 htb0_9_8 htb0_9_9 htb0_9_10 htb0_9_11 hr0_8 x1 hw28 _ hr42) ?_
     rintro _ F2 w44 _ hs45 le46 ⟨ar41_0_7, nr41_0_7, ar41_0_8, nr41_0_8, er41_0_8, rfl, rfl, hbr41_0_7, hsr41_0_7, hrr41_0_8⟩
     refine ⟨A8 hs45 le46 (by simp) (zdT (by kernel_rfl)), ?_⟩
     refine Dv [15] ?_
     obtain rfl := Aa h43
     exact TU (by kernel_rfl) ⟨F2, ar41_0_7, nr41_0_7, ar41_0_8, nr41_0_8, er41_0_8, hs45, le46, fI, hbr41_0_7, hsr41_0_7, hrr41_0_8⟩
    ·refine Sd h40 (fun hb48 h49 => ?_) (fun hb48 h50 => ?_)
     ·refine Dt 7 27 0 (pt bp0 11) (fun _ hq => IV (t := 110) (E := 109) (len := 5) (s := 2) (g := true) (x := (.tmp 26)) (y := (.tmp 24)) (k := .i64) (b := bp0) (o0 := 9) (o1 := 11) (i := x0.done_) (n := 1) rfl rfl (by kernel_rfl) (by kernel_rfl) hb48 (by decide) rfl) ?_
      refine Dv [8] <| D1 9 <| TR (l' := [true, true, true, true, true, true, true, true, true, true, true, true, true, true, false, false]) (zd := true) (by kernel_rfl) (by kernel_rfl) (dst := (some 29)) (ty := 106) (g := none) (by kernel_rfl) rfl (Bt (t := 106) (x := (.tmp 28)) (b := bp0) (o := 11) (g := false) (s := 1) (C := #[(.bool x0.o_.Report), (.bool x0.o_.Serial), (.bool x0.o_.Zone), (sv x0.l_.Call), (vi x0.l_.Category), (vi x0.l_.Power), (vi x0.l_.Claimed), (.slice a0_7 x0.l_.Jumps.length n0_7), (.slice a0_8 x0.l_.Lines.length n0_8), (fV 153 #[]), (fV 154 #[]), (fV 190 #[(pt tb0_9_0 0), (pt tb0_9_1 0), (pt tb0_9_2 0), (pt tb0_9_3 0)]), (fV 191 #[(pt tb0_9_0 0), (pt tb0_9_3 0)]), (fV 190 #[(pt tb0_9_4 0), (pt tb0_9_5 0), (pt tb0_9_6 0), (pt tb0_9_7 0)]), (fV 191 #[(pt tb0_9_4 0), (pt tb0_9_7 0)]), (fV 190 #[(pt tb0_9_8 0), (pt tb0_9_9 0), (pt tb0_9_10 0), (pt tb0_9_11 0)]), (fV 191 #[(pt tb0_9_8 0), (pt tb0_9_11 0)]), (fV 159 #[]), (fV 160 #[]), (vi x0.done_), (.bool x0.ended_)]) (v := (fV 190 #[(pt tb0_9_0 0), (pt tb0_9_1 0), (pt tb0_9_2 0), (pt tb0_9_3 0)])) rfl (by kernel_rfl) hw28.at0 rfl rfl rfl) (A8 hw28 (TI _) (by simp) (fun e => by cases e)) <| D1 14 ?_
      obtain ⟨r51, hr52, h53⟩ := bind_some h49
      refine DCB Ho (HW N hG bp0 x0 a0_7 n0_7 tb0_9_0 tb0_9_1 tb0_9_2 tb0_9_3 tb0_9_4 tb0_9_5 tb0_9_6 tb0_9_7 tb0_9_8 tb0_9_9 tb0_9_10 tb0_9_11 a0_8 n0_8 e0_8 hb0_7 hs0_7 htb0_9_0 htb0_9_1 htb0_9_2 htb0_9_3 htb0_9_4 htb0_9_5 htb0_9_6 htb0_9_7 htb0_9_8 htb0_9_9 htb0_9_10 htb0_9_11 hr0_8 x1 tb0_9_0 ([67, 65, 84, 69, 71, 79, 82, 89] : T2) htb0_9_0 tb0_9_1 1 htb0_9_1 tb0_9_2 9 htb0_9_2 tb0_9_3 htb0_9_3 hw28 _ hr52) ?_
      rintro _ F3 w54 _ hs55 le56 ⟨ar51_0_7, nr51_0_7, ar51_0_8, nr51_0_8, er51_0_8, rfl, rfl, hbr51_0_7, hsr51_0_7, hrr51_0_8⟩
      refine ⟨A8 hs55 le56 (by simp) (zdT (by kernel_rfl)), ?_⟩
      refine Dv [15] ?_
      obtain rfl := Aa h53
      exact TU (by kernel_rfl) ⟨F3, ar51_0_7, nr51_0_7, ar51_0_8, nr51_0_8, er51_0_8, hs55, le56, fI, hbr51_0_7, hsr51_0_7, hrr51_0_8⟩
     ·refine Sd h50 (fun hb58 h59 => ?_) (fun hb58 h60 => ?_)
      ·refine Dt 7 27 0 (pt bp0 13) (fun _ hq => IV (t := 110) (E := 109) (len := 5) (s := 2) (g := true) (x := (.tmp 26)) (y := (.tmp 24)) (k := .i64) (b := bp0) (o0 := 9) (o1 := 13) (i := x0.done_) (n := 2) rfl rfl (by kernel_rfl) (by kernel_rfl) hb58 (by decide) rfl) ?_
       refine Dv [8] <| D1 9 <| TR (l' := [true, true, true, true, true, true, true, true, true, true, true, true, true, true, false, false]) (zd := true) (by kernel_rfl) (by kernel_rfl) (dst := (some 29)) (ty := 106) (g := none) (by kernel_rfl) rfl (Bt (t := 106) (x := (.tmp 28)) (b := bp0) (o := 13) (g := false) (s := 1) (C := #[(.bool x0.o_.Report), (.bool x0.o_.Serial), (.bool x0.o_.Zone), (sv x0.l_.Call), (vi x0.l_.Category), (vi x0.l_.Power), (vi x0.l_.Claimed), (.slice a0_7 x0.l_.Jumps.length n0_7), (.slice a0_8 x0.l_.Lines.length n0_8), (fV 153 #[]), (fV 154 #[]), (fV 190 #[(pt tb0_9_0 0), (pt tb0_9_1 0), (pt tb0_9_2 0), (pt tb0_9_3 0)]), (fV 191 #[(pt tb0_9_0 0), (pt tb0_9_3 0)]), (fV 190 #[(pt tb0_9_4 0), (pt tb0_9_5 0), (pt tb0_9_6 0), (pt tb0_9_7 0)]), (fV 191 #[(pt tb0_9_4 0), (pt tb0_9_7 0)]), (fV 190 #[(pt tb0_9_8 0), (pt tb0_9_9 0), (pt tb0_9_10 0), (pt tb0_9_11 0)]), (fV 191 #[(pt tb0_9_8 0), (pt tb0_9_11 0)]), (fV 159 #[]), (fV 160 #[]), (vi x0.done_), (.bool x0.ended_)]) (v := (fV 190 #[(pt tb0_9_4 0), (pt tb0_9_5 0), (pt tb0_9_6 0), (pt tb0_9_7 0)])) rfl (by kernel_rfl) hw28.at0 rfl rfl rfl) (A8 hw28 (TI _) (by simp) (fun e => by cases e)) <| D1 14 ?_
       obtain ⟨r61, hr62, h63⟩ := bind_some h59
       refine DCB Hm (HU N hG bp0 x0 a0_7 n0_7 tb0_9_0 tb0_9_1 tb0_9_2 tb0_9_3 tb0_9_4 tb0_9_5 tb0_9_6 tb0_9_7 tb0_9_8 tb0_9_9 tb0_9_10 tb0_9_11 a0_8 n0_8 e0_8 hb0_7 hs0_7 htb0_9_0 htb0_9_1 htb0_9_2 htb0_9_3 htb0_9_4 htb0_9_5 htb0_9_6 htb0_9_7 htb0_9_8 htb0_9_9 htb0_9_10 htb0_9_11 hr0_8 x1 tb0_9_4 ([80, 79, 87, 69, 82] : T2) htb0_9_4 tb0_9_5 1 htb0_9_5 tb0_9_6 9999 htb0_9_6 tb0_9_7 htb0_9_7 hw28 _ hr62) ?_
       rintro _ F4 w64 _ hs65 le66 ⟨ar61_0_7, nr61_0_7, ar61_0_8, nr61_0_8, er61_0_8, rfl, rfl, hbr61_0_7, hsr61_0_7, hrr61_0_8⟩
       refine ⟨A8 hs65 le66 (by simp) (zdT (by kernel_rfl)), ?_⟩
       refine Dv [15] ?_
       obtain rfl := Aa h63
       exact TU (by kernel_rfl) ⟨F4, ar61_0_7, nr61_0_7, ar61_0_8, nr61_0_8, er61_0_8, hs65, le66, fI, hbr61_0_7, hsr61_0_7, hrr61_0_8⟩
      ·refine Sd h60 (fun hb68 h69 => ?_) (fun hb68 h70 => ?_)
       ·refine Dt 7 27 0 (pt bp0 15) (fun _ hq => IV (t := 110) (E := 109) (len := 5) (s := 2) (g := true) (x := (.tmp 26)) (y := (.tmp 24)) (k := .i64) (b := bp0) (o0 := 9) (o1 := 15) (i := x0.done_) (n := 3) rfl rfl (by kernel_rfl) (by kernel_rfl) hb68 (by decide) rfl) ?_
        refine Dv [8] <| D1 9 <| TR (l' := [true, true, true, true, true, true, true, true, true, true, true, true, true, true, false, false]) (zd := true) (by kernel_rfl) (by kernel_rfl) (dst := (some 29)) (ty := 106) (g := none) (by kernel_rfl) rfl (Bt (t := 106) (x := (.tmp 28)) (b := bp0) (o := 15) (g := false) (s := 1) (C := #[(.bool x0.o_.Report), (.bool x0.o_.Serial), (.bool x0.o_.Zone), (sv x0.l_.Call), (vi x0.l_.Category), (vi x0.l_.Power), (vi x0.l_.Claimed), (.slice a0_7 x0.l_.Jumps.length n0_7), (.slice a0_8 x0.l_.Lines.length n0_8), (fV 153 #[]), (fV 154 #[]), (fV 190 #[(pt tb0_9_0 0), (pt tb0_9_1 0), (pt tb0_9_2 0), (pt tb0_9_3 0)]), (fV 191 #[(pt tb0_9_0 0), (pt tb0_9_3 0)]), (fV 190 #[(pt tb0_9_4 0), (pt tb0_9_5 0), (pt tb0_9_6 0), (pt tb0_9_7 0)]), (fV 191 #[(pt tb0_9_4 0), (pt tb0_9_7 0)]), (fV 190 #[(pt tb0_9_8 0), (pt tb0_9_9 0), (pt tb0_9_10 0), (pt tb0_9_11 0)]), (fV 191 #[(pt tb0_9_8 0), (pt tb0_9_11 0)]), (fV 159 #[]), (fV 160 #[]), (vi x0.done_), (.bool x0.ended_)]) (v := (fV 190 #[(pt tb0_9_8 0), (pt tb0_9_9 0), (pt tb0_9_10 0), (pt tb0_9_11 0)])) rfl (by kernel_rfl) hw28.at0 rfl rfl rfl) (A8 hw28 (TI _) (by simp) (fun e => by cases e)) <| D1 14 ?_
        obtain ⟨r71, hr72, h73⟩ := bind_some h69
        refine DCB Hn (HV N hG bp0 x0 a0_7 n0_7 tb0_9_0 tb0_9_1 tb0_9_2 tb0_9_3 tb0_9_4 tb0_9_5 tb0_9_6 tb0_9_7 tb0_9_8 tb0_9_9 tb0_9_10 tb0_9_11 a0_8 n0_8 e0_8 hb0_7 hs0_7 htb0_9_0 htb0_9_1 htb0_9_2 htb0_9_3 htb0_9_4 htb0_9_5 htb0_9_6 htb0_9_7 htb0_9_8 htb0_9_9 htb0_9_10 htb0_9_11 hr0_8 x1 tb0_9_8 ([67, 76, 65, 73, 77, 69, 68] : T2) htb0_9_8 tb0_9_9 0 htb0_9_9 tb0_9_10 1000000 htb0_9_10 tb0_9_11 htb0_9_11 hw28 _ hr72) ?_
        rintro _ F5 w74 _ hs75 le76 ⟨ar71_0_7, nr71_0_7, ar71_0_8, nr71_0_8, er71_0_8, rfl, rfl, hbr71_0_7, hsr71_0_7, hrr71_0_8⟩
        refine ⟨A8 hs75 le76 (by simp) (zdT (by kernel_rfl)), ?_⟩
        refine Dv [15] ?_
        obtain rfl := Aa h73
        exact TU (by kernel_rfl) ⟨F5, ar71_0_7, nr71_0_7, ar71_0_8, nr71_0_8, er71_0_8, hs75, le76, fI, hbr71_0_7, hsr71_0_7, hrr71_0_8⟩
       ·refine Sd h70 (fun hb78 h79 => ?_) (fun hb78 h80 => ?_)
        ·refine Dt 7 27 0 (pt bp0 17) (fun _ hq => IV (t := 110) (E := 109) (len := 5) (s := 2) (g := true) (x := (.tmp 26)) (y := (.tmp 24)) (k := .i64) (b := bp0) (o0 := 9) (o1 := 17) (i := x0.done_) (n := 4) rfl rfl (by kernel_rfl) (by kernel_rfl) hb78 (by decide) rfl) ?_
         refine Dv [8] <| D1 9 <| TR (l' := [true, true, true, true, true, true, true, true, true, true, true, true, true, true, false, false]) (zd := true) (by kernel_rfl) (by kernel_rfl) (dst := (some 29)) (ty := 106) (g := none) (by kernel_rfl) rfl (Bt (t := 106) (x := (.tmp 28)) (b := bp0) (o := 17) (g := false) (s := 1) (C := #[(.bool x0.o_.Report), (.bool x0.o_.Serial), (.bool x0.o_.Zone), (sv x0.l_.Call), (vi x0.l_.Category), (vi x0.l_.Power), (vi x0.l_.Claimed), (.slice a0_7 x0.l_.Jumps.length n0_7), (.slice a0_8 x0.l_.Lines.length n0_8), (fV 153 #[]), (fV 154 #[]), (fV 190 #[(pt tb0_9_0 0), (pt tb0_9_1 0), (pt tb0_9_2 0), (pt tb0_9_3 0)]), (fV 191 #[(pt tb0_9_0 0), (pt tb0_9_3 0)]), (fV 190 #[(pt tb0_9_4 0), (pt tb0_9_5 0), (pt tb0_9_6 0), (pt tb0_9_7 0)]), (fV 191 #[(pt tb0_9_4 0), (pt tb0_9_7 0)]), (fV 190 #[(pt tb0_9_8 0), (pt tb0_9_9 0), (pt tb0_9_10 0), (pt tb0_9_11 0)]), (fV 191 #[(pt tb0_9_8 0), (pt tb0_9_11 0)]), (fV 159 #[]), (fV 160 #[]), (vi x0.done_), (.bool x0.ended_)]) (v := (fV 159 #[])) rfl (by kernel_rfl) hw28.at0 rfl rfl rfl) (A8 hw28 (TI _) (by simp) (fun e => by cases e)) <| D1 14 ?_
         obtain ⟨r81, hr82, h83⟩ := bind_some h79
         refine DCB IB (Jp N hG bp0 x0 a0_7 n0_7 tb0_9_0 tb0_9_1 tb0_9_2 tb0_9_3 tb0_9_4 tb0_9_5 tb0_9_6 tb0_9_7 tb0_9_8 tb0_9_9 tb0_9_10 tb0_9_11 a0_8 n0_8 e0_8 hb0_7 hs0_7 htb0_9_0 htb0_9_1 htb0_9_2 htb0_9_3 htb0_9_4 htb0_9_5 htb0_9_6 htb0_9_7 htb0_9_8 htb0_9_9 htb0_9_10 htb0_9_11 hr0_8 x1 hw28 _ hr82) ?_
         rintro _ F6 w84 _ hs85 le86 ⟨ar81_0_7, nr81_0_7, ar81_0_8, nr81_0_8, er81_0_8, rfl, rfl, hbr81_0_7, hsr81_0_7, hrr81_0_8⟩
         refine ⟨A8 hs85 le86 (by simp) (zdT (by kernel_rfl)), ?_⟩
         refine Dv [15] ?_
         obtain rfl := Aa h83
         exact TU (by kernel_rfl) ⟨F6, ar81_0_7, nr81_0_7, ar81_0_8, nr81_0_8, er81_0_8, hs85, le86, fI, hbr81_0_7, hsr81_0_7, hrr81_0_8⟩
        ·cases h80
   ·rintro f w29 ⟨F1, aj32_8, nj32_8, aj32_9, nj32_9, ej32_9, hs30, le31, ⟨_, rfl⟩, hbj32_8, hsj32_8, hrj32_9⟩
    refine Ab <| Sq (Rg [0] ?_)
    refine Vs 1 <| Nt ?_
    obtain ⟨j91, hj94, h95⟩ := bind_some h37
    refine TO (fun f w => ∃ (F7 : Mem), HS wb Fb w F7 ((sb bp0 #[(.bool j32.2.1), (.bool j32.2.2.1), (.bool j32.2.2.2.1), (sv j32.2.2.2.2.1), (vi j32.2.2.2.2.2.1), (vi j32.2.2.2.2.2.2.1), (vi j32.2.2.2.2.2.2.2.1), (.slice aj32_8 j32.2.2.2.2.2.2.2.2.1.length nj32_8), (.slice aj32_9 j32.2.2.2.2.2.2.2.2.2.1.length nj32_9), (fV 153 #[]), (fV 154 #[]), (fV 190 #[(pt tb0_9_0 0), (pt tb0_9_1 0), (pt tb0_9_2 0), (pt tb0_9_3 0)]), (fV 191 #[(pt tb0_9_0 0), (pt tb0_9_3 0)]), (fV 190 #[(pt tb0_9_4 0), (pt tb0_9_5 0), (pt tb0_9_6 0), (pt tb0_9_7 0)]), (fV 191 #[(pt tb0_9_4 0), (pt tb0_9_7 0)]), (fV 190 #[(pt tb0_9_8 0), (pt tb0_9_9 0), (pt tb0_9_10 0), (pt tb0_9_11 0)]), (fV 191 #[(pt tb0_9_8 0), (pt tb0_9_11 0)]), (fV 159 #[]), (fV 160 #[]), (vi j91), (.bool j32.2.2.2.2.2.2.2.2.2.2.2)] 130) :: ej32_9 :: Lf) /\ TH F1 F7 /\ FI f [] [(4, (.bool j32.1))]) ?_ ?_
    ·refine Cd hj94 (fun hb96 h97 => ?_) (fun hb96 h98 => ?_)
     ·refine Rg (rG 8) ?_
      refine Vs 3 <| Ld hs30.at0 <| Vs 3 <| St0 #[(.bool j32.2.1), (.bool j32.2.2.1), (.bool j32.2.2.2.1), (sv j32.2.2.2.2.1), (vi j32.2.2.2.2.2.1), (vi j32.2.2.2.2.2.2.1), (vi j32.2.2.2.2.2.2.2.1), (.slice aj32_8 j32.2.2.2.2.2.2.2.2.1.length nj32_8), (.slice aj32_9 j32.2.2.2.2.2.2.2.2.2.1.length nj32_9), (fV 153 #[]), (fV 154 #[]), (fV 190 #[(pt tb0_9_0 0), (pt tb0_9_1 0), (pt tb0_9_2 0), (pt tb0_9_3 0)]), (fV 191 #[(pt tb0_9_0 0), (pt tb0_9_3 0)]), (fV 190 #[(pt tb0_9_4 0), (pt tb0_9_5 0), (pt tb0_9_6 0), (pt tb0_9_7 0)]), (fV 191 #[(pt tb0_9_4 0), (pt tb0_9_7 0)]), (fV 190 #[(pt tb0_9_8 0), (pt tb0_9_9 0), (pt tb0_9_10 0), (pt tb0_9_11 0)]), (fV 191 #[(pt tb0_9_8 0), (pt tb0_9_11 0)]), (fV 159 #[]), (fV 160 #[]), (vi (W64 (j32.2.2.2.2.2.2.2.2.2.2.1 + 1))), (.bool j32.2.2.2.2.2.2.2.2.2.2.2)] hs30 (fun w99 hs100 => ?_)
      refine TD ?_
      obtain rfl := Aa h97
      exact .inl ⟨rfl, F1, hs100, (TI _), fI⟩
     ·refine Sc ?_
      obtain rfl := Aa h98
      exact .inl ⟨rfl, F1, hs30, (TI _), fI⟩
    ·rintro f w88 ⟨F7, hs89, le90, ⟨_, rfl⟩⟩
     refine Ab <| Sq (Rg [0, 1, 2] ?_)
     refine Vs 3 <| Nt <| Rt <| AM <| Am ?_
     obtain rfl := Aa h95
     exact ReB [(.bool j32.1), (.bool false)] hs89 (le31.t le90) ⟨aj32_8, nj32_8, aj32_9, nj32_9, ej32_9, rfl, rfl, hbj32_8, (TK hsj32_8 le90), (hrj32_9.mono le90)⟩
  ·refine Sq (Rg [0, 1, 2] ?_)
   refine Vs 3 <| Nt <| Cd h26 (fun hb101 h102 => ?_) (fun hb101 h103 => ?_)
   ·refine Sq (Rg (rG 4) ?_)
    refine Vs 3 <| St0 #[(.bool x0.o_.Report), (.bool x0.o_.Serial), (.bool x0.o_.Zone), (sv x0.l_.Call), (vi x0.l_.Category), (vi x0.l_.Power), (vi x0.l_.Claimed), (.slice a0_7 x0.l_.Jumps.length n0_7), (.slice a0_8 x0.l_.Lines.length n0_8), (fV 153 #[]), (fV 154 #[]), (fV 190 #[(pt tb0_9_0 0), (pt tb0_9_1 0), (pt tb0_9_2 0), (pt tb0_9_3 0)]), (fV 191 #[(pt tb0_9_0 0), (pt tb0_9_3 0)]), (fV 190 #[(pt tb0_9_4 0), (pt tb0_9_5 0), (pt tb0_9_6 0), (pt tb0_9_7 0)]), (fV 191 #[(pt tb0_9_4 0), (pt tb0_9_7 0)]), (fV 190 #[(pt tb0_9_8 0), (pt tb0_9_9 0), (pt tb0_9_10 0), (pt tb0_9_11 0)]), (fV 191 #[(pt tb0_9_8 0), (pt tb0_9_11 0)]), (fV 159 #[]), (fV 160 #[]), (vi x0.done_), (.bool true)] hs0 (fun w104 hs105 => ?_)
    refine Nss (Rg [0, 1] ?_)
    refine Vs 2 <| Nt <| Rt <| AM <| Am ?_
    obtain rfl := Aa h102
    exact ReB [(.bool true), (.bool false)] hs105 (TI _) ⟨a0_7, n0_7, a0_8, n0_8, e0_8, rfl, rfl, hb0_7, hs0_7, hr0_8⟩
   ·refine Sc ?_
    refine Aw <| Ab <| Sq (Rg (rG 12) ?_)
    refine Vs 3 <| Ld hs0.at0 <| Vs 1 ?_
    obtain ⟨r106, hr107, h108⟩ := bind_some h103
    refine Cl' CJ hs0 (C2 N w0 F0 hs0.pers hG (({ Report := x0.o_.Report, Serial := x0.o_.Serial, Zone := x0.o_.Zone } : Ac)) x1 _ hr107) ?_
    rintro _ F8 w110 hs111 le112 rfl
    refine Vs 3 <| Al' 34 #[(vi 0), (vi 0), (vi 0), (vi 0), (sv (([] : T2))), (vi 0), (vi 0), (vi 0), (vi 0), (vi 0), (vi 0)] hs111 (fun b114 w115 hs116 => ?_)
    refine St0 (BI r106.1) hs116 (fun w117 hs118 => ?_)
    refine Vs 1 <| Nss <| Sq (Rg (rG 7) ?_)
    refine Vs 4 <| Ld hs118.at1 <| Vs 2 <| Nss ?_
    obtain ⟨j124, hj129, h130⟩ := bind_some h108
    refine RD 36 36 [(sb b114 (BI r106.1) 34), (sb bp0 #[(.bool x0.o_.Report), (.bool x0.o_.Serial), (.bool x0.o_.Zone), (sv x0.l_.Call), (vi x0.l_.Category), (vi x0.l_.Power), (vi x0.l_.Claimed), (.slice a0_7 x0.l_.Jumps.length n0_7), (.slice a0_8 x0.l_.Lines.length n0_8), (fV 153 #[]), (fV 154 #[]), (fV 190 #[(pt tb0_9_0 0), (pt tb0_9_1 0), (pt tb0_9_2 0), (pt tb0_9_3 0)]), (fV 191 #[(pt tb0_9_0 0), (pt tb0_9_3 0)]), (fV 190 #[(pt tb0_9_4 0), (pt tb0_9_5 0), (pt tb0_9_6 0), (pt tb0_9_7 0)]), (fV 191 #[(pt tb0_9_4 0), (pt tb0_9_7 0)]), (fV 190 #[(pt tb0_9_8 0), (pt tb0_9_9 0), (pt tb0_9_10 0), (pt tb0_9_11 0)]), (fV 191 #[(pt tb0_9_8 0), (pt tb0_9_11 0)]), (fV 159 #[]), (fV 160 #[]), (vi x0.done_), (.bool x0.ended_)] 130), e0_8] [] hs118 (fun f w => ∃ (F9 : Mem), HS wb Fb w F9 ((sb b114 (BI r106.1) 34) :: (sb bp0 #[(.bool x0.o_.Report), (.bool x0.o_.Serial), (.bool x0.o_.Zone), (sv x0.l_.Call), (vi x0.l_.Category), (vi x0.l_.Power), (vi x0.l_.Claimed), (.slice a0_7 x0.l_.Jumps.length n0_7), (.slice a0_8 x0.l_.Lines.length n0_8), (fV 153 #[]), (fV 154 #[]), (fV 190 #[(pt tb0_9_0 0), (pt tb0_9_1 0), (pt tb0_9_2 0), (pt tb0_9_3 0)]), (fV 191 #[(pt tb0_9_0 0), (pt tb0_9_3 0)]), (fV 190 #[(pt tb0_9_4 0), (pt tb0_9_5 0), (pt tb0_9_6 0), (pt tb0_9_7 0)]), (fV 191 #[(pt tb0_9_4 0), (pt tb0_9_7 0)]), (fV 190 #[(pt tb0_9_8 0), (pt tb0_9_9 0), (pt tb0_9_10 0), (pt tb0_9_11 0)]), (fV 191 #[(pt tb0_9_8 0), (pt tb0_9_11 0)]), (fV 159 #[]), (fV 160 #[]), (vi x0.done_), (.bool x0.ended_)] 130) :: e0_8 :: Lf) /\ TH F8 F9 /\ FI f [] [(0, (pt bp0 0)), (6, (pt b114 0)), (100, (.bool j124))]) (fun wd119 hw120 => ?_) ?_
    ·refine Dvl [0, 1, 2] (tf 3 33) ?_
     refine Sd hj129 (fun hb131 h132 => ?_) (fun hb131 h133 => ?_)
     ·refine Dgl 3 68 0 (pt b114 0) (tf 4 32) 2 true 67 hb131 (fun _ hq => fa 34 6 0 0 1 b114 0 0) ?_
      refine Dgl 4 69 3 _ (tf 5 31) 2 true 67 hb131 (fun _ hq => ld 3 68 b114 0 false 1 (vi r106.1.Num) (hq.1.2 0 _ _ rfl)) <| Dgl 5 70 128 _ (tf 6 30) 2 true 67 hb131 (fun _ hq => mv 0 (pt bp0 0)) <| Dgl 6 71 0 (pt bp0 0) (tf 7 29) 2 true 67 hb131 (fun _ hq => DE (x := (.tmp 70)) (a := ⟨bp0, 0, none⟩) rfl) <| Dgl 7 72 0 (pt bp0 3) (tf 8 28) 2 true 67 hb131 (fun _ hq => fa 130 71 1 3 6 bp0 0 3) <| Dgl 8 73 0 (pt bp0 8) (tf 9 27) 2 true 67 hb131 (fun _ hq => fa 27 72 5 5 1 bp0 3 8) <| Dgl 9 74 25 _ (tf 10 26) 2 true 67 hb131 (fun _ hq => ld 25 73 bp0 8 false 1 (.slice a0_8 x0.l_.Lines.length n0_8) (hq.1.2 1 _ _ rfl)) <| Dgl 10 75 3 _ (tf 11 25) 2 true 67 hb131 (fun _ hq => mv 8 (vi (x0.l_.Lines.length : Int))) <| Dgl 11 76 3 (vi (W64 ((x0.l_.Lines.length : Int) - 1))) (tf 12 24) 2 true 67 hb131 (fun _ hq => MR (t := 3) (t' := 3) (x := (.tmp 75)) (y := (.const (vi 1))) (k := .i64) (a := (x0.l_.Lines.length : Int)) (b := 1) rfl rfl) ?_
      obtain ⟨x134, hx135, h137⟩ := bind_some h132
      obtain ⟨hi136, hx135'⟩ := As hx135
      obtain ⟨b138, C139, rfl, rfl, hE142⟩ := Ar.open (hr0_8.mono le112) hx135'
      have hr143 := (hr0_8.mono le112)
      have hc145 := hE142 _ _ hx135'
      refine Dgl 12 77 0 (.pointer (some ⟨b138, (((W64 ((x0.l_.Lines.length : Int) - 1)) : Int).toNat * 11), none⟩)) (tf 13 23) 2 true 67 hb131 (fun _ hq => Do (t := 25) (x := (.tmp 74)) (y := (.tmp 76)) (b := b138) (E := 34) (s := 11) (by_ := 96) rfl rfl (by kernel_rfl) hi136) <| Dgl 13 78 0 (.pointer (some ⟨b138, (((W64 ((x0.l_.Lines.length : Int) - 1)) : Int).toNat * 11), none⟩)) (tf 14 22) 2 true 67 hb131 (fun _ hq => fa 34 77 0 0 1 b138 (((W64 ((x0.l_.Lines.length : Int) - 1)) : Int).toNat * 11) (((W64 ((x0.l_.Lines.length : Int) - 1)) : Int).toNat * 11)) <| Dgl 14 79 3 _ (tf 15 21) 2 true 67 hb131 (fun _ hq => lx 3 78 0 11 false 1 (vi x134.Num) (hq.1.2 2 _ _ rfl) hc145) <| Dgl 15 80 4 (.bool (decide (r106.1.Num <= x134.Num))) (tf 16 20) 2 true 67 hb131 (fun _ hq => O7 (t := 3) (t' := 3) (x := (.tmp 69)) (y := (.tmp 79)) (k := .i64) (a := r106.1.Num) (b := x134.Num) rfl rfl) <| Dgl 16 81 4 _ (tf 17 19) 2 true 67 hb131 (fun _ hq => mv 80 (.bool (decide (r106.1.Num <= x134.Num)))) <| Sd h137 (fun hb146 h147 => ?_) (fun hb146 h148 => ?_)
      ·refine Dkl [(17, 82), (18, 83), (19, 84), (20, 85), (21, 86), (22, 87)] 16 false 81 hb146 (tf 23 13) ?_
       refine Dkl [(23, 88), (24, 89), (25, 90), (26, 91), (27, 92), (28, 93)] 16 false 81 hb146 (tf 29 7) <| Dkl [(29, 94)] 16 false 81 hb146 (tf 30 6) <| Dgl 30 95 4 _ (tf 31 5) 2 true 67 hb131 (fun _ hq => p1 81 (.const (.bool true)) (.tmp 94) (.bool true) hb146) <| Dtl 31 96 4 _ (tf 32 4) (fun _ hq => p1 67 (.tmp 95) (.const (.bool false)) (.bool true) hb131) <| Dvl [32] (tf 33 3) <| Dkl [(33, 98), (34, 99)] 32 false 97 rfl (tf 35 1) <| Dtl 35 100 4 _ (tf 36 0) (fun _ hq => p1 97 (.const (.bool true)) (.tmp 99) (.bool true) rfl) ?_
       obtain rfl := Aa h147
       exact TU (by kernel_rfl) ⟨F8, hw120, (TI _), fI⟩
      ·refine Dgl 17 82 0 (pt b114 3) (tf 18 18) 16 false 81 hb146 (fun _ hq => fa 34 6 3 3 1 b114 0 3) ?_
       refine Dgl 18 83 3 _ (tf 19 17) 16 false 81 hb146 (fun _ hq => ld 3 82 b114 3 false 1 (vi r106.1.Minute) (hq.1.2 0 _ _ rfl)) <| Dgl 19 84 128 _ (tf 20 16) 16 false 81 hb146 (fun _ hq => mv 0 (pt bp0 0)) <| Dgl 20 85 0 (pt bp0 0) (tf 21 15) 16 false 81 hb146 (fun _ hq => DE (x := (.tmp 84)) (a := ⟨bp0, 0, none⟩) rfl) <| Dgl 21 86 0 (pt bp0 3) (tf 22 14) 16 false 81 hb146 (fun _ hq => fa 130 85 1 3 6 bp0 0 3) <| Dgl 22 87 0 (pt bp0 8) (tf 23 13) 16 false 81 hb146 (fun _ hq => fa 27 86 5 5 1 bp0 3 8) <| Dgl 23 88 25 _ (tf 24 12) 16 false 81 hb146 (fun _ hq => ld 25 87 bp0 8 false 1 (.slice (some ⟨b138, 0, none⟩) x0.l_.Lines.length n0_8) (hq.1.2 1 _ _ rfl)) <| Dgl 24 89 3 _ (tf 25 11) 16 false 81 hb146 (fun _ hq => mv 8 (vi (x0.l_.Lines.length : Int))) <| Dgl 25 90 3 (vi (W64 ((x0.l_.Lines.length : Int) - 1))) (tf 26 10) 16 false 81 hb146 (fun _ hq => MR (t := 3) (t' := 3) (x := (.tmp 89)) (y := (.const (vi 1))) (k := .i64) (a := (x0.l_.Lines.length : Int)) (b := 1) rfl rfl) ?_
       obtain ⟨x149, hx150, h152⟩ := bind_some h148
       obtain ⟨hi151, hx150'⟩ := As hx150
       obtain ⟨b153, C154, ha155, he156, hE157⟩ := Ar.open hr143 hx150'
       cases ha155
       cases he156
       have hc159 := hE157 _ _ hx150'
       refine Dgl 26 91 0 (.pointer (some ⟨b138, (((W64 ((x0.l_.Lines.length : Int) - 1)) : Int).toNat * 11), none⟩)) (tf 27 9) 16 false 81 hb146 (fun _ hq => Do (t := 25) (x := (.tmp 88)) (y := (.tmp 90)) (b := b138) (E := 34) (s := 11) (by_ := 96) rfl rfl (by kernel_rfl) hi151) <| Dgl 27 92 0 (.pointer (some ⟨b138, ((((W64 ((x0.l_.Lines.length : Int) - 1)) : Int).toNat * 11) + 3), none⟩)) (tf 28 8) 16 false 81 hb146 (fun _ hq => fa 34 91 3 3 1 b138 (((W64 ((x0.l_.Lines.length : Int) - 1)) : Int).toNat * 11) ((((W64 ((x0.l_.Lines.length : Int) - 1)) : Int).toNat * 11) + 3)) <| Dgl 28 93 3 _ (tf 29 7) 16 false 81 hb146 (fun _ hq => lx 3 92 3 11 false 1 (vi x149.Minute) (hq.1.2 2 _ _ rfl) hc159) <| Dgl 29 94 4 (.bool (decide (r106.1.Minute < x149.Minute))) (tf 30 6) 16 false 81 hb146 (fun _ hq => KN (t := 3) (t' := 3) (x := (.tmp 83)) (y := (.tmp 93)) (k := .i64) (a := r106.1.Minute) (b := x149.Minute) rfl rfl) <| Dgl 30 95 4 _ (tf 31 5) 2 true 67 hb131 (fun _ hq => p0 81 (.const (.bool true)) (.tmp 94) (.bool (decide (r106.1.Minute < x149.Minute))) hb146) <| Dtl 31 96 4 _ (tf 32 4) (fun _ hq => p1 67 (.tmp 95) (.const (.bool false)) (.bool (decide (r106.1.Minute < x149.Minute))) hb131) <| Dvl [32] (tf 33 3) <| Sd h152 (fun hb160 h161 => ?_) (fun hb160 h162 => ?_)
       ·refine Dkl [(33, 98), (34, 99)] 32 false 97 hb160 (tf 35 1) ?_
        refine Dtl 35 100 4 _ (tf 36 0) (fun _ hq => p1 97 (.const (.bool true)) (.tmp 99) (.bool true) hb160) ?_
        obtain rfl := Aa h161
        exact TU (by kernel_rfl) ⟨F8, hw120, (TI _), fI⟩
       ·refine Dgl 33 98 35 _ (tf 34 2) 32 false 97 hb160 (fun _ hq => mv 7 (vi r106.2)) ?_
        refine Dgl 34 99 4 (.bool (r106.2 != 0)) (tf 35 1) 32 false 97 hb160 (fun _ hq => KM (t := 35) (t' := 35) (x := (.tmp 98)) (y := (.const (vi 0))) (k := .i64) (a := r106.2) (b := 0) rfl rfl) <| Dtl 35 100 4 _ (tf 36 0) (fun _ hq => p0 97 (.const (.bool true)) (.tmp 99) (.bool (r106.2 != 0)) hb160) ?_
        obtain rfl := Aa h162
        exact TU (by kernel_rfl) ⟨F8, hw120, (TI _), fI⟩
     ·refine Dkl [(3, 68), (4, 69), (5, 70), (6, 71), (7, 72), (8, 73)] 2 true 67 hb131 (tf 9 27) ?_
      refine Dkl [(9, 74), (10, 75), (11, 76), (12, 77), (13, 78), (14, 79)] 2 true 67 hb131 (tf 15 21) <| Dkl [(15, 80), (16, 81)] 2 true 67 hb131 (tf 17 19) <| Dul [(17, 82), (18, 83), (19, 84), (20, 85), (21, 86), (22, 87)] 16 false 81 (tf 23 13) <| Dul [(23, 88), (24, 89), (25, 90), (26, 91), (27, 92), (28, 93)] 16 false 81 (tf 29 7) <| Dul [(29, 94)] 16 false 81 (tf 30 6) <| Dkl [(30, 95)] 2 true 67 hb131 (tf 31 5) <| Dtl 31 96 4 _ (tf 32 4) (fun _ hq => p0 67 (.tmp 95) (.const (.bool false)) (.bool false) hb131) <| Dvl [32] (tf 33 3) <| Dgl 33 98 35 _ (tf 34 2) 32 false 97 rfl (fun _ hq => mv 7 (vi r106.2)) <| Dgl 34 99 4 (.bool (r106.2 != 0)) (tf 35 1) 32 false 97 rfl (fun _ hq => KM (t := 35) (t' := 35) (x := (.tmp 98)) (y := (.const (vi 0))) (k := .i64) (a := r106.2) (b := 0) rfl rfl) <| Dtl 35 100 4 _ (tf 36 0) (fun _ hq => p0 97 (.const (.bool true)) (.tmp 99) (.bool (r106.2 != 0)) rfl) ?_
      obtain rfl := Aa h133
      exact TU (by kernel_rfl) ⟨F8, hw120, (TI _), fI⟩
    ·rintro f w121 ⟨F9, hs122, le123, ⟨_, rfl⟩⟩
     refine Ab <| Cd h130 (fun hb163 h164 => ?_) (fun hb163 h165 => ?_)
     ·refine Sq (Rg [0, 1] ?_)
      refine Vs 2 <| Nt <| Rt <| Am ?_
      obtain rfl := Aa h164
      exact ReB [(.bool false), (.bool false)] hs122.dr0 (le112.t le123) ⟨a0_7, n0_7, a0_8, n0_8, e0_8, rfl, rfl, hb0_7, (TK hs0_7 (le112.t le123)), (hr0_8.mono (le112.t le123))⟩
     ·refine Sc ?_
      refine Ab <| Sq <| Sq (Rg (rG 7) ?_)
      refine Vs 4 <| Ld hs122.at1 <| Vs 2 <| Nt <| Cd h165 (fun hb166 h167 => ?_) (fun hb166 h168 => ?_)
      ·refine Sq (Rg [0, 1] ?_)
       refine Vs 2 <| Nt <| Rt <| Am ?_
       obtain rfl := Aa h167
       exact ReB [(.bool false), (.bool true)] hs122.dr0 (le112.t le123) ⟨a0_7, n0_7, a0_8, n0_8, e0_8, rfl, rfl, hb0_7, (TK hs0_7 (le112.t le123)), (hr0_8.mono (le112.t le123))⟩
      ·refine Sc ?_
       refine Ab <| Sq ?_
       obtain ⟨j174, hj176, h177⟩ := bind_some h168
       refine RD 12 13 [(sb b114 (BI r106.1) 34)] [(sb bp0 #[(.bool x0.o_.Report), (.bool x0.o_.Serial), (.bool x0.o_.Zone), (sv x0.l_.Call), (vi x0.l_.Category), (vi x0.l_.Power), (vi x0.l_.Claimed), (.slice a0_7 x0.l_.Jumps.length n0_7), (.slice a0_8 x0.l_.Lines.length n0_8), (fV 153 #[]), (fV 154 #[]), (fV 190 #[(pt tb0_9_0 0), (pt tb0_9_1 0), (pt tb0_9_2 0), (pt tb0_9_3 0)]), (fV 191 #[(pt tb0_9_0 0), (pt tb0_9_3 0)]), (fV 190 #[(pt tb0_9_4 0), (pt tb0_9_5 0), (pt tb0_9_6 0), (pt tb0_9_7 0)]), (fV 191 #[(pt tb0_9_4 0), (pt tb0_9_7 0)]), (fV 190 #[(pt tb0_9_8 0), (pt tb0_9_9 0), (pt tb0_9_10 0), (pt tb0_9_11 0)]), (fV 191 #[(pt tb0_9_8 0), (pt tb0_9_11 0)]), (fV 159 #[]), (fV 160 #[]), (vi x0.done_), (.bool x0.ended_)] 130)] hs122 (fun f w => ∃ (F10 : Mem) (aj174_0 : T3) (nj174_0 : Nat) (ej174_0 : Option Nat × Obj), HS wb Fb w F10 ((sb bp0 #[(.bool x0.o_.Report), (.bool x0.o_.Serial), (.bool x0.o_.Zone), (sv x0.l_.Call), (vi x0.l_.Category), (vi x0.l_.Power), (vi x0.l_.Claimed), (.slice a0_7 x0.l_.Jumps.length n0_7), (.slice aj174_0 j174.length nj174_0), (fV 153 #[]), (fV 154 #[]), (fV 190 #[(pt tb0_9_0 0), (pt tb0_9_1 0), (pt tb0_9_2 0), (pt tb0_9_3 0)]), (fV 191 #[(pt tb0_9_0 0), (pt tb0_9_3 0)]), (fV 190 #[(pt tb0_9_4 0), (pt tb0_9_5 0), (pt tb0_9_6 0), (pt tb0_9_7 0)]), (fV 191 #[(pt tb0_9_4 0), (pt tb0_9_7 0)]), (fV 190 #[(pt tb0_9_8 0), (pt tb0_9_9 0), (pt tb0_9_10 0), (pt tb0_9_11 0)]), (fV 191 #[(pt tb0_9_8 0), (pt tb0_9_11 0)]), (fV 159 #[]), (fV 160 #[]), (vi x0.done_), (.bool x0.ended_)] 130) :: ej174_0 :: Lf) /\ TH F9 F10 /\ FI f [] [] /\ Ar AD 34 F10 aj174_0 nj174_0 j174 ej174_0) (fun wd169 hw170 => ?_) ?_
       ·refine Dv [0, 1, 2, 3, 4] ?_
        refine Dl 5 (fun _ hq => ((hq.2 rfl).2 0 _ _ rfl)) <| Dl 6 (fun _ hq => (hq.1.2 0 _ _ rfl)) <| D1 7 <| DBs 34 [(vi r106.1.Num), (vi r106.1.Khz), (vi r106.1.Mode), (vi r106.1.Minute), (sv r106.1.Call), (vi r106.1.Sent.Report), (vi r106.1.Sent.Serial), (vi r106.1.Sent.Zone), (vi r106.1.Got.Report), (vi r106.1.Got.Serial), (vi r106.1.Got.Zone)] hw170 (TI _) (fun b178 w179 hs180 => ?_)
        have hr182 : Ar AD 34 F9 (some ⟨b178, 0, none⟩) 1 [r106.1] (some b178, .cells ([(vi r106.1.Num), (vi r106.1.Khz), (vi r106.1.Mode), (vi r106.1.Minute), (sv r106.1.Call), (vi r106.1.Sent.Report), (vi r106.1.Sent.Serial), (vi r106.1.Sent.Zone), (vi r106.1.Got.Report), (vi r106.1.Got.Serial), (vi r106.1.Got.Zone)] : List Value).toArray 34 (0, 0)) := TX ⟨rfl, rfl⟩ (by simp)
        refine D1 8 ?_
        obtain ⟨r183, hap184, h185⟩ := bind_some hj176
        refine TB Qv hs180 (hr0_8.mono (le112.t le123)) (hs180.rd0 hr182) hap184 (TI _) (fun a186 n187 e188 w189 hs190 hr191 => ?_)
        refine D1 9 <| TR (l' := [true, true, true, true, true, true, true, true, true, true, false, false, false]) (zd := false) (by kernel_rfl) (by kernel_rfl) (dst := (some 117)) (ty := 0) (g := none) (by kernel_rfl) rfl (DE (x := (.tmp 108)) (a := ⟨bp0, 0, none⟩) rfl) (A8 hs190 (TI _) (by simp) (fun _ => by simp)) <| D1 10 <| TR (l' := [true, true, true, true, true, true, true, true, true, true, true, false, false]) (zd := false) (by kernel_rfl) (by kernel_rfl) (dst := (some 118)) (ty := 0) (g := none) (by kernel_rfl) rfl (CC (s := 130) (x := (.tmp 117)) (i := 1) (o := 3) (k := 6) (b := bp0) (o0 := 0) rfl (by kernel_rfl) rfl (o1 := 3) rfl) (A8 hs190 (TI _) (by simp) (fun _ => by simp)) <| Dv [11] <| D1 12 <| Mn #[(.bool x0.o_.Report), (.bool x0.o_.Serial), (.bool x0.o_.Zone), (sv x0.l_.Call), (vi x0.l_.Category), (vi x0.l_.Power), (vi x0.l_.Claimed), (.slice a0_7 x0.l_.Jumps.length n0_7), (.slice a186 r183.length n187), (fV 153 #[]), (fV 154 #[]), (fV 190 #[(pt tb0_9_0 0), (pt tb0_9_1 0), (pt tb0_9_2 0), (pt tb0_9_3 0)]), (fV 191 #[(pt tb0_9_0 0), (pt tb0_9_3 0)]), (fV 190 #[(pt tb0_9_4 0), (pt tb0_9_5 0), (pt tb0_9_6 0), (pt tb0_9_7 0)]), (fV 191 #[(pt tb0_9_4 0), (pt tb0_9_7 0)]), (fV 190 #[(pt tb0_9_8 0), (pt tb0_9_9 0), (pt tb0_9_10 0), (pt tb0_9_11 0)]), (fV 191 #[(pt tb0_9_8 0), (pt tb0_9_11 0)]), (fV 159 #[]), (fV 160 #[]), (vi x0.done_), (.bool x0.ended_)] hs190 (TI _) (fun w192 hs193 => ?_)
        obtain rfl := Aa h185
        exact TU (by kernel_rfl) ⟨F9, a186, n187, e188, hs193.dr0.dr0, (TI _), fI, hr191⟩
       ·rintro f w171 ⟨F10, aj174_0, nj174_0, ej174_0, hs172, le173, ⟨_, rfl⟩, hrj174_0⟩
        refine Ab <| Sq (Rg [0, 1] ?_)
        refine Vs 2 <| Nt <| Rt ?_
        obtain rfl := Aa h177
        exact ReB [(.bool true), (.bool false)] hs172 ((le112.t le123).trans le173) ⟨a0_7, n0_7, aj174_0, nj174_0, ej174_0, rfl, rfl, hb0_7, (TK hs0_7 ((le112.t le123).trans le173)), hrj174_0⟩
def GB {σ : Type} (N : Nat) (y : (σ -> (T2 × Bool) -> Option (Bool × σ))) (z0 : T2) (s : σ) : (T2 × σ) -> Option (BE σ (T2 × σ)) := fun s4 =>
 (bif (s4.1 != ([] : T2)) then ((strings_Cut N s4.1 ([10] : T2)).bind fun r29 => ((y s4.2 (r29.1, r29.2.2)).bind fun q37 => (bif (!q37.1) then none else some (.next (r29.2.1, q37.2))))) else some (.done (s4.1, s4.2)))
def DF {σ : Type} (N : Nat) (y : σ -> (T2 × Bool) -> Option (Bool × σ)) (z0 : T2) (s : σ) : Option σ :=
 ((A6 (GB N y z0 s) N (z0, s)).bind fun o => o.k (fun r => some r) (fun s13 => some s13.2))
theorem GG : Ag Tryz.prog 169 := fun _ _ => by kernel_rfl
theorem Hv (N : Nat) (F0 : Mem) (hG : Bl F0) (z0 : T2) (bz0 : Nat) :
  Pv Tryz.prog 169 [(pt bz0 0)] F0 [(sb bz0 #[(sv z0)] 9)] OY Qu Qk (fun {_} y s => DF N y z0 s) := by
 intro σ wb w0 Fb F1 l y J s r Lf le01 hJm hs0 hJ hY h
 have hs0 : HS wb Fb w0 F1 ((sb bz0 #[(sv z0)] 9) :: Lf) := hs0
 refine LW (n := 20) (c := L2 Tryz.f169) Tryz.func169 (by kernel_rfl) (by kernel_rfl) (by kernel_rfl) ?_
 obtain ⟨o1, ho2, h3⟩ := bind_some h
 refine TO (fun f w => ∃ (s13 : (T2 × σ)) (F3 : Mem) (Lf17 : Own), o1 = .done s13 /\ HS wb Fb w F3 Lf17 /\ TH F1 F3 /\ FI f [] [] /\ J s13.2 F3 Lf17) ?_ ?_
 ·refine Bk ?_
  refine TG (by kernel_rfl) (fun m f w => ∃ (s4 : (T2 × σ)) (F2 : Mem) (Lf8 : Own), A6 (GB N y z0 s) m s4 = some o1 /\ HS wb Fb w F2 ((sb bz0 #[(sv s4.1)] 9) :: Lf8) /\ TH F1 F2 /\ FI f [] [(0, (.func (.yield l) #[] #[])), (1, (pt bz0 0))] /\ J s4.2 F2 Lf8) N ⟨(z0, s), F1, Lf, ho2, hs0, (TI _), fI, hJ⟩ ?_
  rintro m20 f w5 ⟨s4, F2, Lf8, hit21, hs6, le7, ⟨_, rfl⟩, hJ9⟩
  obtain ⟨m22, fl23, rfl, hb24, hnx25⟩ := AQ hit21
  refine Sq <| Sq (Rg [0, 1] ?_)
  refine Ld hs6.at0 <| Vs 1 <| Nt <| Cd hb24 (fun hb26 h27 => ?_) (fun hb26 h28 => ?_)
  ·refine Sc ?_
   refine Ab <| Bk <| Sq (Rg (rG 9) ?_)
   refine Ld hs6.at0 ?_
   obtain ⟨r29, hr30, h31⟩ := bind_some h27
   refine Cl' Hk hs6 (Ij N w5 F2 hs6.pers (hG.mono (le01.t le7)) s4.1 (([10] : T2)) _ hr30) ?_
   rintro _ F4 w33 hs34 le35 rfl
   refine Vs 1 <| Vs 1 <| Vs 1 <| Vs 1 <| Vs 1 <| Vs 1 <| Vs 1 <| Nss <| Sq (Rg (rG 5) ?_)
   refine Vs 1 <| Vs 1 <| Vs 1 ?_
   obtain ⟨q37, hq38, h39⟩ := bind_some h31
   refine RWP.yield (dst := (some 17)) (ty := 4) (g := none) (by kernel_rfl) rfl (f0 := (.tmp 14)) (aos := #[(.tmp 15), (.tmp 16)]) (ats := #[9, 4]) (l := l) (args := [(sv r29.1), (.bool r29.2.2)]) rfl rfl (hY s4.2 (r29.1, r29.2.2) w33 F4 [(sb bz0 #[(sv s4.1)] 9)] Lf8 q37 (le7.t le35) trivial (hJm _ _ _ _ hJ9 le35) hs34 hq38) ?_
   rintro _ w40 ⟨F5, Lf44, rfl, hs41, le42, hJ43⟩
   have hs45 : HS wb Fb w40 F5 ((sb bz0 #[(sv s4.1)] 9) :: Lf44) := hs41
   refine ⟨_, rfl, ?_⟩
   refine Vs 1 <| Nt <| Cd h39 (fun hb46 h47 => ?_) (fun hb46 h48 => ?_)
   ·cases h47
   ·refine Sc ?_
    refine Ab <| Rg [0, 1] <| Vs 1 <| St0 #[(sv r29.2.1)] hs45 (fun w49 hs50 => ?_)
    refine TD <| Aw ?_
    have hn51 := A2 h48 hnx25
    exact ⟨m22, Nat.lt_succ_self _, (r29.2.1, q37.2), F5, Lf44, hn51, hs50, ((le7.t le35).trans le42), fI, hJ43⟩
  ·refine Ex ?_
   refine Au <| Au <| AA rfl ?_
   have ho52 := AR h28 hnx25
   exact .inl ⟨rfl, (s4.1, s4.2), F2, Lf8, ho52, hs6.dr0, le7, fI, hJ9⟩
 ·rintro f w14 ⟨s13, F3, Lf17, rfl, hs15, le16, ⟨_, rfl⟩, hJ18⟩
  have h53 := BN h3
  have hfin := Aa h53
  subst hfin
  exact ⟨rfl, .tuple #[], AN (l := []) (by kernel_rfl) (vs := []) trivial, F3, Lf17, rfl, hs15, le16, hJ18⟩
theorem Ih : Ag Tryz.prog 105 := fun _ _ => by kernel_rfl
set_option maxRecDepth 100000 in
theorem Jq (w0 : World) (F0 : Mem) (hF : T4 w0 F0) (x0 : T2) :
  Calls Tryz.prog 105 ([(.string ⟨x0.toArray⟩)] : List Value).toArray w0 (L4 w0 F0 fun _ v L' => ∃ (b0 : Nat), v = .func (.func 169) #[] #[.pointer (some ⟨b0, 0, none⟩)] /\ L' = [(some b0, .cells #[(.string ⟨x0.toArray⟩)] 9 (0, 0))]) := by
 have hs0 := TJ hF
 refine Go 4 Tryz.func105 <| Sq (Rg [0, 1] ?_)
 refine Bx' 9 #[(.string ⟨x0.toArray⟩)] hs0 (fun b0 w1 hs1 => ?_)
 refine Vs 1 <| Nss (Rg [0, 1] ?_)
 refine Vs 2 <| Nt <| Rt ?_
 exact ⟨rfl, _, AN (l := [.tmp 2]) (by kernel_rfl) (vs := [.func (.func 169) #[] #[.pointer (some ⟨b0, 0, none⟩)]]) ⟨by kernel_rfl, trivial⟩, _, F0, _, rfl, hs1, b0, rfl, rfl⟩
end Go.Proofs.YthljkpeimofbbaaGreatDoor
