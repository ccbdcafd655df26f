/- Lemmas of the claim LogsPrefix, printed by a program of the claimant and by hand. No statement of the seat is proved here. -/
import Derived.Test.YthljkpeimofbbaaGreatDoorE8x2
set_option linter.unusedVariables false
set_option linter.unusedSimpArgs false
set_option linter.unusedSectionVars false
set_option maxHeartbeats 4000000
set_option maxRecDepth 100000
namespace Go.Proofs.YthljkpeimofbbaaGreatDoor
section
open Go.Lib (decDigits)
def ED (u : Nat) : UQ := decDigits (u / 1440 + 1) ++ 32 :: (dP 2 (u / 60 % 24) ++ dP 2 (u % 60))
def D9 (x : Int) : UQ × Int := if 0 <= x /\ x <= 20000 then (ED x.toNat, 0) else ([], 1)
theorem QM (u k : Nat) (h : u < 4611686018427387904) : W64 (Int.tdiv (u : Int) (k : Int)) = ((u / k : Nat) : Int) := by
 have : Int.tdiv (u : Int) (k : Int) = ((u / k : Nat) : Int) := by rw [Int.tdiv_eq_ediv_of_nonneg (by omega)]; rfl
 have h2 : u / k <= u := Nat.div_le_self _ _
 rw [this]
 generalize u / k = v at h2
 rw [E6 (by omega) (by omega)]
theorem QL (u k : Nat) : Int.tmod (u : Int) (k : Int) = ((u % k : Nat) : Int) := by
 rw [Int.tmod_eq_emod_of_nonneg (by omega)]; rfl
theorem NI {u : Nat} (h : u < 100000) : (decDigits u).length <= 5 := Hr 4 u (by omega)
theorem HV {u : Nat} (h : u < 100) : (dP 2 u).length = 2 := by
 have h1 := L7 2 u
 have h2 := Ht (k := 2) (j := 1) (u := u) (by omega)
 omega
section
variable {N : Nat}
theorem Ky (x : Int) : Cb N x = some (D9 x) := by
 unfold Cb D9
 rw [LT, Option.bind_some]
 by_cases h : 0 <= x /\ x <= 20000
 ·rw [if_pos h, decide_eq_true h.1, decide_eq_true h.2]
  obtain ⟨u, rfl⟩ : ∃ u : Nat, x = u := ⟨x.toNat, by omega⟩
  have hu : u <= 20000 := by omega
  simp only [Bool.and_self, Bool.not_true, cond_false]
  have e1 := QM u 1440 (by omega)
  have e2 := QM u 60 (by omega)
  simp only [Int.cast_ofNat_Int] at e1 e2
  have e3 := QL (u / 60) 24
  have e4 := QL u 60
  simp only [Int.cast_ofNat_Int] at e3 e4
  rw [e1, e2, e3, e4, I2 (u / 1440) (by omega), LW _ (by omega), Option.bind_some]
  have hl1 := NI (u := u / 1440 + 1) (by omega)
  have hl2 := HV (u := u / 60 % 24) (by omega)
  have hl3 := HV (u := u % 60) (by omega)
  have p1 := LU (N := N) (u / 60 % 24) 2 (by omega) (by omega)
  have p2 := LU (N := N) (u % 60) 2 (by omega) (by omega)
  simp only [Int.cast_ofNat_Int] at p1 p2
  rw [CD (by simp; omega), Option.bind_some, p1, Option.bind_some, CD (by simp; omega), Option.bind_some, p2, Option.bind_some, CD (by simp; omega), Option.bind_some]
  unfold ED
  simp
 ·rw [if_neg h]
  have : (decide (0 <= x) && decide (x <= 20000)) = false := by
   rw [Bool.and_eq_false_iff, decide_eq_false_iff_not, decide_eq_false_iff_not]; omega
  rw [this]; rfl
def KR (p q : Nat) : Nat := (p - 1) * 1440 + q / 100 * 60 + q % 100
theorem RX {p q : Nat} (h1 : 1 <= p) (hp : p < 1000000000) (hq : q < 1000000000) : W64 ((W64 ((W64 ((W64 ((p : Int) - 1)) * 1440)) + (W64 ((W64 (Int.tdiv (q : Int) 100)) * 60)))) + (Int.tmod (q : Int) 100)) = (KR p q : Int) := by
 have e1 := QM q 100 (by omega)
 have e2 := QL q 100
 simp only [Int.cast_ofNat_Int] at e1 e2
 rw [e1, e2, E6 (n := (p : Int) - 1) (by omega) (by omega), E6 (n := ((p : Int) - 1) * 1440) (by omega) (by omega), E6 (n := ((q / 100 : Nat) : Int) * 60) (by omega) (by omega)]
 rw [E6 (n := ((p : Int) - 1) * 1440 + ((q / 100 : Nat) : Int) * 60) (by omega) (by omega), E6 (by omega) (by omega)]
 unfold KR
 omega
def JQ (s a b : UQ) : Int × Int := if Gr a && Gr b && decide (1 <= Fa a) && decide (D9 (KR (Fa a) (Fa b)) = (s, 0)) then ((KR (Fa a) (Fa b) : Int), 0) else (0, 13)
def Gp (s : UQ) : Int × Int := match pcs 32 s with
 | [a, b] => JQ s a b
 | _ => (0, 13)
theorem Qm {s : UQ} (h : (32 : UInt8) ∈ s) : Gr s = false := by
 cases hh : Gr s with
 | false => rfl
 | true =>
  have := List.all_eq_true.1 (Lh hh).2.2.2 _ h
  revert this; decide
theorem Q7 : Gr [] = false := rfl
theorem QZ (s t : UQ) (e : Int) : ((e != 0) || (t != s)) = !decide ((t, e) = (s, 0)) := by
 by_cases h1 : e = 0
 ·by_cases h2 : t = s
  ·subst h1; subst h2; simp
  ·rw [decide_eq_false (fun h => h2 (by injection h))]; simp [h2]
 ·rw [decide_eq_false (fun h => h1 (by injection h))]; simp [h1]
theorem M1 (s a b : UQ) (ha : a.length < N) (hb : b.length < N) :
  ((BR N a).bind fun r9 => ((BR N b).bind fun r17 => (bif ((decide (r9 < 1)) || ((decide (r9 > 20000)) || (decide (r17 < 0)))) then some ((0 : Int), (13 : Int)) else ((Cb N (W64 ((W64 ((W64 ((W64 (r9 - 1)) * 1440)) + (W64 ((W64 (Int.tdiv r17 100)) * 60)))) + (Int.tmod r17 100)))).bind fun r38 => (bif ((r38.2 != 0) || (r38.1 != s)) then some (0, 13) else some ((W64 ((W64 ((W64 ((W64 (r9 - 1)) * 1440)) + (W64 ((W64 (Int.tdiv r17 100)) * 60)))) + (Int.tmod r17 100))), 0)))))) = some (JQ s a b) := by
 rw [LV ha, LV hb, Option.bind_some, Option.bind_some]
 unfold Qk JQ
 cases hA : Gr a with
 | false =>
  simp only [Bool.false_eq_true, if_false, Bool.false_and]
  rfl
 | true =>
  cases hB : Gr b with
  | false =>
   simp only [Bool.false_eq_true, if_false, if_true, Bool.and_false, Bool.false_and]
   rw [show decide ((-1 : Int) < 0) = true from rfl, Bool.or_true, Bool.or_true]; rfl
  | true =>
   simp only [if_true, Bool.and_self, Bool.true_and]
   have hp := Lh hA
   have hq := Lh hB
   generalize Fa a = p at hp ⊢
   generalize Fa b = q at hq ⊢
   by_cases h1 : 1 <= p
   ·rw [decide_eq_false (show ¬ (p : Int) < 1 by omega), decide_eq_true h1, decide_eq_false (show ¬ (q : Int) < 0 by omega), Bool.false_or, Bool.or_false, Bool.true_and, RX h1 hp.1 hq.1]
    by_cases h2 : p <= 20000
    ·rw [decide_eq_false (show ¬ (p : Int) > 20000 by omega), cond_false, Ky, Option.bind_some, QZ]
     have : ((D9 (KR p q : Int)).1, (D9 (KR p q : Int)).2) = D9 (KR p q : Int) := rfl
     rw [this]
     by_cases h3 : D9 (KR p q : Int) = (s, 0)
     ·rw [decide_eq_true h3, if_pos rfl]; rfl
     ·rw [decide_eq_false h3]; rfl
    ·rw [decide_eq_true (show (p : Int) > 20000 by omega), cond_true]
     have h3 : ¬ D9 (KR p q : Int) = (s, 0) := by
      unfold D9 KR
      rw [if_neg (by omega)]
      intro h; injection h with h1 h2; exact absurd h2 (by decide)
     rw [decide_eq_false h3]; rfl
   ·rw [decide_eq_true (show (p : Int) < 1 by omega), decide_eq_false h1]; rfl
theorem LR {s a b : UQ} (h : Gr b = false) : JQ s a b = (0, 13) := by unfold JQ; rw [h]; simp
theorem Oa (s : UQ) (hs : s.length < 4294967281) (hN : 4294967300 < N) : E5 N s = some (Gp s) := by
 unfold E5
 have hc : strings_Cut N s [32] = some (Go.Lib.cut s [32]) := by unfold strings_Cut; rw [if_pos hs]
 rw [hc, Option.bind_some]
 unfold Gp
 by_cases h : (32 : UInt8) ∈ s
 ·obtain ⟨a, t, rfl, ha⟩ := DQ h
  simp only [List.length_append, List.length_cons] at hs
  rw [OE ha, Gn ha]
  simp only
  rw [M1 _ a t (by omega) (by omega)]
  by_cases ht : (32 : UInt8) ∈ t
  ·obtain ⟨a', t', rfl, ha'⟩ := DQ ht
   rw [Gn ha', LR (Qm ht)]
   cases hp : pcs 32 t' with
   | nil => exact absurd hp (Ha 32 t')
   | cons x l => rfl
  ·rw [ET ht]
 ·rw [OG h, ET h]
  simp only
  rw [M1 _ s [] (by omega) (by simp; omega), LR Q7]
end
theorem Q6 (a : Nat) (l : UQ) : GV a l = a * 10 ^ l.length + GV 0 l := by
 induction l generalizing a with
 | nil => simp [GV]
 | cons b l ih =>
  rw [FP, FP, ih (10 * a + (b.toNat - 48)), ih (10 * 0 + (b.toNat - 48)), List.length_cons, Nat.pow_succ, Nat.add_mul, Nat.mul_comm (10 ^ l.length) 10, <- Nat.mul_assoc, Nat.mul_comm a 10, Nat.mul_zero, Nat.zero_add, Nat.add_assoc]
theorem Q5 (l m : UQ) : Fa (l ++ m) = Fa l * 10 ^ m.length + Fa m := by
 unfold Fa
 rw [show GV 0 (l ++ m) = GV (GV 0 l) m by unfold GV; rw [List.foldl_append], Q6]
theorem no32 {l : UQ} (h : l.all isD = true) : (32 : UInt8) ∉ l := fun hm => by
 have := List.all_eq_true.1 h _ hm
 revert this; decide
theorem IE {u : Nat} (h : u <= 20000) : Gp (ED u) = ((u : Int), 0) := by
 have hl1 := NI (u := u / 1440 + 1) (by omega)
 have hl2 := HV (u := u / 60 % 24) (by omega)
 have hl3 := HV (u := u % 60) (by omega)
 have hall : (dP 2 (u / 60 % 24) ++ dP 2 (u % 60)).all isD = true := by rw [List.all_append, Hu, Hu]; rfl
 have hp : pcs 32 (ED u) = [decDigits (u / 1440 + 1), dP 2 (u / 60 % 24) ++ dP 2 (u % 60)] := by
  unfold ED
  rw [Gn (no32 (Hs _)), ET (no32 hall)]
 unfold Gp
 rw [hp]
 simp only
 unfold JQ
 have n1 : Gr (decDigits (u / 1440 + 1)) = true := by
  unfold Gr wiB; have := L6 (u / 1440 + 1); rw [Hs]; simp; omega
 have n2 : Gr (dP 2 (u / 60 % 24) ++ dP 2 (u % 60)) = true := by
  unfold Gr wiB; rw [hall]; simp [hl2, hl3]
 have v2 : Fa (dP 2 (u / 60 % 24) ++ dP 2 (u % 60)) = u / 60 % 24 * 100 + u % 60 := by
  rw [Q5, Pt, Pt, hl3]
 have e : KR (u / 1440 + 1) (u / 60 % 24 * 100 + u % 60) = u := by unfold KR; omega
 have hpr : D9 (u : Int) = (ED u, 0) := by unfold D9; rw [if_pos (by omega)]; rfl
 rw [n1, n2, Kf, v2, e, hpr, decide_eq_true (show 1 <= u / 1440 + 1 by omega), decide_eq_true rfl]
 rfl
end
theorem Ow {ρ : Type} {body : Int -> Option (BD ρ Int)} {n : Nat} (ok : Nat -> Bool) (bad : Nat -> ρ)
  (hb : ∀ i, i < n -> body (i : Int) = some (bif ok i then .next ((i + 1 : Nat) : Int) else .ret (bad i))) (he : body (n : Int) = some (.done (n : Int))) {N : Nat} (hN : n < N) :
  ((∀ i, i < n -> ok i = true) /\ A0 body N 0 = some (.done (n : Int))) \/ (∃ i, i < n /\ ok i = false /\ (∀ k, k < i -> ok k = true) /\ A0 body N 0 = some (.ret (bad i))) := by
 obtain ⟨o, ho, hR⟩ := Fm (body := body) n (fun i s => s = (i : Int) /\ ∀ k, k < i -> ok k = true) (fun o => ((∀ i, i < n -> ok i = true) /\ o = .done (n : Int)) \/ (∃ i, i < n /\ ok i = false /\ (∀ k, k < i -> ok k = true) /\ o = .ret (bad i))) (by
  rintro i s hi ⟨rfl, hk⟩
  by_cases h : i < n
  ·rw [hb i h]
   cases e : ok i with
   | true =>
    refine .inl ⟨_, rfl, ⟨rfl, fun k hk' => ?_⟩, h⟩
    by_cases hki : k = i
    ·subst hki; exact e
    ·exact hk k (by omega)
   | false => exact .inr ⟨_, rfl, (fun _ h => by cases h), .inr ⟨i, h, e, hk, rfl⟩⟩
  ·have : i = n := by omega
   subst this
   rw [he]
   exact .inr ⟨_, rfl, (fun _ h => by cases h), .inl ⟨hk, rfl⟩⟩) n N 0 0 (by omega) ⟨rfl, fun k hk => by omega⟩ hN
 rcases hR with ⟨h1, rfl⟩ | ⟨i, h1, h2, h3, rfl⟩
 ·exact .inl ⟨h1, ho⟩
 ·exact .inr ⟨i, h1, h2, h3, ho⟩
theorem TO (i : Nat) (h : i < 4611686018427387904) (h0 : 0 < i) : W64 ((i : Int) - 1) = ((i - 1 : Nat) : Int) := by
 rw [E6 (by omega) (by omega)]; omega
section
open Go.Lib (decDigits)
theorem PT (s : UQ) : (s != []) = !decide (s = []) := by
 cases s <;> rfl
def jn (l : List UQ) : UQ := Go.Lib.join l [32]
theorem Ro : jn [] = [] := rfl
theorem DG (x : UQ) : jn [x] = x := Go.Lib.join_one x [32]
theorem Ph : ∀ (r : List UQ) (x : UQ), (32 : UInt8) ∉ x -> (∀ y, y ∈ r -> (32 : UInt8) ∉ y) -> pcs 32 (jn (x :: r)) = x :: r
 | [], x, hx, _ => by rw [DG, ET hx]
 | y :: r, x, hx, hr => by
  have ih := Ph r y (hr y (by simp)) (fun z hz => hr z (by simp [hz]))
  have : jn (x :: y :: r) = x ++ 32 :: jn (y :: r) := by
   unfold jn
   rw [Go.Lib.join_cons, Go.Lib.join_cons]
   unfold Go.Lib.joinTail
   simp
  rw [this, Gn hx, ih]
section
variable {N : Nat}
theorem TW (a b : UQ) (hN : 4294967300 < N) : Ej N [a, b] = some (if a = [] then b else a) := by
 obtain ⟨M, rfl⟩ : ∃ M, N = M + 3 := ⟨N - 3, by omega⟩
 unfold Ej
 by_cases ha : a = []
 ·rw [if_pos ha]
  by_cases hb : b = []
  ·subst ha; subst hb; rfl
  ·have e1 : Cj (M + 3) [a, b] 0 = some (.next 1) := by subst ha; rfl
   have e2 : Cj (M + 3) [a, b] 1 = some (.ret b) := by
    show (bif (b != ([] : UQ)) then some (.ret b) else some (.next (W64 (1 + 1)))) = some (BD.ret b)
    rw [PT, decide_eq_false hb]; rfl
   rw [A0, e1]
   simp only
   rw [A0, e2]
   rfl
 ·rw [if_neg ha]
  have e1 : Cj (M + 3) [a, b] 0 = some (.ret a) := by
   show (bif (a != ([] : UQ)) then some (.ret a) else some (.next (W64 (0 + 1)))) = some (BD.ret a)
   rw [PT, decide_eq_false ha]; rfl
  rw [A0, e1]
  rfl
theorem KT {l : List AH} {p : AH -> Option Bool} (F : AH -> Bool) (hp : ∀ x, x ∈ l -> p x = some (F x)) (hl : l.length < 4000000000) (hN : 4294967300 < N) : AX N l p = some (l.any F) := by
 unfold AX Bo
 rcases Ow (body := AG N l p) (n := l.length) (fun i => !((l[i]?.map F).getD false)) (fun i => (i : Int)) (by
   intro i hi
   unfold AG
   rw [Gs hi, cond_true, Fo hi, Option.bind_some, hp _ (List.getElem_mem hi), Option.bind_some, I2 i (by omega), List.getElem?_eq_getElem hi]
   simp only [Option.map_some, Option.getD_some]
   cases F l[i] <;> rfl) (by
   unfold AG
   rw [EK, cond_false]) (N := N) (by omega) with ⟨g1, g2⟩ | ⟨i, hi, g1, _, g2⟩
 ·rw [g2]
  have : l.any F = false := by
   rw [List.any_eq_false]
   intro x hx
   obtain ⟨i, hi, rfl⟩ := List.getElem_of_mem hx
   have := g1 i hi
   rw [List.getElem?_eq_getElem hi] at this
   simpa using this
  rw [this]; rfl
 ·rw [g2]
  have : l.any F = true := by
   rw [List.any_eq_true]
   rw [List.getElem?_eq_getElem hi] at g1
   exact ⟨l[i], List.getElem_mem hi, by simpa using g1⟩
  rw [this]
  show some (decide ((i : Int) >= 0)) = some true
  rw [decide_eq_true (by omega)]
def Pp (h : Bool) (n m : Int) : Bool := bif h then (decide (1 <= n) && decide (n <= m)) else n == 0
def CG (L : Ac) (E : Ad) : Bool := Pp L.Report E.Report 599 && (Pp L.Serial E.Serial 99999 && Pp L.Zone E.Zone 99)
theorem Th (P : AH) : BM N P = some (!Pp P.has_ P.n_ P.most_) := by
 unfold BM Pp
 rw [LT, Option.bind_some]
 obtain ⟨h, n, m, d⟩ := P
 simp only
 cases h with
 | true => cases (decide (1 <= n) && decide (n <= m)) <;> rfl
 | false =>
  by_cases hn : n = 0
  ·subst hn
   rw [show (decide ((1 : Int) <= 0) && decide (0 <= m)) = false by rw [decide_eq_false (by omega)]; rfl]
   rfl
  ·have e1 : (n != 0) = true := by simpa using hn
   have e2 : (n == 0) = false := by simpa using hn
   rw [e1, e2]
   cases (decide (1 <= n) && decide (n <= m)) <;> rfl
theorem LF (L : Ac) (E : Ad) (hN : 4294967300 < N) : BK N L E = some (CG L E) := by
 unfold BK
 unfold Cm
 rw [Option.bind_some, KT (fun P => !Pp P.has_ P.n_ P.most_) (fun x _ => Th x) (by simp) hN, Option.bind_some]
 unfold CG
 simp
def fs (L : Ac) (E : Ad) : List UQ := (if L.Report = true then [dP 1 E.Report.toNat] else []) ++ ((if L.Serial = true then [dP 3 E.Serial.toNat] else []) ++ (if L.Zone = true then [dP 2 E.Zone.toNat] else []))
def EC (L : Ac) (E : Ad) : UQ := if fs L E = [] then [45] else jn (fs L E)
def Gm (L : Ac) (E : Ad) : UQ × Int := if CG L E = true then (EC L E, 0) else ([], 1)
structure OkE (L : Ac) (E : Ad) : Prop where
 r : if L.Report = true then 1 <= E.Report /\ E.Report <= 599 else E.Report = 0
 s : if L.Serial = true then 1 <= E.Serial /\ E.Serial <= 99999 else E.Serial = 0
 z : if L.Zone = true then 1 <= E.Zone /\ E.Zone <= 99 else E.Zone = 0
theorem okE {L : Ac} {E : Ad} (h : CG L E = true) : OkE L E := by
 unfold CG Pp at h
 simp only [Bool.and_eq_true] at h
 obtain ⟨h1, h2, h3⟩ := h
 constructor
 ·cases hL : L.Report <;> rw [hL] at h1 <;> simpa using h1
 ·cases hL : L.Serial <;> rw [hL] at h2 <;> simpa using h2
 ·cases hL : L.Zone <;> rw [hL] at h3 <;> simpa using h3
theorem OkE.le {L : Ac} {E : Ad} (h : OkE L E) : (0 <= E.Report /\ E.Report <= 599) /\ (0 <= E.Serial /\ E.Serial <= 99999) /\ 0 <= E.Zone /\ E.Zone <= 99 := by
 obtain ⟨h1, h2, h3⟩ := h
 refine ⟨?_, ?_, ?_⟩
 ·split at h1 <;> omega
 ·split at h2 <;> omega
 ·split at h3 <;> omega
theorem Lm {L : Ac} {E : Ad} (h : OkE L E) : ∀ w, w ∈ fs L E -> w.length <= 5 /\ w.all isD = true /\ 1 <= w.length := by
 obtain ⟨h1, h2, h3⟩ := h.le
 intro w hw
 unfold fs at hw
 simp only [List.mem_append] at hw
 have l1 := Ht (k := 1) (j := 2) (u := E.Report.toNat) (by omega)
 have l2 := Ht (k := 3) (j := 4) (u := E.Serial.toNat) (by omega)
 have l3 := Ht (k := 2) (j := 1) (u := E.Zone.toNat) (by omega)
 rcases hw with hw | hw | hw
 ·split at hw
  ·simp at hw; subst hw; exact ⟨by omega, Hu _ _, (L7 _ _).2⟩
  ·cases hw
 ·split at hw
  ·simp at hw; subst hw; exact ⟨by omega, Hu _ _, (L7 _ _).2⟩
  ·cases hw
 ·split at hw
  ·simp at hw; subst hw; exact ⟨by omega, Hu _ _, (L7 _ _).2⟩
  ·cases hw
theorem ND (L : Ac) (E : Ad) : (fs L E).length <= 3 := by
 unfold fs
 split <;> split <;> split <;> simp
theorem Rp : ∀ l : List UQ, (∀ w, w ∈ l -> w.length <= 5) -> (jn l).length <= l.length * 6
 | [], _ => by simp [Ro]
 | [x], h => by rw [DG]; have := h x (by simp); simp; omega
 | x :: y :: r, h => by
  have ih := Rp (y :: r) (fun w hw => h w (List.mem_cons_of_mem _ hw))
  have hx := h x (by simp)
  have : jn (x :: y :: r) = x ++ 32 :: jn (y :: r) := by
   unfold jn
   rw [Go.Lib.join_cons, Go.Lib.join_cons]
   unfold Go.Lib.joinTail
   simp
  rw [this, List.length_append, List.length_cons, List.length_cons (a := x)]
  omega
theorem T9 {L : Ac} {E : Ad} (h : OkE L E) : (jn (fs L E)).length <= 18 := by
 have := Rp (fs L E) (fun w hw => (Lm h w hw).1)
 have := ND L E
 omega
theorem TY {l : List UQ} (h : ∀ w, w ∈ l -> 1 <= w.length) : jn l = [] ↔ l = [] := by
 constructor
 ·intro hj
  match l, h, hj with
  | [], _, _ => rfl
  | x :: r, h, hj =>
   exfalso
   unfold jn at hj
   rw [Go.Lib.join_cons] at hj
   have := h x (by simp)
   rw [List.append_eq_nil_iff] at hj
   rw [hj.1] at this
   exact absurd this (by decide)
 ·rintro rfl; rfl
theorem Tb {n : Int} {k : Nat} (h0 : 0 <= n) (h1 : n <= 1000000000) (hk : k <= 100) : BG N n (k : Int) = some (dP k n.toNat) := by
 obtain ⟨u, rfl⟩ : ∃ u : Nat, n = u := ⟨n.toNat, by omega⟩
 exact LU u k (by omega) hk
def OD (L : Ac) (E : Ad) (i : Nat) : List UQ := if i = 0 then (if L.Report = true then [dP 1 E.Report.toNat] else []) else if i = 1 then (if L.Serial = true then [dP 3 E.Serial.toNat] else []) else (if L.Zone = true then [dP 2 E.Zone.toNat] else [])
theorem Tv (L : Ac) (E : Ad) : cat 3 (OD L E) = fs L E := by
 rw [HE, HE, HE]
 unfold fs
 rw [<- List.append_assoc]
 rfl
theorem RA (L : Ac) (E : Ad) (i : Nat) : (OD L E i).length <= 1 := by
 unfold OD
 split
 ·split <;> simp
 ·split <;> split <;> simp
theorem LG (L : Ac) (E : Ad) (hN : 4294967300 < N) : A7 N L E = some (Gm L E) := by
 unfold A7 Gm
 rw [LF L E hN, Option.bind_some]
 cases hv : CG L E with
 | false => rfl
 | true =>
  have ok := okE hv
  obtain ⟨h1, h2, h3⟩ := ok.le
  rw [Bool.not_true, cond_false, if_pos rfl]
  unfold Cm
  rw [Option.bind_some]
  generalize hP : ([_, _, _] : List AH) = P
  have hstep : ∀ (i : Nat) (s : List UQ), i < 3 -> s.length + 1 <= 0 + 3 * 1 -> BJ N L E true P (s, (i : Int)) = some (.next (s ++ OD L E i, ((i + 1 : Nat) : Int))) := by
   intro i s hi hs
   have p1 : BG N E.Report 1 = some (dP 1 E.Report.toNat) := Tb (k := 1) h1.1 (by omega) (by omega)
   have p2 : BG N E.Serial 3 = some (dP 3 E.Serial.toNat) := Tb (k := 3) h2.1 (by omega) (by omega)
   have p3 : BG N E.Zone 2 = some (dP 2 E.Zone.toNat) := Tb (k := 2) h3.1 (by omega) (by omega)
   have ha : ∀ w : UQ, Dr s [w] = some (s ++ [w]) := fun w => SQ (by simp; omega)
   unfold BJ
   subst hP
   simp only
   rw [I2 i (by omega)]
   match i, hi with
   | 0, _ =>
    show ((bif L.Report then ((BG N E.Report 1).bind fun r88 => ((Dr s [r88]).bind fun r101 => some r101)) else some s).bind fun j78 => some (BD.next (j78, _))) = _
    rw [p1, Option.bind_some, ha]
    unfold OD
    cases L.Report <;> simp
   | 1, _ =>
    show ((bif L.Serial then ((BG N E.Serial 3).bind fun r88 => ((Dr s [r88]).bind fun r101 => some r101)) else some s).bind fun j78 => some (BD.next (j78, _))) = _
    rw [p2, Option.bind_some, ha]
    unfold OD
    cases L.Serial <;> simp
   | 2, _ =>
    show ((bif L.Zone then ((BG N E.Zone 2).bind fun r88 => ((Dr s [r88]).bind fun r101 => some r101)) else some s).bind fun j78 => some (BD.next (j78, _))) = _
    rw [p3, Option.bind_some, ha]
    unfold OD
    cases L.Zone <;> simp
  have hend : ∀ s : List UQ, BJ N L E true P (s, ((3 : Nat) : Int)) = some (.done (s, ((3 : Nat) : Int))) := by
   intro s
   subst hP
   rfl
  rw [Qr (n := 3) 1 (OD L E) (fun i _ => RA L E i) (s0 := []) hstep hend (by omega), Tv]
  simp only [List.nil_append, Option.bind_some, BD.k]
  have hj := T9 ok
  have hl := ND L E
  have e1 : strings_Join N (fs L E) [32] = some (jn (fs L E)) := by
   unfold strings_Join
   exact if_pos ⟨by omega, by unfold jn at hj; omega⟩
  rw [e1, Option.bind_some, TW _ _ hN, Option.bind_some]
  unfold EC
  have := TY (fun w hw => (Lm ok w hw).2.2)
  by_cases hf : fs L E = []
  ·rw [if_pos hf, if_pos (this.2 hf)]
  ·rw [if_neg hf, if_neg (fun h => hf (this.1 h))]
def GL (h : Bool) (ws : List UQ) : List UQ × Int := match h, ws with
 | true, w :: r => (r, Qk w)
 | _, _ => (ws, 0)
def Hb (L : Ac) (ws : List UQ) : Ad := { Report := (GL L.Report ws).2, Serial := (GL L.Serial (GL L.Report ws).1).2, Zone := (GL L.Zone (GL L.Serial (GL L.Report ws).1).1).2 }
def BO (L : Ac) (s : UQ) : Ad × Int := if Gm L (Hb L (pcs 32 s)) = (s, 0) then (Hb L (pcs 32 s), 0) else ({ Report := 0, Serial := 0, Zone := 0 }, 1)
theorem MS (h : Bool) (ws : List UQ) : ∀ w, w ∈ (GL h ws).1 -> w ∈ ws := by
 intro w hw
 match h, ws, hw with
 | true, x :: r, hw => exact List.mem_cons_of_mem _ hw
 | true, [], hw => exact hw
 | false, _, hw => exact hw
theorem Ly (h : Bool) (ws : List UQ) (hl : ∀ w, w ∈ ws -> w.length < N) : (bif (h && decide ((ws.length : Int) > 0)) then ((idx ws 0).bind fun x80 => ((BR N x80).bind fun r94 => ((sub ws 1 (ws.length : Int)).bind fun r104 => some (r104, r94)))) else some (ws, (0 : Int))) = some (GL h ws) := by
 match h, ws, hl with
 | false, _, _ => rfl
 | true, [], _ => rfl
 | true, w :: r, hl =>
  have e0 : idx (w :: r) 0 = some w := rfl
  have e1 : sub (w :: r) 1 ((w :: r).length : Int) = some r := by
   unfold sub
   rw [if_pos ⟨by omega, by simp only [List.length_cons]; omega, by omega⟩]
   simp
  rw [decide_eq_true (by simp only [List.length_cons]; omega), e0, e1, Option.bind_some, LV (hl w (by simp))]
  rfl
theorem QO (L : Ac) (s : UQ) (hs : s.length < 4294967281) (hN : 4294967300 < N) : DK N L s = some (BO L s) := by
 unfold DK BO
 rw [Li 32 hs, Option.bind_some]
 have hle := Pg 32 s
 generalize pcs 32 s = ws at hle
 have hn : ∀ w, w ∈ ws -> w.length < N := fun w hw => by have := hle w hw; omega
 have c0 : ∀ (E : Ad) (b : Bool), ((Cm N L E).bind fun r38 => ((idx r38 0).bind fun x46 => (bif x46.has_ then some b else some false))) = some (L.Report && b) := by
  intro E b
  show (bif L.Report then some b else some false) = _
  cases L.Report <;> rfl
 have c1 : ∀ (E : Ad) (b : Bool), ((Cm N L E).bind fun r38 => ((idx r38 1).bind fun x46 => (bif x46.has_ then some b else some false))) = some (L.Serial && b) := by
  intro E b
  show (bif L.Serial then some b else some false) = _
  cases L.Serial <;> rfl
 have c2 : ∀ (E : Ad) (b : Bool), ((Cm N L E).bind fun r38 => ((idx r38 2).bind fun x46 => (bif x46.has_ then some b else some false))) = some (L.Zone && b) := by
  intro E b
  show (bif L.Zone then some b else some false) = _
  cases L.Zone <;> rfl
 rw [c0, Option.bind_some, Ly L.Report ws hn, Option.bind_some, c1, Option.bind_some]
 have hn1 : ∀ w, w ∈ (GL L.Report ws).1 -> w.length < N := fun w hw => hn w (MS _ _ w hw)
 rw [Ly L.Serial _ hn1, Option.bind_some, c2, Option.bind_some]
 have hn2 : ∀ w, w ∈ (GL L.Serial (GL L.Report ws).1).1 -> w.length < N := fun w hw => hn1 w (MS _ _ w hw)
 rw [Ly L.Zone _ hn2, Option.bind_some]
 show ((A7 N L (Hb L ws)).bind _) = _
 rw [LG L _ hN, Option.bind_some, QZ]
 show (bif (!decide (Gm L (Hb L ws) = (s, 0))) then _ else some (Hb L ws, (0 : Int))) = _
 by_cases h : Gm L (Hb L ws) = (s, 0)
 ·rw [decide_eq_true h, if_pos h]; rfl
 ·rw [decide_eq_false h, if_neg h]; rfl
end
theorem Ny {k u : Nat} (hk : k <= 9) (hu : u < 100000) : Qk (dP k u) = (u : Int) := by
 have h1 := Ht (k := k) (j := 4) (u := u) (by omega)
 have h2 := L7 k u
 have : Gr (dP k u) = true := by
  unfold Gr wiB
  rw [Hu]
  simp
  omega
 unfold Qk
 rw [if_pos this, Pt]
theorem Fg {L : Ac} {E : Ad} (h : CG L E = true) : BO L (EC L E) = (E, 0) := by
 have ok := okE h
 obtain ⟨h1, h2, h3⟩ := ok.le
 have hw : Hb L (pcs 32 (EC L E)) = E := by
  have n1 := Ny (k := 1) (u := E.Report.toNat) (by omega) (by omega)
  have n2 := Ny (k := 3) (u := E.Serial.toNat) (by omega) (by omega)
  have n3 := Ny (k := 2) (u := E.Zone.toNat) (by omega) (by omega)
  have hp : fs L E ≠ [] -> pcs 32 (EC L E) = fs L E := by
   intro hf
   unfold EC
   rw [if_neg hf]
   have hno := fun w hw => no32 (Lm ok w hw).2.1
   revert hf hno
   generalize fs L E = l
   intro hf hno
   match l, hf, hno with
   | x :: r, _, hno => exact Ph r x (hno x (by simp)) (fun y hy => hno y (by simp [hy]))
  obtain ⟨R, S, Z⟩ := L
  obtain ⟨a, b, c⟩ := E
  obtain ⟨o1, o2, o3⟩ := ok
  simp only at o1 o2 o3 h1 h2 h3 n1 n2 n3
  rw [Int.toNat_of_nonneg h1.1] at n1
  rw [Int.toNat_of_nonneg h2.1] at n2
  rw [Int.toNat_of_nonneg h3.1] at n3
  unfold Hb
  cases R <;> cases S <;> cases Z <;> simp only [Bool.false_eq_true, if_false, if_true] at o1 o2 o3
  ·subst o1; subst o2; subst o3; rfl
  all_goals
   rw [hp (by unfold fs; simp)]
   unfold fs
   simp [GL, n1, n2, n3, *]
 unfold BO
 rw [hw]
 have : Gm L E = (EC L E, 0) := by unfold Gm; rw [if_pos h]
 rw [if_pos this]
end
theorem QE {s : UQ} (h : CC s = true) : 1 <= s.length /\ s.length <= 4 := by
 unfold CC wiB at h
 simp only [Bool.and_eq_true, decide_eq_true_eq] at h
 omega
theorem N7 {s : UQ} (h : BI s = true) : 1 <= s.length /\ s.length <= 4 := by
 unfold BI wiB at h
 simp only [Bool.and_eq_true, Bool.or_eq_true, decide_eq_true_eq] at h
 omega
theorem SP {s : UQ} (h : CC s = true) : s.all isE = true := by
 unfold CC at h; simp only [Bool.and_eq_true] at h; exact h.1.1
theorem P3 {s : UQ} (h : Bh s = true) : s.all isE = true := by
 unfold Bh at h; simp only [Bool.and_eq_true] at h; exact h.1.1.1
theorem P8 {s : UQ} (h : BI s = true) : s.all isE = true := by
 unfold BI at h
 simp only [Bool.and_eq_true, Bool.or_eq_true] at h
 rw [List.all_eq_true]
 intro b hb
 unfold isE
 rcases h with h | h
 ·rw [List.all_eq_true.1 h.1 b hb]; rfl
 ·rw [List.all_eq_true.1 h.1 b hb]; simp
def KI (t : Tri) : UQ := (if t.1 = [] then t.2.1 else t.1 ++ 47 :: t.2.1) ++ (if t.2.2 = [] then [] else 47 :: t.2.2)
def okT (t : Tri) : Bool := (decide (t.1 = []) || CC t.1) && Bh t.2.1 && (decide (t.2.2 = []) || BI t.2.2) && (decide (t.1 = []) || !decide (t.2.2 = []) || decide (t.1.length < t.2.1.length)) && decide ((KI t).length <= 16)
theorem ON {s : UQ} (h : CC s = true) : s ≠ [] := by
 rintro rfl; have := QE h; simp at this
theorem Iz {s : UQ} (h : BI s = true) : s ≠ [] := by
 rintro rfl; have := N7 h; simp at this
theorem S5 (w : UQ) : I1 [w] = if Bh w then some ([], w, []) else none := rfl
theorem S4 (a b : UQ) : I1 [a, b] = if (CC a && Bh b && decide (a.length < b.length)) = true then some (a, b, []) else if (Bh a && BI b) = true then some ([], a, b) else none := rfl
theorem S3 (a b c : UQ) : I1 [a, b, c] = if (CC a && Bh b && BI c) = true then some (a, b, c) else none := rfl
theorem Pv {s : UQ} {t : Tri} (h : callB s = some t) : okT t = true /\ s = KI t := by
 unfold callB at h
 by_cases hl : s.length <= 16
 ·rw [if_pos hl] at h
  have hj := LQ 47 s
  suffices hh : s = KI t /\ ((decide (t.1 = []) || CC t.1) && Bh t.2.1 && (decide (t.2.2 = []) || BI t.2.2) && (decide (t.1 = []) || !decide (t.2.2 = []) || decide (t.1.length < t.2.1.length))) = true by
   refine ⟨?_, hh.1⟩
   unfold okT
   rw [hh.2, <- hh.1, decide_eq_true hl]; rfl
  revert h hj
  generalize pcs 47 s = ws
  intro h hj
  match ws, h, hj with
  | [w], h, hj =>
   rw [S5] at h
   cases hb : Bh w with
   | false => rw [hb] at h; simp at h
   | true =>
    rw [hb] at h
    simp at h
    subst h
    have : w = s := by simpa [List.intercalate] using hj
    exact ⟨by simp [KI, this], by simp [hb]⟩
  | [a, b], h, hj =>
   have hj' : a ++ 47 :: b = s := by simpa [List.intercalate] using hj
   rw [S4] at h
   by_cases h1 : (CC a && Bh b && decide (a.length < b.length)) = true
   ·rw [if_pos h1] at h
    simp at h
    subst h
    simp only [Bool.and_eq_true, decide_eq_true_eq] at h1
    exact ⟨by simp [KI, hj', ON h1.1.1], by simp [h1]⟩
   ·rw [if_neg h1] at h
    by_cases h2 : (Bh a && BI b) = true
    ·rw [if_pos h2] at h
     simp at h
     subst h
     simp only [Bool.and_eq_true] at h2
     exact ⟨by simp [KI, hj', Iz h2.2], by simp [h2]⟩
    ·rw [if_neg h2] at h; cases h
  | [a, b, c], h, hj =>
   have hj' : a ++ 47 :: (b ++ 47 :: c) = s := by simpa [List.intercalate] using hj
   rw [S3] at h
   by_cases h1 : (CC a && Bh b && BI c) = true
   ·rw [if_pos h1] at h
    simp at h
    subst h
    simp only [Bool.and_eq_true] at h1
    refine ⟨?_, ?_⟩
    ·rw [<- hj']; simp [KI, ON h1.1.1, Iz h1.2]
    ·simp [h1, Iz h1.2]
   ·rw [if_neg h1] at h; cases h
  | [], h, _ => cases h
  | _ :: _ :: _ :: _ :: _, h, _ => cases h
 ·rw [if_neg hl] at h; cases h
def Gj (s : UQ) : Bool := (callB s).isSome
section
variable {N : Nat}
theorem RZ (s : UQ) (hN : 4294967300 < N) : E4 N s = some (Gj s) := by
 unfold E4 Gj
 rw [Sx s hN, Option.bind_some]
 unfold OX
 cases callB s <;> rfl
end
def El (_N : Nat) (s : UQ) : Option Bool := some (Gj s)
theorem Eb : Ag Tryz.prog 79 := Jw
theorem EB (N : Nat) (w0 : World) (F0 : Mem) (hF : US w0 F0) (hG : Br F0) (x0 : UQ) (r : Bool) (h : El N x0 = some r) :
  Calls Tryz.prog 79 ([(.string ⟨(x0).toArray⟩)] : List Value).toArray w0 (AB w0 F0 fun F' v => v = (.bool r)) := by
 exact Kt 9223372036854775808 w0 F0 hF hG x0 r ((RZ x0 (by decide)).trans h)
def Em (_N : Nat) (s : UQ) : Option (Int × Int) := if s.length < 4294967281 then some (Gp s) else none
theorem Kn : Ag Tryz.prog 96 := Jx
theorem K8 (N : Nat) (w0 : World) (F0 : Mem) (hF : US w0 F0) (hG : Br F0) (x0 : UQ) (r : (Int × Int)) (h : Em N x0 = some r) :
  Calls Tryz.prog 96 ([(.string ⟨(x0).toArray⟩)] : List Value).toArray w0 (AB w0 F0 fun F' v => v = (.tuple #[(.int .i64 r.1), (.int .i64 r.2)])) := by
 unfold Em at h
 split at h
 ·rename_i hs
  exact Ku 9223372036854775808 w0 F0 hF hG x0 r ((Oa x0 hs (by decide)).trans h)
 ·cases h
def B9 (_N : Nat) (L : Ac) (s : UQ) : Option (Ad × Int) := if s.length < 4294967281 then some (BO L s) else none
theorem Bq : Ag Tryz.prog 97 := GY
theorem BA (N : Nat) (w0 : World) (F0 : Mem) (hF : US w0 F0) (hG : Br F0) (x0 : Ac) (x1 : UQ) (r : (Ad × Int)) (h : B9 N x0 x1 = some r) :
  Calls Tryz.prog 97 ([(.agg #[(.bool x0.Report), (.bool x0.Serial), (.bool x0.Zone)]), (.string ⟨(x1).toArray⟩)] : List Value).toArray w0 (AB w0 F0 fun F' v => v = (.tuple #[(.agg #[(.int .i64 r.1.Report), (.int .i64 r.1.Serial), (.int .i64 r.1.Zone)]), (.int .i64 r.2)])) := by
 unfold B9 at h
 split at h
 ·rename_i hs
  exact HJ 9223372036854775808 w0 F0 hF hG x0 x1 r ((QO x0 x1 hs (by decide)).trans h)
 ·cases h
section
open Go.Lib (decDigits)
theorem Dc {r : List UQ} (h : r ≠ []) (x : UQ) : jn (x :: r) = x ++ 32 :: jn r := by
 match r, h with
 | y :: r, _ =>
  unfold jn
  rw [Go.Lib.join_cons, Go.Lib.join_cons]
  unfold Go.Lib.joinTail
  simp
theorem Rq : ∀ {a b : List UQ}, a ≠ [] -> b ≠ [] -> jn (a ++ b) = jn a ++ 32 :: jn b
 | [], _, h, _ => absurd rfl h
 | [x], b, _, hb => by rw [List.singleton_append, Dc hb, DG]
 | x :: y :: a, b, _, hb => by
  rw [List.cons_append, Dc (by simp), Dc (by simp), Rq (by simp) hb]; simp
theorem PZ : ∀ {L : List (List UQ)}, (∀ l, l ∈ L -> l ≠ []) -> jn (L.map jn) = jn L.flatten
 | [], _ => rfl
 | [l], _ => by simp [DG]
 | l :: m :: L, h => by
  have ih := PZ (L := m :: L) (fun x hx => h x (List.mem_cons_of_mem _ hx))
  have hm : (m :: L).flatten ≠ [] := by
   have := h m (by simp)
   simp [this]
  rw [List.map_cons, Dc (by simp), ih, List.flatten_cons (l := l), Rq (h l (by simp)) hm]
theorem PR {l : List UQ} (hn : l ≠ []) (h : ∀ w, w ∈ l -> (32 : UInt8) ∉ w) : pcs 32 (jn l) = l := by
 cases l with
 | nil => exact absurd rfl hn
 | cons x r => exact Ph r x (h x (by simp)) fun y hy => h y (by simp [hy])
theorem Rn (s : UQ) : jn (pcs 32 s) = s := by
 have : ∀ (l : List UQ), l ≠ [] -> jn l = [32].intercalate l := by
  intro l
  induction l with
  | nil => intro h; exact absurd rfl h
  | cons x r ih =>
   intro _
   cases r with
   | nil => rw [DG]; simp [List.intercalate]
   | cons y r =>
    rw [Dc (by simp), ih (by simp)]
    simp [List.intercalate, List.intersperse]
 rw [this _ (Ha 32 s), LQ]
def QA (b : UInt8) : Bool := isL b || isD b || b == 47
def Hn (s : UQ) : Bool := wiB s.length 1 16 && s.all QA
def Dj (o : Ac) (x : Line) : Bool := decide (1 <= x.Num /\ x.Num <= 65535) && (decide (1 <= x.Khz /\ x.Khz <= 10000000) && (decide (1 <= x.Mode /\ x.Mode <= 3) && (decide (0 <= x.Minute /\ x.Minute <= 20000) && (Hn x.Call && (CG o x.Sent && CG o x.Got)))))
structure OkL (o : Ac) (x : Line) : Prop where
 n : 1 <= x.Num /\ x.Num <= 65535
 k : 1 <= x.Khz /\ x.Khz <= 10000000
 m : 1 <= x.Mode /\ x.Mode <= 3
 t : 0 <= x.Minute /\ x.Minute <= 20000
 c : Hn x.Call = true
 s : CG o x.Sent = true
 g : CG o x.Got = true
theorem C8 {o : Ac} {x : Line} : Dj o x = true ↔ OkL o x := by
 unfold Dj
 simp only [Bool.and_eq_true, decide_eq_true_eq]
 exact ⟨fun ⟨a, b, c, d, e, f, g⟩ => ⟨a, b, c, d, e, f, g⟩, fun h => ⟨h.n, h.k, h.m, h.t, h.c, h.s, h.g⟩⟩
def JT (m : Int) : UQ := if m = 1 then [77] else if m = 2 then [86] else [68]
def fsw (o : Ac) (E : Ad) : List UQ := if fs o E = [] then [[45]] else fs o E
def tW (u : Nat) : List UQ := [decDigits (u / 1440 + 1), dP 2 (u / 60 % 24) ++ dP 2 (u % 60)]
def QSO : UQ := [81, 83, 79]
def Ir (x : Line) : List UQ := [QSO, decDigits x.Num.toNat, decDigits x.Khz.toNat, JT x.Mode] ++ tW x.Minute.toNat ++ [x.Call, [62]]
def EI (o : Ac) (x : Line) : List UQ := Ir x ++ (fsw o x.Sent ++ [60] :: fsw o x.Got)
def B5 (o : Ac) (x : Line) : UQ := jn (EI o x)
theorem N5 (u : Nat) : ED u = jn (tW u) := by unfold ED tW; rw [Dc (by simp), DG]
theorem G3 (o : Ac) (E : Ad) : EC o E = jn (fsw o E) := by
 unfold EC fsw
 split
 ·rw [DG]
 ·rfl
theorem Tu (o : Ac) (E : Ad) : fsw o E ≠ [] := by
 unfold fsw
 split
 ·simp
 ·assumption
theorem Qo (o : Ac) (x : Line) : jn [QSO, decDigits x.Num.toNat, decDigits x.Khz.toNat, JT x.Mode, ED x.Minute.toNat, x.Call, [62], EC o x.Sent, [60], EC o x.Got] = B5 o x := by
 have h := PZ (L := [[QSO], [decDigits x.Num.toNat], [decDigits x.Khz.toNat], [JT x.Mode], tW x.Minute.toNat, [x.Call], [[62]], fsw o x.Sent, [[60]], fsw o x.Got]) (by
  intro l hl
  simp only [List.mem_cons, List.not_mem_nil, or_false] at hl
  rcases hl with rfl | rfl | rfl | rfl | rfl | rfl | rfl | rfl | rfl | rfl
  all_goals first | exact Tu _ _ | simp [tW])
 simp only [List.map_cons, List.map_nil, DG, <- N5, <- G3] at h
 rw [h]
 unfold B5 EI Ir
 simp
theorem EX {o : Ac} {E : Ad} (h : CG o E = true) : ∀ w, w ∈ fsw o E -> (32 : UInt8) ∉ w /\ w ≠ [60] /\ w ≠ [62] /\ w.length <= 5 := by
 intro w hw
 unfold fsw at hw
 split at hw
 ·simp at hw; subst hw; decide
 ·obtain ⟨h1, h2, h3⟩ := Lm (okE h) w hw
  refine ⟨no32 h2, ?_, ?_, h1⟩
  ·rintro rfl; revert h2; decide
  ·rintro rfl; revert h2; decide
theorem L2 {s : UQ} (h : Hn s = true) : (32 : UInt8) ∉ s /\ s ≠ [60] /\ s ≠ [62] /\ 1 <= s.length /\ s.length <= 16 := by
 unfold Hn wiB at h
 simp only [Bool.and_eq_true, decide_eq_true_eq] at h
 obtain ⟨⟨h1, h2⟩, h3⟩ := h
 rw [List.all_eq_true] at h3
 refine ⟨fun hm => ?_, ?_, ?_, h1, h2⟩
 ·have := h3 _ hm; revert this; decide
 ·rintro rfl; have := h3 60 (by simp); revert this; decide
 ·rintro rfl; have := h3 62 (by simp); revert this; decide
theorem Qp (m : Int) : (32 : UInt8) ∉ JT m /\ JT m ≠ [60] := by
 unfold JT; split
 ·decide
 ·split <;> decide
theorem NH (u : Nat) : (32 : UInt8) ∉ decDigits u /\ decDigits u ≠ [60] := by
 refine ⟨no32 (Hs u), fun h => ?_⟩
 have := Hs u
 rw [h] at this; revert this; decide
theorem M6 {o : Ac} {x : Line} (h : OkL o x) : ∀ w, w ∈ Ir x -> (32 : UInt8) ∉ w /\ w ≠ [60] := by
 intro w hw
 have hc := L2 h.c
 have hall : (dP 2 (x.Minute.toNat / 60 % 24) ++ dP 2 (x.Minute.toNat % 60)).all isD = true := by rw [List.all_append, Hu, Hu]; rfl
 unfold Ir tW at hw
 simp only [List.mem_append, List.mem_cons, List.not_mem_nil, or_false] at hw
 rcases hw with ((rfl | rfl | rfl | rfl) | (rfl | rfl)) | (rfl | rfl)
 ·decide
 ·exact NH _
 ·exact NH _
 ·exact Qp _
 ·exact NH _
 ·refine ⟨no32 hall, fun e => ?_⟩
  rw [e] at hall; revert hall; decide
 ·exact ⟨hc.1, hc.2.1⟩
 ·decide
theorem Gw {o : Ac} {x : Line} (h : OkL o x) : pcs 32 (B5 o x) = EI o x := by
 refine PR (by unfold EI Ir; simp) fun w hw => ?_
 unfold EI at hw
 simp only [List.mem_append, List.mem_cons] at hw
 rcases hw with hw | hw | rfl | hw
 ·exact (M6 h w hw).1
 ·exact (EX h.s w hw).1
 ·decide
 ·exact (EX h.g w hw).1
theorem M7 (x : Line) : (Ir x).length = 8 := rfl
theorem SZ : ∀ (l : List UQ) (k : Nat), (∀ w, w ∈ l -> w.length <= k) -> (jn l).length <= l.length * (k + 1)
 | [], k, _ => by simp [Ro]
 | [x], k, h => by have := h x (by simp); rw [DG]; simp; omega
 | x :: y :: r, k, h => by
  have := h x (by simp)
  have := SZ (y :: r) k fun w hw => h w (List.mem_cons_of_mem _ hw)
  rw [Dc (by simp), List.length_append, List.length_cons, List.length_cons, Nat.succ_mul]
  omega
theorem Rj {o : Ac} {x : Line} (h : OkL o x) : (B5 o x).length <= 300 := by
 have hc := L2 h.c
 obtain ⟨n1, n2⟩ := h.n
 obtain ⟨k1, k2⟩ := h.k
 have hw : ∀ w, w ∈ EI o x -> w.length <= 16 := by
  intro w hw
  have d1 := Hr 4 x.Num.toNat (by omega)
  have d2 := Hr 7 x.Khz.toNat (by omega)
  have d3 := NI (u := x.Minute.toNat / 1440 + 1) (by have := h.t; omega)
  have d4 := HV (u := x.Minute.toNat / 60 % 24) (by omega)
  have d5 := HV (u := x.Minute.toNat % 60) (by omega)
  unfold EI Ir tW at hw
  simp only [List.mem_append, List.mem_cons, List.not_mem_nil, or_false] at hw
  rcases hw with (((rfl | rfl | rfl | rfl) | (rfl | rfl)) | (rfl | rfl)) | hw | rfl | hw
  ·decide
  ·omega
  ·omega
  ·unfold JT; split
   ·decide
   ·split <;> decide
  ·omega
  ·rw [List.length_append]; omega
  ·omega
  ·decide
  ·have := (EX h.s w hw).2.2.2; omega
  ·decide
  ·have := (EX h.g w hw).2.2.2; omega
 have hl : (EI o x).length <= 16 := by
  have h1 := ND o x.Sent
  have h2 := ND o x.Got
  have f : ∀ E, (fs o E).length <= 3 -> (fsw o E).length <= 3 := fun E hE => by
   unfold fsw; split
   ·simp
   ·exact hE
  have := f _ h1
  have := f _ h2
  unfold EI
  rw [List.length_append, M7, List.length_append, List.length_cons]; omega
 have := SZ _ 16 hw
 have : (EI o x).length * 17 <= 16 * 17 := Nat.mul_le_mul_right _ hl
 unfold B5; omega
noncomputable def IF (o : Ac) (s : UQ) : Option Line := @dite _ (∃ x, Dj o x = true /\ B5 o x = s) (Classical.propDecidable _) (fun h => some (Classical.choose h)) (fun _ => none)
theorem HU {a b : Int} (ha : 0 <= a) (hb : 0 <= b) (h : decDigits a.toNat = decDigits b.toNat) : a = b := by
 have := Kf a.toNat
 rw [h, Kf] at this; omega
theorem Rl {a b : Int} (ha : 1 <= a /\ a <= 3) (hb : 1 <= b /\ b <= 3) (h : JT a = JT b) : a = b := by
 have h1 : a = 1 \/ a = 2 \/ a = 3 := by omega
 have h2 : b = 1 \/ b = 2 \/ b = 3 := by omega
 rcases h1 with rfl | rfl | rfl <;> rcases h2 with rfl | rfl | rfl <;> first | rfl | exact absurd h (by decide)
theorem P0 {o : Ac} {E G : Ad} (hE : CG o E = true) (hG : CG o G = true) (h : fsw o E = fsw o G) : E = G := by
 have e : EC o E = EC o G := by rw [G3, G3, h]
 have h1 := Fg hE
 rw [e, Fg hG] at h1
 exact (congrArg Prod.fst h1).symm
theorem LA {a b c d : List UQ} (ha : ∀ w, w ∈ a -> w ≠ [60]) (hc : ∀ w, w ∈ c -> w ≠ [60]) (h : a ++ [60] :: b = c ++ [60] :: d) : a = c /\ b = d := by
 induction a generalizing c with
 | nil =>
  cases c with
  | nil => simp at h; exact ⟨rfl, h⟩
  | cons y c => simp at h; exact absurd h.1.symm (hc y (by simp))
 | cons x a ih =>
  cases c with
  | nil => simp at h; exact absurd h.1 (ha x (by simp))
  | cons y c =>
   simp only [List.cons_append, List.cons.injEq] at h
   obtain ⟨h1, h2⟩ := ih (fun w hw => ha w (by simp [hw])) (fun w hw => hc w (by simp [hw])) h.2
   exact ⟨by rw [h.1, h1], h2⟩
theorem Rk {o : Ac} {x y : Line} (hx : OkL o x) (hy : OkL o y) (h : B5 o x = B5 o y) : x = y := by
 have hw : EI o x = EI o y := by rw [<- Gw hx, <- Gw hy, h]
 unfold EI at hw
 obtain ⟨h1, h2⟩ := List.append_inj hw rfl
 obtain ⟨h3, h4⟩ := LA (fun w hw => (EX hx.s w hw).2.1) (fun w hw => (EX hy.s w hw).2.1) h2
 unfold Ir tW at h1
 simp only [List.cons_append, List.nil_append, List.cons.injEq, and_true, true_and] at h1
 obtain ⟨e1, e2, e3, e4, e5, e6⟩ := h1
 have t : x.Minute = y.Minute := by
  have h1 : ED x.Minute.toNat = ED y.Minute.toNat := by unfold ED; rw [e4, e5]
  have h2 := IE (u := x.Minute.toNat) (by have := hx.t; omega)
  rw [h1, IE (u := y.Minute.toNat) (by have := hy.t; omega)] at h2
  have := congrArg Prod.fst h2
  simp only at this
  have := hx.t; have := hy.t
  omega
 have a1 := HU (by have := hx.n; omega) (by have := hy.n; omega) e1
 have a2 := HU (by have := hx.k; omega) (by have := hy.k; omega) e2
 have a3 := Rl hx.m hy.m e3
 have a4 := P0 hx.s hy.s h3
 have a5 := P0 hx.g hy.g h4
 cases x; cases y
 simp only at a1 a2 a3 a4 a5 t e6
 subst a1 a2 a3 a4 a5 t e6
 rfl
theorem Fh {o : Ac} {s : UQ} {x : Line} : IF o s = some x ↔ Dj o x = true /\ B5 o x = s := by
 unfold IF
 constructor
 ·intro h
  split at h
  ·rename_i hx
   cases h
   exact Classical.choose_spec hx
  ·cases h
 ·rintro ⟨h1, h2⟩
  have hex : ∃ x, Dj o x = true /\ B5 o x = s := ⟨x, h1, h2⟩
  rw [dif_pos hex]
  have h3 := Classical.choose_spec hex
  rw [Rk (C8.1 h3.1) (C8.1 h1) (h3.2.trans h2.symm)]
theorem Oj {o : Ac} {s : UQ} : IF o s = none ↔ ∀ x, Dj o x = true -> B5 o x ≠ s := by
 constructor
 ·intro h x hx e
  rw [Fh.2 ⟨hx, e⟩] at h; cases h
 ·intro h
  cases hp : IF o s with
  | none => rfl
  | some x => exact absurd (Fh.1 hp).2 (h x (Fh.1 hp).1)
end

section
open Go.Lib (decDigits)
def ST : UQ := [67, 65, 76, 76]
def TN : UQ := [67, 65, 84, 69, 71, 79, 82, 89]
def TL : UQ := [80, 79, 87, 69, 82]
def TM : UQ := [67, 76, 65, 73, 77, 69, 68]
def N4 : UQ := [74, 85, 77, 80, 83]
def S6 : UQ := [69, 78, 68]
def Qt : List Int -> Bool
 | [] => true
 | [_] => true
 | a :: b :: r => decide (a < b) && Qt (b :: r)
def KV (l : List Int) : Bool := l.all (fun n => decide (1 <= n /\ n <= 20000)) && (Qt l && decide (l.length <= 16))
def hdW (l : Log) (k : Nat) : List UQ := match k with
 | 0 => [ST, l.Call]
 | 1 => [TN, decDigits l.Category.toNat]
 | 2 => [TL, decDigits l.Power.toNat]
 | 3 => [TM, decDigits l.Claimed.toNat]
 | _ => N4 :: l.Jumps.map fun n => decDigits n.toNat
def hdT (l : Log) (k : Nat) : UQ := jn (hdW l k)
def hdV (l : Log) (k : Nat) : Bool := match k with
 | 0 => Gj l.Call
 | 1 => decide (1 <= l.Category /\ l.Category <= 9)
 | 2 => decide (1 <= l.Power /\ l.Power <= 9999)
 | 3 => decide (0 <= l.Claimed /\ l.Claimed <= 1000000)
 | _ => KV l.Jumps
def hdS (k : Nat) (v l : Log) : Log := match k with
 | 0 => { l with Call := v.Call }
 | 1 => { l with Category := v.Category }
 | 2 => { l with Power := v.Power }
 | 3 => { l with Claimed := v.Claimed }
 | _ => { l with Jumps := v.Jumps }
theorem QB {s : UQ} (h : Gj s = true) : ∀ b, b ∈ s -> isL b = true \/ isD b = true \/ b = 47 := by
 unfold Gj at h
 cases hc : callB s with
 | none => rw [hc] at h; cases h
 | some t =>
  obtain ⟨h1, h2⟩ := Pv hc
  have e : ∀ {l : UQ}, l.all isE = true -> ∀ b, b ∈ l -> isL b = true \/ isD b = true \/ b = 47 := fun hl b hb => by
   have := List.all_eq_true.1 hl b hb
   unfold isE at this
   rw [Bool.or_eq_true] at this
   rcases this with h | h
   ·exact .inl h
   ·exact .inr (.inl h)
  unfold okT at h1
  simp only [Bool.and_eq_true, Bool.or_eq_true, decide_eq_true_eq] at h1
  obtain ⟨⟨⟨⟨a1, a2⟩, a3⟩, _⟩, _⟩ := h1
  intro b hb
  rw [h2] at hb
  unfold KI at hb
  rcases List.mem_append.1 hb with hb | hb
  ·by_cases ht : t.1 = []
   ·rw [if_pos ht] at hb; exact e (P3 a2) b hb
   ·rw [if_neg ht] at hb
    rcases List.mem_append.1 hb with hb | hb
    ·rcases a1 with a1 | a1
     ·exact absurd a1 ht
     ·exact e (SP a1) b hb
    ·rcases List.mem_cons.1 hb with rfl | hb
     ·exact .inr (.inr rfl)
     ·exact e (P3 a2) b hb
  ·by_cases ht : t.2.2 = []
   ·rw [if_pos ht] at hb; cases hb
   ·rw [if_neg ht] at hb
    rcases List.mem_cons.1 hb with rfl | hb
    ·exact .inr (.inr rfl)
    ·rcases a3 with a3 | a3
     ·exact absurd a3 ht
     ·exact e (P8 a3) b hb
def plB (b : UInt8) : Bool := decide (33 <= b.toNat) && decide (b.toNat <= 95)
theorem Ta {b : UInt8} (h : plB b = true) : b ≠ 32 /\ b ≠ 10 /\ b ≠ 9 /\ b ≠ 13 /\ ¬ (97 <= b.toNat /\ b.toNat <= 122) := by
 unfold plB at h
 simp only [Bool.and_eq_true, decide_eq_true_eq] at h
 refine ⟨?_, ?_, ?_, ?_, by omega⟩ <;> · rintro rfl; revert h; decide
theorem To {b : UInt8} (h : isL b = true) : plB b = true := by unfold isL at h; unfold plB; simp at h ⊢; omega
theorem Ru {b : UInt8} (h : isD b = true) : plB b = true := by unfold isD at h; unfold plB; simp at h ⊢; omega
theorem Ua (u : Nat) : (decDigits u).all plB = true := by
 rw [List.all_eq_true]
 exact fun b hb => Ru (List.all_eq_true.1 (Hs u) b hb)
def Wd (w : UQ) : Prop := w ≠ [] /\ w.all plB = true
theorem PA (u : Nat) : Wd (decDigits u) := ⟨by have := L6 u; intro e; rw [e] at this; simp at this, Ua u⟩
theorem Wd.no32 {w : UQ} (h : Wd w) : (32 : UInt8) ∉ w := fun hm => (Ta (List.all_eq_true.1 h.2 _ hm)).1 rfl
theorem OA {l : Log} {k : Nat} (h : hdV l k = true) : hdW l k ≠ [] /\ ∀ w, w ∈ hdW l k -> Wd w := by
 match k, h with
 | 0, h =>
  refine ⟨by simp [hdW], fun w hw => ?_⟩
  simp only [hdW, List.mem_cons, List.not_mem_nil, or_false] at hw
  rcases hw with rfl | rfl
  ·exact ⟨by decide, by decide⟩
  ·refine ⟨?_, ?_⟩
   ·rintro e
    have h : Gj l.Call = true := h
    rw [e] at h; revert h; decide
   ·rw [List.all_eq_true]
    intro b hb
    rcases QB h b hb with h | h | rfl
    ·exact To h
    ·exact Ru h
    ·decide
 | 1, h =>
  refine ⟨by simp [hdW], fun w hw => ?_⟩
  simp only [hdW, List.mem_cons, List.not_mem_nil, or_false] at hw
  rcases hw with rfl | rfl
  ·exact ⟨by decide, by decide⟩
  ·exact PA _
 | 2, h =>
  refine ⟨by simp [hdW], fun w hw => ?_⟩
  simp only [hdW, List.mem_cons, List.not_mem_nil, or_false] at hw
  rcases hw with rfl | rfl
  ·exact ⟨by decide, by decide⟩
  ·exact PA _
 | 3, h =>
  refine ⟨by simp [hdW], fun w hw => ?_⟩
  simp only [hdW, List.mem_cons, List.not_mem_nil, or_false] at hw
  rcases hw with rfl | rfl
  ·exact ⟨by decide, by decide⟩
  ·exact PA _
 | k + 4, h =>
  refine ⟨by simp [hdW], fun w hw => ?_⟩
  simp only [hdW, List.mem_cons, List.mem_map] at hw
  rcases hw with rfl | ⟨n, _, rfl⟩
  ·exact ⟨by decide, by decide⟩
  ·exact PA _
theorem Po {l : Log} {k : Nat} (h : hdV l k = true) : pcs 32 (hdT l k) = hdW l k := PR (OA h).1 fun w hw => ((OA h).2 w hw).no32
theorem Lj {l : List Int} (h : KV l = true) : ∀ n, n ∈ l -> 1 <= n /\ n <= 20000 := by
 unfold KV at h
 simp only [Bool.and_eq_true, List.all_eq_true, decide_eq_true_eq] at h
 exact h.1
theorem KD : ∀ {a b : List Int}, (∀ n, n ∈ a -> 0 <= n) -> (∀ n, n ∈ b -> 0 <= n) -> (a.map fun n => decDigits n.toNat) = (b.map fun n => decDigits n.toNat) -> a = b
 | [], [], _, _, _ => rfl
 | [], _ :: _, _, _, h => by simp at h
 | _ :: _, [], _, _, h => by simp at h
 | x :: a, y :: b, ha, hb, h => by
  simp only [List.map_cons, List.cons.injEq] at h
  rw [HU (ha x (by simp)) (hb y (by simp)) h.1, KD (fun n hn => ha n (by simp [hn])) (fun n hn => hb n (by simp [hn])) h.2]
theorem Tr {u v : Log} {k : Nat} (hu : hdV u k = true) (hv : hdV v k = true) (h : hdT u k = hdT v k) : ∀ l, hdS k u l = hdS k v l := by
 have e : hdW u k = hdW v k := by rw [<- Po hu, <- Po hv, h]
 intro l
 match k, hu, hv, e with
 | 0, hu, hv, e =>
  simp only [hdW, List.cons.injEq, and_true, true_and] at e
  simp only [hdS, e]
 | 1, hu, hv, e =>
  simp only [hdW, List.cons.injEq, and_true, true_and] at e
  simp only [hdV, decide_eq_true_eq] at hu hv
  simp only [hdS, HU (by omega) (by omega) e]
 | 2, hu, hv, e =>
  simp only [hdW, List.cons.injEq, and_true, true_and] at e
  simp only [hdV, decide_eq_true_eq] at hu hv
  simp only [hdS, HU (by omega) (by omega) e]
 | 3, hu, hv, e =>
  simp only [hdW, List.cons.injEq, and_true, true_and] at e
  simp only [hdV, decide_eq_true_eq] at hu hv
  simp only [hdS, HU (by omega) (by omega) e]
 | k + 4, hu, hv, e =>
  simp only [hdW, List.cons.injEq, true_and] at e
  have := KD (fun n hn => by have := Lj (show KV u.Jumps = true from hu) n hn; omega) (fun n hn => by have := Lj (show KV v.Jumps = true from hv) n hn; omega) e
  simp only [hdS, this]
end
section
open Go.Lib (decDigits)
def lnE (s : UQ) : List (UQ × Bool) := match (pcs 10 s).getLast?, (pcs 10 s).dropLast with
 | some [], l => l.map fun x => (x, true)
 | some x, l => l.map (fun x => (x, true)) ++ [(x, false)]
 | none, l => l.map fun x => (x, true)
end
def AP (N : Nat) (x0 : Int) (x1 : Int) (x2 : Int) : Option Bool :=
 some ((decide (x1 <= x0)) && (decide (x0 <= x2)))
theorem AC : Ag Tryz.prog 73 := fun _ _ => by kernel_rfl
theorem AJ (N : Nat) (w0 : World) (F0 : Mem) (hF : US w0 F0) (x0 : Int) (x1 : Int) (x2 : Int) (r : Bool) (h : AP N x0 x1 x2 = some r) :
  Calls Tryz.prog 73 ([(vi x0), (vi x1), (vi x2)] : List Value).toArray w0 (AB w0 F0 fun F' v => v = (.bool r)) := by
 have hs0 := Uy hF
 refine Go 15 Tryz.func73 <| Sq (Rg [0] ?_)
 refine Vs 1 <| Nss (Rg (rG 9) ?_)
 refine UC (fun f w => ∃ (F1 : Mem), HS w0 F0 w F1 [] /\ Uw F0 F1 /\ FI f [] [(6, (.bool ((decide (x1 <= x0)) && (decide (x0 <= x2)))))]) ?_ ?_
 ·refine Vs 4 ?_
  refine UB (decide (x1 <= x0)) (fun hb26 => ?_) (fun hb26 => ?_)
  ·refine Vgs hb26 3 ?_
   refine Pk1 hb26 <| Vs 1 ?_
   exact Us ⟨rfl, F0, hs0, (Ux _), (fJ ⟨(congrArg Value.bool (JH hb26 rfl)), trivial⟩)⟩
  ·refine Ss hb26 3 ?_
   refine Pk0 hb26 <| Vs 1 ?_
   exact Us ⟨rfl, F0, hs0, (Ux _), (fJ ⟨(congrArg Value.bool (KP hb26 rfl)), trivial⟩)⟩
 ·rintro f w21 ⟨F1, hs22, le23, ⟨_, rfl⟩⟩
  refine Ab <| Rt ?_
  obtain rfl := Aa h
  exact Re [(.bool ((decide (x1 <= x0)) && (decide (x0 <= x2))))] hs22 rfl
def Dz (N : Nat) (x0 : UQ) (r21 : Bool) : (Bool × Int) -> Option (BD Bool (Bool × Int)) := fun s32 =>
 (bif (decide (s32.2 < (x0.length : Int))) then ((OZ x0 s32.2).bind fun c56 => ((bif s32.1 then ((AP N (W64 c56) 65 90).bind fun r73 => (bif r73 then some true else ((AP N (W64 c56) 48 57).bind fun r84 => (bif r84 then some true else some (c56 == 47))))) else some false).bind fun j62 => some (.next (j62, (W64 (s32.2 + 1)))))) else some (.done (s32.1, s32.2)))
def Gu (N : Nat) (x0 : UQ) : Option Bool :=
 ((AP N (x0.length : Int) 1 16).bind fun r21 => ((A0 (Dz N x0 r21) N (r21, 0)).bind fun o => o.k (fun r => some r) (fun s41 => some s41.1)))
theorem ME : Ag Tryz.prog 74 := fun _ _ => by kernel_rfl
theorem NS (N : Nat) (w0 : World) (F0 : Mem) (hF : US w0 F0) (x0 : UQ) (r : Bool) (h : Gu N x0 = some r) :
  Calls Tryz.prog 74 ([(sv x0)] : List Value).toArray w0 (AB w0 F0 fun F' v => v = (.bool r)) := by
 have hs0 := Uy hF
 refine Go 34 Tryz.func74 <| Sq (Rg [0] ?_)
 refine Vs 1 <| Nss (Rg (rG 4) ?_)
 refine Vs 2 ?_
 obtain ⟨r21, hr22, h23⟩ := bind_some h
 refine Cl' AC hs0 (AJ N w0 F0 hs0.pers ((x0.length : Int)) 1 16 _ hr22) ?_
 rintro _ F1 w25 hs26 le27 rfl
 refine Vs 1 <| Nss <| Sq (Rg [0, 1, 2] ?_)
 refine Vs 3 <| Nt ?_
 obtain ⟨o29, ho30, h31⟩ := bind_some h23
 refine UD (fun f w => ∃ (s41 : (Bool × Int)) (F3 : Mem), o29 = .done s41 /\ HS w0 F0 w F3 [] /\ Uw F1 F3 /\ FI f [] [(3, (.bool s41.1))]) ?_ ?_
 ·refine Bk ?_
  refine Uv (by kernel_rfl) (fun m f w => ∃ (s32 : (Bool × Int)) (F2 : Mem), A0 (Dz N x0 r21) m s32 = some o29 /\ HS w0 F0 w F2 [] /\ Uw F1 F2 /\ FI f [] [(0, (sv x0)), (3, (.bool s32.1)), (10, (vi (x0.length : Int))), (11, (vi s32.2))]) N ⟨(r21, 0), F1, ho30, hs26, (Ux _), fI⟩ ?_
  rintro m47 f w33 ⟨s32, F2, hit48, hs34, le35, ⟨_, rfl⟩⟩
  obtain ⟨m49, fl50, rfl, hb51, hnx52⟩ := AU hit48
  refine Sq (Rg [0] ?_)
  refine Vs 1 <| Nss <| Cd hb51 (fun hb53 h54 => ?_) (fun hb53 h55 => ?_)
  ·refine Sc ?_
   refine Ab <| Sq <| Bk <| Sq (Rg [0, 1] ?_)
   refine Vs 2 <| Nss (Rg (rG 4) ?_)
   refine Vs 2 ?_
   obtain ⟨c56, hr57, h58⟩ := bind_some h54
   refine V 16 5 (LI (t := 9) (x := (.tmp 14)) (y := (.tmp 15)) (a := x0) (k := .i64) (i := s32.2) (v := c56) rfl rfl (by kernel_rfl) hr57) <| Vs 1 <| Nt <| Rg (rG 16) ?_
   obtain ⟨j62, hj68, h69⟩ := bind_some h58
   refine UC (fun f w => ∃ (F4 : Mem), HS w0 F0 w F4 [] /\ Uw F2 F4 /\ FI f [] [(0, (sv x0)), (3, (.bool j62)), (10, (vi (x0.length : Int))), (11, (vi s32.2))]) ?_ ?_
   ·refine Vs 2 ?_
    refine Sp hj68 (fun hb70 h71 => ?_) (fun hb70 h72 => ?_)
    ·refine Vgs hb70 2 ?_
     obtain ⟨r73, hr74, h75⟩ := bind_some h71
     refine Cg hb70 AC hs34 (AJ N w33 F2 hs34.pers ((W64 c56)) 65 90 _ hr74) ?_
     rintro _ F5 w77 hs78 le79 rfl
     refine Vgs hb70 1 <| Sp h75 (fun hb81 h82 => ?_) (fun hb81 h83 => ?_)
     ·refine Ss hb81 3 ?_
      refine Pg1 hb70 hb81 <| Vgs hb70 1 <| Ss (rfl : true = true) 2 <| Pg1 hb70 (rfl : true = true) <| Pk1 hb70 <| Vs 1 ?_
      obtain rfl := Aa h82
      exact Us ⟨rfl, F5, hs78, le79, fI⟩
     ·refine Vgs hb81 2 ?_
      obtain ⟨r84, hr85, h86⟩ := bind_some h83
      refine Cg hb81 AC hs78 (AJ N w77 F5 hs78.pers ((W64 c56)) 48 57 _ hr85) ?_
      rintro _ F6 w88 hs89 le90 rfl
      refine Pg0 hb70 hb81 <| Vgs hb70 1 <| Sp h86 (fun hb92 h93 => ?_) (fun hb92 h94 => ?_)
      ·refine Ss hb92 2 ?_
       refine Pg1 hb70 hb92 <| Pk1 hb70 <| Vs 1 ?_
       obtain rfl := Aa h93
       exact Us ⟨rfl, F6, hs89, (le79.t le90), fI⟩
      ·refine Vgs hb92 2 ?_
       refine Pg0 hb70 hb92 <| Pk1 hb70 <| Vs 1 ?_
       obtain rfl := Aa h94
       exact Us ⟨rfl, F6, hs89, (le79.t le90), fI⟩
    ·refine Ss hb70 4 ?_
     refine Su' 3 <| Ss hb70 2 <| Su' 2 <| Ss hb70 1 <| Pk0 hb70 <| Vs 1 ?_
     obtain rfl := Aa h72
     exact Us ⟨rfl, F2, hs34, (Ux _), fI⟩
   ·rintro f w59 ⟨F4, hs60, le61, ⟨_, rfl⟩⟩
    refine Av <| Ab <| Rg [0, 1] <| Vs 2 <| Us ?_
    have hn95 := AV h69 hnx52
    exact ⟨m49, Nat.lt_succ_self _, (j62, (W64 (s32.2 + 1))), F4, hn95, hs60, (le35.t le61), fI⟩
  ·refine Ex ?_
   refine Au <| Au <| AA rfl ?_
   have ho96 := AW h55 hnx52
   exact .inl ⟨rfl, (s32.1, s32.2), F2, ho96, hs34, le35, fI⟩
 ·rintro f w42 ⟨s41, F3, rfl, hs43, le44, ⟨_, rfl⟩⟩
  have h97 := BL h31
  refine Ab <| Sq (Rg [0, 1] ?_)
  refine Vs 2 <| Nt <| Rt ?_
  obtain rfl := Aa h97
  exact Re [(.bool s41.1)] hs43 rfl
def Cf (N : Nat) (x0 : Ac) (x1 : Line) : Option Bool :=
 (((AP N x1.Num 1 65535).bind fun r35 => (bif r35 then ((AP N x1.Khz 1 10000000).bind fun r46 => (bif r46 then ((AP N x1.Mode 1 3).bind fun r57 => (bif r57 then ((AP N x1.Minute 0 20000).bind fun r68 => (bif r68 then ((Gu N x1.Call).bind fun r79 => (bif r79 then ((BK N ({ Report := x0.Report, Serial := x0.Serial, Zone := x0.Zone } : Ac) ({ Report := x1.Sent.Report, Serial := x1.Sent.Serial, Zone := x1.Sent.Zone } : Ad)).bind fun r90 => (bif r90 then ((BK N ({ Report := x0.Report, Serial := x0.Serial, Zone := x0.Zone } : Ac) ({ Report := x1.Got.Report, Serial := x1.Got.Serial, Zone := x1.Got.Zone } : Ad)).bind fun r101 => some r101) else some false)) else some false)) else some false)) else some false)) else some false)) else some false)).bind fun j30 => some j30)
theorem Fq : Ag Tryz.prog 21 := fun _ _ => by kernel_rfl
theorem Gf (N : Nat) (w0 : World) (F0 : Mem) (hF : US w0 F0) (x0 : Ac) (x1 : Line) (r : Bool) (h : Cf N x0 x1 = some r) :
  Calls Tryz.prog 21 ([(.agg (Ak x0)), (.agg (B6 x1))] : List Value).toArray w0 (AB w0 F0 fun F' v => v = (.bool r)) := by
 have hs0 := Uy hF
 refine Go 40 Tryz.func21 <| Sq (Rg [0, 1, 2] ?_)
 refine Bx' 23 (Ak x0) hs0 (fun b21 w22 hs23 => ?_)
 refine Bx' 34 (B6 x1) hs23 (fun b24 w25 hs26 => ?_)
 refine Vs 1 <| Nss (Rg (rG 36) ?_)
 obtain ⟨j30, hj33, h34⟩ := bind_some h
 refine UC (fun f w => ∃ (F1 : Mem), HS w0 F0 w F1 [] /\ Uw F0 F1 /\ FI f [] [(4, (.bool j30))]) ?_ ?_
 ·refine Vs 1 ?_
  refine Ld hs26.at0 ?_
  obtain ⟨r35, hr36, h37⟩ := bind_some hj33
  refine Cl' AC hs26 (AJ N w25 F0 hs26.pers x1.Num 1 65535 _ hr36) ?_
  rintro _ F2 w39 hs40 le41 rfl
  refine Vs 1 <| Sp h37 (fun hb43 h44 => ?_) (fun hb43 h45 => ?_)
  ·refine Vgs hb43 1 ?_
   refine Lg hb43 hs40.at0 ?_
   obtain ⟨r46, hr47, h48⟩ := bind_some h44
   refine Cg hb43 AC hs40 (AJ N w39 F2 hs40.pers x1.Khz 1 10000000 _ hr47) ?_
   rintro _ F3 w50 hs51 le52 rfl
   refine Pk1 hb43 <| Vs 1 <| Sp h48 (fun hb54 h55 => ?_) (fun hb54 h56 => ?_)
   ·refine Vgs hb54 1 ?_
    refine Lg hb54 hs51.at0 ?_
    obtain ⟨r57, hr58, h59⟩ := bind_some h55
    refine Cg hb54 AC hs51 (AJ N w50 F3 hs51.pers x1.Mode 1 3 _ hr58) ?_
    rintro _ F4 w61 hs62 le63 rfl
    refine Pk1 hb54 <| Vs 1 <| Sp h59 (fun hb65 h66 => ?_) (fun hb65 h67 => ?_)
    ·refine Vgs hb65 1 ?_
     refine Lg hb65 hs62.at0 ?_
     obtain ⟨r68, hr69, h70⟩ := bind_some h66
     refine Cg hb65 AC hs62 (AJ N w61 F4 hs62.pers x1.Minute 0 20000 _ hr69) ?_
     rintro _ F5 w72 hs73 le74 rfl
     refine Pk1 hb65 <| Vs 1 <| Sp h70 (fun hb76 h77 => ?_) (fun hb76 h78 => ?_)
     ·refine Vgs hb76 1 ?_
      refine Lg hb76 hs73.at0 ?_
      obtain ⟨r79, hr80, h81⟩ := bind_some h77
      refine Cg hb76 ME hs73 (NS N w72 F5 hs73.pers x1.Call _ hr80) ?_
      rintro _ F6 w83 hs84 le85 rfl
      refine Pk1 hb76 <| Vs 1 <| Sp h81 (fun hb87 h88 => ?_) (fun hb87 h89 => ?_)
      ·refine Lg hb87 hs84.at1 ?_
       refine Vgs hb87 1 <| Lg hb87 hs84.at0 ?_
       obtain ⟨r90, hr91, h92⟩ := bind_some h88
       refine Cg hb87 CY hs84 (Dp N w83 F6 hs84.pers (({ Report := x0.Report, Serial := x0.Serial, Zone := x0.Zone } : Ac)) (({ Report := x1.Sent.Report, Serial := x1.Sent.Serial, Zone := x1.Sent.Zone } : Ad)) _ hr91) ?_
       rintro _ F7 w94 hs95 le96 rfl
       refine Pk1 hb87 <| Vs 1 <| Sp h92 (fun hb98 h99 => ?_) (fun hb98 h100 => ?_)
       ·refine Lg hb98 hs95.at1 ?_
        refine Vgs hb98 1 <| Lg hb98 hs95.at0 ?_
        obtain ⟨r101, hr102, h103⟩ := bind_some h99
        refine Cg hb98 CY hs95 (Dp N w94 F7 hs95.pers (({ Report := x0.Report, Serial := x0.Serial, Zone := x0.Zone } : Ac)) (({ Report := x1.Got.Report, Serial := x1.Got.Serial, Zone := x1.Got.Zone } : Ad)) _ hr102) ?_
        rintro _ F8 w105 hs106 le107 rfl
        refine Pk1 hb98 <| Vs 1 ?_
        obtain rfl := Aa h103
        exact Us ⟨rfl, F8, hs106.dr0.dr0, ((((((le41.t le52).trans le63).trans le74).trans le85).trans le96).trans le107), fI⟩
       ·refine Ss hb98 4 ?_
        refine Pk0 hb98 <| Vs 1 ?_
        obtain rfl := Aa h100
        exact Us ⟨rfl, F7, hs95.dr0.dr0, (((((le41.t le52).trans le63).trans le74).trans le85).trans le96), fI⟩
      ·refine Ss hb87 4 ?_
       refine Pk0 hb87 <| Vs 1 <| Ss (rfl : false = false) 4 <| Pk0 (rfl : false = false) <| Vs 1 ?_
       obtain rfl := Aa h89
       exact Us ⟨rfl, F6, hs84.dr0.dr0, ((((le41.t le52).trans le63).trans le74).trans le85), fI⟩
     ·refine Ss hb76 3 ?_
      refine Pk0 hb76 <| Vs 1 <| Ss (rfl : false = false) 4 <| Pk0 (rfl : false = false) <| Vs 1 <| Ss (rfl : false = false) 4 <| Pk0 (rfl : false = false) <| Vs 1 ?_
      obtain rfl := Aa h78
      exact Us ⟨rfl, F5, hs73.dr0.dr0, (((le41.t le52).trans le63).trans le74), fI⟩
    ·refine Ss hb65 3 ?_
     refine Pk0 hb65 <| Vs 1 <| Ss (rfl : false = false) 3 <| Pk0 (rfl : false = false) <| Vs 1 <| Ss (rfl : false = false) 4 <| Pk0 (rfl : false = false) <| Vs 1 <| Ss (rfl : false = false) 4 <| Pk0 (rfl : false = false) <| Vs 1 ?_
     obtain rfl := Aa h67
     exact Us ⟨rfl, F4, hs62.dr0.dr0, ((le41.t le52).trans le63), fI⟩
   ·refine Ss hb54 3 ?_
    refine Pk0 hb54 <| Vs 1 <| Ss (rfl : false = false) 3 <| Pk0 (rfl : false = false) <| Vs 1 <| Ss (rfl : false = false) 3 <| Pk0 (rfl : false = false) <| Vs 1 <| Ss (rfl : false = false) 4 <| Pk0 (rfl : false = false) <| Vs 1 <| Ss (rfl : false = false) 4 <| Pk0 (rfl : false = false) <| Vs 1 ?_
    obtain rfl := Aa h56
    exact Us ⟨rfl, F3, hs51.dr0.dr0, (le41.t le52), fI⟩
  ·refine Ss hb43 3 ?_
   refine Pk0 hb43 <| Vs 1 <| Ss (rfl : false = false) 3 <| Pk0 (rfl : false = false) <| Vs 1 <| Ss (rfl : false = false) 3 <| Pk0 (rfl : false = false) <| Vs 1 <| Ss (rfl : false = false) 3 <| Pk0 (rfl : false = false) <| Vs 1 <| Ss (rfl : false = false) 4 <| Pk0 (rfl : false = false) <| Vs 1 <| Ss (rfl : false = false) 4 <| Pk0 (rfl : false = false) <| Vs 1 ?_
   obtain rfl := Aa h45
   exact Us ⟨rfl, F2, hs40.dr0.dr0, le41, fI⟩
 ·rintro f w27 ⟨F1, hs28, le29, ⟨_, rfl⟩⟩
  refine Ab <| Rt ?_
  obtain rfl := Aa h34
  exact Re [(.bool j30)] hs28 rfl




def Ef (N : Nat) (x0 : (List Int)) : Int -> Option (BD Bool Int) := fun s24 =>
 (bif (decide (s24 < (x0.length : Int))) then ((idx x0 s24).bind fun x48 => (((AP N x48 1 20000).bind fun r74 => (bif (!r74) then some true else (bif (decide (s24 > 0)) then ((idx x0 (W64 (s24 - 1))).bind fun x88 => some (decide (x48 <= x88))) else some false))).bind fun j65 => (bif j65 then some (.ret false) else some (.next (W64 (s24 + 1)))))) else some (.done s24))
def CU (N : Nat) (x0 : (List Int)) : Option Bool :=
 ((A0 (Ef N x0) N 0).bind fun o => o.k (fun r => some r) (fun s33 => some (decide ((x0.length : Int) <= 16))))
theorem FA : Ag Tryz.prog 80 := fun _ _ => by kernel_rfl
theorem GE (N : Nat) (w0 : World) (F0 : Mem) (hF : US w0 F0) (x0 : (List Int)) (a0_0 : UR) (n0_0 : Nat) (hb0_0 : LC x0.length n0_0) (hs0_0 : SlA AQ F0 a0_0 x0) (r : Bool) (h : CU N x0 = some r) :
  Calls Tryz.prog 80 ([(.slice a0_0 x0.length n0_0)] : List Value).toArray w0 (AB w0 F0 fun F' v => v = (.bool r)) := by
 have hs0 := Uy hF
 refine Go 32 Tryz.func80 <| Sq (Rg [0] ?_)
 refine Vs 1 <| Nss <| Sq (Rg [0, 1, 2] ?_)
 refine Vs 3 <| Nt ?_
 obtain ⟨o21, ho22, h23⟩ := bind_some h
 refine UD (fun f w => ∃ (s33 : Int) (F2 : Mem), o21 = .done s33 /\ HS w0 F0 w F2 [] /\ Uw F0 F2 /\ FI f [] [(0, (.slice a0_0 x0.length n0_0))]) ?_ ?_
 ·refine Bk ?_
  refine Uv (by kernel_rfl) (fun m f w => ∃ (s24 : Int) (F1 : Mem), A0 (Ef N x0) m s24 = some o21 /\ HS w0 F0 w F1 [] /\ Uw F0 F1 /\ FI f [] [(0, (.slice a0_0 x0.length n0_0)), (5, (.slice a0_0 x0.length n0_0)), (6, (vi (x0.length : Int))), (7, (vi s24))]) N ⟨0, F0, ho22, hs0, (Ux _), fI⟩ ?_
  rintro m39 f w25 ⟨s24, F1, hit40, hs26, le27, ⟨_, rfl⟩⟩
  obtain ⟨m41, fl42, rfl, hb43, hnx44⟩ := AU hit40
  refine Sq (Rg [0] ?_)
  refine Vs 1 <| Nss <| Cd hb43 (fun hb45 h46 => ?_) (fun hb45 h47 => ?_)
  ·refine Sc ?_
   refine Ab <| Sq <| Bk <| Sq (Rg (rG 5) ?_)
   refine Vs 1 ?_
   obtain ⟨x48, hx49, h51⟩ := bind_some h46
   obtain ⟨hi50, hx49'⟩ := As hx49
   obtain ⟨b52, o53, C54, E55, fz56, rfl, hF58, hE59⟩ := UE (Uz hs0_0 le27) hx49'
   have hc61 := hE59 _ _ hx49'
   refine Ix hi50 <| Lx 0 (hs26.pers _ _ hF58) hc61 <| Vs 2 <| Nss (Rg (rG 16) ?_)
   obtain ⟨j65, hj72, h73⟩ := bind_some h51
   refine UC (fun f w => ∃ (F3 : Mem), HS w0 F0 w F3 [] /\ Uw F1 F3 /\ FI f [] [(0, (.slice (some ⟨b52, o53, none⟩) x0.length n0_0)), (5, (.slice (some ⟨b52, o53, none⟩) x0.length n0_0)), (6, (vi (x0.length : Int))), (7, (vi s24)), (27, (.bool j65))]) ?_ ?_
   ·refine Vs 1 ?_
    obtain ⟨r74, hr75, h76⟩ := bind_some hj72
    refine Cl' AC hs26 (AJ N w25 F1 hs26.pers x48 1 20000 _ hr75) ?_
    rintro _ F4 w78 hs79 le80 rfl
    refine Vs 2 <| Sp h76 (fun hb82 h83 => ?_) (fun hb82 h84 => ?_)
    ·refine Ss hb82 3 ?_
     refine Su' 7 <| Ss hb82 1 <| Pk1 hb82 ?_
     obtain rfl := Aa h83
     exact Us ⟨rfl, F4, hs79, le80, fI⟩
    ·refine Vgs hb82 3 ?_
     refine Sp h84 (fun hb85 h86 => ?_) (fun hb85 h87 => ?_)
     ·refine Vgs hb85 4 ?_
      obtain ⟨x88, hx89, h91⟩ := bind_some h86
      obtain ⟨hi90, hx89'⟩ := As hx89
      have hc93 := hE59 _ _ hx89'
      refine Ixg hb85 hi90 <| Lxg hb85 0 (hs79.pers _ _ (le80 _ _ hF58)) hc93 <| Vgs hb85 1 <| Pg1 hb82 hb85 <| Pk0 hb82 ?_
      obtain rfl := Aa h91
      exact Us ⟨rfl, F4, hs79, le80, fI⟩
     ·refine Ss hb85 7 ?_
      refine Pg0 hb82 hb85 <| Pk0 hb82 ?_
      obtain rfl := Aa h87
      exact Us ⟨rfl, F4, hs79, le80, fI⟩
   ·rintro f w62 ⟨F3, hs63, le64, ⟨_, rfl⟩⟩
    refine Ab <| Cd h73 (fun hb94 h95 => ?_) (fun hb94 h96 => ?_)
    ·refine Sq (Rg [0] ?_)
     refine Vs 1 <| Nt <| Rt <| Az <| Aj <| Aj <| Az ?_
     have hret := DV h95 hnx44
     subst hret
     refine .inr <| Aj ?_
     obtain rfl := Aa h23
     exact Re [(.bool false)] hs63 rfl
    ·refine Sc ?_
     refine Av <| Ab <| Rg [0, 1] <| Vs 2 <| Us ?_
     have hn97 := AV h96 hnx44
     exact ⟨m41, Nat.lt_succ_self _, (W64 (s24 + 1)), F3, hn97, hs63, (le27.t le64), fI⟩
  ·refine Ex ?_
   refine Au <| Au <| AA rfl ?_
   have ho98 := AW h47 hnx44
   exact .inl ⟨rfl, s24, F1, ho98, hs26, le27, fI⟩
 ·rintro f w34 ⟨s33, F2, rfl, hs35, le36, ⟨_, rfl⟩⟩
  have h99 := BL h23
  refine Ab <| Sq (Rg (rG 4) ?_)
  refine Vs 4 <| Nt <| Rt ?_
  obtain rfl := Aa h99
  exact Re [(.bool (decide ((x0.length : Int) <= 16)))] hs35 rfl
def Im (N : Nat) (x0 : Ac) (x1 : Log) (r38 : Bool) (r49 : Bool) (r60 : Bool) (r71 : Bool) (r82 : Bool) : Int -> Option (BD (Int × Int) Int) := fun s96 =>
 (bif (decide (s96 < (x1.Lines.length : Int))) then ((idx x1.Lines s96).bind fun x120 => (((Cf N ({ Report := x0.Report, Serial := x0.Serial, Zone := x0.Zone } : Ac) x120).bind fun r155 => (bif (!r155) then none else (bif (decide (s96 > 0)) then none else some ()))).bind fun j144 => some (.next (W64 (s96 + 1))))) else some (.done s96))
def Gv (N : Nat) (x0 : Ac) (x1 : Log) : Option (Int × Int) :=
 (bif ((decide ((x1.Jumps.length : Int) > 16)) || (decide ((x1.Lines.length : Int) > 400))) then none else ((El N x1.Call).bind fun r38 => (bif (!r38) then none else ((AP N x1.Category 1 9).bind fun r49 => (bif (!r49) then none else ((AP N x1.Power 1 9999).bind fun r60 => (bif (!r60) then none else ((AP N x1.Claimed 0 1000000).bind fun r71 => (bif (!r71) then none else ((CU N x1.Jumps).bind fun r82 => (bif (!r82) then none else ((A0 (Im N x0 x1 r38 r49 r60 r71 r82) N 0).bind fun o => o.k (fun r => some r) (fun s106 => some (0, 0))))))))))))))
theorem FC : Ag Tryz.prog 23 := fun _ _ => by kernel_rfl
theorem GF (N : Nat) (w0 : World) (F0 : Mem) (hF : US w0 F0) (hG : Br F0) (x0 : Ac) (x1 : Log) (a1_4 : UR) (n1_4 : Nat) (hb1_4 : LC x1.Jumps.length n1_4) (hs1_4 : SlA AQ F0 a1_4 x1.Jumps) (a1_5 : UR) (n1_5 : Nat) (hb1_5 : LC x1.Lines.length n1_5) (hs1_5 : SlA AK F0 a1_5 x1.Lines) (r : (Int × Int)) (h : Gv N x0 x1 = some r) :
  Calls Tryz.prog 23 ([(.agg (Ak x0)), (.agg (AL x1 a1_4 n1_4 a1_5 n1_5))] : List Value).toArray w0 (AB w0 F0 fun F' v => v = (.tuple #[(vi r.1), (vi r.2)])) := by
 have hs0 := Uy hF
 refine Go 89 Tryz.func23 <| Sq (Rg (rG 4) ?_)
 refine Bx' 23 (Ak x0) hs0 (fun b21 w22 hs23 => ?_)
 refine Bx' 27 (AL x1 a1_4 n1_4 a1_5 n1_5) hs23 (fun b24 w25 hs26 => ?_)
 refine Vs 2 <| Nss <| Sq (Rg (rG 10) ?_)
 refine UC (fun f w => ∃ (F1 : Mem), HS w0 F0 w F1 [(sb b24 (AL x1 a1_4 n1_4 a1_5 n1_5) 27), (sb b21 (Ak x0) 23)] /\ Uw F0 F1 /\ FI f [] [(2, (pt b21 0)), (3, (pt b24 0)), (17, (.bool ((decide ((x1.Jumps.length : Int) > 16)) || (decide ((x1.Lines.length : Int) > 400)))))]) ?_ ?_
 ·refine Vs 1 ?_
  refine Ld hs26.at0 <| Vs 3 <| UB (decide ((x1.Jumps.length : Int) > 16)) (fun hb34 => ?_) (fun hb34 => ?_)
  ·refine Ss hb34 4 ?_
   refine Pk1 hb34 ?_
   exact Us ⟨rfl, F0, hs26, (Ux _), (fJ ⟨rfl, rfl, (congrArg Value.bool (FN hb34 rfl)), trivial⟩)⟩
  ·refine Vgs hb34 1 ?_
   refine Lg hb34 hs26.at0 <| Vgs hb34 2 <| Pk0 hb34 ?_
   exact Us ⟨rfl, F0, hs26, (Ux _), (fJ ⟨rfl, rfl, (congrArg Value.bool (Ct hb34 rfl)), trivial⟩)⟩
 ·rintro f w27 ⟨F1, hs28, le29, ⟨_, rfl⟩⟩
  refine Ab <| Cd h (fun hb35 h36 => ?_) (fun hb35 h37 => ?_)
  ·cases h36
  ·refine Sc ?_
   refine Ab <| Sq <| Sq (Rg (rG 28) ?_)
   refine Vs 1 <| Ld hs28.at0 ?_
   obtain ⟨r38, hr39, h40⟩ := bind_some h37
   refine Cl' Eb hs28 (EB N w27 F1 hs28.pers (hG.mono le29) x1.Call _ hr39) ?_
   rintro _ F2 w42 hs43 le44 rfl
   refine Vs 2 <| Sp h40 (fun hb46 h47 => ?_) (fun hb46 h48 => ?_)
   ·cases h47
   ·refine Vgs hb46 1 ?_
    refine Lg hb46 hs43.at0 ?_
    obtain ⟨r49, hr50, h51⟩ := bind_some h48
    refine Cg hb46 AC hs43 (AJ N w42 F2 hs43.pers x1.Category 1 9 _ hr50) ?_
    rintro _ F3 w53 hs54 le55 rfl
    refine Vgs hb46 1 <| Pk0 hb46 <| Vs 1 <| Sp h51 (fun hb57 h58 => ?_) (fun hb57 h59 => ?_)
    ·cases h58
    ·refine Vgs hb57 1 ?_
     refine Lg hb57 hs54.at0 ?_
     obtain ⟨r60, hr61, h62⟩ := bind_some h59
     refine Cg hb57 AC hs54 (AJ N w53 F3 hs54.pers x1.Power 1 9999 _ hr61) ?_
     rintro _ F4 w64 hs65 le66 rfl
     refine Vgs hb57 1 <| Pk0 hb57 <| Vs 1 <| Sp h62 (fun hb68 h69 => ?_) (fun hb68 h70 => ?_)
     ·cases h69
     ·refine Vgs hb68 1 ?_
      refine Lg hb68 hs65.at0 ?_
      obtain ⟨r71, hr72, h73⟩ := bind_some h70
      refine Cg hb68 AC hs65 (AJ N w64 F4 hs65.pers x1.Claimed 0 1000000 _ hr72) ?_
      rintro _ F5 w75 hs76 le77 rfl
      refine Vgs hb68 1 <| Pk0 hb68 <| Vs 1 <| Sp h73 (fun hb79 h80 => ?_) (fun hb79 h81 => ?_)
      ·cases h80
      ·refine Vgs hb79 1 ?_
       refine Lg hb79 hs76.at0 ?_
       obtain ⟨r82, hr83, h84⟩ := bind_some h81
       refine Cg hb79 FA hs76 (GE N w75 F5 hs76.pers x1.Jumps a1_4 n1_4 hb1_4 (Uz hs1_4 ((((le29.t le44).trans le55).trans le66).trans le77)) _ hr83) ?_
       rintro _ F6 w86 hs87 le88 rfl
       refine Vgs hb79 1 <| Pk0 hb79 <| Nt <| Cd h84 (fun hb90 h91 => ?_) (fun hb90 h92 => ?_)
       ·cases h91
       ·refine Sc ?_
        refine Ab <| Sq <| Sq (Rg (rG 4) ?_)
        refine Vs 1 <| Ld hs87.at0 <| Vs 2 <| Nt ?_
        obtain ⟨o93, ho94, h95⟩ := bind_some h92
        refine UD (fun f w => ∃ (s106 : Int) (F8 : Mem), o93 = .done s106 /\ HS w0 F0 w F8 [] /\ Uw F6 F8 /\ FI f [] []) ?_ ?_
        ·refine Bk ?_
         refine Uv (by kernel_rfl) (fun m f w => ∃ (s96 : Int) (F7 : Mem), A0 (Im N x0 x1 r38 r49 r60 r71 r82) m s96 = some o93 /\ HS w0 F0 w F7 [(sb b24 (AL x1 a1_4 n1_4 a1_5 n1_5) 27), (sb b21 (Ak x0) 23)] /\ Uw F6 F7 /\ FI f [] [(2, (pt b21 0)), (3, (pt b24 0)), (47, (.slice a1_5 x1.Lines.length n1_5)), (48, (vi (x1.Lines.length : Int))), (49, (vi s96))]) N ⟨0, F6, ho94, hs87, (Ux _), fI⟩ ?_
         rintro m111 f w97 ⟨s96, F7, hit112, hs98, le99, ⟨_, rfl⟩⟩
         obtain ⟨m113, fl114, rfl, hb115, hnx116⟩ := AU hit112
         refine Sq (Rg [0] ?_)
         refine Vs 1 <| Nss <| Cd hb115 (fun hb117 h118 => ?_) (fun hb117 h119 => ?_)
         ·refine Sc ?_
          refine Ab <| Sq <| Bk <| Sq (Rg (rG 6) ?_)
          refine Vs 1 ?_
          obtain ⟨x120, hx121, h123⟩ := bind_some h118
          obtain ⟨hi122, hx121'⟩ := As hx121
          obtain ⟨b124, o125, C126, E127, fz128, rfl, hF130, hE131⟩ := UE (Uz hs1_5 ((((((le29.t le44).trans le55).trans le66).trans le77).trans le88).trans le99)) hx121'
          have hc133 := hE131 _ _ hx121'
          refine Ix hi122 <| Lx 0 (hs98.pers _ _ hF130) hc133 <| Al' 34 #[(vi 0), (vi 0), (vi 0), (vi 0), (sv (([] : UQ))), (vi 0), (vi 0), (vi 0), (vi 0), (vi 0), (vi 0)] hs98 (fun b134 w135 hs136 => ?_)
          refine Vs 1 <| St0 (B6 x120) hs136 (fun w137 hs138 => ?_)
          refine Nss ?_
          obtain ⟨j144, hj153, h154⟩ := bind_some h123
          refine RD 32 32 [(sb b134 (B6 x120) 34), (sb b24 (AL x1 a1_4 n1_4 (some ⟨b124, o125, none⟩) n1_5) 27), (sb b21 (Ak x0) 23)] [] hs138 (fun f w => ∃ (F9 : Mem), HS w0 F0 w F9 [(sb b24 (AL x1 a1_4 n1_4 (some ⟨b124, o125, none⟩) n1_5) 27), (sb b21 (Ak x0) 23)] /\ Uw F7 F9 /\ FI f [] [(2, (pt b21 0)), (3, (pt b24 0)), (6, (vi s96)), (47, (.slice (some ⟨b124, o125, none⟩) x1.Lines.length n1_5)), (48, (vi (x1.Lines.length : Int))), (49, (vi s96)), (85, (.bool false))]) (fun wd139 hw140 => ?_) ?_
          ·refine Dl 0 (fun _ hq => (hq.1.2 2 _ _ rfl)) ?_
           refine Dl 1 (fun _ hq => (hq.1.2 0 _ _ rfl)) <| D1 2 ?_
           obtain ⟨r155, hr156, h157⟩ := bind_some hj153
           refine DCl Fq hw140 (Gf N wd139 F7 hw140.pers (({ Report := x0.Report, Serial := x0.Serial, Zone := x0.Zone } : Ac)) x120 _ hr156) ?_
           rintro _ F10 w159 hs160 le161 rfl
           refine Dvl [3, 4] (tf 5 27) <| Sd h157 (fun hb163 h164 => ?_) (fun hb163 h165 => ?_)
           ·cases h164
           ·refine Dgl 5 59 3 _ (tf 6 26) 4 false 58 hb163 (fun _ hq => mv 6 (vi s96)) ?_
            refine Dgl 6 60 4 (.bool (decide (s96 > 0))) (tf 7 25) 4 false 58 hb163 (fun _ hq => Nq (t := 3) (t' := 3) (x := (.tmp 59)) (y := (.const (vi 0))) (k := .i64) (a := s96) (b := 0) rfl rfl) <| Dgl 7 61 4 _ (tf 8 24) 4 false 58 hb163 (fun _ hq => mv 60 (.bool (decide (s96 > 0)))) <| Sd h165 (fun hb166 h167 => ?_) (fun hb166 h168 => ?_)
            ·cases h167
            ·refine Dkl [(8, 62), (9, 63), (10, 64), (11, 65), (12, 66), (13, 67)] 7 true 61 hb166 (tf 14 18) ?_
             refine Dkl [(14, 68), (15, 69), (16, 70), (17, 71), (18, 72)] 7 true 61 hb166 (tf 19 13) <| Dul [(19, 73), (20, 74), (21, 75), (22, 76), (23, 77), (24, 78)] 18 false 72 (tf 25 7) <| Dul [(25, 79), (26, 80), (27, 81), (28, 82)] 18 false 72 (tf 29 3) <| Dkl [(29, 83)] 7 true 61 hb166 (tf 30 2) <| Dgl 30 84 4 _ (tf 31 1) 4 false 58 hb163 (fun _ hq => p0 61 (.tmp 83) (.const (.bool false)) (.bool false) hb166) <| Dtl 31 85 4 _ (tf 32 0) (fun _ hq => p0 58 (.const (.bool true)) (.tmp 84) (.bool false) hb163) ?_
             obtain rfl := Aa h168
             exact UJ (by kernel_rfl) ⟨F10, hs160.dr0, le161, fI⟩
          ·rintro f w141 ⟨F9, hs142, le143, ⟨_, rfl⟩⟩
           refine Ab <| C0 (rfl : false = false) <| Sc <| Av <| Ab <| Rg [0, 1] <| Vs 2 <| Us ?_
           have hn169 := AV h154 hnx116
           exact ⟨m113, Nat.lt_succ_self _, (W64 (s96 + 1)), F9, hn169, hs142, (le99.t le143), fI⟩
         ·refine Ex ?_
          refine Au <| Au <| AA rfl ?_
          have ho170 := AW h119 hnx116
          exact .inl ⟨rfl, s96, F7, ho170, hs98.dr0.dr0, le99, fI⟩
        ·rintro f w107 ⟨s106, F8, rfl, hs108, le109, ⟨_, rfl⟩⟩
         have h171 := BL h95
         refine Ab <| Sq (Rg [0, 1] ?_)
         refine Vs 2 <| Nt <| Rt ?_
         obtain rfl := Aa h171
         exact Re [(vi 0), (vi 0)] hs108 rfl



def Ik (N : Nat) (x0 : Ac) (x1 : Log) : Option Bool :=
 ((Gv N ({ Report := x0.Report, Serial := x0.Serial, Zone := x0.Zone } : Ac) x1).bind fun r27 => some (r27.1 == 0))
theorem Kl : Ag Tryz.prog 25 := fun _ _ => by kernel_rfl
theorem K6 (N : Nat) (w0 : World) (F0 : Mem) (hF : US w0 F0) (hG : Br F0) (x0 : Ac) (x1 : Log) (a1_4 : UR) (n1_4 : Nat) (hb1_4 : LC x1.Jumps.length n1_4) (hs1_4 : SlA AQ F0 a1_4 x1.Jumps) (a1_5 : UR) (n1_5 : Nat) (hb1_5 : LC x1.Lines.length n1_5) (hs1_5 : SlA AK F0 a1_5 x1.Lines) (r : Bool) (h : Ik N x0 x1 = some r) :
  Calls Tryz.prog 25 ([(.agg (Ak x0)), (.agg (AL x1 a1_4 n1_4 a1_5 n1_5))] : List Value).toArray w0 (AB w0 F0 fun F' v => v = (.bool r)) := by
 have hs0 := Uy hF
 refine Go 15 Tryz.func25 <| Sq (Rg [0, 1, 2] ?_)
 refine Bx' 23 (Ak x0) hs0 (fun b21 w22 hs23 => ?_)
 refine Bx' 27 (AL x1 a1_4 n1_4 a1_5 n1_5) hs23 (fun b24 w25 hs26 => ?_)
 refine Vs 1 <| Nss (Rg (rG 8) ?_)
 refine Ld hs26.at1 <| Ld hs26.at0 ?_
 obtain ⟨r27, hr28, h29⟩ := bind_some h
 refine Cl' FC hs26 (GF N w25 F0 hs26.pers hG (({ Report := x0.Report, Serial := x0.Serial, Zone := x0.Zone } : Ac)) x1 a1_4 n1_4 hb1_4 hs1_4 a1_5 n1_5 hb1_5 hs1_5 _ hr28) ?_
 rintro _ F1 w31 hs32 le33 rfl
 refine Vs 5 <| Nss (Rg [0, 1, 2] ?_)
 refine Vs 3 <| Nt <| Rt ?_
 obtain rfl := Aa h29
 exact Re [(.bool (r27.1 == 0))] hs32 rfl



section
open Go.Lib (decDigits)
theorem Lk {ρ σ : Type} {body : σ -> Option (BD ρ σ)} (st : Nat -> σ) {o : BD ρ σ} (k : Nat) (hb : ∀ i, i < k -> body (st i) = some (.next (st (i + 1)))) (he : body (st k) = some o) (ho : ∀ s', o ≠ .next s') {N : Nat} (hN : k < N) : A0 body N (st 0) = some o := by
 have key : ∀ j i M, i + j = k -> j < M -> A0 body M (st i) = some o := by
  intro j
  induction j with
  | zero =>
   intro i M hi hM
   obtain ⟨m, rfl⟩ : ∃ m, M = m + 1 := ⟨M - 1, by omega⟩
   rw [Nat.add_zero] at hi
   subst hi
   rw [A0, he]
   cases o with
   | next s => exact absurd rfl (ho s)
   | done s => rfl
   | ret r => rfl
  | succ j ih =>
   intro i M hi hM
   obtain ⟨m, rfl⟩ : ∃ m, M = m + 1 := ⟨M - 1, by omega⟩
   rw [A0, hb i (by omega)]
   exact ih (i + 1) m (by omega) (by omega)
 exact key k 0 N (by omega) hN
section
variable {N : Nat}
theorem lw (a b c : Int) : AP N a b c = some (decide (b <= a) && decide (a <= c)) := rfl
theorem RP (b : UInt8) : W64 (b.toNat : Int) = (b.toNat : Int) := by
 have := b.toNat_lt
 exact E6 (by omega) (by omega)
theorem SO (b : UInt8) : QA b = ((decide (65 <= (b.toNat : Int)) && decide ((b.toNat : Int) <= 90)) || ((decide (48 <= (b.toNat : Int)) && decide ((b.toNat : Int) <= 57)) || ((b.toNat : Int) == 47))) := by
 have e1 : isL b = (decide (65 <= (b.toNat : Int)) && decide ((b.toNat : Int) <= 90)) := by
  unfold isL; congr 1 <;> (rw [decide_eq_decide]; omega)
 have e2 : isD b = (decide (48 <= (b.toNat : Int)) && decide ((b.toNat : Int) <= 57)) := by
  unfold isD; congr 1 <;> (rw [decide_eq_decide]; omega)
 have e3 : (b == 47) = ((b.toNat : Int) == 47) := by
  rw [Bool.eq_iff_iff, beq_iff_eq, beq_iff_eq]
  constructor
  ·rintro rfl; rfl
  ·intro h
   have : b.toNat = 47 := by omega
   exact UInt8.toNat_inj.1 this
 unfold QA
 rw [e1, e2, e3, Bool.or_assoc]
theorem Sz (s : UQ) (hs : s.length < 4000000000) (hN : 4294967300 < N) : Gu N s = some (Hn s) := by
 unfold Gu
 rw [lw, Option.bind_some, show (decide ((1 : Int) <= (s.length : Int)) && decide ((s.length : Int) <= (16 : Int))) = wiB s.length 1 16 from Gi _ 1 16]
 have h := Lk (body := Dz N s (wiB s.length 1 16)) (fun i => (wiB s.length 1 16 && (s.take i).all QA, (i : Int))) (o := .done (Hn s, (s.length : Int))) s.length (fun i hi => by
  unfold Dz
  simp only
  rw [Gs hi, cond_true, N9 hi, Option.bind_some, I2 i (by omega), RP, List.take_add_one, List.getElem?_eq_getElem hi, List.all_append]
  simp only [Option.toList_some, List.all_cons, List.all_nil, Bool.and_true]
  rw [SO s[i], <- Bool.and_assoc]
  cases wiB s.length 1 16 && (s.take i).all QA with
  | false => rfl
  | true =>
   rw [cond_true, lw, Option.bind_some, lw]
   cases (decide (65 <= (s[i].toNat : Int)) && decide ((s[i].toNat : Int) <= 90)) with
   | true => rfl
   | false =>
    rw [cond_false, Option.bind_some]
    cases (decide (48 <= (s[i].toNat : Int)) && decide ((s[i].toNat : Int) <= 57)) with
    | true => rfl
    | false => rfl) (by
  unfold Dz
  simp only
  rw [EK, cond_false, List.take_length]
  rfl) (fun s' h => by cases h) (N := N) (by omega)
 rw [show (wiB s.length 1 16, (0 : Int)) = (wiB s.length 1 16 && (s.take 0).all QA, ((0 : Nat) : Int)) by simp, h]
 rfl
def Tz (x : Line) : Prop := x.Call.length < 4000000000
theorem S7 (o : Ac) (x : Line) : Dj o x = ((decide (1 <= x.Num) && decide (x.Num <= 65535)) && ((decide (1 <= x.Khz) && decide (x.Khz <= 10000000)) && ((decide (1 <= x.Mode) && decide (x.Mode <= 3)) && ((decide (0 <= x.Minute) && decide (x.Minute <= 20000)) && (Hn x.Call && (CG o x.Sent && CG o x.Got)))))) := by
 unfold Dj
 simp only [Bool.decide_and]
theorem SE (o : Ac) (x : Line) (hx : Tz x) (hN : 4294967300 < N) : Cf N o x = some (Dj o x) := by
 unfold Cf
 rw [S7, lw, lw, lw, lw, Sz x.Call hx hN]
 simp only [Option.bind_some]
 rw [LF _ _ hN, LF _ _ hN]
 simp only [Option.bind_some]
 show _ = some _
 generalize (decide (1 <= x.Num) && decide (x.Num <= 65535)) = a
 generalize (decide (1 <= x.Khz) && decide (x.Khz <= 10000000)) = b
 generalize (decide (1 <= x.Mode) && decide (x.Mode <= 3)) = c
 generalize (decide (0 <= x.Minute) && decide (x.Minute <= 20000)) = d
 generalize Hn x.Call = e
 cases a <;> cases b <;> cases c <;> cases d <;> cases e <;> first | rfl | (simp only [cond_true, cond_false, Bool.true_and]; cases CG o x.Sent <;> rfl)
def okJ (l : List Int) (i : Nat) : Bool := match l[i]? with
 | some x => decide (1 <= x /\ x <= 20000) && (decide (i = 0) || match l[i - 1]? with
  | some y => decide (y < x)
  | none => true)
 | none => true
theorem RO {n : Nat} {ok : Nat -> Bool} : JI n ok = true ↔ ∀ i, i < n -> ok i = true := ⟨fun h _ hi => RN h hi, P4⟩
theorem Tq : ∀ (l : List Int), Qt l = true ↔ ∀ i, i < l.length -> (i = 0 \/ ∃ x y, l[i]? = some x /\ l[i - 1]? = some y /\ y < x) := by
 intro l
 induction l with
 | nil => simp [Qt]
 | cons a r ih =>
  cases r with
  | nil =>
   simp only [Qt, true_iff]
   intro i hi
   exact .inl (by simpa using hi)
  | cons b r =>
   rw [Qt, Bool.and_eq_true, ih, decide_eq_true_eq]
   constructor
   ·rintro ⟨h1, h2⟩ i hi
    match i with
    | 0 => exact .inl rfl
    | 1 => exact .inr ⟨b, a, rfl, rfl, h1⟩
    | i + 2 =>
     rcases h2 (i + 1) (by simpa using hi) with h | ⟨x, y, e1, e2, h⟩
     ·omega
     ·exact .inr ⟨x, y, e1, e2, h⟩
   ·intro h
    refine ⟨?_, fun i hi => ?_⟩
    ·rcases h 1 (by simp) with h | ⟨x, y, e1, e2, h⟩
     ·omega
     ·cases e1; cases e2; exact h
    ·match i with
     | 0 => exact .inl rfl
     | i + 1 =>
      rcases h (i + 2) (by simpa using hi) with h | ⟨x, y, e1, e2, h⟩
      ·omega
      ·exact .inr ⟨x, y, e1, e2, h⟩
theorem Tn (l : List Int) : KV l = (JI l.length (okJ l) && decide (l.length <= 16)) := by
 unfold KV
 rw [<- Bool.and_assoc]
 congr 1
 rw [Bool.eq_iff_iff, Bool.and_eq_true, Tq, RO, List.all_eq_true]
 constructor
 ·rintro ⟨h1, h2⟩ i hi
  unfold okJ
  rw [List.getElem?_eq_getElem hi]
  have := h1 l[i] (List.getElem_mem hi)
  simp only [this, Bool.true_and]
  rcases h2 i hi with h | ⟨x, y, e1, e2, h⟩
  ·rw [decide_eq_true h]; rfl
  ·rw [List.getElem?_eq_getElem hi] at e1
   cases e1
   rw [e2]
   simp [h]
 ·intro h
  refine ⟨fun x hx => ?_, fun i hi => ?_⟩
  ·obtain ⟨i, hi, rfl⟩ := List.mem_iff_getElem.1 hx
   have := h i hi
   unfold okJ at this
   rw [List.getElem?_eq_getElem hi] at this
   simp only [Bool.and_eq_true] at this
   exact this.1
  ·by_cases h0 : i = 0
   ·exact .inl h0
   ·have := h i hi
    unfold okJ at this
    rw [List.getElem?_eq_getElem hi] at this
    have hi1 : i - 1 < l.length := by omega
    rw [List.getElem?_eq_getElem hi1] at this
    simp only [Bool.and_eq_true, decide_eq_false h0, Bool.false_or, decide_eq_true_eq] at this
    exact .inr ⟨l[i], l[i - 1], List.getElem?_eq_getElem hi, List.getElem?_eq_getElem hi1, this.2⟩
theorem PU (l : List Int) (hl : l.length < 4000000000) (hN : 4294967300 < N) : CU N l = some (KV l) := by
 rw [Tn]
 unfold CU
 rw [Ox (n := l.length) (okJ l) false (fun i hi => by
  unfold Ef
  rw [Gs hi, cond_true, Fo hi, Option.bind_some, lw, Option.bind_some, I2 i (by omega)]
  unfold okJ
  rw [List.getElem?_eq_getElem hi]
  simp only [Bool.decide_and]
  cases (decide (1 <= l[i]) && decide (l[i] <= 20000)) with
  | false => rfl
  | true =>
   rw [Bool.not_true, cond_false, Bool.true_and]
   by_cases h0 : i = 0
   ·subst h0; rfl
   ·have hi1 : i - 1 < l.length := by omega
    rw [decide_eq_true (show (i : Int) > 0 by omega), cond_true, TO i (by omega) (by omega), Fo hi1, Option.bind_some, List.getElem?_eq_getElem hi1, decide_eq_false h0, Bool.false_or]
    simp only
    rw [show decide (l[i] <= l[i - 1]) = !decide (l[i - 1] < l[i]) by rw [<- decide_not, decide_eq_decide]; omega]
    cases decide (l[i - 1] < l[i]) <;> rfl) (by
  unfold Ef
  rw [EK, cond_false]) (by omega)]
 cases JI l.length (okJ l) with
 | false => rfl
 | true => 
  rw [cond_true, Bool.true_and]
  congr 1
  rw [decide_eq_decide]; omega
end
end
def Jg (N : Nat) (x0 : Log) : Option UQ :=
 ((CQ ([67, 65, 76, 76, 32] : UQ) x0.Call).bind fun r24 => some r24)
theorem K2 : Ag Tryz.prog 154 := fun _ _ => by kernel_rfl
theorem Mn (N : Nat) (w0 : World) (F0 : Mem) (hF : US w0 F0) (x0 : Log) (a0_4 : UR) (n0_4 : Nat) (hb0_4 : LC x0.Jumps.length n0_4) (hs0_4 : SlA AQ F0 a0_4 x0.Jumps) (a0_5 : UR) (n0_5 : Nat) (hb0_5 : LC x0.Lines.length n0_5) (hs0_5 : SlA AK F0 a0_5 x0.Lines) (r : UQ) (h : Jg N x0 = some r) :
  Calls Tryz.prog 154 ([(.agg (AL x0 a0_4 n0_4 a0_5 n0_5))] : List Value).toArray w0 (AB w0 F0 fun F' v => v = (sv r)) := by
 have hs0 := Uy hF
 refine Go 6 Tryz.func154 <| Sq (Rg [0, 1] ?_)
 refine Bx' 27 (AL x0 a0_4 n0_4 a0_5 n0_5) hs0 (fun b21 w22 hs23 => ?_)
 refine Vs 1 <| Nss (Rg (rG 4) ?_)
 refine Vs 1 <| Ld hs23.at0 ?_
 obtain ⟨r24, hr25, h26⟩ := bind_some h
 refine V 5 9 (AO (t := 9) (t' := 9) (x := (.const (sv ([67, 65, 76, 76, 32] : UQ)))) (y := (.tmp 4)) (a := ([67, 65, 76, 76, 32] : UQ)) (b := x0.Call) (v := r24) rfl rfl hr25) <| Vs 1 <| Nt <| Rt ?_
 obtain rfl := Aa h26
 exact Re [(sv r24)] hs23 rfl
def EV (N : Nat) (x0 : Log) : (UQ × Int) -> Option (BD UQ (UQ × Int)) := fun s27 =>
 (bif (decide (s27.2 < (x0.Jumps.length : Int))) then ((idx x0.Jumps s27.2).bind fun x51 => ((strconv_Itoa N x51).bind fun r65 => ((CQ ([32] : UQ) r65).bind fun r73 => ((CQ s27.1 r73).bind fun r76 => some (.next (r76, (W64 (s27.2 + 1)))))))) else some (.done (s27.1, s27.2)))
def GM (N : Nat) (x0 : Log) : Option UQ :=
 ((A0 (EV N x0) N (([74, 85, 77, 80, 83] : UQ), 0)).bind fun o => o.k (fun r => some r) (fun s36 => some s36.1))
theorem IJ : Ag Tryz.prog 160 := fun _ _ => by kernel_rfl
theorem JA (N : Nat) (w0 : World) (F0 : Mem) (hF : US w0 F0) (hG : Br F0) (x0 : Log) (a0_4 : UR) (n0_4 : Nat) (hb0_4 : LC x0.Jumps.length n0_4) (hs0_4 : SlA AQ F0 a0_4 x0.Jumps) (a0_5 : UR) (n0_5 : Nat) (hb0_5 : LC x0.Lines.length n0_5) (hs0_5 : SlA AK F0 a0_5 x0.Lines) (r : UQ) (h : GM N x0 = some r) :
  Calls Tryz.prog 160 ([(.agg (AL x0 a0_4 n0_4 a0_5 n0_5))] : List Value).toArray w0 (AB w0 F0 fun F' v => v = (sv r)) := by
 have hs0 := Uy hF
 refine Go 20 Tryz.func160 <| Sq (Rg [0, 1] ?_)
 refine Bx' 27 (AL x0 a0_4 n0_4 a0_5 n0_5) hs0 (fun b21 w22 hs23 => ?_)
 refine Vs 1 <| Nss (Rg [0] ?_)
 refine Vs 1 <| Nss <| Sq (Rg (rG 4) ?_)
 refine Vs 1 <| Ld hs23.at0 <| Vs 2 <| Nt ?_
 obtain ⟨o24, ho25, h26⟩ := bind_some h
 refine UD (fun f w => ∃ (s36 : (UQ × Int)) (F2 : Mem), o24 = .done s36 /\ HS w0 F0 w F2 [] /\ Uw F0 F2 /\ FI f [] [(3, (sv s36.1))]) ?_ ?_
 ·refine Bk ?_
  refine Uv (by kernel_rfl) (fun m f w => ∃ (s27 : (UQ × Int)) (F1 : Mem), A0 (EV N x0) m s27 = some o24 /\ HS w0 F0 w F1 [] /\ Uw F0 F1 /\ FI f [] [(3, (sv s27.1)), (7, (.slice a0_4 x0.Jumps.length n0_4)), (8, (vi (x0.Jumps.length : Int))), (9, (vi s27.2))]) N ⟨(([74, 85, 77, 80, 83] : UQ), 0), F0, ho25, hs23.dr0, (Ux _), fI⟩ ?_
  rintro m42 f w28 ⟨s27, F1, hit43, hs29, le30, ⟨_, rfl⟩⟩
  obtain ⟨m44, fl45, rfl, hb46, hnx47⟩ := AU hit43
  refine Sq (Rg [0] ?_)
  refine Vs 1 <| Nss <| Cd hb46 (fun hb48 h49 => ?_) (fun hb48 h50 => ?_)
  ·refine Sc ?_
   refine Ab <| Sq <| Bk <| Sq (Rg [0, 1, 2] ?_)
   obtain ⟨x51, hx52, h54⟩ := bind_some h49
   obtain ⟨hi53, hx52'⟩ := As hx52
   obtain ⟨b55, o56, C57, E58, fz59, rfl, hF61, hE62⟩ := UE (Uz hs0_4 le30) hx52'
   have hc64 := hE62 _ _ hx52'
   refine Ix hi53 <| Lx 0 (hs29.pers _ _ hF61) hc64 <| Vs 1 <| Nt <| Rg (rG 6) <| Vs 2 ?_
   obtain ⟨r65, hr66, h67⟩ := bind_some h54
   refine Cl' Bm hs29 (Bv N w28 F1 hs29.pers (hG.mono le30) x51 _ hr66) ?_
   rintro _ F3 w69 hs70 le71 rfl
   obtain ⟨r73, hr74, h75⟩ := bind_some h67
   refine V 16 9 (AO (t := 9) (t' := 9) (x := (.const (sv ([32] : UQ)))) (y := (.tmp 15)) (a := ([32] : UQ)) (b := r65) (v := r73) rfl rfl hr74) ?_
   obtain ⟨r76, hr77, h78⟩ := bind_some h75
   refine V 17 9 (AO (t := 9) (t' := 9) (x := (.tmp 13)) (y := (.tmp 16)) (a := s27.1) (b := r73) (v := r76) rfl rfl hr77) <| Vs 1 <| Us <| Av <| Ab <| Rg [0, 1] <| Vs 2 <| Us ?_
   have hn79 := AV h78 hnx47
   exact ⟨m44, Nat.lt_succ_self _, (r76, (W64 (s27.2 + 1))), F3, hn79, hs70, (le30.t le71), fI⟩
  ·refine Ex ?_
   refine Au <| Au <| AA rfl ?_
   have ho80 := AW h50 hnx47
   exact .inl ⟨rfl, (s27.1, s27.2), F1, ho80, hs29, le30, fI⟩
 ·rintro f w37 ⟨s36, F2, rfl, hs38, le39, ⟨_, rfl⟩⟩
  have h81 := BL h26
  refine Ab <| Sq (Rg [0, 1] ?_)
  refine Vs 2 <| Nt <| Rt ?_
  obtain rfl := Aa h81
  exact Re [(sv s36.1)] hs38 rfl
def CV (N : Nat) (x0 : Ac) (x1 : Line) : Option (UQ × Int) :=
 ((Cf N ({ Report := x0.Report, Serial := x0.Serial, Zone := x0.Zone } : Ac) x1).bind fun r27 => (bif (!r27) then some (([] : UQ), 1) else ((Cb N x1.Minute).bind fun r38 => ((A7 N ({ Report := x0.Report, Serial := x0.Serial, Zone := x0.Zone } : Ac) ({ Report := x1.Sent.Report, Serial := x1.Sent.Serial, Zone := x1.Sent.Zone } : Ad)).bind fun r46 => ((A7 N ({ Report := x0.Report, Serial := x0.Serial, Zone := x0.Zone } : Ac) ({ Report := x1.Got.Report, Serial := x1.Got.Serial, Zone := x1.Got.Zone } : Ad)).bind fun r54 => (((JK ([32, 77, 86, 68] : UQ) x1.Mode (W64 (x1.Mode + 1))).bind fun r73 => ((strconv_Itoa N x1.Num).bind fun r76 => ((strconv_Itoa N x1.Khz).bind fun r84 => ((strings_Join N ([([81, 83, 79] : UQ), r76, r84, r73, r38.1, x1.Call, ([62] : UQ), r46.1, ([60] : UQ), r54.1]) ([32] : UQ)).bind fun r101 => some r101)))).bind fun j67 => some (j67, 0)))))))
theorem Ft : Ag Tryz.prog 27 := fun _ _ => by kernel_rfl
theorem Gg (N : Nat) (w0 : World) (F0 : Mem) (hF : US w0 F0) (hG : Br F0) (x0 : Ac) (x1 : Line) (r : (UQ × Int)) (h : CV N x0 x1 = some r) :
  Calls Tryz.prog 27 ([(.agg (Ak x0)), (.agg (B6 x1))] : List Value).toArray w0 (AB w0 F0 fun F' v => v = (.tuple #[(sv r.1), (vi r.2)])) := by
 have hs0 := Uy hF
 refine Go 55 Tryz.func27 <| Sq (Rg (rG 4) ?_)
 refine Bx' 23 (Ak x0) hs0 (fun b21 w22 hs23 => ?_)
 refine Bx' 34 (B6 x1) hs23 (fun b24 w25 hs26 => ?_)
 refine Vs 2 <| Nss <| Sq (Rg (rG 4) ?_)
 refine Ld hs26.at1 <| Ld hs26.at0 ?_
 obtain ⟨r27, hr28, h29⟩ := bind_some h
 refine Cl' Fq hs26 (Gf N w25 F0 hs26.pers (({ Report := x0.Report, Serial := x0.Serial, Zone := x0.Zone } : Ac)) x1 _ hr28) ?_
 rintro _ F1 w31 hs32 le33 rfl
 refine Vs 1 <| Nt <| Cd h29 (fun hb35 h36 => ?_) (fun hb35 h37 => ?_)
 ·refine Sq (Rg [0, 1] ?_)
  refine Vs 2 <| Nt <| Rt <| Aj ?_
  obtain rfl := Aa h36
  exact Re [(sv (([] : UQ))), (vi 1)] hs32 rfl
 ·refine Sc ?_
  refine Ab <| Sq (Rg (rG 8) ?_)
  refine Vs 1 <| Ld hs32.at0 ?_
  obtain ⟨r38, hr39, h40⟩ := bind_some h37
  refine Cl' Gb hs32 (GU N w31 F1 hs32.pers (hG.mono le33) x1.Minute _ hr39) ?_
  rintro _ F2 w42 hs43 le44 rfl
  refine Vs 5 <| Nss (Rg (rG 9) ?_)
  refine Ld hs43.at1 <| Vs 1 <| Ld hs43.at0 ?_
  obtain ⟨r46, hr47, h48⟩ := bind_some h40
  refine Cl' CZ hs43 (Dq N w42 F2 hs43.pers (hG.mono (le33.t le44)) (({ Report := x0.Report, Serial := x0.Serial, Zone := x0.Zone } : Ac)) (({ Report := x1.Sent.Report, Serial := x1.Sent.Serial, Zone := x1.Sent.Zone } : Ad)) _ hr47) ?_
  rintro _ F3 w50 hs51 le52 rfl
  refine Vs 5 <| Nss (Rg (rG 9) ?_)
  refine Ld hs51.at1 <| Vs 1 <| Ld hs51.at0 ?_
  obtain ⟨r54, hr55, h56⟩ := bind_some h48
  refine Cl' CZ hs51 (Dq N w50 F3 hs51.pers (hG.mono ((le33.t le44).trans le52)) (({ Report := x0.Report, Serial := x0.Serial, Zone := x0.Zone } : Ac)) (({ Report := x1.Got.Report, Serial := x1.Got.Serial, Zone := x1.Got.Zone } : Ad)) _ hr55) ?_
  rintro _ F4 w58 hs59 le60 rfl
  refine Vs 5 <| Nss ?_
  obtain ⟨j67, hj71, h72⟩ := bind_some h56
  refine RD 21 21 [(sb b24 (B6 x1) 34), (sb b21 (Ak x0) 23)] [] hs59 (fun f w => ∃ (F5 : Mem), HS w0 F0 w F5 [] /\ Uw F4 F5 /\ FI f [] [(4, (sv j67)), (5, (vi 0))]) (fun wd62 hw63 => ?_) ?_
  ·refine Dvl [0] (tf 1 20) ?_
   refine Dl 1 (fun _ hq => (hq.1.2 0 _ _ rfl)) <| Dvl [3] [tt, tt, ff, tt, ff, ff, ff, ff, ff, ff, ff, ff, ff, ff, ff, ff, ff, ff, ff, ff, ff] <| Dl 4 (fun _ hq => (hq.1.2 0 _ _ rfl)) <| Dvl [6] [tt, tt, ff, tt, tt, ff, tt, ff, ff, ff, ff, ff, ff, ff, ff, ff, ff, ff, ff, ff, ff] <| Dl 7 (fun _ hq => (hq.1.2 0 _ _ rfl)) <| Dvl [8] [tt, tt, ff, tt, tt, ff, tt, tt, tt, ff, ff, ff, ff, ff, ff, ff, ff, ff, ff, ff, ff] <| Dl 9 (fun _ hq => (hq.1.2 0 _ _ rfl)) <| Dvl [10] [tt, tt, ff, tt, tt, ff, tt, tt, tt, tt, tt, ff, ff, ff, ff, ff, ff, ff, ff, ff, ff] ?_
   obtain ⟨r73, hr74, h75⟩ := bind_some hj71
   refine Dtl 11 47 9 (sv r73) [tt, tt, ff, tt, tt, ff, tt, tt, tt, tt, tt, tt, ff, ff, ff, ff, ff, ff, ff, ff, ff] (fun _ hq => FH (t := 9) (x := (.const (sv ([32, 77, 86, 68] : UQ)))) (lo := (some (.tmp 43))) (hi := (some (.tmp 46))) (a := ([32, 77, 86, 68] : UQ)) (il := x1.Mode) (ih := (W64 (x1.Mode + 1))) (v := r73) rfl (by kernel_rfl) rfl rfl hr74) <| Dvl [12, 13] [tt, tt, ff, tt, tt, ff, tt, tt, tt, tt, tt, tt, tt, tt, ff, ff, ff, ff, ff, ff, ff] <| Dl 14 (fun _ hq => (hq.1.2 0 _ _ rfl)) <| Dvl [15, 16] [tt, tt, ff, tt, tt, ff, tt, tt, tt, tt, tt, tt, tt, tt, tt, tt, tt, ff, ff, ff, ff] <| D1 2 ?_
   obtain ⟨r76, hr77, h78⟩ := bind_some h75
   refine DCl Bm hw63 (Bv N wd62 F4 hw63.pers (hG.mono (((le33.t le44).trans le52).trans le60)) x1.Num _ hr77) ?_
   rintro _ F6 w80 hs81 le82 rfl
   refine D1 5 ?_
   obtain ⟨r84, hr85, h86⟩ := bind_some h78
   refine DCl Bm hs81 (Bv N w80 F6 hs81.pers (hG.mono ((((le33.t le44).trans le52).trans le60).trans le82)) x1.Khz _ hr85) ?_
   rintro _ F7 w88 hs89 le90 rfl
   refine D1 17 <| DBs 9 [(sv (([81, 83, 79] : UQ))), (sv r76), (sv r84), (sv r73), (sv r38.1), (sv x1.Call), (sv (([62] : UQ))), (sv r46.1), (sv (([60] : UQ))), (sv r54.1)] hs89 (le82.t le90) (fun b92 w93 hs94 => ?_)
   have hr96 : Ap AF 9 F7 (some ⟨b92, 0, none⟩) 10 [([81, 83, 79] : UQ), r76, r84, r73, r38.1, x1.Call, ([62] : UQ), r46.1, ([60] : UQ), r54.1] (some b92, .cells ([(sv (([81, 83, 79] : UQ))), (sv r76), (sv r84), (sv r73), (sv r38.1), (sv x1.Call), (sv (([62] : UQ))), (sv r46.1), (sv (([60] : UQ))), (sv r54.1)] : List Value).toArray 9 (0, 0)) := UM ⟨rfl, ⟨rfl, ⟨rfl, ⟨rfl, ⟨rfl, ⟨rfl, ⟨rfl, ⟨rfl, ⟨rfl, ⟨rfl, rfl⟩⟩⟩⟩⟩⟩⟩⟩⟩⟩ (by simp)
   refine D1 18 ?_
   have hb100 := UK hr96
   obtain ⟨F8, hs97, le98, hs99⟩ := hs94.fr0 hr96
   obtain ⟨r101, hr102, h103⟩ := bind_some h86
   refine DCl BZ hs97 (Ck N w93 F8 hs97.pers ([([81, 83, 79] : UQ), r76, r84, r73, r38.1, x1.Call, ([62] : UQ), r46.1, ([60] : UQ), r54.1]) (some ⟨b92, 0, none⟩) 10 hb100 hs99 (([32] : UQ)) _ hr102) ?_
   rintro _ F9 w105 hs106 le107 rfl
   refine Dvl [19, 20] (tf 21 0) ?_
   obtain rfl := Aa h103
   exact UJ (by kernel_rfl) ⟨F9, hs106.dr0.dr0, (((le82.t le90).trans le98).trans le107), fI⟩
  ·rintro f w64 ⟨F5, hs65, le66, ⟨_, rfl⟩⟩
   refine Ab <| Rt ?_
   obtain rfl := Aa h72
   exact Re [(sv j67), (vi 0)] hs65 rfl
theorem Kj : Ag Tryz.prog 156 := fun _ _ => by kernel_rfl
set_option maxRecDepth 100000 in
theorem Mm (w0 : World) (F0 : Mem) (hF : US w0 F0) (b o : Nat) : Calls Tryz.prog 156 ([(.pointer (some ⟨b, o, none⟩))] : List Value).toArray w0 (AB w0 F0 fun _ v => v = .pointer (some ⟨b, o + 1, none⟩)) := by
 have hs0 := Uy hF
 refine Go 6 Tryz.func156 <| Sq <| Rg [0] <| V 2 194 (Gl (x := .const (.pointer none)) (v := .pointer none) rfl) <| Us <| Ab <| Sq <| Rg [0, 1, 2, 3] <| Vs 2 <| V 5 0 (CE (s := 27) (x := .tmp 4) (i := 1) (b := b) (o0 := o) (o := 1) (k := 1) rfl (by kernel_rfl) (by decide) rfl) <| Vs 1 <| Us <| Ab <| Rt ?_
 exact Re [(.pointer (some ⟨b, o + 1, none⟩))] hs0 rfl
theorem Ki : Ag Tryz.prog 157 := fun _ _ => by kernel_rfl
set_option maxRecDepth 100000 in
theorem Ml (w0 : World) (F0 : Mem) (hF : US w0 F0) (b o : Nat) : Calls Tryz.prog 157 ([(.pointer (some ⟨b, o, none⟩))] : List Value).toArray w0 (AB w0 F0 fun _ v => v = .pointer (some ⟨b, o + 2, none⟩)) := by
 have hs0 := Uy hF
 refine Go 6 Tryz.func157 <| Sq <| Rg [0] <| V 2 194 (Gl (x := .const (.pointer none)) (v := .pointer none) rfl) <| Us <| Ab <| Sq <| Rg [0, 1, 2, 3] <| Vs 2 <| V 5 0 (CE (s := 27) (x := .tmp 4) (i := 2) (b := b) (o0 := o) (o := 2) (k := 1) rfl (by kernel_rfl) (by decide) rfl) <| Vs 1 <| Us <| Ab <| Rt ?_
 exact Re [(.pointer (some ⟨b, o + 2, none⟩))] hs0 rfl
theorem Kh : Ag Tryz.prog 158 := fun _ _ => by kernel_rfl
set_option maxRecDepth 100000 in
theorem Mk (w0 : World) (F0 : Mem) (hF : US w0 F0) (b o : Nat) : Calls Tryz.prog 158 ([(.pointer (some ⟨b, o, none⟩))] : List Value).toArray w0 (AB w0 F0 fun _ v => v = .pointer (some ⟨b, o + 3, none⟩)) := by
 have hs0 := Uy hF
 refine Go 6 Tryz.func158 <| Sq <| Rg [0] <| V 2 194 (Gl (x := .const (.pointer none)) (v := .pointer none) rfl) <| Us <| Ab <| Sq <| Rg [0, 1, 2, 3] <| Vs 2 <| V 5 0 (CE (s := 27) (x := .tmp 4) (i := 3) (b := b) (o0 := o) (o := 3) (k := 1) rfl (by kernel_rfl) (by decide) rfl) <| Vs 1 <| Us <| Ab <| Rt ?_
 exact Re [(.pointer (some ⟨b, o + 3, none⟩))] hs0 rfl
def FS (N : Nat) (x0 : Log) (z0 : UQ) : Option UQ :=
 (((CQ z0 ([32] : UQ)).bind fun r34 => ((strconv_Itoa N x0.Category).bind fun r40 => ((CQ r34 r40).bind fun r48 => some r48))).bind fun j29 => some j29)
theorem H0 : Ag Tryz.prog 191 := fun _ _ => by kernel_rfl
theorem IQ (N : Nat) (w0 : World) (F0 : Mem) (hF : US w0 F0) (hG : Br F0) (x0 : Log) (a0_4 : UR) (n0_4 : Nat) (hb0_4 : LC x0.Jumps.length n0_4) (hs0_4 : SlA AQ F0 a0_4 x0.Jumps) (a0_5 : UR) (n0_5 : Nat) (hb0_5 : LC x0.Lines.length n0_5) (hs0_5 : SlA AK F0 a0_5 x0.Lines) (bz0 : Nat) (z0 : UQ) (hz0 : F0 bz0 = some (oc #[(sv z0)] 9)) (bz1 : Nat) (hz1 : F0 bz1 = some (oc #[(fV 156 #[])] 195)) (r : UQ) (h : FS N x0 z0 = some r) :
  Calls Tryz.prog 191 ([(.agg (AL x0 a0_4 n0_4 a0_5 n0_5)), (pt bz0 0), (pt bz1 0)] : List Value).toArray w0 (AB w0 F0 fun F' v => v = (sv r)) := by
 have hs0 := Uy hF
 refine Go 13 Tryz.func191 <| Sq (Rg [0, 1] ?_)
 refine Bx' 27 (AL x0 a0_4 n0_4 a0_5 n0_5) hs0 (fun b21 w22 hs23 => ?_)
 refine Vs 1 <| Nss ?_
 obtain ⟨j29, hj32, h33⟩ := bind_some h
 refine RD 9 9 [(sb b21 (AL x0 a0_4 n0_4 a0_5 n0_5) 27)] [] hs23 (fun f w => ∃ (F1 : Mem), HS w0 F0 w F1 [] /\ Uw F0 F1 /\ FI f [] [(4, (sv j29))]) (fun wd24 hw25 => ?_) ?_
 ·refine Dl 0 (fun _ hq => (hq.1.1 _ _ hz0)) ?_
  obtain ⟨r34, hr35, h36⟩ := bind_some hj32
  refine Dt 1 6 9 (sv r34) (fun _ hq => AO (t := 9) (t' := 9) (x := (.tmp 5)) (y := (.const (sv ([32] : UQ)))) (a := z0) (b := ([32] : UQ)) (v := r34) rfl rfl hr35) <| Dl 2 (fun _ hq => (hq.1.1 _ _ hz1)) <| D1 3 <| DCl Kj hw25 (Mm wd24 F0 hw25.pers b21 0) ?_
  rintro _ F2 w37 hs38 le39 rfl
  refine Dv [4] <| Dl 5 (fun _ hq => (hq.1.2 0 _ _ rfl)) <| D1 6 ?_
  obtain ⟨r40, hr41, h42⟩ := bind_some h36
  refine DCl Bm hs38 (Bv N w37 F2 hs38.pers (hG.mono le39) x0.Category _ hr41) ?_
  rintro _ F3 w44 hs45 le46 rfl
  obtain ⟨r48, hr49, h50⟩ := bind_some h42
  refine Dt 7 12 9 (sv r48) (fun _ hq => AO (t := 9) (t' := 9) (x := (.tmp 6)) (y := (.tmp 11)) (a := r34) (b := r40) (v := r48) rfl rfl hr49) <| Dv [8] ?_
  obtain rfl := Aa h50
  exact UJ (by kernel_rfl) ⟨F3, hs45.dr0, (le39.t le46), fI⟩
 ·rintro f w26 ⟨F1, hs27, le28, ⟨_, rfl⟩⟩
  refine Ab <| Rt ?_
  obtain rfl := Aa h33
  exact Re [(sv j29)] hs27 rfl
def FQ (N : Nat) (x0 : Log) (z0 : UQ) : Option UQ :=
 (((CQ z0 ([32] : UQ)).bind fun r34 => ((strconv_Itoa N x0.Power).bind fun r40 => ((CQ r34 r40).bind fun r48 => some r48))).bind fun j29 => some j29)
theorem HY : Ag Tryz.prog 191 := fun _ _ => by kernel_rfl
theorem IM (N : Nat) (w0 : World) (F0 : Mem) (hF : US w0 F0) (hG : Br F0) (x0 : Log) (a0_4 : UR) (n0_4 : Nat) (hb0_4 : LC x0.Jumps.length n0_4) (hs0_4 : SlA AQ F0 a0_4 x0.Jumps) (a0_5 : UR) (n0_5 : Nat) (hb0_5 : LC x0.Lines.length n0_5) (hs0_5 : SlA AK F0 a0_5 x0.Lines) (bz0 : Nat) (z0 : UQ) (hz0 : F0 bz0 = some (oc #[(sv z0)] 9)) (bz1 : Nat) (hz1 : F0 bz1 = some (oc #[(fV 157 #[])] 195)) (r : UQ) (h : FQ N x0 z0 = some r) :
  Calls Tryz.prog 191 ([(.agg (AL x0 a0_4 n0_4 a0_5 n0_5)), (pt bz0 0), (pt bz1 0)] : List Value).toArray w0 (AB w0 F0 fun F' v => v = (sv r)) := by
 have hs0 := Uy hF
 refine Go 13 Tryz.func191 <| Sq (Rg [0, 1] ?_)
 refine Bx' 27 (AL x0 a0_4 n0_4 a0_5 n0_5) hs0 (fun b21 w22 hs23 => ?_)
 refine Vs 1 <| Nss ?_
 obtain ⟨j29, hj32, h33⟩ := bind_some h
 refine RD 9 9 [(sb b21 (AL x0 a0_4 n0_4 a0_5 n0_5) 27)] [] hs23 (fun f w => ∃ (F1 : Mem), HS w0 F0 w F1 [] /\ Uw F0 F1 /\ FI f [] [(4, (sv j29))]) (fun wd24 hw25 => ?_) ?_
 ·refine Dl 0 (fun _ hq => (hq.1.1 _ _ hz0)) ?_
  obtain ⟨r34, hr35, h36⟩ := bind_some hj32
  refine Dt 1 6 9 (sv r34) (fun _ hq => AO (t := 9) (t' := 9) (x := (.tmp 5)) (y := (.const (sv ([32] : UQ)))) (a := z0) (b := ([32] : UQ)) (v := r34) rfl rfl hr35) <| Dl 2 (fun _ hq => (hq.1.1 _ _ hz1)) <| D1 3 <| DCl Ki hw25 (Ml wd24 F0 hw25.pers b21 0) ?_
  rintro _ F2 w37 hs38 le39 rfl
  refine Dv [4] <| Dl 5 (fun _ hq => (hq.1.2 0 _ _ rfl)) <| D1 6 ?_
  obtain ⟨r40, hr41, h42⟩ := bind_some h36
  refine DCl Bm hs38 (Bv N w37 F2 hs38.pers (hG.mono le39) x0.Power _ hr41) ?_
  rintro _ F3 w44 hs45 le46 rfl
  obtain ⟨r48, hr49, h50⟩ := bind_some h42
  refine Dt 7 12 9 (sv r48) (fun _ hq => AO (t := 9) (t' := 9) (x := (.tmp 6)) (y := (.tmp 11)) (a := r34) (b := r40) (v := r48) rfl rfl hr49) <| Dv [8] ?_
  obtain rfl := Aa h50
  exact UJ (by kernel_rfl) ⟨F3, hs45.dr0, (le39.t le46), fI⟩
 ·rintro f w26 ⟨F1, hs27, le28, ⟨_, rfl⟩⟩
  refine Ab <| Rt ?_
  obtain rfl := Aa h33
  exact Re [(sv j29)] hs27 rfl
def FR (N : Nat) (x0 : Log) (z0 : UQ) : Option UQ :=
 (((CQ z0 ([32] : UQ)).bind fun r34 => ((strconv_Itoa N x0.Claimed).bind fun r40 => ((CQ r34 r40).bind fun r48 => some r48))).bind fun j29 => some j29)
theorem HZ : Ag Tryz.prog 191 := fun _ _ => by kernel_rfl
theorem IP (N : Nat) (w0 : World) (F0 : Mem) (hF : US w0 F0) (hG : Br F0) (x0 : Log) (a0_4 : UR) (n0_4 : Nat) (hb0_4 : LC x0.Jumps.length n0_4) (hs0_4 : SlA AQ F0 a0_4 x0.Jumps) (a0_5 : UR) (n0_5 : Nat) (hb0_5 : LC x0.Lines.length n0_5) (hs0_5 : SlA AK F0 a0_5 x0.Lines) (bz0 : Nat) (z0 : UQ) (hz0 : F0 bz0 = some (oc #[(sv z0)] 9)) (bz1 : Nat) (hz1 : F0 bz1 = some (oc #[(fV 158 #[])] 195)) (r : UQ) (h : FR N x0 z0 = some r) :
  Calls Tryz.prog 191 ([(.agg (AL x0 a0_4 n0_4 a0_5 n0_5)), (pt bz0 0), (pt bz1 0)] : List Value).toArray w0 (AB w0 F0 fun F' v => v = (sv r)) := by
 have hs0 := Uy hF
 refine Go 13 Tryz.func191 <| Sq (Rg [0, 1] ?_)
 refine Bx' 27 (AL x0 a0_4 n0_4 a0_5 n0_5) hs0 (fun b21 w22 hs23 => ?_)
 refine Vs 1 <| Nss ?_
 obtain ⟨j29, hj32, h33⟩ := bind_some h
 refine RD 9 9 [(sb b21 (AL x0 a0_4 n0_4 a0_5 n0_5) 27)] [] hs23 (fun f w => ∃ (F1 : Mem), HS w0 F0 w F1 [] /\ Uw F0 F1 /\ FI f [] [(4, (sv j29))]) (fun wd24 hw25 => ?_) ?_
 ·refine Dl 0 (fun _ hq => (hq.1.1 _ _ hz0)) ?_
  obtain ⟨r34, hr35, h36⟩ := bind_some hj32
  refine Dt 1 6 9 (sv r34) (fun _ hq => AO (t := 9) (t' := 9) (x := (.tmp 5)) (y := (.const (sv ([32] : UQ)))) (a := z0) (b := ([32] : UQ)) (v := r34) rfl rfl hr35) <| Dl 2 (fun _ hq => (hq.1.1 _ _ hz1)) <| D1 3 <| DCl Kh hw25 (Mk wd24 F0 hw25.pers b21 0) ?_
  rintro _ F2 w37 hs38 le39 rfl
  refine Dv [4] <| Dl 5 (fun _ hq => (hq.1.2 0 _ _ rfl)) <| D1 6 ?_
  obtain ⟨r40, hr41, h42⟩ := bind_some h36
  refine DCl Bm hs38 (Bv N w37 F2 hs38.pers (hG.mono le39) x0.Claimed _ hr41) ?_
  rintro _ F3 w44 hs45 le46 rfl
  obtain ⟨r48, hr49, h50⟩ := bind_some h42
  refine Dt 7 12 9 (sv r48) (fun _ hq => AO (t := 9) (t' := 9) (x := (.tmp 6)) (y := (.tmp 11)) (a := r34) (b := r40) (v := r48) rfl rfl hr49) <| Dv [8] ?_
  obtain rfl := Aa h50
  exact UJ (by kernel_rfl) ⟨F3, hs45.dr0, (le39.t le46), fI⟩
 ·rintro f w26 ⟨F1, hs27, le28, ⟨_, rfl⟩⟩
  refine Ab <| Rt ?_
  obtain rfl := Aa h33
  exact Re [(sv j29)] hs27 rfl
section
open Go.Proofs Go.Lib
def RW (a : UR) (cap : Nat) (t : UQ) (e : Option Nat × Obj) : Prop :=
 (a = none /\ cap = 0 /\ t = [] /\ e.1 = none) \/ ∃ g cur, a = some ⟨g, 0, none⟩ /\ e = (some g, .cells cur 5 (0, 0)) /\ t ≠ [] /\ t.length <= cap /\ cap <= maxLen /\ cur.size = cap /\ cur.toList.take t.length = byteCells t
def IY (t s : UQ) : Option UQ := if t.length + s.length <= 140737488355328 then some (t ++ s) else none
theorem QC {t s r : UQ} (h : IY t s = some r) : t.length + s.length <= 140737488355328 /\ r = t ++ s := by
 unfold IY at h; split at h
 ·rename_i h1; exact ⟨h1, by cases h; rfl⟩
 ·cases h
section
variable {w w0 : World} {F0 F : Mem} {L : Own}
theorem D4 (l : UQ) : (byteCells l).length = l.length := by simp [byteCells]
theorem RL (l m : UQ) : byteCells (l ++ m) = byteCells l ++ byteCells m := by simp [byteCells]
theorem O0 {g : Nat} {cur cs : Array Value} {e : TypeId} {fz : Nat × Nat} (hg : w.heap[g]? = some (.cells cur e fz)) : w.setRow g cs = BT w g (.cells cs e fz) := by
 have hlt : g < w.heap.size := (Array.getElem?_eq_some_iff.1 hg).1
 have hv : w.heap[g] = .cells cur e fz := (Array.getElem?_eq_some_iff.1 hg).2
 unfold World.setRow BT
 congr 1
 apply Array.ext_getElem?
 intro i
 rw [Array.getElem?_modify, Array.getElem?_setIfInBounds]
 by_cases hi : g = i
 ·subst hi; simp [hlt, hv]
 ·simp [hi]
theorem LL {ty : TypeId} (hs : HS w0 F0 w F L) {k : Nat} {e : Option Nat × Obj} (hk : L[k]? = some e) {a : UR} {cap : Nat} {t s r : UQ} (hr : RW a cap t e) (hap : IY t s = some r) :
  ∃ a' cap' e' w', (Builtin.append_ #[103, 9] ty #[.slice a t.length cap, .string ⟨s.toArray⟩]).run Tryz.prog w = .ok (.slice a' r.length cap') w' /\ HS w0 F0 w' F (L.set k e') /\ RW a' cap' r e' := by
 obtain ⟨hlen, rfl⟩ := QC hap
 have hu9 : Tryz.prog.underlying 9 = some .string := Tryz.underlying9
 have hu42 : Tryz.prog.underlying 103 = some (.slice 5) := Tryz.underlying103
 obtain ⟨i0, hi, hz0, hz1, hz2⟩ := info_parts (show (Tryz.prog.info? 5).map (fun i => (i.zero, i.size, i.bytes)) = some (some (.int .u8 0), 1, 1) by kernel_rfl)
 have hss : (⟨s.toArray⟩ : ByteArray).size = s.length := by simp [ByteArray.size]
 have hsc : strCells ⟨s.toArray⟩ = byteCells s := by simp [strCells, byteCells]
 have hm : maxLen = 9223372036854775807 := rfl
 rcases hr with ⟨rfl, rfl, rfl, he⟩ | ⟨g, cur, rfl, rfl, hne, hlc, hcm, hcs, htk⟩
 ·by_cases h0 : s = []
  ·subst h0
   refine ⟨none, 0, e, w, ?_, by rw [LD hk]; exact hs, .inl ⟨rfl, rfl, rfl, he⟩⟩
   simp [Builtin.append_, run_underlying hu42, run_underlying hu9, sizeOf, typeInfo, hi, hz1, Builtin.lenOf, Builtin.firstCells, ByteArray.size]
  ·have hpos : 0 < s.length := List.length_pos_iff.2 h0
   have hrun := run_append_nil_string (P := Tryz.prog) w 103 9 ty 5 i0 (.int .u8 0) hu42 hu9 hi hz0 ⟨s.toArray⟩ (by rw [hss]; exact hpos) (by rw [hss]; simp at hlen; omega) (by rw [hss, hz2]; simp at hlen; omega)
   rw [hss] at hrun
   refine ⟨_, _, _, _, hrun, (hs.heap (w' := w.drew) rfl).renew k _, .inr ⟨_, _, rfl, rfl, by simpa using h0, by simpa using grownCap_ge w s.length 0 5, grownCap_le_maxLen w s.length 0 5 (by rw [hm]; simp at hlen; omega), ?_, ?_⟩⟩
   ·have := grownCap_ge w s.length 0 5
    simp [Builtin.zeroCells, Value.cells]; omega
   ·rw [List.nil_append]
    have e1 : (s.toArray.map fun b => Value.int .u8 (b.toNat : Int)).toList = byteCells s := by simp [byteCells]
    rw [Array.toList_append, e1, List.take_append_of_le_length (by rw [D4]; exact Nat.le_refl _), <- D4 s, List.take_length]
 ·have hg : w.heap[g]? = some (.cells cur 5 (0, 0)) := hs.ownAt hk
  by_cases hfit : t.length + s.length <= cap
  ·have hrun := run_append_room_string (P := Tryz.prog) w 103 9 ty 5 i0 hu42 hu9 hi hz1 g t.length cap cur hg ⟨s.toArray⟩ (by rw [hss]; exact hfit) (by rw [hss, hcs]; exact hfit)
   rw [hss, hsc, O0 hg] at hrun
   refine ⟨some ⟨g, 0, none⟩, cap, _, _, by rw [List.length_append]; exact hrun, hs.put hk _, .inr ⟨g, _, rfl, rfl, by simp [hne], by simpa using hfit, hcm, ?_, ?_⟩⟩
   ·simp [D4, hcs]; omega
   ·rw [htk, List.length_append, RL]
    rw [List.take_append_of_le_length (by simp [D4])]
    have : t.length + s.length = (byteCells t ++ byteCells s).length := by simp [D4]
    rw [this, List.take_length]
  ·have hholds : ∀ j v, (byteCells t)[j]? = some v -> w.cell? ((⟨g, 0, none⟩ : Addr).add j) = some v := fun j v hj => by
    have hjl : j < t.length := by
     rcases Nat.lt_or_ge j t.length with h' | h'
     ·exact h'
     ·rw [List.getElem?_eq_none (by rw [D4]; exact h')] at hj; cases hj
    have : cur[j]? = some v := by
     rw [<- htk, List.getElem?_take_of_lt hjl, Array.getElem?_toList] at hj; exact hj
    rw [Addr.add_lit]; simp [World.cell?, hg, this]
   have hrun := run_append_grow_string (P := Tryz.prog) w 103 9 ty 5 i0 (.int .u8 0) hu42 hu9 hi hz0 ⟨g, 0, none⟩ t.length cap (byteCells t) (by rw [D4, hz1, Nat.mul_one]) hholds ⟨s.toArray⟩ (by rw [hss]; omega) (by rw [hss]; omega) (by rw [hss, hz2]; exact growslice_fits (by omega) (by omega))
   rw [hss, hsc] at hrun
   refine ⟨_, _, _, _, by rw [List.length_append]; exact hrun, (hs.heap (w' := w.drew) rfl).renew k _, .inr ⟨_, _, rfl, rfl, by simp [hne], by simpa using grownCap_ge w (t.length + s.length) cap 5, grownCap_le_maxLen w (t.length + s.length) cap 5 (by rw [hm]; omega), ?_, ?_⟩⟩
   ·have := grownCap_ge w (t.length + s.length) cap 5
    simp [Builtin.zeroCells, Value.cells, D4]; omega
   ·rw [Array.toList_append, Array.toList_append, RL, List.length_append]
    have : t.length + s.length = (byteCells t ++ byteCells s).length := by simp [D4]
    rw [List.take_append_of_le_length (by simp [D4]), this]
    simp only [List.take_length]
end
section
variable {ρ : Operand -> Value} {w : World}
theorem Hp (op : BinOp) (t : TypeId) (x y : Operand) (p q : UR) : (eqGuard op t x y (.pointer p) (.pointer q)).run Tryz.prog w = .ok () w := by
 unfold eqGuard; cases op <;> simp
theorem Nr (p : UR) (d : Nat) : (Op.equalIn (d + 1) 102 (.pointer p) (.pointer none)).run Tryz.prog w = .ok p.isNone w := by
 unfold Op.equalIn
 simp only [Sem.run_bind, run_underlying Tryz.underlying102, Result.andThen_ok]
 cases p <;> rfl
theorem Of {x y : Operand} {p : UR} {ty : TypeId} (hx : ρ x = .pointer p) (hy : ρ y = .pointer none) : (Ai ρ (.binOp .eql 102 x y 102) ty).run Tryz.prog w = .ok (.value (.bool p.isNone)) w := by
 have e : Ai ρ (.binOp .eql 102 x y 102) ty = (do pure (Next.value (<- (do eqGuard .eql 102 x y (ρ x) (ρ y); binOp .eql 102 (ρ x) (ρ y))))) := rfl
 have e2 : binOp .eql 102 (.pointer p) (.pointer none) = (do pure (Value.bool (<- Op.equalIn (9999 + 1) 102 (.pointer p) (.pointer none)))) := rfl
 rw [e, hx, hy, e2]
 simp only [Sem.run_bind, Hp, Result.andThen_ok, Nr, Sem.run_pure]
theorem Nm {x y : Operand} {a : Addr} {ty : TypeId} (hx : ρ x = .pointer (some a)) (hy : ρ y = .pointer (some a)) : (Ai ρ (.binOp .neq 102 x y 102) ty).run Tryz.prog w = .ok (.value (.bool false)) w := by
 have e : Ai ρ (.binOp .neq 102 x y 102) ty = (do pure (Next.value (<- (do eqGuard .neq 102 x y (ρ x) (ρ y); binOp .neq 102 (ρ x) (ρ y))))) := rfl
 obtain ⟨j, hj, _⟩ := Option.map_eq_some_iff.1 (show (Tryz.prog.info? 105).map (·.size) = some 2 by kernel_rfl)
 rw [e, hx, hy]
 simp only [Sem.run_bind, Hp, Result.andThen_ok, run_neq_ptr_same w a Tryz.underlying102 hj, Sem.run_pure]
theorem Oh {x : Operand} {v u : Value} {s d ty : TypeId} (hx : ρ x = v) (h : (convert s d v).run Tryz.prog w = .ok u w) : (Ai ρ (.convert s d x) ty).run Tryz.prog w = .ok (.value u) w := by
 have e : Ai ρ (.convert s d x) ty = (do pure (Next.value (<- convert s d (ρ x)))) := rfl
 rw [e, hx, Sem.run_bind, h]; rfl
theorem Qb {x : Operand} {v : Value} {ty : TypeId} (hx : ρ x = v) (hf : ρ (.func 192) = .func (.func 192) #[] #[]) : (Ai ρ (.call { callee := .value (.func 192), args := #[x], argTypes := #[235] }) ty).run Tryz.prog w = .ok (.value v) w := by
 have e : Ai ρ (.call { callee := .value (.func 192), args := #[x], argTypes := #[235] }) ty = (do let d <- Deferred.ofValue (ρ (.func 192)) (#[x].map ρ); invoke d.target d.args) := rfl
 rw [e, hf]
 simp only [Deferred.ofValue, Sem.run_bind, Sem.run_pure, Result.andThen_ok, invoke]
 rw [run_callFunc_extern Tryz.func192 (by kernel_rfl) (by kernel_rfl) (by kernel_rfl) (e := Extern.AbiNoEscape.same) (by kernel_rfl)]
 have : (#[] ++ Array.map ρ #[x] ++ #[] : Array Value) = #[v] := by simp [hx]
 rw [this, run_noEscape]; rfl
end
theorem NN : Ag Tryz.prog 161 := fun _ _ => by kernel_rfl
theorem OJ {wb w0 : World} {Fb F0 : Mem} {Lf : Own} (b : Nat) (p : UR) (hp : p = none \/ p = some ⟨b, 0, none⟩) (v : Value) (hv : v.oneCell' = true) (hs0 : HS wb Fb w0 F0 ((some b, .cells #[.pointer p, v] 105 (0, 0)) :: Lf)) :
  Calls Tryz.prog 161 ([(.pointer (some ⟨b, 0, none⟩))] : List Value).toArray w0 (Ed wb Fb F0 fun _ r L' => r = .tuple #[] /\ L' = (some b, .cells #[.pointer (some ⟨b, 0, none⟩), v] 105 (0, 0)) :: Lf) := by
 have hsh : w0.shape? b = some (105, 2) := by simp [World.shape?, hs0.at0]
 refine Go 20 Tryz.func161 <| Sq <| Rg [0, 1, 2, 3, 4] <| Vs 3 <| Ld hs0.at0 <| V 6 4 (Of (x := .tmp 5) (y := .const (.pointer none)) (p := p) rfl rfl) <| Us <| Ab ?_
 rcases hp with rfl | rfl
 ·refine C1 (t := true) rfl ?_
  refine Rg [0, 1, 2, 3, 4, 5, 6, 7] ?_
  obtain ⟨j, hj, hjs⟩ := Option.map_eq_some_iff.1 (show (Tryz.prog.info? 105).map (·.size) = some 2 by kernel_rfl)
  refine Vs 2 <| V 9 235 (Oh (s := 102) (d := 235) (x := .tmp 8) rfl (run_to_unsafe w0 ⟨b, 0, none⟩ Tryz.underlying102 Tryz.underlying235 hj (by rw [hjs]; decide) hsh (Nat.zero_lt_succ 1))) <| V 10 235 (Qb (x := .tmp 9) rfl rfl) <| V 11 102 (Oh (s := 235) (d := 102) (x := .tmp 10) rfl (run_from_unsafe w0 ⟨b, 0, none⟩ Tryz.underlying235 Tryz.underlying102 hj hsh (by kernel_rfl))) <| Vs 2 <| St0 #[.pointer (some ⟨b, 0, none⟩), v] hs0 (fun w1 hs1 => ?_)
  refine Us ?_
  exact ReB [] hs1 (Ux _) ⟨rfl, rfl⟩
 ·refine C0 (t := false) rfl ?_
  refine Sq <| Rg [0, 1, 2, 3, 4, 5] <| Vs 3 <| Ld hs0.at0 <| Vs 1 <| V 19 4 (Nm (x := .tmp 17) (y := .tmp 18) rfl rfl) <| Us <| Ab <| C0 (t := false) rfl <| CWP.skip (by kernel_rfl) ?_
  exact ReB [] hs0 (Ux _) ⟨rfl, rfl⟩
theorem Bj : Ag Tryz.prog 90 := fun _ _ => by kernel_rfl
theorem MQ {wb w0 : World} {Fb F0 : Mem} {Lf : Own} (b : Nat) (p : UR) (hp : p = none \/ p = some ⟨b, 0, none⟩) (a : UR) (cap : Nat) (e : Option Nat × Obj) (t s r : UQ) (hb : RW a cap t e) (hap : IY t s = some r)
  (hs0 : HS wb Fb w0 F0 ((some b, .cells #[.pointer p, .slice a t.length cap] 105 (0, 0)) :: e :: Lf)) :
  Calls Tryz.prog 90 ([(.pointer (some ⟨b, 0, none⟩)), (.string ⟨s.toArray⟩)] : List Value).toArray w0 (Ed wb Fb F0 fun _ v L' => v = .tuple #[.int .i64 (s.length : Int), .nilIface] /\ ∃ a' cap' e', L' = (some b, .cells #[.pointer (some ⟨b, 0, none⟩), .slice a' r.length cap'] 105 (0, 0)) :: e' :: Lf /\ RW a' cap' r e') := by
 refine Go 19 Tryz.func90 <| Sq <| Rg [0, 1] <| Vs 2 <| Us <| Ab <| Sq <| Rg [0, 1] <| Vs 1 <| CB NN (OJ b p hp (.slice a t.length cap) rfl hs0) ?_
 rintro _ F1 w1 _ hs1 le1 ⟨rfl, rfl⟩
 refine Us <| Ab <| Sq <| Rg [0, 1, 2, 3, 4, 5, 6, 7, 8, 9] <| Vs 4 <| Ld hs1.at0 <| Vs 1 ?_
 obtain ⟨a', cap', e', w2, hrun, hs2, hb2⟩ := LL (ty := 103) hs1 (k := 1) rfl hb hap
 refine Ut (dst := some 14) (ty := 103) (g := none) (v := .slice a' r.length cap') (by kernel_rfl) rfl (by
  have e : ∀ ρ : Operand -> Value, Ai ρ (.call { callee := .builtin .append, args := #[.tmp 12, .tmp 13], argTypes := #[103, 9] }) 103 = (do pure (Next.value (<- Builtin.append_ #[103, 9] 103 (#[.tmp 12, .tmp 13].map ρ)))) := fun _ => rfl
  rw [e]
  simp only [List.map_toArray, List.map_cons, List.map_nil]
  rw [Sem.run_bind]
  refine Eq.trans (congrArg (fun x => Result.andThen x _) (show _ = _ from hrun)) rfl) ?_
 have hs2 : HS wb Fb w2 F1 ((some b, .cells #[.pointer (some ⟨b, 0, none⟩), .slice a t.length cap] 105 (0, 0)) :: e' :: Lf) := hs2
 refine Vs 2 <| St0 #[.pointer (some ⟨b, 0, none⟩), .slice a' r.length cap'] hs2 (fun w3 hs3 => ?_)
 refine Us <| Ab <| Sq <| Rg [0, 1, 2, 3] <| Vs 4 <| Us <| Ab <| Rt ?_
 exact ReB [.int .i64 (s.length : Int), .nilIface] hs3 le1 ⟨rfl, a', cap', e', rfl, hb2⟩
def EP (b : Nat) (t : UQ) (_ : Mem) (Lf : Own) : Prop := ∃ p a n e, (p = none \/ p = some ⟨b, 0, none⟩) /\ Lf = [e, (some b, .cells #[.pointer p, .slice a t.length n] 105 (0, 0))] /\ RW a n t e
theorem EP.mono {b : Nat} : Nd (EP b) := fun _ _ _ _ h _ => h
section
variable {w w0 : World} {F0 F : Mem} {L : Own} {b : Nat}
theorem EP.new (hs : HS w0 F0 w F ((some b, .cells #[.pointer none, .slice none 0 0] 105 (0, 0)) :: L)) : ∃ Lf, HS w0 F0 w F (L ++ Lf) /\ EP b [] F Lf :=
 ⟨_, HS.swap (A := [(none, .cells #[] 0 (0, 0)), _]) (hs.dummy (.cells #[] 0 (0, 0))), none, none, 0, _, .inl rfl, rfl, .inl ⟨rfl, rfl, rfl, rfl⟩⟩
theorem DB {Lf : Own} {t s r : UQ} (hap : IY t s = some r) (hJ : EP b t F Lf) (hs : HS w0 F0 w F (L ++ Lf)) :
  Calls Tryz.prog 90 ([(.pointer (some ⟨b, 0, none⟩)), (.string ⟨s.toArray⟩)] : List Value).toArray w (Ed w0 F0 F fun F' v L' => v = .tuple #[.int .i64 (s.length : Int), .nilIface] /\ ∃ Lf', L' = L ++ Lf' /\ EP b r F' Lf') := by
 obtain ⟨p, a, n, e, hp, rfl, hb⟩ := hJ
 have h1 : HS w0 F0 w F (e :: (some b, .cells #[.pointer p, .slice a t.length n] 105 (0, 0)) :: L) := HS.swap hs
 refine (MQ b p hp a n e t s r hb hap h1.pk1).mono ?_
 rintro _ w' ⟨F', v, _, rfl, h2, h3, rfl, a', n', e', rfl, hb'⟩
 exact ⟨F', _, L ++ [e', _], rfl, HS.swap (A := [e', _]) h2.pk1, h3, rfl, _, rfl, _, a', n', e', .inr rfl, rfl, hb'⟩
theorem Md : Ag Tryz.prog 91 := fun _ _ => by kernel_rfl
theorem Nc {Lf : Own} {t : UQ} (hJ : EP b t F Lf) (hs : HS w0 F0 w F (L ++ Lf)) : Calls Tryz.prog 91 ([(.pointer (some ⟨b, 0, none⟩))] : List Value).toArray w (Ed w0 F0 F0 fun F' v L' => v = .string ⟨t.toArray⟩ /\ L' = [] /\ F' = F0) := by
 obtain ⟨p, a, n, e, hp, rfl, hb⟩ := hJ
 have h1 : HS w0 F0 w F (e :: (some b, .cells #[.pointer p, .slice a t.length n] 105 (0, 0)) :: L) := HS.swap hs
 have hB : w0.heap.size <= b := (h1.own b _ (.tail _ (.head _))).2.2
 have hbk := h1.at1
 have hbuf : IsBuilder 105 5 w0.heap.size b (byteCells t) w := by
  have : BuilderAt 105 5 w0.heap.size b (.pointer p) (byteCells t) w := by
   refine ⟨hB, .slice a t.length n, hbk, ?_, ?_⟩
   ·rcases hb with ⟨rfl, rfl, rfl, _⟩ | ⟨g, cur, rfl, rfl, hne, hlc, hcm, hcs, htk⟩
    ·exact ⟨rfl, .inl ⟨rfl, rfl⟩⟩
    ·exact ⟨by simp [D4], .inr ⟨g, n, cur, by rw [D4], (h1.own g _ (.head _)).2.2, h1.at0, by rw [D4]; exact hlc, hcm, by simpa using hcs, by rw [D4, Nat.mul_one]; exact htk⟩⟩
   ·rcases hb with ⟨rfl, rfl, rfl, _⟩ | ⟨g, cur, rfl, rfl, hne, hlc, hcm, hcs, htk⟩
    ·simp [Value.ownBlock]
    ·have := h1.nd
     simp only [Value.ownBlock]
     intro e
     simp at e
     subst e
     simp at this
  rcases hp with rfl | rfl
  ·exact .inl this
  ·exact .inr this
 refine (Tryz.Builder_String_any w0.heap.size b t w hbuf h1.size).mono ?_
 rintro _ w' ⟨rfl, hbel⟩
 refine ⟨F0, _, [], rfl, ?_, Ux _, rfl, rfl, rfl⟩
 exact ⟨h1.base, h1.fix.trans ⟨hbel.os, hbel.output, hbel.tape⟩, Nat.le_trans h1.size hbel.size, fun c hc => (hbel.block c hc).trans (h1.keep c hc), fun _ _ => rfl, fun c o hc => (hbel.block c (A6 (h1.base c o hc))).trans ((h1.keep c (A6 (h1.base c o hc))).trans (h1.base c o hc)), fun _ _ h => (by cases h), List.nodup_nil⟩
end
end
theorem FL {P : Program} {w : World} {ρ : Operand -> Value} {ty t E : TypeId} {len s : Nat} {x y : Operand} {k : IntKind} {i : Int} {cs C : List Value} (hx : ρ x = .agg cs.toArray) (hy : ρ y = .int k i) (hu : P.underlying t = some (.array len E)) (ht : D6 P E = some (true, s)) (hi : 0 <= i /\ i < (len : Int)) (hc : Ao cs.toArray (i.toNat * s) s = C) (hl : C.length = s) :
  (Ai ρ (.index t x y) ty).run P w = .ok (.value (.agg C.toArray)) w := by
 have hp := FJ (P := P) (t := E) (C := cs.toArray) (o := i.toNat * s) ht (by rw [hc]; exact hl) (.inl rfl) w
 rw [hc] at hp
 simp only [Ai, execOp, hx, hy, Instr.index, asIntOf, Sem.run_bind, Sem.run_pure, Result.andThen_ok, run_underlying hu, Co ht]
 rw [if_pos hi]
 simp only [Sem.run_bind, Co ht, Result.andThen_ok]
 rw [hp]
 rfl
theorem FK {P : Program} {w : World} {ρ : Operand -> Value} {ty t E : TypeId} {len s : Nat} {x y : Operand} {k : IntKind} {i n : Int} {cs C : List Value} (hx : ρ x = .agg cs.toArray) (hy : ρ y = .int k i) (hu : P.underlying t = some (.array len E)) (ht : D6 P E = some (true, s)) (hd : decide (i = n) = true) (hi : 0 <= n /\ n < (len : Int)) (hc : Ao cs.toArray (n.toNat * s) s = C) (hl : C.length = s) :
  (Ai ρ (.index t x y) ty).run P w = .ok (.value (.agg C.toArray)) w := by
 have e := of_decide_eq_true hd
 subst e
 exact FL hx hy hu ht hi hc hl
theorem I7 {P : Program} {w : World} {ρ : Operand -> Value} {ty t E : TypeId} {len s b o0 o1 : Nat} {g : Bool} {x y : Operand} {k : IntKind} {i n : Int} (hx : ρ x = .pointer (some ⟨b, o0, none⟩)) (hy : ρ y = .int k i) (hu : P.underlying t = some (.array len E)) (ht : D6 P E = some (g, s)) (hd : decide (i = n) = true) (hi : 0 <= n /\ n < (len : Int)) (ho : o0 + n.toNat * s = o1) :
  (Ai ρ (.indexAddr t x y) ty).run P w = .ok (.value (.pointer (some ⟨b, o1, none⟩))) w := by
 have e := of_decide_eq_true hd
 subst e
 subst ho
 have hdo : Ai ρ (.indexAddr t x y) ty = (do pure (Next.value (<- Instr.indexAt t (ρ x) (ρ y)))) := rfl
 rw [hdo, hx, hy]
 have e2 : (Instr.sureAddr (.pointer (some ⟨b, o0, none⟩))).run P w = .ok ⟨b, o0, none⟩ w := rfl
 simp only [Instr.indexAt, asIntOf, Sem.run_bind, Sem.run_pure, Result.andThen_ok, run_underlying hu, e2, hi, and_self, if_true, Co ht, Addr.add]
 first | rfl | (split <;> simp_all)
section
variable {P : Program} {n : Nat} {Q : Exit -> Fr -> World -> Prop} {f : Fr} {w w0 : World} {F0 F : Mem} {L : Own}
theorem CWP.rangeRet {X α σ : Type} {enc : X -> List Value} {ok : Mem -> X -> Prop} {px : X -> α} {m : ∀ {σ : Type}, (σ -> α -> Option (Bool × σ)) -> σ -> Option σ} {c : Code} (hk : SG c = 1) {gf : FuncId} {cap : List Value} {B : Own}
  (hg : fev f (Sf c) = .func (.func gf) #[] cap.toArray) (hgf : Ag P gf) (hd : f.d = []) {ps : List Nat} (hps0 : rps c = ps) (hps : ps.all (· < n) = true) (hlen : ∀ x, (enc x).length = ps.length) (hs : HS w0 F0 w F (B ++ L)) (hseq : P5 P gf cap F B enc ok px m)
  (lp : σ -> α -> Option (σ × Bool)) (J : σ -> Mem -> Own -> Prop) (hJm : Nd J) {s : σ} {r : σ × Bool} (hJ : J s F L) (hm : m (NV lp) (s, true) = some r)
  (hround : ∀ (l : Nat) (s : σ) (x : X) (w' : World) (F' : Mem) (Lf Rf : Own) (t : σ × Bool), Uw F F' -> ok F' x -> J s F' Lf -> HS w0 F0 w' F' (Lf ++ Rf) -> lp s (px x) = some t ->
   CWP P (some l) n (Sg c) (fun e f1 w1 => e = .normal /\ ∃ F1 Lu, HS w0 F0 w1 F1 (Lu ++ Rf) /\ ∀ w2 Rg, HS w0 F0 w2 F1 (Lu ++ Rg) -> CWP P (some l) n (PL c) (fun e f2 w3 => ((e = .normal /\ t.2 = true) \/ (e = .ret /\ t.2 = false)) /\ ∃ F2 Lf2, HS w0 F0 w3 F2 (Lf2 ++ Rg) /\ Uw F' F2 /\ J t.1 F2 Lf2) f1 w2) (setps f ps (enc x)) w')
  (hdone : r.2 = true -> ∀ (D : Nat) (w' : World) (F' : Mem) (Lf : Own), HS w0 F0 w' F' ((some D, .deferred (some [])) :: Lf) -> Uw F F' -> J r.1 F' Lf -> Q .normal ⟨f.v, [{ target := .collected D, args := #[] }]⟩ w')
  (hstop : r.2 = false -> ∀ (D : Nat) (w' : World) (F' : Mem) (Lf : Own), HS w0 F0 w' F' ((some D, .deferred (some [])) :: Lf) -> Uw F F' -> J r.1 F' Lf -> Q .ret ⟨f.v, [{ target := .collected D, args := #[] }]⟩ w') : CWP P none n c Q f w := by
 refine CWP.rangeFunc2 hk hg hgf hd hps0 hps hlen hs hseq (NV lp) (fun s => s.2) (fun s F L => J s.1 F L) (fun s F F' L h hl => hJm s.1 F F' L h hl) (s := (s, true)) (r := r) hJ rfl hm (fun s x q h => ⟨(Kv h).1, (Kv h).2.1⟩) ?_ (fun D w' F' Lf h0 h1 h2 h3 => hdone h0 D w' F' Lf h1 h2 h3) (fun D w' F' Lf h0 h1 h2 h3 => hstop h0 D w' F' Lf h1 h2 h3)
 intro l s x w' F' Lf Rf q hle hok hJ hs hyq
 obtain ⟨h1, h2, h3⟩ := Kv hyq
 refine (hround l s.1 x w' F' Lf Rf q.2 hle hok hJ hs h3).mono ?_
 rintro e f1 w1 ⟨rfl, F1, Lu, hs1, h⟩
 refine ⟨rfl, F1, Lu, hs1, fun w2 Rg hs2 => (h w2 Rg hs2).mono ?_⟩
 rintro e f2 w3 ⟨he, h⟩
 rw [h2]
 exact ⟨he, h⟩
end
def osk {α τ : Type} (q : Option α) (f : τ) (g : α -> τ) : τ := match q with
 | none => f
 | some a => g a
theorem SW {α τ : Type} {f : τ} {g : α -> τ} {r : τ} (h : osk none f g = r) : f = r := h
theorem SV {α τ : Type} {x : α} {f : τ} {g : α -> τ} {r : τ} (h : osk (some x) f g = r) : g x = r := h
structure Ah where
 o_ : Ac
 l_ : Log
 done_ : Int
 ended_ : Bool
abbrev rdv (b1 b2 b3 b4 : Nat) : Value := .func (.func 190) #[] #[.pointer (some ⟨b1, 0, none⟩), .pointer (some ⟨b2, 0, none⟩), .pointer (some ⟨b3, 0, none⟩), .pointer (some ⟨b4, 0, none⟩)]
abbrev wrv (b1 b4 : Nat) : Value := .func (.func 191) #[] #[.pointer (some ⟨b1, 0, none⟩), .pointer (some ⟨b4, 0, none⟩)]
abbrev fcv (k : FuncId) : Value := .func (.func k) #[] #[]
theorem EA : Ag Tryz.prog 155 := fun _ _ => by kernel_rfl
set_option maxRecDepth 100000 in
theorem EZ (w0 : World) (F0 : Mem) (hF : US w0 F0) (s : UQ) (lo hi : Int) (k : FuncId) : Calls Tryz.prog 155 ([(.string ⟨s.toArray⟩), (.int .i64 lo), (.int .i64 hi), fcv k] : List Value).toArray w0 (AB w0 F0 fun F' v => ∃ b1 b2 b3 b4, v = .agg #[rdv b1 b2 b3 b4, wrv b1 b4] /\
  F' b1 = some (.cells #[.string ⟨s.toArray⟩] 9 (0, 0)) /\ F' b2 = some (.cells #[.int .i64 lo] 3 (0, 0)) /\ F' b3 = some (.cells #[.int .i64 hi] 3 (0, 0)) /\ F' b4 = some (.cells #[fcv k] 195 (0, 0))) := by
 have hs0 := Uy hF
 refine Go 12 Tryz.func155 <| Sq <| Rg [0, 1, 2, 3, 4] <| Bx' 9 #[(.string ⟨s.toArray⟩)] hs0 (fun b1 w1 hs1 => ?_)
 refine Bx' 3 #[(.int .i64 lo)] hs1 (fun b2 w2 hs2 => ?_)
 refine Bx' 3 #[(.int .i64 hi)] hs2 (fun b3 w3 hs3 => ?_)
 refine Bx' 195 #[fcv k] hs3 (fun b4 w4 hs4 => ?_)
 refine Al' 109 #[.nilFunc, .nilFunc] hs4 (fun b5 w5 hs5 => ?_)
 refine Us <| Ab <| Sq <| Rg [0, 1, 2, 3] <| Vs 3 <| St0 #[rdv b1 b2 b3 b4, wrv b1 b4] hs5 (fun w6 hs6 => ?_)
 refine Us <| Ab <| Rt ?_
 obtain ⟨F1, hs7, le1, f4⟩ := hs6.fc1
 obtain ⟨F2, hs8, le2, f3⟩ := hs7.fc1
 obtain ⟨F3, hs9, le3, f2⟩ := hs8.fc1
 obtain ⟨F4, hs10, le4, f1⟩ := hs9.fc1
 exact ⟨rfl, (.agg #[rdv b1 b2 b3 b4, wrv b1 b4]), AR (l := [.cell 8 109]) (by kernel_rfl) (vs := [(.agg #[rdv b1 b2 b3 b4, wrv b1 b4])]) ⟨b5, 0, rfl, Am (t := 109) (g := true) (s := 2) (by kernel_rfl) hs10.at0 rfl (by decide), trivial⟩, (.agg #[rdv b1 b2 b3 b4, wrv b1 b4]), F4, rfl, hs10.clear, b1, b2, b3, b4, rfl, f1, le4 _ _ f2, le4 _ _ (le3 _ _ f3), le4 _ _ (le3 _ _ (le2 _ _ f4))⟩
theorem Eh : Ag Tryz.prog 89 := fun _ _ => by kernel_rfl
set_option maxRecDepth 100000 in
theorem EN (w0 : World) (F0 : Mem) (hF : US w0 F0) : Calls Tryz.prog 89 ([] : List Value).toArray w0 (AB w0 F0 fun F' v => ∃ (b1 b2 b3 b4 b5 b6 b7 b8 b9 b10 b11 b12 : Nat), v = .agg #[fcv 153, fcv 154, rdv b1 b2 b3 b4, wrv b1 b4, rdv b5 b6 b7 b8, wrv b5 b8, rdv b9 b10 b11 b12, wrv b9 b12, fcv 159, fcv 160] /\ F' b1 = some (.cells #[(.string ⟨([67, 65, 84, 69, 71, 79, 82, 89] : UQ).toArray⟩)] 9 (0, 0)) /\ F' b2 = some (.cells #[.int .i64 1] 3 (0, 0)) /\ F' b3 = some (.cells #[.int .i64 9] 3 (0, 0)) /\ F' b4 = some (.cells #[fcv 156] 195 (0, 0)) /\ F' b5 = some (.cells #[(.string ⟨([80, 79, 87, 69, 82] : UQ).toArray⟩)] 9 (0, 0)) /\ F' b6 = some (.cells #[.int .i64 1] 3 (0, 0)) /\ F' b7 = some (.cells #[.int .i64 9999] 3 (0, 0)) /\ F' b8 = some (.cells #[fcv 157] 195 (0, 0)) /\ F' b9 = some (.cells #[(.string ⟨([67, 76, 65, 73, 77, 69, 68] : UQ).toArray⟩)] 9 (0, 0)) /\ F' b10 = some (.cells #[.int .i64 0] 3 (0, 0)) /\ F' b11 = some (.cells #[.int .i64 1000000] 3 (0, 0)) /\ F' b12 = some (.cells #[fcv 158] 195 (0, 0))) := by
 have hs0 := Uy hF
 refine Go 7 Tryz.func89 <| Sq <| Rg [0] <| Al' 110 #[.nilFunc, .nilFunc, .nilFunc, .nilFunc, .nilFunc, .nilFunc, .nilFunc, .nilFunc, .nilFunc, .nilFunc] hs0 (fun b0 w1 hs1 => ?_)
 refine Us <| Ab <| Sq <| Rg [0, 1, 2, 3, 4, 5, 6] <| Vs 1 <| Cl' EA hs1 (EZ w1 F0 hs1.pers [67, 65, 84, 69, 71, 79, 82, 89] 1 9 156) ?_
 rintro _ F1 w2 hs2 le1 ⟨b1, b2, b3, b4, rfl, f1, f2, f3, f4⟩
 refine Cl' EA hs2 (EZ w2 F1 hs2.pers [80, 79, 87, 69, 82] 1 9999 157) ?_
 rintro _ F2 w3 hs3 le2 ⟨b5, b6, b7, b8, rfl, f5, f6, f7, f8⟩
 refine Cl' EA hs3 (EZ w3 F2 hs3.pers [67, 76, 65, 73, 77, 69, 68] 0 1000000 158) ?_
 rintro _ F3 w4 hs4 le3 ⟨b9, b10, b11, b12, rfl, f9, f10, f11, f12⟩
 refine Vs 1 <| V 6 110 (IC (t := 110) (parts := #[(0, .tmp 1), (1, .tmp 2), (2, .tmp 3), (3, .tmp 4), (4, .tmp 5)]) (vs := [(0, .agg #[fcv 153, fcv 154]), (1, .agg #[rdv b1 b2 b3 b4, wrv b1 b4]), (2, .agg #[rdv b5 b6 b7 b8, wrv b5 b8]), (3, .agg #[rdv b9 b10 b11 b12, wrv b9 b12]), (4, .agg #[fcv 159, fcv 160])]) rfl (cs := [fcv 153, fcv 154, rdv b1 b2 b3 b4, wrv b1 b4, rdv b5 b6 b7 b8, wrv b5 b8, rdv b9 b10 b11 b12, wrv b9 b12, fcv 159, fcv 160]) (by kernel_rfl)) <| St0 #[fcv 153, fcv 154, rdv b1 b2 b3 b4, wrv b1 b4, rdv b5 b6 b7 b8, wrv b5 b8, rdv b9 b10 b11 b12, wrv b9 b12, fcv 159, fcv 160] hs4 (fun w5 hs5 => ?_)
 refine Us <| Ab <| Rt ?_
 exact ⟨rfl, (.agg #[fcv 153, fcv 154, rdv b1 b2 b3 b4, wrv b1 b4, rdv b5 b6 b7 b8, wrv b5 b8, rdv b9 b10 b11 b12, wrv b9 b12, fcv 159, fcv 160]), AR (l := [.cell 0 110]) (by kernel_rfl) (vs := [(.agg #[fcv 153, fcv 154, rdv b1 b2 b3 b4, wrv b1 b4, rdv b5 b6 b7 b8, wrv b5 b8, rdv b9 b10 b11 b12, wrv b9 b12, fcv 159, fcv 160])]) ⟨b0, 0, rfl, Am (t := 110) (g := true) (s := 10) (by kernel_rfl) hs5.at0 rfl (by decide), trivial⟩, (.agg #[fcv 153, fcv 154, rdv b1 b2 b3 b4, wrv b1 b4, rdv b5 b6 b7 b8, wrv b5 b8, rdv b9 b10 b11 b12, wrv b9 b12, fcv 159, fcv 160]), F3, rfl, hs5.clear, b1, b2, b3, b4, b5, b6, b7, b8, b9, b10, b11, b12, rfl, le3 _ _ (le2 _ _ f1), le3 _ _ (le2 _ _ f2), le3 _ _ (le2 _ _ f3), le3 _ _ (le2 _ _ f4), le3 _ _ f5, le3 _ _ f6, le3 _ _ f7, le3 _ _ f8, f9, f10, f11, f12⟩
def Il (N : Nat) (x0 : Ac) (x1 : Log) (r27 : (Int × Int)) (r54 : UQ) (r62 : UQ) (t68 : UQ) (r79 : UQ) (r87 : UQ) (t93 : UQ) (r104 : UQ) (r112 : UQ) (t118 : UQ) (r129 : UQ) (r137 : UQ) (t143 : UQ) (r154 : UQ) (r162 : UQ) (t168 : UQ) : (Int × UQ) -> Option (BD (UQ × Int) (Int × UQ)) := fun s178 =>
 (bif (decide (s178.1 < (x1.Lines.length : Int))) then ((idx x1.Lines s178.1).bind fun x207 => ((CV N ({ Report := x0.Report, Serial := x0.Serial, Zone := x0.Zone } : Ac) x207).bind fun r226 => ((CQ r226.1 ([10] : UQ)).bind fun r234 => ((IY s178.2 r234).bind fun t240 => some (.next ((W64 (s178.1 + 1)), t240)))))) else some (.done (s178.1, s178.2)))
def LX (N : Nat) (x0 : Ac) (x1 : Log) : Option (UQ × Int) :=
 ((Gv N ({ Report := x0.Report, Serial := x0.Serial, Zone := x0.Zone } : Ac) x1).bind fun r27 => (bif (r27.1 != 0) then none else ((Jg N x1).bind fun r54 => ((CQ r54 ([10] : UQ)).bind fun r62 => ((IY ([] : UQ) r62).bind fun t68 => ((FS N x1 ([67, 65, 84, 69, 71, 79, 82, 89] : UQ)).bind fun r79 => ((CQ r79 ([10] : UQ)).bind fun r87 => ((IY t68 r87).bind fun t93 => ((FQ N x1 ([80, 79, 87, 69, 82] : UQ)).bind fun r104 => ((CQ r104 ([10] : UQ)).bind fun r112 => ((IY t93 r112).bind fun t118 => ((FR N x1 ([67, 76, 65, 73, 77, 69, 68] : UQ)).bind fun r129 => ((CQ r129 ([10] : UQ)).bind fun r137 => ((IY t118 r137).bind fun t143 => ((GM N x1).bind fun r154 => ((CQ r154 ([10] : UQ)).bind fun r162 => ((IY t143 r162).bind fun t168 => ((A0 (Il N x0 x1 r27 r54 r62 t68 r79 r87 t93 r104 r112 t118 r129 r137 t143 r154 r162 t168) N (0, t168)).bind fun o => o.k (fun r => some r) (fun s190 => ((IY s190.2 ([69, 78, 68, 10] : UQ)).bind fun t252 => some (t252, 0)))))))))))))))))))))
theorem MF : Ag Tryz.prog 29 := fun _ _ => by kernel_rfl
theorem NT (N : Nat) (w0 : World) (F0 : Mem) (hF : US w0 F0) (hG : Br F0) (x0 : Ac) (x1 : Log) (a1_4 : UR) (n1_4 : Nat) (hb1_4 : LC x1.Jumps.length n1_4) (hs1_4 : SlA AQ F0 a1_4 x1.Jumps) (a1_5 : UR) (n1_5 : Nat) (hb1_5 : LC x1.Lines.length n1_5) (hs1_5 : SlA AK F0 a1_5 x1.Lines) (r : (UQ × Int)) (h : LX N x0 x1 = some r) :
  Calls Tryz.prog 29 ([(.agg (Ak x0)), (.agg (AL x1 a1_4 n1_4 a1_5 n1_5))] : List Value).toArray w0 (AB w0 F0 fun F' v => v = (.tuple #[(sv r.1), (vi r.2)])) := by
 have hs0 := Uy hF
 refine Go 54 Tryz.func29 <| Sq (Rg (rG 4) ?_)
 refine Bx' 23 (Ak x0) hs0 (fun b21 w22 hs23 => ?_)
 refine Bx' 27 (AL x1 a1_4 n1_4 a1_5 n1_5) hs23 (fun b24 w25 hs26 => ?_)
 refine Vs 2 <| Nss <| Sq (Rg (rG 8) ?_)
 refine Ld hs26.at1 <| Ld hs26.at0 ?_
 obtain ⟨r27, hr28, h29⟩ := bind_some h
 refine Cl' FC hs26 (GF N w25 F0 hs26.pers hG (({ Report := x0.Report, Serial := x0.Serial, Zone := x0.Zone } : Ac)) x1 a1_4 n1_4 hb1_4 hs1_4 a1_5 n1_5 hb1_5 hs1_5 _ hr28) ?_
 rintro _ F1 w31 hs32 le33 rfl
 refine Vs 5 <| Nss (Rg [0, 1] ?_)
 refine Vs 2 <| Nt <| Cd h29 (fun hb35 h36 => ?_) (fun hb35 h37 => ?_)
 ·cases h36
 ·refine Sc ?_
  refine Ab <| Sq (Rg [0] ?_)
  refine Al' 105 #[.pointer none, .slice none 0 0] hs32 (fun b38 w39 hs40 => ?_)
  obtain ⟨Lf41, hs42, hJ43⟩ := EP.new hs40
  have hs44 : HS w0 F0 w39 F1 ((sb b24 (AL x1 a1_4 n1_4 a1_5 n1_5) 27) :: (sb b21 (Ak x0) 23) :: Lf41) := hs42
  refine Nss <| Sq (Rg [0, 1] ?_)
  refine Cl' Eh hs44 (EN w39 F1 hs44.pers) ?_
  rintro _ F2 w45 hs46 le47 ⟨tbt48_0_0, tbt48_0_1, tbt48_0_2, tbt48_0_3, tbt48_0_4, tbt48_0_5, tbt48_0_6, tbt48_0_7, tbt48_0_8, tbt48_0_9, tbt48_0_10, tbt48_0_11, rfl, htbt48_0_0, htbt48_0_1, htbt48_0_2, htbt48_0_3, htbt48_0_4, htbt48_0_5, htbt48_0_6, htbt48_0_7, htbt48_0_8, htbt48_0_9, htbt48_0_10, htbt48_0_11⟩
  refine Vs 1 <| Nt <| Bk <| CWP.unroll (by kernel_rfl) 6 <| URL.step <| Sq (Rg [0] ?_)
  refine Vs 1 <| Nss <| C1 (rfl : true = true) <| Sc <| Ab <| Sq <| Bk <| Sq (Rg [0, 1, 2] ?_)
  refine V 27 109 (FL (t := 110) (E := 109) (len := 5) (s := 2) (x := (.tmp 24)) (y := (.tmp 25)) (k := .i64) (i := 0) (cs := [(fV 153 #[]), (fV 154 #[]), (fV 190 #[(pt tbt48_0_0 0), (pt tbt48_0_1 0), (pt tbt48_0_2 0), (pt tbt48_0_3 0)]), (fV 191 #[(pt tbt48_0_0 0), (pt tbt48_0_3 0)]), (fV 190 #[(pt tbt48_0_4 0), (pt tbt48_0_5 0), (pt tbt48_0_6 0), (pt tbt48_0_7 0)]), (fV 191 #[(pt tbt48_0_4 0), (pt tbt48_0_7 0)]), (fV 190 #[(pt tbt48_0_8 0), (pt tbt48_0_9 0), (pt tbt48_0_10 0), (pt tbt48_0_11 0)]), (fV 191 #[(pt tbt48_0_8 0), (pt tbt48_0_11 0)]), (fV 159 #[]), (fV 160 #[])]) (C := [(fV 153 #[]), (fV 154 #[])]) rfl rfl (by kernel_rfl) (by kernel_rfl) (by decide) rfl rfl) <| Al' 109 #[.nilFunc, .nilFunc] hs46 (fun b49 w50 hs51 => ?_)
  refine St0 #[(fV 153 #[]), (fV 154 #[])] hs51 (fun w52 hs53 => ?_)
  refine Nt <| Rg (rG 6) <| Vs 1 <| Ld hs53.at0 <| Ld hs53.at1 ?_
  obtain ⟨r54, hr55, h56⟩ := bind_some h37
  refine Cl' K2 hs53 (Mn N w52 F2 hs53.pers x1 a1_4 n1_4 hb1_4 (Uz hs1_4 (le33.t le47)) a1_5 n1_5 hb1_5 (Uz hs1_5 (le33.t le47)) _ hr55) ?_
  rintro _ F3 w58 hs59 le60 rfl
  obtain ⟨r62, hr63, h64⟩ := bind_some h56
  refine V 32 9 (AO (t := 9) (t' := 9) (x := (.tmp 31)) (y := (.const (sv ([10] : UQ)))) (a := r54) (b := ([10] : UQ)) (v := r62) rfl rfl hr63) ?_
  obtain ⟨t68, ht69, h70⟩ := bind_some h64
  refine CB Bj (DB (L := [(sb b49 #[(fV 153 #[]), (fV 154 #[])] 109), (sb b24 (AL x1 a1_4 n1_4 a1_5 n1_5) 27), (sb b21 (Ak x0) 23)]) ht69 (EP.mono _ _ _ _ hJ43 (le47.t le60)) hs59) ?_
  rintro _ F4 w65 _ hs66 le67 ⟨rfl, Lf71, rfl, hJ72⟩
  have hs73 : HS w0 F0 w65 F4 ((sb b49 #[(fV 153 #[]), (fV 154 #[])] 109) :: (sb b24 (AL x1 a1_4 n1_4 a1_5 n1_5) 27) :: (sb b21 (Ak x0) 23) :: Lf71) := hs66
  refine Us <| Av <| Ab <| Rg [0, 1] <| Vs 2 <| Nt <| URL.step <| Sq (Rg [0] ?_)
  refine Vs 1 <| Nss <| C1 (rfl : true = true) <| Sc <| Ab <| Sq <| Bk <| Sq (Rg [0, 1, 2] ?_)
  refine V 27 109 (FL (t := 110) (E := 109) (len := 5) (s := 2) (x := (.tmp 24)) (y := (.tmp 25)) (k := .i64) (i := 1) (cs := [(fV 153 #[]), (fV 154 #[]), (fV 190 #[(pt tbt48_0_0 0), (pt tbt48_0_1 0), (pt tbt48_0_2 0), (pt tbt48_0_3 0)]), (fV 191 #[(pt tbt48_0_0 0), (pt tbt48_0_3 0)]), (fV 190 #[(pt tbt48_0_4 0), (pt tbt48_0_5 0), (pt tbt48_0_6 0), (pt tbt48_0_7 0)]), (fV 191 #[(pt tbt48_0_4 0), (pt tbt48_0_7 0)]), (fV 190 #[(pt tbt48_0_8 0), (pt tbt48_0_9 0), (pt tbt48_0_10 0), (pt tbt48_0_11 0)]), (fV 191 #[(pt tbt48_0_8 0), (pt tbt48_0_11 0)]), (fV 159 #[]), (fV 160 #[])]) (C := [(fV 190 #[(pt tbt48_0_0 0), (pt tbt48_0_1 0), (pt tbt48_0_2 0), (pt tbt48_0_3 0)]), (fV 191 #[(pt tbt48_0_0 0), (pt tbt48_0_3 0)])]) rfl rfl (by kernel_rfl) (by kernel_rfl) (by decide) rfl rfl) <| Al' 109 #[.nilFunc, .nilFunc] hs73 (fun b74 w75 hs76 => ?_)
  refine St0 #[(fV 190 #[(pt tbt48_0_0 0), (pt tbt48_0_1 0), (pt tbt48_0_2 0), (pt tbt48_0_3 0)]), (fV 191 #[(pt tbt48_0_0 0), (pt tbt48_0_3 0)])] hs76 (fun w77 hs78 => ?_)
  refine Nt <| Rg (rG 6) <| Vs 1 <| Ld hs78.at0 <| Ld hs78.at2 ?_
  obtain ⟨r79, hr80, h81⟩ := bind_some h70
  refine Cl' H0 hs78 (IQ N w77 F4 hs78.pers (hG.mono (((le33.t le47).trans le60).trans le67)) x1 a1_4 n1_4 hb1_4 (Uz hs1_4 (((le33.t le47).trans le60).trans le67)) a1_5 n1_5 hb1_5 (Uz hs1_5 (((le33.t le47).trans le60).trans le67)) tbt48_0_0 ([67, 65, 84, 69, 71, 79, 82, 89] : UQ) ((le60.t le67) _ _ htbt48_0_0) tbt48_0_3 ((le60.t le67) _ _ htbt48_0_3) _ hr80) ?_
  rintro _ F5 w83 hs84 le85 rfl
  obtain ⟨r87, hr88, h89⟩ := bind_some h81
  refine V 32 9 (AO (t := 9) (t' := 9) (x := (.tmp 31)) (y := (.const (sv ([10] : UQ)))) (a := r79) (b := ([10] : UQ)) (v := r87) rfl rfl hr88) ?_
  obtain ⟨t93, ht94, h95⟩ := bind_some h89
  refine CB Bj (DB (L := [(sb b74 #[(fV 190 #[(pt tbt48_0_0 0), (pt tbt48_0_1 0), (pt tbt48_0_2 0), (pt tbt48_0_3 0)]), (fV 191 #[(pt tbt48_0_0 0), (pt tbt48_0_3 0)])] 109), (sb b49 #[(fV 153 #[]), (fV 154 #[])] 109), (sb b24 (AL x1 a1_4 n1_4 a1_5 n1_5) 27), (sb b21 (Ak x0) 23)]) ht94 (EP.mono _ _ _ _ hJ72 le85) hs84) ?_
  rintro _ F6 w90 _ hs91 le92 ⟨rfl, Lf96, rfl, hJ97⟩
  have hs98 : HS w0 F0 w90 F6 ((sb b74 #[(fV 190 #[(pt tbt48_0_0 0), (pt tbt48_0_1 0), (pt tbt48_0_2 0), (pt tbt48_0_3 0)]), (fV 191 #[(pt tbt48_0_0 0), (pt tbt48_0_3 0)])] 109) :: (sb b49 #[(fV 153 #[]), (fV 154 #[])] 109) :: (sb b24 (AL x1 a1_4 n1_4 a1_5 n1_5) 27) :: (sb b21 (Ak x0) 23) :: Lf96) := hs91
  refine Us <| Av <| Ab <| Rg [0, 1] <| Vs 2 <| Nt <| URL.step <| Sq (Rg [0] ?_)
  refine Vs 1 <| Nss <| C1 (rfl : true = true) <| Sc <| Ab <| Sq <| Bk <| Sq (Rg [0, 1, 2] ?_)
  refine V 27 109 (FL (t := 110) (E := 109) (len := 5) (s := 2) (x := (.tmp 24)) (y := (.tmp 25)) (k := .i64) (i := 2) (cs := [(fV 153 #[]), (fV 154 #[]), (fV 190 #[(pt tbt48_0_0 0), (pt tbt48_0_1 0), (pt tbt48_0_2 0), (pt tbt48_0_3 0)]), (fV 191 #[(pt tbt48_0_0 0), (pt tbt48_0_3 0)]), (fV 190 #[(pt tbt48_0_4 0), (pt tbt48_0_5 0), (pt tbt48_0_6 0), (pt tbt48_0_7 0)]), (fV 191 #[(pt tbt48_0_4 0), (pt tbt48_0_7 0)]), (fV 190 #[(pt tbt48_0_8 0), (pt tbt48_0_9 0), (pt tbt48_0_10 0), (pt tbt48_0_11 0)]), (fV 191 #[(pt tbt48_0_8 0), (pt tbt48_0_11 0)]), (fV 159 #[]), (fV 160 #[])]) (C := [(fV 190 #[(pt tbt48_0_4 0), (pt tbt48_0_5 0), (pt tbt48_0_6 0), (pt tbt48_0_7 0)]), (fV 191 #[(pt tbt48_0_4 0), (pt tbt48_0_7 0)])]) rfl rfl (by kernel_rfl) (by kernel_rfl) (by decide) rfl rfl) <| Al' 109 #[.nilFunc, .nilFunc] hs98 (fun b99 w100 hs101 => ?_)
  refine St0 #[(fV 190 #[(pt tbt48_0_4 0), (pt tbt48_0_5 0), (pt tbt48_0_6 0), (pt tbt48_0_7 0)]), (fV 191 #[(pt tbt48_0_4 0), (pt tbt48_0_7 0)])] hs101 (fun w102 hs103 => ?_)
  refine Nt <| Rg (rG 6) <| Vs 1 <| Ld hs103.at0 <| Ld hs103.at3 ?_
  obtain ⟨r104, hr105, h106⟩ := bind_some h95
  refine Cl' HY hs103 (IM N w102 F6 hs103.pers (hG.mono (((((le33.t le47).trans le60).trans le67).trans le85).trans le92)) x1 a1_4 n1_4 hb1_4 (Uz hs1_4 (((((le33.t le47).trans le60).trans le67).trans le85).trans le92)) a1_5 n1_5 hb1_5 (Uz hs1_5 (((((le33.t le47).trans le60).trans le67).trans le85).trans le92)) tbt48_0_4 ([80, 79, 87, 69, 82] : UQ) ((((le60.t le67).trans le85).trans le92) _ _ htbt48_0_4) tbt48_0_7 ((((le60.t le67).trans le85).trans le92) _ _ htbt48_0_7) _ hr105) ?_
  rintro _ F7 w108 hs109 le110 rfl
  obtain ⟨r112, hr113, h114⟩ := bind_some h106
  refine V 32 9 (AO (t := 9) (t' := 9) (x := (.tmp 31)) (y := (.const (sv ([10] : UQ)))) (a := r104) (b := ([10] : UQ)) (v := r112) rfl rfl hr113) ?_
  obtain ⟨t118, ht119, h120⟩ := bind_some h114
  refine CB Bj (DB (L := [(sb b99 #[(fV 190 #[(pt tbt48_0_4 0), (pt tbt48_0_5 0), (pt tbt48_0_6 0), (pt tbt48_0_7 0)]), (fV 191 #[(pt tbt48_0_4 0), (pt tbt48_0_7 0)])] 109), (sb b74 #[(fV 190 #[(pt tbt48_0_0 0), (pt tbt48_0_1 0), (pt tbt48_0_2 0), (pt tbt48_0_3 0)]), (fV 191 #[(pt tbt48_0_0 0), (pt tbt48_0_3 0)])] 109), (sb b49 #[(fV 153 #[]), (fV 154 #[])] 109), (sb b24 (AL x1 a1_4 n1_4 a1_5 n1_5) 27), (sb b21 (Ak x0) 23)]) ht119 (EP.mono _ _ _ _ hJ97 le110) hs109) ?_
  rintro _ F8 w115 _ hs116 le117 ⟨rfl, Lf121, rfl, hJ122⟩
  have hs123 : HS w0 F0 w115 F8 ((sb b99 #[(fV 190 #[(pt tbt48_0_4 0), (pt tbt48_0_5 0), (pt tbt48_0_6 0), (pt tbt48_0_7 0)]), (fV 191 #[(pt tbt48_0_4 0), (pt tbt48_0_7 0)])] 109) :: (sb b74 #[(fV 190 #[(pt tbt48_0_0 0), (pt tbt48_0_1 0), (pt tbt48_0_2 0), (pt tbt48_0_3 0)]), (fV 191 #[(pt tbt48_0_0 0), (pt tbt48_0_3 0)])] 109) :: (sb b49 #[(fV 153 #[]), (fV 154 #[])] 109) :: (sb b24 (AL x1 a1_4 n1_4 a1_5 n1_5) 27) :: (sb b21 (Ak x0) 23) :: Lf121) := hs116
  refine Us <| Av <| Ab <| Rg [0, 1] <| Vs 2 <| Nt <| URL.step <| Sq (Rg [0] ?_)
  refine Vs 1 <| Nss <| C1 (rfl : true = true) <| Sc <| Ab <| Sq <| Bk <| Sq (Rg [0, 1, 2] ?_)
  refine V 27 109 (FL (t := 110) (E := 109) (len := 5) (s := 2) (x := (.tmp 24)) (y := (.tmp 25)) (k := .i64) (i := 3) (cs := [(fV 153 #[]), (fV 154 #[]), (fV 190 #[(pt tbt48_0_0 0), (pt tbt48_0_1 0), (pt tbt48_0_2 0), (pt tbt48_0_3 0)]), (fV 191 #[(pt tbt48_0_0 0), (pt tbt48_0_3 0)]), (fV 190 #[(pt tbt48_0_4 0), (pt tbt48_0_5 0), (pt tbt48_0_6 0), (pt tbt48_0_7 0)]), (fV 191 #[(pt tbt48_0_4 0), (pt tbt48_0_7 0)]), (fV 190 #[(pt tbt48_0_8 0), (pt tbt48_0_9 0), (pt tbt48_0_10 0), (pt tbt48_0_11 0)]), (fV 191 #[(pt tbt48_0_8 0), (pt tbt48_0_11 0)]), (fV 159 #[]), (fV 160 #[])]) (C := [(fV 190 #[(pt tbt48_0_8 0), (pt tbt48_0_9 0), (pt tbt48_0_10 0), (pt tbt48_0_11 0)]), (fV 191 #[(pt tbt48_0_8 0), (pt tbt48_0_11 0)])]) rfl rfl (by kernel_rfl) (by kernel_rfl) (by decide) rfl rfl) <| Al' 109 #[.nilFunc, .nilFunc] hs123 (fun b124 w125 hs126 => ?_)
  refine St0 #[(fV 190 #[(pt tbt48_0_8 0), (pt tbt48_0_9 0), (pt tbt48_0_10 0), (pt tbt48_0_11 0)]), (fV 191 #[(pt tbt48_0_8 0), (pt tbt48_0_11 0)])] hs126 (fun w127 hs128 => ?_)
  refine Nt <| Rg (rG 6) <| Vs 1 <| Ld hs128.at0 <| Ld hs128.at4 ?_
  obtain ⟨r129, hr130, h131⟩ := bind_some h120
  refine Cl' HZ hs128 (IP N w127 F8 hs128.pers (hG.mono (((((((le33.t le47).trans le60).trans le67).trans le85).trans le92).trans le110).trans le117)) x1 a1_4 n1_4 hb1_4 (Uz hs1_4 (((((((le33.t le47).trans le60).trans le67).trans le85).trans le92).trans le110).trans le117)) a1_5 n1_5 hb1_5 (Uz hs1_5 (((((((le33.t le47).trans le60).trans le67).trans le85).trans le92).trans le110).trans le117)) tbt48_0_8 ([67, 76, 65, 73, 77, 69, 68] : UQ) ((((((le60.t le67).trans le85).trans le92).trans le110).trans le117) _ _ htbt48_0_8) tbt48_0_11 ((((((le60.t le67).trans le85).trans le92).trans le110).trans le117) _ _ htbt48_0_11) _ hr130) ?_
  rintro _ F9 w133 hs134 le135 rfl
  obtain ⟨r137, hr138, h139⟩ := bind_some h131
  refine V 32 9 (AO (t := 9) (t' := 9) (x := (.tmp 31)) (y := (.const (sv ([10] : UQ)))) (a := r129) (b := ([10] : UQ)) (v := r137) rfl rfl hr138) ?_
  obtain ⟨t143, ht144, h145⟩ := bind_some h139
  refine CB Bj (DB (L := [(sb b124 #[(fV 190 #[(pt tbt48_0_8 0), (pt tbt48_0_9 0), (pt tbt48_0_10 0), (pt tbt48_0_11 0)]), (fV 191 #[(pt tbt48_0_8 0), (pt tbt48_0_11 0)])] 109), (sb b99 #[(fV 190 #[(pt tbt48_0_4 0), (pt tbt48_0_5 0), (pt tbt48_0_6 0), (pt tbt48_0_7 0)]), (fV 191 #[(pt tbt48_0_4 0), (pt tbt48_0_7 0)])] 109), (sb b74 #[(fV 190 #[(pt tbt48_0_0 0), (pt tbt48_0_1 0), (pt tbt48_0_2 0), (pt tbt48_0_3 0)]), (fV 191 #[(pt tbt48_0_0 0), (pt tbt48_0_3 0)])] 109), (sb b49 #[(fV 153 #[]), (fV 154 #[])] 109), (sb b24 (AL x1 a1_4 n1_4 a1_5 n1_5) 27), (sb b21 (Ak x0) 23)]) ht144 (EP.mono _ _ _ _ hJ122 le135) hs134) ?_
  rintro _ F10 w140 _ hs141 le142 ⟨rfl, Lf146, rfl, hJ147⟩
  have hs148 : HS w0 F0 w140 F10 ((sb b124 #[(fV 190 #[(pt tbt48_0_8 0), (pt tbt48_0_9 0), (pt tbt48_0_10 0), (pt tbt48_0_11 0)]), (fV 191 #[(pt tbt48_0_8 0), (pt tbt48_0_11 0)])] 109) :: (sb b99 #[(fV 190 #[(pt tbt48_0_4 0), (pt tbt48_0_5 0), (pt tbt48_0_6 0), (pt tbt48_0_7 0)]), (fV 191 #[(pt tbt48_0_4 0), (pt tbt48_0_7 0)])] 109) :: (sb b74 #[(fV 190 #[(pt tbt48_0_0 0), (pt tbt48_0_1 0), (pt tbt48_0_2 0), (pt tbt48_0_3 0)]), (fV 191 #[(pt tbt48_0_0 0), (pt tbt48_0_3 0)])] 109) :: (sb b49 #[(fV 153 #[]), (fV 154 #[])] 109) :: (sb b24 (AL x1 a1_4 n1_4 a1_5 n1_5) 27) :: (sb b21 (Ak x0) 23) :: Lf146) := hs141
  refine Us <| Av <| Ab <| Rg [0, 1] <| Vs 2 <| Nt <| URL.step <| Sq (Rg [0] ?_)
  refine Vs 1 <| Nss <| C1 (rfl : true = true) <| Sc <| Ab <| Sq <| Bk <| Sq (Rg [0, 1, 2] ?_)
  refine V 27 109 (FL (t := 110) (E := 109) (len := 5) (s := 2) (x := (.tmp 24)) (y := (.tmp 25)) (k := .i64) (i := 4) (cs := [(fV 153 #[]), (fV 154 #[]), (fV 190 #[(pt tbt48_0_0 0), (pt tbt48_0_1 0), (pt tbt48_0_2 0), (pt tbt48_0_3 0)]), (fV 191 #[(pt tbt48_0_0 0), (pt tbt48_0_3 0)]), (fV 190 #[(pt tbt48_0_4 0), (pt tbt48_0_5 0), (pt tbt48_0_6 0), (pt tbt48_0_7 0)]), (fV 191 #[(pt tbt48_0_4 0), (pt tbt48_0_7 0)]), (fV 190 #[(pt tbt48_0_8 0), (pt tbt48_0_9 0), (pt tbt48_0_10 0), (pt tbt48_0_11 0)]), (fV 191 #[(pt tbt48_0_8 0), (pt tbt48_0_11 0)]), (fV 159 #[]), (fV 160 #[])]) (C := [(fV 159 #[]), (fV 160 #[])]) rfl rfl (by kernel_rfl) (by kernel_rfl) (by decide) rfl rfl) <| Al' 109 #[.nilFunc, .nilFunc] hs148 (fun b149 w150 hs151 => ?_)
  refine St0 #[(fV 159 #[]), (fV 160 #[])] hs151 (fun w152 hs153 => ?_)
  refine Nt <| Rg (rG 6) <| Vs 1 <| Ld hs153.at0 <| Ld hs153.at5 ?_
  obtain ⟨r154, hr155, h156⟩ := bind_some h145
  refine Cl' IJ hs153 (JA N w152 F10 hs153.pers (hG.mono (((((((((le33.t le47).trans le60).trans le67).trans le85).trans le92).trans le110).trans le117).trans le135).trans le142)) x1 a1_4 n1_4 hb1_4 (Uz hs1_4 (((((((((le33.t le47).trans le60).trans le67).trans le85).trans le92).trans le110).trans le117).trans le135).trans le142)) a1_5 n1_5 hb1_5 (Uz hs1_5 (((((((((le33.t le47).trans le60).trans le67).trans le85).trans le92).trans le110).trans le117).trans le135).trans le142)) _ hr155) ?_
  rintro _ F11 w158 hs159 le160 rfl
  obtain ⟨r162, hr163, h164⟩ := bind_some h156
  refine V 32 9 (AO (t := 9) (t' := 9) (x := (.tmp 31)) (y := (.const (sv ([10] : UQ)))) (a := r154) (b := ([10] : UQ)) (v := r162) rfl rfl hr163) ?_
  obtain ⟨t168, ht169, h170⟩ := bind_some h164
  refine CB Bj (DB (L := [(sb b149 #[(fV 159 #[]), (fV 160 #[])] 109), (sb b124 #[(fV 190 #[(pt tbt48_0_8 0), (pt tbt48_0_9 0), (pt tbt48_0_10 0), (pt tbt48_0_11 0)]), (fV 191 #[(pt tbt48_0_8 0), (pt tbt48_0_11 0)])] 109), (sb b99 #[(fV 190 #[(pt tbt48_0_4 0), (pt tbt48_0_5 0), (pt tbt48_0_6 0), (pt tbt48_0_7 0)]), (fV 191 #[(pt tbt48_0_4 0), (pt tbt48_0_7 0)])] 109), (sb b74 #[(fV 190 #[(pt tbt48_0_0 0), (pt tbt48_0_1 0), (pt tbt48_0_2 0), (pt tbt48_0_3 0)]), (fV 191 #[(pt tbt48_0_0 0), (pt tbt48_0_3 0)])] 109), (sb b49 #[(fV 153 #[]), (fV 154 #[])] 109), (sb b24 (AL x1 a1_4 n1_4 a1_5 n1_5) 27), (sb b21 (Ak x0) 23)]) ht169 (EP.mono _ _ _ _ hJ147 le160) hs159) ?_
  rintro _ F12 w165 _ hs166 le167 ⟨rfl, Lf171, rfl, hJ172⟩
  have hs173 : HS w0 F0 w165 F12 ((sb b149 #[(fV 159 #[]), (fV 160 #[])] 109) :: (sb b124 #[(fV 190 #[(pt tbt48_0_8 0), (pt tbt48_0_9 0), (pt tbt48_0_10 0), (pt tbt48_0_11 0)]), (fV 191 #[(pt tbt48_0_8 0), (pt tbt48_0_11 0)])] 109) :: (sb b99 #[(fV 190 #[(pt tbt48_0_4 0), (pt tbt48_0_5 0), (pt tbt48_0_6 0), (pt tbt48_0_7 0)]), (fV 191 #[(pt tbt48_0_4 0), (pt tbt48_0_7 0)])] 109) :: (sb b74 #[(fV 190 #[(pt tbt48_0_0 0), (pt tbt48_0_1 0), (pt tbt48_0_2 0), (pt tbt48_0_3 0)]), (fV 191 #[(pt tbt48_0_0 0), (pt tbt48_0_3 0)])] 109) :: (sb b49 #[(fV 153 #[]), (fV 154 #[])] 109) :: (sb b24 (AL x1 a1_4 n1_4 a1_5 n1_5) 27) :: (sb b21 (Ak x0) 23) :: Lf171) := hs166
  refine Us <| Av <| Ab <| Rg [0, 1] <| Vs 2 <| Nt <| URL.step <| Sq (Rg [0] ?_)
  refine Vs 1 <| Nss <| C0 (rfl : false = false) <| Ex <| Au <| Au <| AA rfl <| Ab <| Sq <| Sq (Rg (rG 4) ?_)
  refine Vs 1 <| Ld hs173.at5 <| Vs 2 <| Nt ?_
  have hs174 := hs173.dr0.dr0.dr0.dr0.dr0
  obtain ⟨o175, ho176, h177⟩ := bind_some h170
  refine UD (fun f w => ∃ (s190 : (Int × UQ)) (F14 : Mem) (Lf194 : Own), o175 = .done s190 /\ HS w0 F0 w F14 Lf194 /\ Uw F12 F14 /\ FI f [] [(8, (pt b38 0))] /\ EP b38 s190.2 F14 Lf194) ?_ ?_
  ·refine Bk ?_
   refine Uv (by kernel_rfl) (fun m f w => ∃ (s178 : (Int × UQ)) (F13 : Mem) (Lf182 : Own), A0 (Il N x0 x1 r27 r54 r62 t68 r79 r87 t93 r104 r112 t118 r129 r137 t143 r154 r162 t168) m s178 = some o175 /\ HS w0 F0 w F13 ((sb b21 (Ak x0) 23) :: Lf182) /\ Uw F12 F13 /\ FI f [] [(2, (pt b21 0)), (8, (pt b38 0)), (36, (.slice a1_5 x1.Lines.length n1_5)), (37, (vi (x1.Lines.length : Int))), (38, (vi s178.1))] /\ EP b38 s178.2 F13 Lf182) N ⟨(0, t168), F12, Lf171, ho176, hs174.dr0, (Ux _), fI, hJ172⟩ ?_
   rintro m198 f w179 ⟨s178, F13, Lf182, hit199, hs180, le181, ⟨_, rfl⟩, hJ183⟩
   obtain ⟨m200, fl201, rfl, hb202, hnx203⟩ := AU hit199
   refine Sq (Rg [0] ?_)
   refine Vs 1 <| Nss <| Cd hb202 (fun hb204 h205 => ?_) (fun hb204 h206 => ?_)
   ·refine Sc ?_
    refine Ab <| Sq <| Bk <| Sq (Rg (rG 4) ?_)
    obtain ⟨x207, hx208, h210⟩ := bind_some h205
    obtain ⟨hi209, hx208'⟩ := As hx208
    obtain ⟨b211, o212, C213, E214, fz215, rfl, hF217, hE218⟩ := UE (Uz hs1_5 ((((((((((((le33.t le47).trans le60).trans le67).trans le85).trans le92).trans le110).trans le117).trans le135).trans le142).trans le160).trans le167).trans le181)) hx208'
    have hc220 := hE218 _ _ hx208'
    refine Ix hi209 <| Lx 0 (hs180.pers _ _ hF217) hc220 <| Al' 34 #[(vi 0), (vi 0), (vi 0), (vi 0), (sv (([] : UQ))), (vi 0), (vi 0), (vi 0), (vi 0), (vi 0), (vi 0)] hs180 (fun b221 w222 hs223 => ?_)
    refine St0 (B6 x207) hs223 (fun w224 hs225 => ?_)
    refine Nss (Rg (rG 8) ?_)
    refine Ld hs225.at1 <| Ld hs225.at0 ?_
    obtain ⟨r226, hr227, h228⟩ := bind_some h210
    refine Cl' Ft hs225 (Gg N w224 F13 hs225.pers (hG.mono ((((((((((((le33.t le47).trans le60).trans le67).trans le85).trans le92).trans le110).trans le117).trans le135).trans le142).trans le160).trans le167).trans le181)) (({ Report := x0.Report, Serial := x0.Serial, Zone := x0.Zone } : Ac)) x207 _ hr227) ?_
    rintro _ F15 w230 hs231 le232 rfl
    refine Vs 5 <| Nt <| Rg [0, 1, 2] <| Vs 1 ?_
    obtain ⟨r234, hr235, h236⟩ := bind_some h228
    refine V 49 9 (AO (t := 9) (t' := 9) (x := (.tmp 48)) (y := (.const (sv ([10] : UQ)))) (a := r226.1) (b := ([10] : UQ)) (v := r234) rfl rfl hr235) ?_
    obtain ⟨t240, ht241, h242⟩ := bind_some h236
    refine CB Bj (DB (L := [(sb b221 (B6 x207) 34), (sb b21 (Ak x0) 23)]) ht241 (EP.mono _ _ _ _ hJ183 le232) hs231) ?_
    rintro _ F16 w237 _ hs238 le239 ⟨rfl, Lf243, rfl, hJ244⟩
    have hs245 : HS w0 F0 w237 F16 ((sb b221 (B6 x207) 34) :: (sb b21 (Ak x0) 23) :: Lf243) := hs238
    refine Us <| Av <| Ab <| Rg [0, 1] <| Vs 2 <| Us ?_
    have hn246 := AV h242 hnx203
    exact ⟨m200, Nat.lt_succ_self _, ((W64 (s178.1 + 1)), t240), F16, Lf243, hn246, hs245.dr0, ((le181.t le232).trans le239), fI, hJ244⟩
   ·refine Ex ?_
    refine Au <| Au <| AA rfl ?_
    have ho247 := AW h206 hnx203
    exact .inl ⟨rfl, (s178.1, s178.2), F13, Lf182, ho247, hs180.dr0, le181, fI, hJ183⟩
  ·rintro f w191 ⟨s190, F14, Lf194, rfl, hs192, le193, ⟨_, rfl⟩, hJ195⟩
   have h248 := BL h177
   refine Ab <| Sq (Rg [0] ?_)
   obtain ⟨t252, ht253, h254⟩ := bind_some h248
   refine CB Bj (DB (L := []) ht253 hJ195 hs192) ?_
   rintro _ F17 w249 Lf255 hs250 le251 ⟨rfl, _, rfl, hJ256⟩
   have hs257 : HS w0 F0 w249 F17 Lf255 := hs250
   refine Nss (Rg [0, 1, 2] ?_)
   refine CB Md (Nc (L := []) hJ256 hs257) ?_
   rintro _ _ w258 _ hs259 _ ⟨rfl, rfl, rfl⟩
   refine Vs 2 <| Nt <| Rt ?_
   obtain rfl := Aa h254
   exact Re [(sv t252), (vi 0)] hs259 rfl
def AD (N : Nat) (x0 : UQ) : Option (Int × Bool) :=
 ((BN N x0).bind fun r21 => ((bif (!r21.2) then ((strconv_Itoa N r21.1).bind fun r41 => some (r41 == x0)) else some false).bind fun j32 => some (r21.1, j32)))
theorem Bc : Ag Tryz.prog 95 := fun _ _ => by kernel_rfl
theorem Bl (N : Nat) (w0 : World) (F0 : Mem) (hF : US w0 F0) (hG : Br F0) (x0 : UQ) (r : (Int × Bool)) (h : AD N x0 = some r) :
  Calls Tryz.prog 95 ([(sv x0)] : List Value).toArray w0 (AB w0 F0 fun F' v => v = (.tuple #[(vi r.1), (.bool r.2)])) := by
 have hs0 := Uy hF
 refine Go 20 Tryz.func95 <| Sq (Rg [0, 1] ?_)
 refine Vs 2 <| Nss (Rg (rG 7) ?_)
 refine Vs 1 ?_
 obtain ⟨r21, hr22, h23⟩ := bind_some h
 refine Cl' GO hs0 (HG N w0 F0 hs0.pers hG x0 _ hr22) ?_
 rintro _ F1 w25 hs26 le27 ⟨vr21_1_0, rfl, her21_1_0⟩
 refine Vs 5 <| Nss (Rg (rG 11) ?_)
 obtain ⟨j32, hj36, h37⟩ := bind_some h23
 refine UC (fun f w => ∃ (F2 : Mem), HS w0 F0 w F2 [] /\ Uw F1 F2 /\ FI f [] [(2, (vi r21.1)), (3, (.bool j32))]) ?_ ?_
 ·refine Vs 2 ?_
  refine V 13 4 (Pa (t := 113) (t' := 113) (x := (.tmp 12)) (c := .nilIface) her21_1_0 rfl rfl (by kernel_rfl)) <| Vs 1 <| Sp hj36 (fun hb38 h39 => ?_) (fun hb38 h40 => ?_)
  ·refine Vgs hb38 1 ?_
   obtain ⟨r41, hr42, h43⟩ := bind_some h39
   refine Cg hb38 Bm hs26 (Bv N w25 F1 hs26.pers (hG.mono le27) r21.1 _ hr42) ?_
   rintro _ F3 w45 hs46 le47 rfl
   refine Vgs hb38 2 <| Pk1 hb38 <| Vs 2 ?_
   obtain rfl := Aa h43
   exact Us ⟨rfl, F3, hs46, le47, fI⟩
  ·refine Ss hb38 4 ?_
   refine Pk0 hb38 <| Vs 2 ?_
   obtain rfl := Aa h40
   exact Us ⟨rfl, F1, hs26, (Ux _), fI⟩
 ·rintro f w29 ⟨F2, hs30, le31, ⟨_, rfl⟩⟩
  refine Ab <| Rt ?_
  obtain rfl := Aa h37
  exact Re [(vi r21.1), (.bool j32)] hs30 rfl
def CW (N : Nat) (x0 : Ac) (x1 : UQ) : Option (Line × Int) :=
 ((strings_Split N x1 ([32] : UQ)).bind fun r27 => ((AN N r27 ([60] : UQ)).bind fun r35 => ((bif (decide ((r27.length : Int) < 9)) then some true else (bif (decide (r35 < 8)) then some true else ((idx r27 7).bind fun x62 => some (x62 != ([62] : UQ))))).bind fun j46 => (bif j46 then some (({ Num := 0, Khz := 0, Mode := 0, Minute := 0, Call := ([] : UQ), Sent := ({ Report := 0, Serial := 0, Zone := 0 } : Ad), Got := ({ Report := 0, Serial := 0, Zone := 0 } : Ad) } : Line), 20) else ((idx r27 1).bind fun x81 => ((AD N x81).bind fun r95 => ((idx r27 2).bind fun x103 => ((AD N x103).bind fun r109 => (((idx r27 4).bind fun x134 => ((CQ x134 ([32] : UQ)).bind fun r140 => ((idx r27 5).bind fun x143 => ((CQ r140 x143).bind fun r149 => ((Em N r149).bind fun r152 => some r152.1))))).bind fun j122 => (((sub r27 8 r35).bind fun r179 => ((strings_Join N r179 ([32] : UQ)).bind fun r187 => ((B9 N ({ Report := x0.Report, Serial := x0.Serial, Zone := x0.Zone } : Ac) r187).bind fun r195 => some (r195.1.Report, r195.1.Serial, r195.1.Zone)))).bind fun j166 => (((sub r27 (W64 (r35 + 1)) (r27.length : Int)).bind fun r261 => ((strings_Join N r261 ([32] : UQ)).bind fun r269 => ((B9 N ({ Report := x0.Report, Serial := x0.Serial, Zone := x0.Zone } : Ac) r269).bind fun r277 => some (r277.1.Report, r277.1.Serial, r277.1.Zone)))).bind fun j248 => (((idx r27 3).bind fun x338 => ((idx r27 6).bind fun x344 => ((strings_Index N ([32, 77, 86, 68] : UQ) x338).bind fun r350 => some (r350, x344)))).bind fun j330 => ((CV N ({ Report := x0.Report, Serial := x0.Serial, Zone := x0.Zone } : Ac) ({ Num := r95.1, Khz := r109.1, Mode := j330.1, Minute := j122, Call := j330.2, Sent := ({ Report := j166.1, Serial := j166.2.1, Zone := j166.2.2 } : Ad), Got := ({ Report := j248.1, Serial := j248.2.1, Zone := j248.2.2 } : Ad) } : Line)).bind fun r376 => (bif ((r376.2 != 0) || (r376.1 != x1)) then some (({ Num := 0, Khz := 0, Mode := 0, Minute := 0, Call := ([] : UQ), Sent := ({ Report := 0, Serial := 0, Zone := 0 } : Ad), Got := ({ Report := 0, Serial := 0, Zone := 0 } : Ad) } : Line), 20) else some (({ Num := r95.1, Khz := r109.1, Mode := j330.1, Minute := j122, Call := j330.2, Sent := ({ Report := j166.1, Serial := j166.2.1, Zone := j166.2.2 } : Ad), Got := ({ Report := j248.1, Serial := j248.2.1, Zone := j248.2.2 } : Ad) } : Line), 0)))))))))))))))
theorem Fu : Ag Tryz.prog 31 := fun _ _ => by kernel_rfl
theorem Gh (N : Nat) (w0 : World) (F0 : Mem) (hF : US w0 F0) (hG : Br F0) (x0 : Ac) (x1 : UQ) (r : (Line × Int)) (h : CW N x0 x1 = some r) :
  Calls Tryz.prog 31 ([(.agg (Ak x0)), (sv x1)] : List Value).toArray w0 (AB w0 F0 fun F' v => v = (.tuple #[(.agg (B6 r.1)), (vi r.2)])) := by
 have hs0 := Uy hF
 refine Go 112 Tryz.func31 <| Sq (Rg [0, 1, 2] ?_)
 refine Bx' 23 (Ak x0) hs0 (fun b21 w22 hs23 => ?_)
 refine Al' 34 #[(vi 0), (vi 0), (vi 0), (vi 0), (sv (([] : UQ))), (vi 0), (vi 0), (vi 0), (vi 0), (vi 0), (vi 0)] hs23 (fun b24 w25 hs26 => ?_)
 refine Vs 1 <| Nss (Rg [0, 1, 2] ?_)
 refine Vs 1 ?_
 obtain ⟨r27, hr28, h29⟩ := bind_some h
 refine Cl' Ch hs26 (Cy N w25 F0 hs26.pers hG x1 (([32] : UQ)) _ hr28) ?_
 rintro _ F1 w31 hs32 le33 ⟨ar27_0_0, nr27_0_0, rfl, hbr27_0_0, hsr27_0_0⟩
 refine Vs 1 <| Nss (Rg [0, 1, 2] ?_)
 refine Vs 1 ?_
 obtain ⟨r35, hr36, h37⟩ := bind_some h29
 refine Cl' Cr hs32 (Cz N w31 F1 hs32.pers r27 ar27_0_0 nr27_0_0 hbr27_0_0 hsr27_0_0 (([60] : UQ)) _ hr36) ?_
 rintro _ F2 w39 hs40 le41 rfl
 refine Vs 1 <| Nss <| Sq (Rg (rG 13) ?_)
 obtain ⟨j46, hj54, h55⟩ := bind_some h37
 refine UC (fun f w => ∃ (F3 : Mem), HS w0 F0 w F3 [(sb b24 #[(vi 0), (vi 0), (vi 0), (vi 0), (sv (([] : UQ))), (vi 0), (vi 0), (vi 0), (vi 0), (vi 0), (vi 0)] 34), (sb b21 (Ak x0) 23)] /\ Uw F2 F3 /\ FI f [] [(1, (sv x1)), (2, (pt b21 0)), (4, (pt b24 0)), (6, (.slice ar27_0_0 r27.length nr27_0_0)), (7, (vi r35)), (37, (.bool j46))]) ?_ ?_
 ·refine Vs 4 ?_
  refine Sp hj54 (fun hb56 h57 => ?_) (fun hb56 h58 => ?_)
  ·refine Ss hb56 2 ?_
   refine Pk1 hb56 <| Vs 1 <| Ss (rfl : true = true) 4 <| Pk1 (rfl : true = true) ?_
   obtain rfl := Aa h57
   exact Us ⟨rfl, F2, hs40, (Ux _), fI⟩
  ·refine Vgs hb56 2 ?_
   refine Pk0 hb56 <| Vs 1 <| Sp h58 (fun hb59 h60 => ?_) (fun hb59 h61 => ?_)
   ·refine Ss hb59 4 ?_
    refine Pk1 hb59 ?_
    obtain rfl := Aa h60
    exact Us ⟨rfl, F2, hs40, (Ux _), fI⟩
   ·refine Vgs hb59 1 ?_
    obtain ⟨x62, hx63, h65⟩ := bind_some h61
    obtain ⟨hi64, hx63'⟩ := As hx63
    obtain ⟨b66, o67, C68, E69, fz70, rfl, hF72, hE73⟩ := UE (Uz hsr27_0_0 le41) hx63'
    have hc75 := hE73 _ _ hx63'
    refine Ixg hb59 hi64 <| Lxg hb59 0 (hs40.pers _ _ hF72) hc75 <| Vgs hb59 1 <| Pk0 hb59 ?_
    obtain rfl := Aa h65
    exact Us ⟨rfl, F2, hs40, (Ux _), fI⟩
 ·rintro f w43 ⟨F3, hs44, le45, ⟨_, rfl⟩⟩
  refine Ab <| Cd h55 (fun hb76 h77 => ?_) (fun hb76 h78 => ?_)
  ·refine Sq (Rg [0, 1, 2] ?_)
   refine Vs 1 <| St0 #[(vi 0), (vi 0), (vi 0), (vi 0), (sv (([] : UQ))), (vi 0), (vi 0), (vi 0), (vi 0), (vi 0), (vi 0)] hs44 (fun w79 hs80 => ?_)
   refine Vs 1 <| Nt <| Rt <| Aj ?_
   obtain rfl := Aa h77
   exact ⟨rfl, (.tuple #[(.agg #[(vi 0), (vi 0), (vi 0), (vi 0), (sv (([] : UQ))), (vi 0), (vi 0), (vi 0), (vi 0), (vi 0), (vi 0)]), (vi 20)]), AR (l := [.cell 4 34, .tmp 5]) (by kernel_rfl) (vs := [(.agg #[(vi 0), (vi 0), (vi 0), (vi 0), (sv (([] : UQ))), (vi 0), (vi 0), (vi 0), (vi 0), (vi 0), (vi 0)]), (vi 20)]) ⟨b24, 0, rfl, Am (t := 34) (g := true) (s := 11) (by kernel_rfl) hs80.at0 rfl (by decide), ⟨rfl, trivial⟩⟩, (.tuple #[(.agg #[(vi 0), (vi 0), (vi 0), (vi 0), (sv (([] : UQ))), (vi 0), (vi 0), (vi 0), (vi 0), (vi 0), (vi 0)]), (vi 20)]), F3, rfl, hs80.clear, rfl⟩
  ·refine Sc ?_
   refine Ab <| Sq (Rg (rG 9) ?_)
   refine Vs 1 ?_
   obtain ⟨x81, hx82, h84⟩ := bind_some h78
   obtain ⟨hi83, hx82'⟩ := As hx82
   obtain ⟨b85, o86, C87, E88, fz89, rfl, hF91, hE92⟩ := UE (Uz hsr27_0_0 (le41.t le45)) hx82'
   have hc94 := hE92 _ _ hx82'
   refine Ix hi83 <| Lx 0 (hs44.pers _ _ hF91) hc94 ?_
   obtain ⟨r95, hr96, h97⟩ := bind_some h84
   refine Cl' Bc hs44 (Bl N w43 F3 hs44.pers (hG.mono ((le33.t le41).trans le45)) x81 _ hr96) ?_
   rintro _ F4 w99 hs100 le101 rfl
   refine Vs 5 <| Nss (Rg (rG 9) ?_)
   refine Vs 1 ?_
   obtain ⟨x103, hx104, h106⟩ := bind_some h97
   obtain ⟨hi105, hx104'⟩ := As hx104
   have hc108 := hE92 _ _ hx104'
   refine Ix hi105 <| Lx 0 (hs100.pers _ _ (le101 _ _ hF91)) hc108 ?_
   obtain ⟨r109, hr110, h111⟩ := bind_some h106
   refine Cl' Bc hs100 (Bl N w99 F4 hs100.pers (hG.mono (((le33.t le41).trans le45).trans le101)) x103 _ hr110) ?_
   rintro _ F5 w113 hs114 le115 rfl
   refine Vs 5 <| Nss ?_
   obtain ⟨j122, hj132, h133⟩ := bind_some h111
   refine RD 14 14 [(sb b24 #[(vi 0), (vi 0), (vi 0), (vi 0), (sv (([] : UQ))), (vi 0), (vi 0), (vi 0), (vi 0), (vi 0), (vi 0)] 34), (sb b21 (Ak x0) 23)] [] hs114 (fun f w => ∃ (F6 : Mem), HS w0 F0 w F6 [(sb b24 #[(vi 0), (vi 0), (vi 0), (vi 0), (sv (([] : UQ))), (vi 0), (vi 0), (vi 0), (vi 0), (vi 0), (vi 0)] 34), (sb b21 (Ak x0) 23)] /\ Uw F5 F6 /\ FI f [] [(1, (sv x1)), (2, (pt b21 0)), (4, (pt b24 0)), (6, (.slice (some ⟨b85, o86, none⟩) r27.length nr27_0_0)), (7, (vi r35)), (8, (vi r95.1)), (10, (vi r109.1)), (12, (vi j122))]) (fun wd117 hw118 => ?_) ?_
   ·refine Dv [0] ?_
    obtain ⟨x134, hx135, h137⟩ := bind_some hj132
    obtain ⟨hi136, hx135'⟩ := As hx135
    have hc139 := hE92 _ _ hx135'
    refine Di 1 hi136 <| Dx 2 0 (fun _ hq => hq.1.1 _ _ ((le101.t le115) _ _ hF91)) hc139 ?_
    obtain ⟨r140, hr141, h142⟩ := bind_some h137
    refine Dt 3 57 9 (sv r140) (fun _ hq => AO (t := 9) (t' := 9) (x := (.tmp 56)) (y := (.const (sv ([32] : UQ)))) (a := x134) (b := ([32] : UQ)) (v := r140) rfl rfl hr141) <| Dv [4] ?_
    obtain ⟨x143, hx144, h146⟩ := bind_some h142
    obtain ⟨hi145, hx144'⟩ := As hx144
    have hc148 := hE92 _ _ hx144'
    refine Di 5 hi145 <| Dx 6 0 (fun _ hq => hq.1.1 _ _ ((le101.t le115) _ _ hF91)) hc148 ?_
    obtain ⟨r149, hr150, h151⟩ := bind_some h146
    refine Dt 7 61 9 (sv r149) (fun _ hq => AO (t := 9) (t' := 9) (x := (.tmp 57)) (y := (.tmp 60)) (a := r140) (b := x143) (v := r149) rfl rfl hr150) <| D1 8 ?_
    obtain ⟨r152, hr153, h154⟩ := bind_some h151
    refine DCl Kn hw118 (K8 N wd117 F5 hw118.pers (hG.mono ((((le33.t le41).trans le45).trans le101).trans le115)) r149 _ hr153) ?_
    rintro _ F7 w156 hs157 le158 rfl
    refine Dv [9, 10, 11, 12, 13] ?_
    obtain rfl := Aa h154
    exact UJ (by kernel_rfl) ⟨F7, hs157, le158, fI⟩
   ·rintro f w119 ⟨F6, hs120, le121, ⟨_, rfl⟩⟩
    refine Ab <| Sq ?_
    obtain ⟨j166, hj177, h178⟩ := bind_some h133
    refine RD 12 12 [(sb b24 #[(vi 0), (vi 0), (vi 0), (vi 0), (sv (([] : UQ))), (vi 0), (vi 0), (vi 0), (vi 0), (vi 0), (vi 0)] 34), (sb b21 (Ak x0) 23)] [] hs120 (fun f w => ∃ (F8 : Mem) (b165 : Nat), HS w0 F0 w F8 [(sb b165 #[(vi j166.1), (vi j166.2.1), (vi j166.2.2)] 32), (sb b24 #[(vi 0), (vi 0), (vi 0), (vi 0), (sv (([] : UQ))), (vi 0), (vi 0), (vi 0), (vi 0), (vi 0), (vi 0)] 34), (sb b21 (Ak x0) 23)] /\ Uw F6 F8 /\ FI f [] [(1, (sv x1)), (2, (pt b21 0)), (4, (pt b24 0)), (6, (.slice (some ⟨b85, o86, none⟩) r27.length nr27_0_0)), (7, (vi r35)), (8, (vi r95.1)), (10, (vi r109.1)), (12, (vi j122)), (14, (pt b165 0))]) (fun wd160 hw161 => ?_) ?_
    ·refine Dl 0 (fun _ hq => (hq.1.2 1 _ _ rfl)) ?_
     refine Dv [1, 2] ?_
     obtain ⟨r179, hr180, h181⟩ := bind_some hj177
     obtain ⟨a182, n183, hb184, hs185, hrun186⟩ := EU (P := Tryz.prog) (T := AF) (lo := (some (.const (vi 8)))) (hi := (some (.tmp 68))) (mx := none) (t := 55) (E := 9) (by_ := 16) (c := nr27_0_0) (a := (some ⟨b85, o86, none⟩)) (l := r27) (r := r179) (il := 8) (ih := r35) (im := 0) (by kernel_rfl) (by kernel_rfl) hbr27_0_0 (Uz hsr27_0_0 ((((le41.t le45).trans le101).trans le115).trans le121)) (fun h => by first | rfl | cases h) hr180
     refine Dt 3 69 55 (.slice a182 r179.length n183) (fun _ hq => hrun186 (x := (.tmp 67)) rfl rfl rfl trivial) <| UF (i := 4) (j := 9) (by kernel_rfl) ?_ ?_
     ·obtain ⟨r187, hr188, h189⟩ := bind_some h181
      refine DCl BZ hw161 (Ck N wd160 F6 hw161.pers r179 a182 n183 hb184 hs185 (([32] : UQ)) _ hr188) ?_
      rintro _ F9 w191 hs192 le193 rfl
      refine UF (i := 5) (j := 9) (by kernel_rfl) ?_ ?_
      ·obtain ⟨r195, hr196, h197⟩ := bind_some h189
       refine DCl Bq hs192 (BA N w191 F9 hs192.pers (hG.mono ((((((le33.t le41).trans le45).trans le101).trans le115).trans le121).trans le193)) (({ Report := x0.Report, Serial := x0.Serial, Zone := x0.Zone } : Ac)) r187 _ hr196) ?_
       rintro _ F10 w199 hs200 le201 rfl
       refine Dv [6, 7, 8] <| D1 9 <| DAl 32 #[(vi 0), (vi 0), (vi 0)] hs200 (le193.t le201) (fun b203 w204 hs205 => ?_)
       refine D1 10 <| FG (BP r195.1) hs205 (le193.t le201) (fun w206 hs207 => ?_)
       refine Dv [11] ?_
       obtain rfl := Aa h197
       exact UJ (by kernel_rfl) ⟨F10, b203, hs207, (le193.t le201), fI⟩
      ·refine DAl 32 #[(vi 0), (vi 0), (vi 0)] hs192 le193 (fun b208 w209 hs210 => ?_)
       refine D1 5 ?_
       obtain ⟨r211, hr212, h213⟩ := bind_some h189
       refine DCl Bq hs210 (BA N w209 F9 hs210.pers (hG.mono ((((((le33.t le41).trans le45).trans le101).trans le115).trans le121).trans le193)) (({ Report := x0.Report, Serial := x0.Serial, Zone := x0.Zone } : Ac)) r187 _ hr212) ?_
       rintro _ F11 w215 hs216 le217 rfl
       refine Dv [6, 7, 8] <| D1 10 <| FG (BP r211.1) hs216 (le193.t le217) (fun w219 hs220 => ?_)
       refine Dv [11] ?_
       obtain rfl := Aa h213
       exact UJ (by kernel_rfl) ⟨F11, b208, hs220, (le193.t le217), fI⟩
     ·refine DAl 32 #[(vi 0), (vi 0), (vi 0)] hw161 (Ux _) (fun b221 w222 hs223 => ?_)
      refine D1 4 ?_
      obtain ⟨r224, hr225, h226⟩ := bind_some h181
      refine DCl BZ hs223 (Ck N w222 F6 hs223.pers r179 a182 n183 hb184 hs185 (([32] : UQ)) _ hr225) ?_
      rintro _ F12 w228 hs229 le230 rfl
      refine D1 5 ?_
      obtain ⟨r232, hr233, h234⟩ := bind_some h226
      refine DCl Bq hs229 (BA N w228 F12 hs229.pers (hG.mono ((((((le33.t le41).trans le45).trans le101).trans le115).trans le121).trans le230)) (({ Report := x0.Report, Serial := x0.Serial, Zone := x0.Zone } : Ac)) r224 _ hr233) ?_
      rintro _ F13 w236 hs237 le238 rfl
      refine Dv [6, 7, 8] <| D1 10 <| FG (BP r232.1) hs237 (le230.t le238) (fun w240 hs241 => ?_)
      refine Dv [11] ?_
      obtain rfl := Aa h234
      exact UJ (by kernel_rfl) ⟨F13, b221, hs241, (le230.t le238), fI⟩
    ·rintro f w162 ⟨F8, b165, hs163, le164, ⟨_, rfl⟩⟩
     refine Ab <| Sq ?_
     obtain ⟨j248, hj259, h260⟩ := bind_some h178
     refine RD 13 13 [(sb b165 #[(vi j166.1), (vi j166.2.1), (vi j166.2.2)] 32), (sb b24 #[(vi 0), (vi 0), (vi 0), (vi 0), (sv (([] : UQ))), (vi 0), (vi 0), (vi 0), (vi 0), (vi 0), (vi 0)] 34), (sb b21 (Ak x0) 23)] [] hs163 (fun f w => ∃ (F14 : Mem) (b247 : Nat), HS w0 F0 w F14 [(sb b247 #[(vi j248.1), (vi j248.2.1), (vi j248.2.2)] 32), (sb b165 #[(vi j166.1), (vi j166.2.1), (vi j166.2.2)] 32), (sb b24 #[(vi 0), (vi 0), (vi 0), (vi 0), (sv (([] : UQ))), (vi 0), (vi 0), (vi 0), (vi 0), (vi 0), (vi 0)] 34), (sb b21 (Ak x0) 23)] /\ Uw F8 F14 /\ FI f [] [(1, (sv x1)), (2, (pt b21 0)), (4, (pt b24 0)), (6, (.slice (some ⟨b85, o86, none⟩) r27.length nr27_0_0)), (8, (vi r95.1)), (10, (vi r109.1)), (12, (vi j122)), (14, (pt b165 0)), (16, (pt b247 0))]) (fun wd242 hw243 => ?_) ?_
     ·refine Dl 0 (fun _ hq => (hq.1.2 2 _ _ rfl)) ?_
      refine Dv [1, 2, 3] ?_
      obtain ⟨r261, hr262, h263⟩ := bind_some hj259
      obtain ⟨a264, n265, hb266, hs267, hrun268⟩ := EU (P := Tryz.prog) (T := AF) (lo := (some (.tmp 78))) (hi := none) (mx := none) (t := 55) (E := 9) (by_ := 16) (c := nr27_0_0) (a := (some ⟨b85, o86, none⟩)) (l := r27) (r := r261) (il := (W64 (r35 + 1))) (ih := (r27.length : Int)) (im := 0) (by kernel_rfl) (by kernel_rfl) hbr27_0_0 (Uz hsr27_0_0 (((((le41.t le45).trans le101).trans le115).trans le121).trans le164)) (fun h => by first | rfl | cases h) hr262
      refine Dt 4 79 55 (.slice a264 r261.length n265) (fun _ hq => hrun268 (x := (.tmp 76)) rfl rfl rfl trivial) <| UF (i := 5) (j := 10) (by kernel_rfl) ?_ ?_
      ·obtain ⟨r269, hr270, h271⟩ := bind_some h263
       refine DCl BZ hw243 (Ck N wd242 F8 hw243.pers r261 a264 n265 hb266 hs267 (([32] : UQ)) _ hr270) ?_
       rintro _ F15 w273 hs274 le275 rfl
       refine UF (i := 6) (j := 10) (by kernel_rfl) ?_ ?_
       ·obtain ⟨r277, hr278, h279⟩ := bind_some h271
        refine DCl Bq hs274 (BA N w273 F15 hs274.pers (hG.mono (((((((le33.t le41).trans le45).trans le101).trans le115).trans le121).trans le164).trans le275)) (({ Report := x0.Report, Serial := x0.Serial, Zone := x0.Zone } : Ac)) r269 _ hr278) ?_
        rintro _ F16 w281 hs282 le283 rfl
        refine Dv [7, 8, 9] <| D1 10 <| DAl 32 #[(vi 0), (vi 0), (vi 0)] hs282 (le275.t le283) (fun b285 w286 hs287 => ?_)
        refine D1 11 <| FG (BP r277.1) hs287 (le275.t le283) (fun w288 hs289 => ?_)
        refine Dv [12] ?_
        obtain rfl := Aa h279
        exact UJ (by kernel_rfl) ⟨F16, b285, hs289, (le275.t le283), fI⟩
       ·refine DAl 32 #[(vi 0), (vi 0), (vi 0)] hs274 le275 (fun b290 w291 hs292 => ?_)
        refine D1 6 ?_
        obtain ⟨r293, hr294, h295⟩ := bind_some h271
        refine DCl Bq hs292 (BA N w291 F15 hs292.pers (hG.mono (((((((le33.t le41).trans le45).trans le101).trans le115).trans le121).trans le164).trans le275)) (({ Report := x0.Report, Serial := x0.Serial, Zone := x0.Zone } : Ac)) r269 _ hr294) ?_
        rintro _ F17 w297 hs298 le299 rfl
        refine Dv [7, 8, 9] <| D1 11 <| FG (BP r293.1) hs298 (le275.t le299) (fun w301 hs302 => ?_)
        refine Dv [12] ?_
        obtain rfl := Aa h295
        exact UJ (by kernel_rfl) ⟨F17, b290, hs302, (le275.t le299), fI⟩
      ·refine DAl 32 #[(vi 0), (vi 0), (vi 0)] hw243 (Ux _) (fun b303 w304 hs305 => ?_)
       refine D1 5 ?_
       obtain ⟨r306, hr307, h308⟩ := bind_some h263
       refine DCl BZ hs305 (Ck N w304 F8 hs305.pers r261 a264 n265 hb266 hs267 (([32] : UQ)) _ hr307) ?_
       rintro _ F18 w310 hs311 le312 rfl
       refine D1 6 ?_
       obtain ⟨r314, hr315, h316⟩ := bind_some h308
       refine DCl Bq hs311 (BA N w310 F18 hs311.pers (hG.mono (((((((le33.t le41).trans le45).trans le101).trans le115).trans le121).trans le164).trans le312)) (({ Report := x0.Report, Serial := x0.Serial, Zone := x0.Zone } : Ac)) r306 _ hr315) ?_
       rintro _ F19 w318 hs319 le320 rfl
       refine Dv [7, 8, 9] <| D1 11 <| FG (BP r314.1) hs319 (le312.t le320) (fun w322 hs323 => ?_)
       refine Dv [12] ?_
       obtain rfl := Aa h316
       exact UJ (by kernel_rfl) ⟨F19, b303, hs323, (le312.t le320), fI⟩
     ·rintro f w244 ⟨F14, b247, hs245, le246, ⟨_, rfl⟩⟩
      refine Ab <| Sq ?_
      obtain ⟨j330, hj336, h337⟩ := bind_some h260
      refine RD 14 15 [(sb b247 #[(vi j248.1), (vi j248.2.1), (vi j248.2.2)] 32), (sb b165 #[(vi j166.1), (vi j166.2.1), (vi j166.2.2)] 32), (sb b24 #[(vi 0), (vi 0), (vi 0), (vi 0), (sv (([] : UQ))), (vi 0), (vi 0), (vi 0), (vi 0), (vi 0), (vi 0)] 34), (sb b21 (Ak x0) 23)] [] hs245 (fun f w => ∃ (F20 : Mem) (b329 : Nat), HS w0 F0 w F20 [(sb b329 #[(vi r95.1), (vi r109.1), (vi j330.1), (vi j122), (sv j330.2), (vi j166.1), (vi j166.2.1), (vi j166.2.2), (vi j248.1), (vi j248.2.1), (vi j248.2.2)] 34), (sb b24 #[(vi 0), (vi 0), (vi 0), (vi 0), (sv (([] : UQ))), (vi 0), (vi 0), (vi 0), (vi 0), (vi 0), (vi 0)] 34), (sb b21 (Ak x0) 23)] /\ Uw F14 F20 /\ FI f [] [(1, (sv x1)), (2, (pt b21 0)), (4, (pt b24 0)), (18, (pt b329 0))]) (fun wd324 hw325 => ?_) ?_
      ·refine Dv [0, 1, 2] ?_
       obtain ⟨x338, hx339, h341⟩ := bind_some hj336
       obtain ⟨hi340, hx339'⟩ := As hx339
       have hc343 := hE92 _ _ hx339'
       refine Di 3 hi340 <| Dx 4 0 (fun _ hq => hq.1.1 _ _ (((((le101.t le115).trans le121).trans le164).trans le246) _ _ hF91)) hc343 <| Dv [6, 7] ?_
       obtain ⟨x344, hx345, h347⟩ := bind_some h341
       obtain ⟨hi346, hx345'⟩ := As hx345
       have hc349 := hE92 _ _ hx345'
       refine Di 8 hi346 <| Dx 9 0 (fun _ hq => hq.1.1 _ _ (((((le101.t le115).trans le121).trans le164).trans le246) _ _ hF91)) hc349 <| Dl 10 (fun _ hq => (hq.1.2 1 _ _ rfl)) <| Dl 11 (fun _ hq => (hq.1.2 0 _ _ rfl)) <| UF (i := 5) (j := 13) (by kernel_rfl) ?_ ?_
       ·obtain ⟨r350, hr351, h352⟩ := bind_some h347
        refine DCl FZ hw325 (GS N wd324 F14 hw325.pers (hG.mono (((((((le33.t le41).trans le45).trans le101).trans le115).trans le121).trans le164).trans le246)) (([32, 77, 86, 68] : UQ)) x338 _ hr351) ?_
        rintro _ F21 w354 hs355 le356 rfl
        refine Dv [12] <| D1 13 <| DAl 34 #[(vi 0), (vi 0), (vi 0), (vi 0), (sv (([] : UQ))), (vi 0), (vi 0), (vi 0), (vi 0), (vi 0), (vi 0)] hs355 le356 (fun b358 w359 hs360 => ?_)
        refine D1 14 <| FG #[(vi r95.1), (vi r109.1), (vi r350), (vi j122), (sv x344), (vi j166.1), (vi j166.2.1), (vi j166.2.2), (vi j248.1), (vi j248.2.1), (vi j248.2.2)] hs360 le356 (fun w361 hs362 => ?_)
        obtain rfl := Aa h352
        exact UJ (by kernel_rfl) ⟨F21, b358, hs362.dr1.dr1, le356, fI⟩
       ·refine DAl 34 #[(vi 0), (vi 0), (vi 0), (vi 0), (sv (([] : UQ))), (vi 0), (vi 0), (vi 0), (vi 0), (vi 0), (vi 0)] hw325 (Ux _) (fun b363 w364 hs365 => ?_)
        refine D1 5 ?_
        obtain ⟨r366, hr367, h368⟩ := bind_some h347
        refine DCl FZ hs365 (GS N w364 F14 hs365.pers (hG.mono (((((((le33.t le41).trans le45).trans le101).trans le115).trans le121).trans le164).trans le246)) (([32, 77, 86, 68] : UQ)) x338 _ hr367) ?_
        rintro _ F22 w370 hs371 le372 rfl
        refine Dv [12] <| D1 14 <| FG #[(vi r95.1), (vi r109.1), (vi r366), (vi j122), (sv x344), (vi j166.1), (vi j166.2.1), (vi j166.2.2), (vi j248.1), (vi j248.2.1), (vi j248.2.2)] hs371 le372 (fun w374 hs375 => ?_)
        obtain rfl := Aa h368
        exact UJ (by kernel_rfl) ⟨F22, b363, hs375.dr1.dr1, le372, fI⟩
      ·rintro f w326 ⟨F20, b329, hs327, le328, ⟨_, rfl⟩⟩
       refine Ab <| Sq <| Sq (Rg (rG 8) ?_)
       refine Ld hs327.at2 <| Ld hs327.at0 ?_
       obtain ⟨r376, hr377, h378⟩ := bind_some h337
       refine Cl' Ft hs327 (Gg N w326 F20 hs327.pers (hG.mono ((((((((le33.t le41).trans le45).trans le101).trans le115).trans le121).trans le164).trans le246).trans le328)) (({ Report := x0.Report, Serial := x0.Serial, Zone := x0.Zone } : Ac)) (({ Num := r95.1, Khz := r109.1, Mode := j330.1, Minute := j122, Call := j330.2, Sent := ({ Report := j166.1, Serial := j166.2.1, Zone := j166.2.2 } : Ad), Got := ({ Report := j248.1, Serial := j248.2.1, Zone := j248.2.2 } : Ad) } : Line)) _ hr377) ?_
       rintro _ F23 w380 hs381 le382 rfl
       refine Vs 5 <| Nss (Rg (rG 7) ?_)
       refine UC (fun f w => ∃ (F24 : Mem), HS w0 F0 w F24 [(sb b329 #[(vi r95.1), (vi r109.1), (vi j330.1), (vi j122), (sv j330.2), (vi j166.1), (vi j166.2.1), (vi j166.2.2), (vi j248.1), (vi j248.2.1), (vi j248.2.2)] 34), (sb b24 #[(vi 0), (vi 0), (vi 0), (vi 0), (sv (([] : UQ))), (vi 0), (vi 0), (vi 0), (vi 0), (vi 0), (vi 0)] 34)] /\ Uw F23 F24 /\ FI f [] [(4, (pt b24 0)), (18, (pt b329 0)), (109, (.bool ((r376.2 != 0) || (r376.1 != x1))))]) ?_ ?_
       ·refine Vs 3 ?_
        refine UB (r376.2 != 0) (fun hb391 => ?_) (fun hb391 => ?_)
        ·refine Ss hb391 3 ?_
         refine Pk1 hb391 ?_
         exact Us ⟨rfl, F23, hs381.dr2, (Ux _), (fJ ⟨rfl, rfl, (congrArg Value.bool (FN hb391 rfl)), trivial⟩)⟩
        ·refine Vgs hb391 3 ?_
         refine Pk0 hb391 ?_
         exact Us ⟨rfl, F23, hs381.dr2, (Ux _), (fJ ⟨rfl, rfl, (congrArg Value.bool (Ct hb391 rfl)), trivial⟩)⟩
       ·rintro f w384 ⟨F24, hs385, le386, ⟨_, rfl⟩⟩
        refine Ab <| Cd h378 (fun hb392 h393 => ?_) (fun hb392 h394 => ?_)
        ·refine Sq (Rg [0, 1, 2] ?_)
         refine Vs 1 <| St1 #[(vi 0), (vi 0), (vi 0), (vi 0), (sv (([] : UQ))), (vi 0), (vi 0), (vi 0), (vi 0), (vi 0), (vi 0)] hs385 (fun w395 hs396 => ?_)
         refine Vs 1 <| Nt <| Rt <| Aj ?_
         obtain rfl := Aa h393
         exact ⟨rfl, (.tuple #[(.agg #[(vi 0), (vi 0), (vi 0), (vi 0), (sv (([] : UQ))), (vi 0), (vi 0), (vi 0), (vi 0), (vi 0), (vi 0)]), (vi 20)]), AR (l := [.cell 4 34, .tmp 5]) (by kernel_rfl) (vs := [(.agg #[(vi 0), (vi 0), (vi 0), (vi 0), (sv (([] : UQ))), (vi 0), (vi 0), (vi 0), (vi 0), (vi 0), (vi 0)]), (vi 20)]) ⟨b24, 0, rfl, Am (t := 34) (g := true) (s := 11) (by kernel_rfl) hs396.at1 rfl (by decide), ⟨rfl, trivial⟩⟩, (.tuple #[(.agg #[(vi 0), (vi 0), (vi 0), (vi 0), (sv (([] : UQ))), (vi 0), (vi 0), (vi 0), (vi 0), (vi 0), (vi 0)]), (vi 20)]), F24, rfl, hs396.clear, rfl⟩
        ·refine Sc ?_
         refine Ab <| Sq (Rg [0, 1, 2] ?_)
         refine Ld hs385.at0 <| St1 #[(vi r95.1), (vi r109.1), (vi j330.1), (vi j122), (sv j330.2), (vi j166.1), (vi j166.2.1), (vi j166.2.2), (vi j248.1), (vi j248.2.1), (vi j248.2.2)] hs385 (fun w397 hs398 => ?_)
         refine Vs 1 <| Nt <| Rt ?_
         obtain rfl := Aa h394
         exact ⟨rfl, (.tuple #[(.agg #[(vi r95.1), (vi r109.1), (vi j330.1), (vi j122), (sv j330.2), (vi j166.1), (vi j166.2.1), (vi j166.2.2), (vi j248.1), (vi j248.2.1), (vi j248.2.2)]), (vi 0)]), AR (l := [.cell 4 34, .tmp 5]) (by kernel_rfl) (vs := [(.agg #[(vi r95.1), (vi r109.1), (vi j330.1), (vi j122), (sv j330.2), (vi j166.1), (vi j166.2.1), (vi j166.2.2), (vi j248.1), (vi j248.2.1), (vi j248.2.2)]), (vi 0)]) ⟨b24, 0, rfl, Am (t := 34) (g := true) (s := 11) (by kernel_rfl) hs398.at1 rfl (by decide), ⟨rfl, trivial⟩⟩, (.tuple #[(.agg #[(vi r95.1), (vi r109.1), (vi j330.1), (vi j122), (sv j330.2), (vi j166.1), (vi j166.2.1), (vi j166.2.2), (vi j248.1), (vi j248.2.1), (vi j248.2.2)]), (vi 0)]), F24, rfl, hs398.clear, rfl⟩
def DT (N : Nat) (x0 : Ah) (x1 : UQ) : Option (Ah × Bool) :=
 ((strings_CutPrefix N x1 ([67, 65, 76, 76, 32] : UQ)).bind fun r21 => ((bif r21.2 then ((El N r21.1).bind fun r42 => some r42) else some false).bind fun j34 => some (({ o_ := ({ Report := x0.o_.Report, Serial := x0.o_.Serial, Zone := x0.o_.Zone } : Ac), l_ := ({ Call := r21.1, Category := x0.l_.Category, Power := x0.l_.Power, Claimed := x0.l_.Claimed, Jumps := x0.l_.Jumps, Lines := x0.l_.Lines } : Log), done_ := x0.done_, ended_ := x0.ended_ } : Ah), j34)))
theorem Js : Ag Tryz.prog 153 := fun _ _ => by kernel_rfl
theorem Kr (N : Nat) {wb w0 : World} {Fb F0 : Mem} {Lf : Own} (hG : Br F0) (bp0 : Nat) (x0 : Ah) (a0_7 : UR) (n0_7 : Nat) (tb0_9_0 : Nat) (tb0_9_1 : Nat) (tb0_9_2 : Nat) (tb0_9_3 : Nat) (tb0_9_4 : Nat) (tb0_9_5 : Nat) (tb0_9_6 : Nat) (tb0_9_7 : Nat) (tb0_9_8 : Nat) (tb0_9_9 : Nat) (tb0_9_10 : Nat) (tb0_9_11 : Nat) (a0_8 : UR) (n0_8 : Nat) (e0_8 : Option Nat × Obj) (hb0_7 : LC x0.l_.Jumps.length n0_7) (hs0_7 : SlA AQ F0 a0_7 x0.l_.Jumps) (htb0_9_0 : F0 tb0_9_0 = some (oc #[(sv (([67, 65, 84, 69, 71, 79, 82, 89] : UQ)))] 9)) (htb0_9_1 : F0 tb0_9_1 = some (oc #[(vi 1)] 3)) (htb0_9_2 : F0 tb0_9_2 = some (oc #[(vi 9)] 3)) (htb0_9_3 : F0 tb0_9_3 = some (oc #[(fV 156 #[])] 195)) (htb0_9_4 : F0 tb0_9_4 = some (oc #[(sv (([80, 79, 87, 69, 82] : UQ)))] 9)) (htb0_9_5 : F0 tb0_9_5 = some (oc #[(vi 1)] 3)) (htb0_9_6 : F0 tb0_9_6 = some (oc #[(vi 9999)] 3)) (htb0_9_7 : F0 tb0_9_7 = some (oc #[(fV 157 #[])] 195)) (htb0_9_8 : F0 tb0_9_8 = some (oc #[(sv (([67, 76, 65, 73, 77, 69, 68] : UQ)))] 9)) (htb0_9_9 : F0 tb0_9_9 = some (oc #[(vi 0)] 3)) (htb0_9_10 : F0 tb0_9_10 = some (oc #[(vi 1000000)] 3)) (htb0_9_11 : F0 tb0_9_11 = some (oc #[(fV 158 #[])] 195)) (hr0_8 : Ap AK 34 F0 a0_8 n0_8 x0.l_.Lines e0_8) (x1 : UQ) (hs0 : HS wb Fb w0 F0 ((sb bp0 #[(.bool x0.o_.Report), (.bool x0.o_.Serial), (.bool x0.o_.Zone), (sv x0.l_.Call), (vi x0.l_.Category), (vi x0.l_.Power), (vi x0.l_.Claimed), (.slice a0_7 x0.l_.Jumps.length n0_7), (.slice a0_8 x0.l_.Lines.length n0_8), (fV 153 #[]), (fV 154 #[]), (fV 190 #[(pt tb0_9_0 0), (pt tb0_9_1 0), (pt tb0_9_2 0), (pt tb0_9_3 0)]), (fV 191 #[(pt tb0_9_0 0), (pt tb0_9_3 0)]), (fV 190 #[(pt tb0_9_4 0), (pt tb0_9_5 0), (pt tb0_9_6 0), (pt tb0_9_7 0)]), (fV 191 #[(pt tb0_9_4 0), (pt tb0_9_7 0)]), (fV 190 #[(pt tb0_9_8 0), (pt tb0_9_9 0), (pt tb0_9_10 0), (pt tb0_9_11 0)]), (fV 191 #[(pt tb0_9_8 0), (pt tb0_9_11 0)]), (fV 159 #[]), (fV 160 #[]), (vi x0.done_), (.bool x0.ended_)] 130) :: e0_8 :: Lf)) (r : (Ah × Bool)) (h : DT N x0 x1 = some r) :
  Calls Tryz.prog 153 ([(pt bp0 3), (sv x1)] : List Value).toArray w0 (Ed wb Fb F0 fun F' v L' => ∃ (aq0_7 : UR) (nq0_7 : Nat) (aq0_8 : UR) (nq0_8 : Nat) (eq0_8 : Option Nat × Obj), v = (.bool r.2) /\ L' = (sb bp0 #[(.bool r.1.o_.Report), (.bool r.1.o_.Serial), (.bool r.1.o_.Zone), (sv r.1.l_.Call), (vi r.1.l_.Category), (vi r.1.l_.Power), (vi r.1.l_.Claimed), (.slice aq0_7 r.1.l_.Jumps.length nq0_7), (.slice aq0_8 r.1.l_.Lines.length nq0_8), (fV 153 #[]), (fV 154 #[]), (fV 190 #[(pt tb0_9_0 0), (pt tb0_9_1 0), (pt tb0_9_2 0), (pt tb0_9_3 0)]), (fV 191 #[(pt tb0_9_0 0), (pt tb0_9_3 0)]), (fV 190 #[(pt tb0_9_4 0), (pt tb0_9_5 0), (pt tb0_9_6 0), (pt tb0_9_7 0)]), (fV 191 #[(pt tb0_9_4 0), (pt tb0_9_7 0)]), (fV 190 #[(pt tb0_9_8 0), (pt tb0_9_9 0), (pt tb0_9_10 0), (pt tb0_9_11 0)]), (fV 191 #[(pt tb0_9_8 0), (pt tb0_9_11 0)]), (fV 159 #[]), (fV 160 #[]), (vi r.1.done_), (.bool r.1.ended_)] 130) :: eq0_8 :: Lf /\ LC r.1.l_.Jumps.length nq0_7 /\ SlA AQ F' aq0_7 r.1.l_.Jumps /\ Ap AK 34 F' aq0_8 nq0_8 r.1.l_.Lines eq0_8) := by
 refine Go 21 Tryz.func153 <| Sq (Rg [0] ?_)
 refine Vs 1 <| Nss (Rg (rG 7) ?_)
 refine Vs 1 ?_
 obtain ⟨r21, hr22, h23⟩ := bind_some h
 refine Cl' AZ hs0 (A5 N w0 F0 hs0.pers x1 (([67, 65, 76, 76, 32] : UQ)) _ hr22) ?_
 rintro _ F1 w25 hs26 le27 rfl
 refine Vs 5 <| Nss (Rg (rG 5) ?_)
 refine Vs 4 <| St0 #[(.bool x0.o_.Report), (.bool x0.o_.Serial), (.bool x0.o_.Zone), (sv r21.1), (vi x0.l_.Category), (vi x0.l_.Power), (vi x0.l_.Claimed), (.slice a0_7 x0.l_.Jumps.length n0_7), (.slice a0_8 x0.l_.Lines.length n0_8), (fV 153 #[]), (fV 154 #[]), (fV 190 #[(pt tb0_9_0 0), (pt tb0_9_1 0), (pt tb0_9_2 0), (pt tb0_9_3 0)]), (fV 191 #[(pt tb0_9_0 0), (pt tb0_9_3 0)]), (fV 190 #[(pt tb0_9_4 0), (pt tb0_9_5 0), (pt tb0_9_6 0), (pt tb0_9_7 0)]), (fV 191 #[(pt tb0_9_4 0), (pt tb0_9_7 0)]), (fV 190 #[(pt tb0_9_8 0), (pt tb0_9_9 0), (pt tb0_9_10 0), (pt tb0_9_11 0)]), (fV 191 #[(pt tb0_9_8 0), (pt tb0_9_11 0)]), (fV 159 #[]), (fV 160 #[]), (vi x0.done_), (.bool x0.ended_)] hs26 (fun w29 hs30 => ?_)
 refine Nss (Rg (rG 6) ?_)
 obtain ⟨j34, hj37, h38⟩ := bind_some h23
 refine UC (fun f w => ∃ (F2 : Mem), HS wb Fb w F2 ((sb bp0 #[(.bool x0.o_.Report), (.bool x0.o_.Serial), (.bool x0.o_.Zone), (sv r21.1), (vi x0.l_.Category), (vi x0.l_.Power), (vi x0.l_.Claimed), (.slice a0_7 x0.l_.Jumps.length n0_7), (.slice a0_8 x0.l_.Lines.length n0_8), (fV 153 #[]), (fV 154 #[]), (fV 190 #[(pt tb0_9_0 0), (pt tb0_9_1 0), (pt tb0_9_2 0), (pt tb0_9_3 0)]), (fV 191 #[(pt tb0_9_0 0), (pt tb0_9_3 0)]), (fV 190 #[(pt tb0_9_4 0), (pt tb0_9_5 0), (pt tb0_9_6 0), (pt tb0_9_7 0)]), (fV 191 #[(pt tb0_9_4 0), (pt tb0_9_7 0)]), (fV 190 #[(pt tb0_9_8 0), (pt tb0_9_9 0), (pt tb0_9_10 0), (pt tb0_9_11 0)]), (fV 191 #[(pt tb0_9_8 0), (pt tb0_9_11 0)]), (fV 159 #[]), (fV 160 #[]), (vi x0.done_), (.bool x0.ended_)] 130) :: e0_8 :: Lf) /\ Uw F1 F2 /\ FI f [] [(4, (.bool j34))]) ?_ ?_
 ·refine Vs 2 ?_
  refine Sp hj37 (fun hb39 h40 => ?_) (fun hb39 h41 => ?_)
  ·refine Vgs hb39 1 ?_
   obtain ⟨r42, hr43, h44⟩ := bind_some h40
   refine Cg hb39 Eb hs30 (EB N w29 F1 hs30.pers (hG.mono le27) r21.1 _ hr43) ?_
   rintro _ F3 w46 hs47 le48 rfl
   refine Pk1 hb39 <| Vs 1 ?_
   obtain rfl := Aa h44
   exact Us ⟨rfl, F3, hs47, le48, fI⟩
  ·refine Ss hb39 2 ?_
   refine Pk0 hb39 <| Vs 1 ?_
   obtain rfl := Aa h41
   exact Us ⟨rfl, F1, hs30, (Ux _), fI⟩
 ·rintro f w31 ⟨F2, hs32, le33, ⟨_, rfl⟩⟩
  refine Ab <| Rt ?_
  obtain rfl := Aa h38
  exact ReB [(.bool j34)] hs32 (le27.t le33) ⟨a0_7, n0_7, a0_8, n0_8, e0_8, rfl, rfl, hb0_7, (Uz hs0_7 (le27.t le33)), (hr0_8.mono (le27.t le33))⟩
def A9 (N : Nat) (x0 : Ah) (x1 : UQ) (r21 : (List UQ)) (r29 : List UQ) : (List Int × Int) -> Option (BD (Ah × Bool) (List Int × Int)) := fun s42 =>
 (bif (decide (s42.2 < (r29.length : Int))) then ((idx r29 s42.2).bind fun x70 => ((AD N x70).bind fun r84 => (bif (!r84.2) then some (.ret (x0, false)) else ((Dr s42.1 [r84.1]).bind fun r100 => some (.next (r100, (W64 (s42.2 + 1)))))))) else some (.done (s42.1, s42.2)))
def DD (N : Nat) (x0 : Ah) (x1 : UQ) : Option (Ah × Bool) :=
 ((strings_Split N x1 ([32] : UQ)).bind fun r21 => ((sub r21 1 (r21.length : Int)).bind fun r29 => ((A0 (A9 N x0 x1 r21 r29) N (([] : List Int), 0)).bind fun o => o.k (fun r => some r) (fun s53 => (((idx r21 0).bind fun x126 => (bif (x126 == ([74, 85, 77, 80, 83] : UQ)) then ((CU N s53.1).bind fun r143 => some r143) else some false)).bind fun j121 => some (({ o_ := ({ Report := x0.o_.Report, Serial := x0.o_.Serial, Zone := x0.o_.Zone } : Ac), l_ := ({ Call := x0.l_.Call, Category := x0.l_.Category, Power := x0.l_.Power, Claimed := x0.l_.Claimed, Jumps := s53.1, Lines := x0.l_.Lines } : Log), done_ := x0.done_, ended_ := x0.ended_ } : Ah), j121))))))
theorem IK : Ag Tryz.prog 159 := fun _ _ => by kernel_rfl
theorem JC (N : Nat) {wb w0 : World} {Fb F0 : Mem} {Lf : Own} (hG : Br F0) (bp0 : Nat) (x0 : Ah) (a0_7 : UR) (n0_7 : Nat) (tb0_9_0 : Nat) (tb0_9_1 : Nat) (tb0_9_2 : Nat) (tb0_9_3 : Nat) (tb0_9_4 : Nat) (tb0_9_5 : Nat) (tb0_9_6 : Nat) (tb0_9_7 : Nat) (tb0_9_8 : Nat) (tb0_9_9 : Nat) (tb0_9_10 : Nat) (tb0_9_11 : Nat) (a0_8 : UR) (n0_8 : Nat) (e0_8 : Option Nat × Obj) (hb0_7 : LC x0.l_.Jumps.length n0_7) (hs0_7 : SlA AQ F0 a0_7 x0.l_.Jumps) (htb0_9_0 : F0 tb0_9_0 = some (oc #[(sv (([67, 65, 84, 69, 71, 79, 82, 89] : UQ)))] 9)) (htb0_9_1 : F0 tb0_9_1 = some (oc #[(vi 1)] 3)) (htb0_9_2 : F0 tb0_9_2 = some (oc #[(vi 9)] 3)) (htb0_9_3 : F0 tb0_9_3 = some (oc #[(fV 156 #[])] 195)) (htb0_9_4 : F0 tb0_9_4 = some (oc #[(sv (([80, 79, 87, 69, 82] : UQ)))] 9)) (htb0_9_5 : F0 tb0_9_5 = some (oc #[(vi 1)] 3)) (htb0_9_6 : F0 tb0_9_6 = some (oc #[(vi 9999)] 3)) (htb0_9_7 : F0 tb0_9_7 = some (oc #[(fV 157 #[])] 195)) (htb0_9_8 : F0 tb0_9_8 = some (oc #[(sv (([67, 76, 65, 73, 77, 69, 68] : UQ)))] 9)) (htb0_9_9 : F0 tb0_9_9 = some (oc #[(vi 0)] 3)) (htb0_9_10 : F0 tb0_9_10 = some (oc #[(vi 1000000)] 3)) (htb0_9_11 : F0 tb0_9_11 = some (oc #[(fV 158 #[])] 195)) (hr0_8 : Ap AK 34 F0 a0_8 n0_8 x0.l_.Lines e0_8) (x1 : UQ) (hs0 : HS wb Fb w0 F0 ((sb bp0 #[(.bool x0.o_.Report), (.bool x0.o_.Serial), (.bool x0.o_.Zone), (sv x0.l_.Call), (vi x0.l_.Category), (vi x0.l_.Power), (vi x0.l_.Claimed), (.slice a0_7 x0.l_.Jumps.length n0_7), (.slice a0_8 x0.l_.Lines.length n0_8), (fV 153 #[]), (fV 154 #[]), (fV 190 #[(pt tb0_9_0 0), (pt tb0_9_1 0), (pt tb0_9_2 0), (pt tb0_9_3 0)]), (fV 191 #[(pt tb0_9_0 0), (pt tb0_9_3 0)]), (fV 190 #[(pt tb0_9_4 0), (pt tb0_9_5 0), (pt tb0_9_6 0), (pt tb0_9_7 0)]), (fV 191 #[(pt tb0_9_4 0), (pt tb0_9_7 0)]), (fV 190 #[(pt tb0_9_8 0), (pt tb0_9_9 0), (pt tb0_9_10 0), (pt tb0_9_11 0)]), (fV 191 #[(pt tb0_9_8 0), (pt tb0_9_11 0)]), (fV 159 #[]), (fV 160 #[]), (vi x0.done_), (.bool x0.ended_)] 130) :: e0_8 :: Lf)) (r : (Ah × Bool)) (h : DD N x0 x1 = some r) :
  Calls Tryz.prog 159 ([(pt bp0 3), (sv x1)] : List Value).toArray w0 (Ed wb Fb F0 fun F' v L' => ∃ (aq0_7 : UR) (nq0_7 : Nat) (aq0_8 : UR) (nq0_8 : Nat) (eq0_8 : Option Nat × Obj), v = (.bool r.2) /\ L' = (sb bp0 #[(.bool r.1.o_.Report), (.bool r.1.o_.Serial), (.bool r.1.o_.Zone), (sv r.1.l_.Call), (vi r.1.l_.Category), (vi r.1.l_.Power), (vi r.1.l_.Claimed), (.slice aq0_7 r.1.l_.Jumps.length nq0_7), (.slice aq0_8 r.1.l_.Lines.length nq0_8), (fV 153 #[]), (fV 154 #[]), (fV 190 #[(pt tb0_9_0 0), (pt tb0_9_1 0), (pt tb0_9_2 0), (pt tb0_9_3 0)]), (fV 191 #[(pt tb0_9_0 0), (pt tb0_9_3 0)]), (fV 190 #[(pt tb0_9_4 0), (pt tb0_9_5 0), (pt tb0_9_6 0), (pt tb0_9_7 0)]), (fV 191 #[(pt tb0_9_4 0), (pt tb0_9_7 0)]), (fV 190 #[(pt tb0_9_8 0), (pt tb0_9_9 0), (pt tb0_9_10 0), (pt tb0_9_11 0)]), (fV 191 #[(pt tb0_9_8 0), (pt tb0_9_11 0)]), (fV 159 #[]), (fV 160 #[]), (vi r.1.done_), (.bool r.1.ended_)] 130) :: eq0_8 :: Lf /\ LC r.1.l_.Jumps.length nq0_7 /\ SlA AQ F' aq0_7 r.1.l_.Jumps /\ Ap AK 34 F' aq0_8 nq0_8 r.1.l_.Lines eq0_8) := by
 refine Go 44 Tryz.func159 <| Sq (Rg [0] ?_)
 refine Vs 1 <| Nss (Rg [0, 1, 2] ?_)
 refine Vs 1 ?_
 obtain ⟨r21, hr22, h23⟩ := bind_some h
 refine Cl' Ch hs0 (Cy N w0 F0 hs0.pers hG x1 (([32] : UQ)) _ hr22) ?_
 rintro _ F1 w25 hs26 le27 ⟨ar21_0_0, nr21_0_0, rfl, hbr21_0_0, hsr21_0_0⟩
 refine Vs 1 <| Nss (Rg [0] ?_)
 refine Vs 1 <| Nss <| Sq (Rg (rG 4) ?_)
 refine Vs 1 ?_
 obtain ⟨r29, hr30, h31⟩ := bind_some h23
 obtain ⟨a32, n33, hb34, hs35, hrun36⟩ := EU (P := Tryz.prog) (T := AF) (lo := (some (.const (vi 1)))) (hi := none) (mx := none) (t := 55) (E := 9) (by_ := 16) (c := nr21_0_0) (a := ar21_0_0) (l := r21) (r := r29) (il := 1) (ih := (r21.length : Int)) (im := 0) (by kernel_rfl) (by kernel_rfl) hbr21_0_0 hsr21_0_0 (fun h => by first | rfl | cases h) hr30
 refine V 14 55 (hrun36 (x := (.tmp 13)) rfl rfl rfl trivial) <| Vs 2 <| Nt ?_
 have hs37 := hs26.dummy (oc #[] 0)
 obtain ⟨o39, ho40, h41⟩ := bind_some h31
 refine UD (fun f w => ∃ (s53 : (List Int × Int)) (F3 : Mem) (as53_0 : UR) (ns53_0 : Nat) (es53_0 : Option Nat × Obj), o39 = .done s53 /\ HS wb Fb w F3 (es53_0 :: (sb bp0 #[(.bool x0.o_.Report), (.bool x0.o_.Serial), (.bool x0.o_.Zone), (sv x0.l_.Call), (vi x0.l_.Category), (vi x0.l_.Power), (vi x0.l_.Claimed), (.slice a0_7 x0.l_.Jumps.length n0_7), (.slice a0_8 x0.l_.Lines.length n0_8), (fV 153 #[]), (fV 154 #[]), (fV 190 #[(pt tb0_9_0 0), (pt tb0_9_1 0), (pt tb0_9_2 0), (pt tb0_9_3 0)]), (fV 191 #[(pt tb0_9_0 0), (pt tb0_9_3 0)]), (fV 190 #[(pt tb0_9_4 0), (pt tb0_9_5 0), (pt tb0_9_6 0), (pt tb0_9_7 0)]), (fV 191 #[(pt tb0_9_4 0), (pt tb0_9_7 0)]), (fV 190 #[(pt tb0_9_8 0), (pt tb0_9_9 0), (pt tb0_9_10 0), (pt tb0_9_11 0)]), (fV 191 #[(pt tb0_9_8 0), (pt tb0_9_11 0)]), (fV 159 #[]), (fV 160 #[]), (vi x0.done_), (.bool x0.ended_)] 130) :: e0_8 :: Lf) /\ Uw F1 F3 /\ FI f [] [(0, (pt bp0 3)), (5, (.slice ar21_0_0 r21.length nr21_0_0)), (6, (.slice as53_0 s53.1.length ns53_0))] /\ Ap AQ 3 F3 as53_0 ns53_0 s53.1 es53_0) ?_ ?_
 ·refine Bk ?_
  refine Uv (by kernel_rfl) (fun m f w => ∃ (s42 : (List Int × Int)) (F2 : Mem) (as42_0 : UR) (ns42_0 : Nat) (es42_0 : Option Nat × Obj), A0 (A9 N x0 x1 r21 r29) m s42 = some o39 /\ HS wb Fb w F2 (es42_0 :: (sb bp0 #[(.bool x0.o_.Report), (.bool x0.o_.Serial), (.bool x0.o_.Zone), (sv x0.l_.Call), (vi x0.l_.Category), (vi x0.l_.Power), (vi x0.l_.Claimed), (.slice a0_7 x0.l_.Jumps.length n0_7), (.slice a0_8 x0.l_.Lines.length n0_8), (fV 153 #[]), (fV 154 #[]), (fV 190 #[(pt tb0_9_0 0), (pt tb0_9_1 0), (pt tb0_9_2 0), (pt tb0_9_3 0)]), (fV 191 #[(pt tb0_9_0 0), (pt tb0_9_3 0)]), (fV 190 #[(pt tb0_9_4 0), (pt tb0_9_5 0), (pt tb0_9_6 0), (pt tb0_9_7 0)]), (fV 191 #[(pt tb0_9_4 0), (pt tb0_9_7 0)]), (fV 190 #[(pt tb0_9_8 0), (pt tb0_9_9 0), (pt tb0_9_10 0), (pt tb0_9_11 0)]), (fV 191 #[(pt tb0_9_8 0), (pt tb0_9_11 0)]), (fV 159 #[]), (fV 160 #[]), (vi x0.done_), (.bool x0.ended_)] 130) :: e0_8 :: Lf) /\ Uw F1 F2 /\ FI f [] [(0, (pt bp0 3)), (5, (.slice ar21_0_0 r21.length nr21_0_0)), (6, (.slice as42_0 s42.1.length ns42_0)), (14, (.slice a32 r29.length n33)), (15, (vi (r29.length : Int))), (16, (vi s42.2))] /\ Ap AQ 3 F2 as42_0 ns42_0 s42.1 es42_0) N ⟨(([] : List Int), 0), F1, none, 0, (none, .cells #[] 0 (0, 0)), ho40, hs37, (Ux _), fI, (UL AQ 3 F1 _)⟩ ?_
  rintro m61 f w43 ⟨s42, F2, as42_0, ns42_0, es42_0, hit62, hs44, le45, ⟨_, rfl⟩, hrs42_0⟩
  obtain ⟨m63, fl64, rfl, hb65, hnx66⟩ := AU hit62
  refine Sq (Rg [0] ?_)
  refine Vs 1 <| Nss <| Cd hb65 (fun hb67 h68 => ?_) (fun hb67 h69 => ?_)
  ·refine Sc ?_
   refine Ab <| Sq <| Bk <| Sq (Rg [0, 1, 2] ?_)
   obtain ⟨x70, hx71, h73⟩ := bind_some h68
   obtain ⟨hi72, hx71'⟩ := As hx71
   obtain ⟨b74, o75, C76, E77, fz78, rfl, hF80, hE81⟩ := UE (Uz hs35 le45) hx71'
   have hc83 := hE81 _ _ hx71'
   refine Ix hi72 <| Lx 0 (hs44.pers _ _ hF80) hc83 <| Vs 1 <| Nss (Rg (rG 7) ?_)
   refine Vs 1 ?_
   obtain ⟨r84, hr85, h86⟩ := bind_some h73
   refine Cl' Bc hs44 (Bl N w43 F2 hs44.pers (hG.mono (le27.t le45)) x70 _ hr85) ?_
   rintro _ F4 w88 hs89 le90 rfl
   refine Vs 5 <| Nss <| Sq (Rg [0, 1] ?_)
   refine Vs 2 <| Nt <| Cd h86 (fun hb92 h93 => ?_) (fun hb92 h94 => ?_)
   ·refine Sq (Rg [0] ?_)
    refine Vs 1 <| Nt <| Rt <| Aj <| Az <| Aj <| Aj <| Az ?_
    have hret := DV h93 hnx66
    subst hret
    refine .inr <| Aj ?_
    obtain rfl := Aa h41
    exact ReB [(.bool false)] hs89.dr0 ((le27.t le45).trans le90) ⟨a0_7, n0_7, a0_8, n0_8, e0_8, rfl, rfl, hb0_7, (Uz hs0_7 ((le27.t le45).trans le90)), (hr0_8.mono ((le27.t le45).trans le90))⟩
   ·refine Sc ?_
    refine Ab <| Rg (rG 5) <| Vs 2 <| Bs 3 [(vi r84.1)] hs89 (fun b95 w96 hs97 => ?_)
    have hr99 : Ap AQ 3 F4 (some ⟨b95, 0, none⟩) 1 [r84.1] (some b95, .cells ([(vi r84.1)] : List Value).toArray 3 (0, 0)) := UM ⟨rfl, rfl⟩ (by simp)
    obtain ⟨r100, hap101, h102⟩ := bind_some h94
    refine Ap1 Td hs97 (hrs42_0.mono le90) (hs97.rd0 hr99) hap101 (fun a103 n104 e105 w106 hs107 hr108 => ?_)
    refine Vs 1 <| Us <| Av <| Ab <| Rg [0, 1] <| Vs 2 <| Us ?_
    have hn109 := AV h102 hnx66
    exact ⟨m63, Nat.lt_succ_self _, (r100, (W64 (s42.2 + 1))), F4, a103, n104, e105, hn109, hs107.dr0, (le45.t le90), fI, hr108⟩
  ·refine Ex ?_
   refine Au <| Au <| AA rfl ?_
   have ho110 := AW h69 hnx66
   exact .inl ⟨rfl, (s42.1, s42.2), F2, as42_0, ns42_0, es42_0, ho110, hs44, le45, fI, hrs42_0⟩
 ·rintro f w54 ⟨s53, F3, as53_0, ns53_0, es53_0, rfl, hs55, le56, ⟨_, rfl⟩, hrs53_0⟩
  have h111 := BL h41
  refine Ab <| Sq (Rg (rG 5) ?_)
  refine Vs 4 ?_
  have hb115 := UK hrs53_0
  obtain ⟨F5, hs112, le113, hs114⟩ := hs55.fr0 hrs53_0
  refine St0 #[(.bool x0.o_.Report), (.bool x0.o_.Serial), (.bool x0.o_.Zone), (sv x0.l_.Call), (vi x0.l_.Category), (vi x0.l_.Power), (vi x0.l_.Claimed), (.slice as53_0 s53.1.length ns53_0), (.slice a0_8 x0.l_.Lines.length n0_8), (fV 153 #[]), (fV 154 #[]), (fV 190 #[(pt tb0_9_0 0), (pt tb0_9_1 0), (pt tb0_9_2 0), (pt tb0_9_3 0)]), (fV 191 #[(pt tb0_9_0 0), (pt tb0_9_3 0)]), (fV 190 #[(pt tb0_9_4 0), (pt tb0_9_5 0), (pt tb0_9_6 0), (pt tb0_9_7 0)]), (fV 191 #[(pt tb0_9_4 0), (pt tb0_9_7 0)]), (fV 190 #[(pt tb0_9_8 0), (pt tb0_9_9 0), (pt tb0_9_10 0), (pt tb0_9_11 0)]), (fV 191 #[(pt tb0_9_8 0), (pt tb0_9_11 0)]), (fV 159 #[]), (fV 160 #[]), (vi x0.done_), (.bool x0.ended_)] hs112 (fun w116 hs117 => ?_)
  refine Nss (Rg (rG 9) ?_)
  obtain ⟨j121, hj124, h125⟩ := bind_some h111
  refine UC (fun f w => ∃ (F6 : Mem), HS wb Fb w F6 ((sb bp0 #[(.bool x0.o_.Report), (.bool x0.o_.Serial), (.bool x0.o_.Zone), (sv x0.l_.Call), (vi x0.l_.Category), (vi x0.l_.Power), (vi x0.l_.Claimed), (.slice as53_0 s53.1.length ns53_0), (.slice a0_8 x0.l_.Lines.length n0_8), (fV 153 #[]), (fV 154 #[]), (fV 190 #[(pt tb0_9_0 0), (pt tb0_9_1 0), (pt tb0_9_2 0), (pt tb0_9_3 0)]), (fV 191 #[(pt tb0_9_0 0), (pt tb0_9_3 0)]), (fV 190 #[(pt tb0_9_4 0), (pt tb0_9_5 0), (pt tb0_9_6 0), (pt tb0_9_7 0)]), (fV 191 #[(pt tb0_9_4 0), (pt tb0_9_7 0)]), (fV 190 #[(pt tb0_9_8 0), (pt tb0_9_9 0), (pt tb0_9_10 0), (pt tb0_9_11 0)]), (fV 191 #[(pt tb0_9_8 0), (pt tb0_9_11 0)]), (fV 159 #[]), (fV 160 #[]), (vi x0.done_), (.bool x0.ended_)] 130) :: e0_8 :: Lf) /\ Uw F5 F6 /\ FI f [] [(4, (.bool j121))]) ?_ ?_
  ·refine Vs 1 ?_
   obtain ⟨x126, hx127, h129⟩ := bind_some hj124
   obtain ⟨hi128, hx127'⟩ := As hx127
   obtain ⟨b130, o131, C132, E133, fz134, rfl, hF136, hE137⟩ := UE (Uz hsr21_0_0 (le56.t le113)) hx127'
   have hc139 := hE137 _ _ hx127'
   refine Ix hi128 <| Lx 0 (hs117.pers _ _ hF136) hc139 <| Vs 2 <| Sp h129 (fun hb140 h141 => ?_) (fun hb140 h142 => ?_)
   ·refine Vgs hb140 1 ?_
    obtain ⟨r143, hr144, h145⟩ := bind_some h141
    refine Cg hb140 FA hs117 (GE N w116 F5 hs117.pers s53.1 as53_0 ns53_0 hb115 hs114 _ hr144) ?_
    rintro _ F7 w147 hs148 le149 rfl
    refine Pk1 hb140 <| Vs 1 ?_
    obtain rfl := Aa h145
    exact Us ⟨rfl, F7, hs148, le149, fI⟩
   ·refine Ss hb140 2 ?_
    refine Pk0 hb140 <| Vs 1 ?_
    obtain rfl := Aa h142
    exact Us ⟨rfl, F5, hs117, (Ux _), fI⟩
  ·rintro f w118 ⟨F6, hs119, le120, ⟨_, rfl⟩⟩
   refine Ab <| Rt ?_
   obtain rfl := Aa h125
   exact ReB [(.bool j121)] hs119 (((le27.t le56).trans le113).trans le120) ⟨as53_0, ns53_0, a0_8, n0_8, e0_8, rfl, rfl, hb115, (Uz hs114 le120), (hr0_8.mono (((le27.t le56).trans le113).trans le120))⟩
def CO (N : Nat) (x0 : Ah) (x1 : UQ) (z0 : UQ) (z1 : Int) (z2 : Int) : Option (Ah × Bool) :=
 ((CQ z0 ([32] : UQ)).bind fun r21 => ((strings_CutPrefix N x1 r21).bind fun r24 => ((AD N r24.1).bind fun r32 => ((bif (!r24.2) then some true else (bif (!r32.2) then some true else ((AP N r32.1 z1 z2).bind fun r57 => some (!r57)))).bind fun j43 => (bif j43 then some (x0, false) else some (({ o_ := ({ Report := x0.o_.Report, Serial := x0.o_.Serial, Zone := x0.o_.Zone } : Ac), l_ := ({ Call := x0.l_.Call, Category := r32.1, Power := x0.l_.Power, Claimed := x0.l_.Claimed, Jumps := x0.l_.Jumps, Lines := x0.l_.Lines } : Log), done_ := x0.done_, ended_ := x0.ended_ } : Ah), true))))))
theorem HB : Ag Tryz.prog 190 := fun _ _ => by kernel_rfl
theorem Ic (N : Nat) {wb w0 : World} {Fb F0 : Mem} {Lf : Own} (hG : Br F0) (bp0 : Nat) (x0 : Ah) (a0_7 : UR) (n0_7 : Nat) (tb0_9_0 : Nat) (tb0_9_1 : Nat) (tb0_9_2 : Nat) (tb0_9_3 : Nat) (tb0_9_4 : Nat) (tb0_9_5 : Nat) (tb0_9_6 : Nat) (tb0_9_7 : Nat) (tb0_9_8 : Nat) (tb0_9_9 : Nat) (tb0_9_10 : Nat) (tb0_9_11 : Nat) (a0_8 : UR) (n0_8 : Nat) (e0_8 : Option Nat × Obj) (hb0_7 : LC x0.l_.Jumps.length n0_7) (hs0_7 : SlA AQ F0 a0_7 x0.l_.Jumps) (htb0_9_0 : F0 tb0_9_0 = some (oc #[(sv (([67, 65, 84, 69, 71, 79, 82, 89] : UQ)))] 9)) (htb0_9_1 : F0 tb0_9_1 = some (oc #[(vi 1)] 3)) (htb0_9_2 : F0 tb0_9_2 = some (oc #[(vi 9)] 3)) (htb0_9_3 : F0 tb0_9_3 = some (oc #[(fV 156 #[])] 195)) (htb0_9_4 : F0 tb0_9_4 = some (oc #[(sv (([80, 79, 87, 69, 82] : UQ)))] 9)) (htb0_9_5 : F0 tb0_9_5 = some (oc #[(vi 1)] 3)) (htb0_9_6 : F0 tb0_9_6 = some (oc #[(vi 9999)] 3)) (htb0_9_7 : F0 tb0_9_7 = some (oc #[(fV 157 #[])] 195)) (htb0_9_8 : F0 tb0_9_8 = some (oc #[(sv (([67, 76, 65, 73, 77, 69, 68] : UQ)))] 9)) (htb0_9_9 : F0 tb0_9_9 = some (oc #[(vi 0)] 3)) (htb0_9_10 : F0 tb0_9_10 = some (oc #[(vi 1000000)] 3)) (htb0_9_11 : F0 tb0_9_11 = some (oc #[(fV 158 #[])] 195)) (hr0_8 : Ap AK 34 F0 a0_8 n0_8 x0.l_.Lines e0_8) (x1 : UQ) (bz0 : Nat) (z0 : UQ) (hz0 : F0 bz0 = some (oc #[(sv z0)] 9)) (bz1 : Nat) (z1 : Int) (hz1 : F0 bz1 = some (oc #[(vi z1)] 3)) (bz2 : Nat) (z2 : Int) (hz2 : F0 bz2 = some (oc #[(vi z2)] 3)) (bz3 : Nat) (hz3 : F0 bz3 = some (oc #[(fV 156 #[])] 195)) (hs0 : HS wb Fb w0 F0 ((sb bp0 #[(.bool x0.o_.Report), (.bool x0.o_.Serial), (.bool x0.o_.Zone), (sv x0.l_.Call), (vi x0.l_.Category), (vi x0.l_.Power), (vi x0.l_.Claimed), (.slice a0_7 x0.l_.Jumps.length n0_7), (.slice a0_8 x0.l_.Lines.length n0_8), (fV 153 #[]), (fV 154 #[]), (fV 190 #[(pt tb0_9_0 0), (pt tb0_9_1 0), (pt tb0_9_2 0), (pt tb0_9_3 0)]), (fV 191 #[(pt tb0_9_0 0), (pt tb0_9_3 0)]), (fV 190 #[(pt tb0_9_4 0), (pt tb0_9_5 0), (pt tb0_9_6 0), (pt tb0_9_7 0)]), (fV 191 #[(pt tb0_9_4 0), (pt tb0_9_7 0)]), (fV 190 #[(pt tb0_9_8 0), (pt tb0_9_9 0), (pt tb0_9_10 0), (pt tb0_9_11 0)]), (fV 191 #[(pt tb0_9_8 0), (pt tb0_9_11 0)]), (fV 159 #[]), (fV 160 #[]), (vi x0.done_), (.bool x0.ended_)] 130) :: e0_8 :: Lf)) (r : (Ah × Bool)) (h : CO N x0 x1 z0 z1 z2 = some r) :
  Calls Tryz.prog 190 ([(pt bp0 3), (sv x1), (pt bz0 0), (pt bz1 0), (pt bz2 0), (pt bz3 0)] : List Value).toArray w0 (Ed wb Fb F0 fun F' v L' => ∃ (aq0_7 : UR) (nq0_7 : Nat) (aq0_8 : UR) (nq0_8 : Nat) (eq0_8 : Option Nat × Obj), v = (.bool r.2) /\ L' = (sb bp0 #[(.bool r.1.o_.Report), (.bool r.1.o_.Serial), (.bool r.1.o_.Zone), (sv r.1.l_.Call), (vi r.1.l_.Category), (vi r.1.l_.Power), (vi r.1.l_.Claimed), (.slice aq0_7 r.1.l_.Jumps.length nq0_7), (.slice aq0_8 r.1.l_.Lines.length nq0_8), (fV 153 #[]), (fV 154 #[]), (fV 190 #[(pt tb0_9_0 0), (pt tb0_9_1 0), (pt tb0_9_2 0), (pt tb0_9_3 0)]), (fV 191 #[(pt tb0_9_0 0), (pt tb0_9_3 0)]), (fV 190 #[(pt tb0_9_4 0), (pt tb0_9_5 0), (pt tb0_9_6 0), (pt tb0_9_7 0)]), (fV 191 #[(pt tb0_9_4 0), (pt tb0_9_7 0)]), (fV 190 #[(pt tb0_9_8 0), (pt tb0_9_9 0), (pt tb0_9_10 0), (pt tb0_9_11 0)]), (fV 191 #[(pt tb0_9_8 0), (pt tb0_9_11 0)]), (fV 159 #[]), (fV 160 #[]), (vi r.1.done_), (.bool r.1.ended_)] 130) :: eq0_8 :: Lf /\ LC r.1.l_.Jumps.length nq0_7 /\ SlA AQ F' aq0_7 r.1.l_.Jumps /\ Ap AK 34 F' aq0_8 nq0_8 r.1.l_.Lines eq0_8) := by
 refine Go 43 Tryz.func190 <| Sq (Rg [0] ?_)
 refine Vs 1 <| Nss (Rg (rG 9) ?_)
 refine Vs 1 <| Ld (hs0.pers _ _ hz0) ?_
 obtain ⟨r21, hr22, h23⟩ := bind_some h
 refine V 16 9 (AO (t := 9) (t' := 9) (x := (.tmp 15)) (y := (.const (sv ([32] : UQ)))) (a := z0) (b := ([32] : UQ)) (v := r21) rfl rfl hr22) ?_
 obtain ⟨r24, hr25, h26⟩ := bind_some h23
 refine Cl' AZ hs0 (A5 N w0 F0 hs0.pers x1 r21 _ hr25) ?_
 rintro _ F1 w28 hs29 le30 rfl
 refine Vs 5 <| Nss (Rg (rG 7) ?_)
 refine Vs 1 ?_
 obtain ⟨r32, hr33, h34⟩ := bind_some h26
 refine Cl' Bc hs29 (Bl N w28 F1 hs29.pers (hG.mono le30) r24.1 _ hr33) ?_
 rintro _ F2 w36 hs37 le38 rfl
 refine Vs 5 <| Nss <| Sq (Rg (rG 13) ?_)
 obtain ⟨j43, hj49, h50⟩ := bind_some h34
 refine UC (fun f w => ∃ (F3 : Mem), HS wb Fb w F3 ((sb bp0 #[(.bool x0.o_.Report), (.bool x0.o_.Serial), (.bool x0.o_.Zone), (sv x0.l_.Call), (vi x0.l_.Category), (vi x0.l_.Power), (vi x0.l_.Claimed), (.slice a0_7 x0.l_.Jumps.length n0_7), (.slice a0_8 x0.l_.Lines.length n0_8), (fV 153 #[]), (fV 154 #[]), (fV 190 #[(pt tb0_9_0 0), (pt tb0_9_1 0), (pt tb0_9_2 0), (pt tb0_9_3 0)]), (fV 191 #[(pt tb0_9_0 0), (pt tb0_9_3 0)]), (fV 190 #[(pt tb0_9_4 0), (pt tb0_9_5 0), (pt tb0_9_6 0), (pt tb0_9_7 0)]), (fV 191 #[(pt tb0_9_4 0), (pt tb0_9_7 0)]), (fV 190 #[(pt tb0_9_8 0), (pt tb0_9_9 0), (pt tb0_9_10 0), (pt tb0_9_11 0)]), (fV 191 #[(pt tb0_9_8 0), (pt tb0_9_11 0)]), (fV 159 #[]), (fV 160 #[]), (vi x0.done_), (.bool x0.ended_)] 130) :: e0_8 :: Lf) /\ Uw F2 F3 /\ FI f [] [(0, (pt bp0 3)), (5, (pt bz3 0)), (11, (vi r32.1)), (37, (.bool j43))]) ?_ ?_
 ·refine Vs 3 ?_
  refine Sp hj49 (fun hb51 h52 => ?_) (fun hb51 h53 => ?_)
  ·refine Ss hb51 2 ?_
   refine Pk1 hb51 <| Vs 1 <| Ss (rfl : true = true) 5 <| Pk1 (rfl : true = true) ?_
   obtain rfl := Aa h52
   exact Us ⟨rfl, F2, hs37, (Ux _), fI⟩
  ·refine Vgs hb51 2 ?_
   refine Pk0 hb51 <| Vs 1 <| Sp h53 (fun hb54 h55 => ?_) (fun hb54 h56 => ?_)
   ·refine Ss hb54 5 ?_
    refine Pk1 hb54 ?_
    obtain rfl := Aa h55
    exact Us ⟨rfl, F2, hs37, (Ux _), fI⟩
   ·refine Vgs hb54 1 ?_
    refine Lg hb54 (hs37.pers _ _ ((le30.t le38) _ _ hz1)) <| Lg hb54 (hs37.pers _ _ ((le30.t le38) _ _ hz2)) ?_
    obtain ⟨r57, hr58, h59⟩ := bind_some h56
    refine Cg hb54 AC hs37 (AJ N w36 F2 hs37.pers r32.1 z1 z2 _ hr58) ?_
    rintro _ F4 w61 hs62 le63 rfl
    refine Vgs hb54 1 <| Pk0 hb54 ?_
    obtain rfl := Aa h59
    exact Us ⟨rfl, F4, hs62, le63, fI⟩
 ·rintro f w40 ⟨F3, hs41, le42, ⟨_, rfl⟩⟩
  refine Ab <| Cd h50 (fun hb65 h66 => ?_) (fun hb65 h67 => ?_)
  ·refine Sq (Rg [0] ?_)
   refine Vs 1 <| Nt <| Rt <| Aj ?_
   obtain rfl := Aa h66
   exact ReB [(.bool false)] hs41 ((le30.t le38).trans le42) ⟨a0_7, n0_7, a0_8, n0_8, e0_8, rfl, rfl, hb0_7, (Uz hs0_7 ((le30.t le38).trans le42)), (hr0_8.mono ((le30.t le38).trans le42))⟩
  ·refine Sc ?_
   refine Ab <| Sq (Rg (rG 6) ?_)
   refine Ld (hs41.pers _ _ (((le30.t le38).trans le42) _ _ hz3)) <| Vs 1 <| Cl' Kj hs41 (Mm w40 F3 hs41.pers bp0 3) ?_
   rintro _ F5 w68 hs69 le70 rfl
   refine Vs 2 <| St0 #[(.bool x0.o_.Report), (.bool x0.o_.Serial), (.bool x0.o_.Zone), (sv x0.l_.Call), (vi r32.1), (vi x0.l_.Power), (vi x0.l_.Claimed), (.slice a0_7 x0.l_.Jumps.length n0_7), (.slice a0_8 x0.l_.Lines.length n0_8), (fV 153 #[]), (fV 154 #[]), (fV 190 #[(pt tb0_9_0 0), (pt tb0_9_1 0), (pt tb0_9_2 0), (pt tb0_9_3 0)]), (fV 191 #[(pt tb0_9_0 0), (pt tb0_9_3 0)]), (fV 190 #[(pt tb0_9_4 0), (pt tb0_9_5 0), (pt tb0_9_6 0), (pt tb0_9_7 0)]), (fV 191 #[(pt tb0_9_4 0), (pt tb0_9_7 0)]), (fV 190 #[(pt tb0_9_8 0), (pt tb0_9_9 0), (pt tb0_9_10 0), (pt tb0_9_11 0)]), (fV 191 #[(pt tb0_9_8 0), (pt tb0_9_11 0)]), (fV 159 #[]), (fV 160 #[]), (vi x0.done_), (.bool x0.ended_)] hs69 (fun w71 hs72 => ?_)
   refine Nss (Rg [0] ?_)
   refine Vs 1 <| Nt <| Rt ?_
   obtain rfl := Aa h67
   exact ReB [(.bool true)] hs72 (((le30.t le38).trans le42).trans le70) ⟨a0_7, n0_7, a0_8, n0_8, e0_8, rfl, rfl, hb0_7, (Uz hs0_7 (((le30.t le38).trans le42).trans le70)), (hr0_8.mono (((le30.t le38).trans le42).trans le70))⟩
def CM (N : Nat) (x0 : Ah) (x1 : UQ) (z0 : UQ) (z1 : Int) (z2 : Int) : Option (Ah × Bool) :=
 ((CQ z0 ([32] : UQ)).bind fun r21 => ((strings_CutPrefix N x1 r21).bind fun r24 => ((AD N r24.1).bind fun r32 => ((bif (!r24.2) then some true else (bif (!r32.2) then some true else ((AP N r32.1 z1 z2).bind fun r57 => some (!r57)))).bind fun j43 => (bif j43 then some (x0, false) else some (({ o_ := ({ Report := x0.o_.Report, Serial := x0.o_.Serial, Zone := x0.o_.Zone } : Ac), l_ := ({ Call := x0.l_.Call, Category := x0.l_.Category, Power := r32.1, Claimed := x0.l_.Claimed, Jumps := x0.l_.Jumps, Lines := x0.l_.Lines } : Log), done_ := x0.done_, ended_ := x0.ended_ } : Ah), true))))))
theorem Hz : Ag Tryz.prog 190 := fun _ _ => by kernel_rfl
theorem Ia (N : Nat) {wb w0 : World} {Fb F0 : Mem} {Lf : Own} (hG : Br F0) (bp0 : Nat) (x0 : Ah) (a0_7 : UR) (n0_7 : Nat) (tb0_9_0 : Nat) (tb0_9_1 : Nat) (tb0_9_2 : Nat) (tb0_9_3 : Nat) (tb0_9_4 : Nat) (tb0_9_5 : Nat) (tb0_9_6 : Nat) (tb0_9_7 : Nat) (tb0_9_8 : Nat) (tb0_9_9 : Nat) (tb0_9_10 : Nat) (tb0_9_11 : Nat) (a0_8 : UR) (n0_8 : Nat) (e0_8 : Option Nat × Obj) (hb0_7 : LC x0.l_.Jumps.length n0_7) (hs0_7 : SlA AQ F0 a0_7 x0.l_.Jumps) (htb0_9_0 : F0 tb0_9_0 = some (oc #[(sv (([67, 65, 84, 69, 71, 79, 82, 89] : UQ)))] 9)) (htb0_9_1 : F0 tb0_9_1 = some (oc #[(vi 1)] 3)) (htb0_9_2 : F0 tb0_9_2 = some (oc #[(vi 9)] 3)) (htb0_9_3 : F0 tb0_9_3 = some (oc #[(fV 156 #[])] 195)) (htb0_9_4 : F0 tb0_9_4 = some (oc #[(sv (([80, 79, 87, 69, 82] : UQ)))] 9)) (htb0_9_5 : F0 tb0_9_5 = some (oc #[(vi 1)] 3)) (htb0_9_6 : F0 tb0_9_6 = some (oc #[(vi 9999)] 3)) (htb0_9_7 : F0 tb0_9_7 = some (oc #[(fV 157 #[])] 195)) (htb0_9_8 : F0 tb0_9_8 = some (oc #[(sv (([67, 76, 65, 73, 77, 69, 68] : UQ)))] 9)) (htb0_9_9 : F0 tb0_9_9 = some (oc #[(vi 0)] 3)) (htb0_9_10 : F0 tb0_9_10 = some (oc #[(vi 1000000)] 3)) (htb0_9_11 : F0 tb0_9_11 = some (oc #[(fV 158 #[])] 195)) (hr0_8 : Ap AK 34 F0 a0_8 n0_8 x0.l_.Lines e0_8) (x1 : UQ) (bz0 : Nat) (z0 : UQ) (hz0 : F0 bz0 = some (oc #[(sv z0)] 9)) (bz1 : Nat) (z1 : Int) (hz1 : F0 bz1 = some (oc #[(vi z1)] 3)) (bz2 : Nat) (z2 : Int) (hz2 : F0 bz2 = some (oc #[(vi z2)] 3)) (bz3 : Nat) (hz3 : F0 bz3 = some (oc #[(fV 157 #[])] 195)) (hs0 : HS wb Fb w0 F0 ((sb bp0 #[(.bool x0.o_.Report), (.bool x0.o_.Serial), (.bool x0.o_.Zone), (sv x0.l_.Call), (vi x0.l_.Category), (vi x0.l_.Power), (vi x0.l_.Claimed), (.slice a0_7 x0.l_.Jumps.length n0_7), (.slice a0_8 x0.l_.Lines.length n0_8), (fV 153 #[]), (fV 154 #[]), (fV 190 #[(pt tb0_9_0 0), (pt tb0_9_1 0), (pt tb0_9_2 0), (pt tb0_9_3 0)]), (fV 191 #[(pt tb0_9_0 0), (pt tb0_9_3 0)]), (fV 190 #[(pt tb0_9_4 0), (pt tb0_9_5 0), (pt tb0_9_6 0), (pt tb0_9_7 0)]), (fV 191 #[(pt tb0_9_4 0), (pt tb0_9_7 0)]), (fV 190 #[(pt tb0_9_8 0), (pt tb0_9_9 0), (pt tb0_9_10 0), (pt tb0_9_11 0)]), (fV 191 #[(pt tb0_9_8 0), (pt tb0_9_11 0)]), (fV 159 #[]), (fV 160 #[]), (vi x0.done_), (.bool x0.ended_)] 130) :: e0_8 :: Lf)) (r : (Ah × Bool)) (h : CM N x0 x1 z0 z1 z2 = some r) :
  Calls Tryz.prog 190 ([(pt bp0 3), (sv x1), (pt bz0 0), (pt bz1 0), (pt bz2 0), (pt bz3 0)] : List Value).toArray w0 (Ed wb Fb F0 fun F' v L' => ∃ (aq0_7 : UR) (nq0_7 : Nat) (aq0_8 : UR) (nq0_8 : Nat) (eq0_8 : Option Nat × Obj), v = (.bool r.2) /\ L' = (sb bp0 #[(.bool r.1.o_.Report), (.bool r.1.o_.Serial), (.bool r.1.o_.Zone), (sv r.1.l_.Call), (vi r.1.l_.Category), (vi r.1.l_.Power), (vi r.1.l_.Claimed), (.slice aq0_7 r.1.l_.Jumps.length nq0_7), (.slice aq0_8 r.1.l_.Lines.length nq0_8), (fV 153 #[]), (fV 154 #[]), (fV 190 #[(pt tb0_9_0 0), (pt tb0_9_1 0), (pt tb0_9_2 0), (pt tb0_9_3 0)]), (fV 191 #[(pt tb0_9_0 0), (pt tb0_9_3 0)]), (fV 190 #[(pt tb0_9_4 0), (pt tb0_9_5 0), (pt tb0_9_6 0), (pt tb0_9_7 0)]), (fV 191 #[(pt tb0_9_4 0), (pt tb0_9_7 0)]), (fV 190 #[(pt tb0_9_8 0), (pt tb0_9_9 0), (pt tb0_9_10 0), (pt tb0_9_11 0)]), (fV 191 #[(pt tb0_9_8 0), (pt tb0_9_11 0)]), (fV 159 #[]), (fV 160 #[]), (vi r.1.done_), (.bool r.1.ended_)] 130) :: eq0_8 :: Lf /\ LC r.1.l_.Jumps.length nq0_7 /\ SlA AQ F' aq0_7 r.1.l_.Jumps /\ Ap AK 34 F' aq0_8 nq0_8 r.1.l_.Lines eq0_8) := by
 refine Go 43 Tryz.func190 <| Sq (Rg [0] ?_)
 refine Vs 1 <| Nss (Rg (rG 9) ?_)
 refine Vs 1 <| Ld (hs0.pers _ _ hz0) ?_
 obtain ⟨r21, hr22, h23⟩ := bind_some h
 refine V 16 9 (AO (t := 9) (t' := 9) (x := (.tmp 15)) (y := (.const (sv ([32] : UQ)))) (a := z0) (b := ([32] : UQ)) (v := r21) rfl rfl hr22) ?_
 obtain ⟨r24, hr25, h26⟩ := bind_some h23
 refine Cl' AZ hs0 (A5 N w0 F0 hs0.pers x1 r21 _ hr25) ?_
 rintro _ F1 w28 hs29 le30 rfl
 refine Vs 5 <| Nss (Rg (rG 7) ?_)
 refine Vs 1 ?_
 obtain ⟨r32, hr33, h34⟩ := bind_some h26
 refine Cl' Bc hs29 (Bl N w28 F1 hs29.pers (hG.mono le30) r24.1 _ hr33) ?_
 rintro _ F2 w36 hs37 le38 rfl
 refine Vs 5 <| Nss <| Sq (Rg (rG 13) ?_)
 obtain ⟨j43, hj49, h50⟩ := bind_some h34
 refine UC (fun f w => ∃ (F3 : Mem), HS wb Fb w F3 ((sb bp0 #[(.bool x0.o_.Report), (.bool x0.o_.Serial), (.bool x0.o_.Zone), (sv x0.l_.Call), (vi x0.l_.Category), (vi x0.l_.Power), (vi x0.l_.Claimed), (.slice a0_7 x0.l_.Jumps.length n0_7), (.slice a0_8 x0.l_.Lines.length n0_8), (fV 153 #[]), (fV 154 #[]), (fV 190 #[(pt tb0_9_0 0), (pt tb0_9_1 0), (pt tb0_9_2 0), (pt tb0_9_3 0)]), (fV 191 #[(pt tb0_9_0 0), (pt tb0_9_3 0)]), (fV 190 #[(pt tb0_9_4 0), (pt tb0_9_5 0), (pt tb0_9_6 0), (pt tb0_9_7 0)]), (fV 191 #[(pt tb0_9_4 0), (pt tb0_9_7 0)]), (fV 190 #[(pt tb0_9_8 0), (pt tb0_9_9 0), (pt tb0_9_10 0), (pt tb0_9_11 0)]), (fV 191 #[(pt tb0_9_8 0), (pt tb0_9_11 0)]), (fV 159 #[]), (fV 160 #[]), (vi x0.done_), (.bool x0.ended_)] 130) :: e0_8 :: Lf) /\ Uw F2 F3 /\ FI f [] [(0, (pt bp0 3)), (5, (pt bz3 0)), (11, (vi r32.1)), (37, (.bool j43))]) ?_ ?_
 ·refine Vs 3 ?_
  refine Sp hj49 (fun hb51 h52 => ?_) (fun hb51 h53 => ?_)
  ·refine Ss hb51 2 ?_
   refine Pk1 hb51 <| Vs 1 <| Ss (rfl : true = true) 5 <| Pk1 (rfl : true = true) ?_
   obtain rfl := Aa h52
   exact Us ⟨rfl, F2, hs37, (Ux _), fI⟩
  ·refine Vgs hb51 2 ?_
   refine Pk0 hb51 <| Vs 1 <| Sp h53 (fun hb54 h55 => ?_) (fun hb54 h56 => ?_)
   ·refine Ss hb54 5 ?_
    refine Pk1 hb54 ?_
    obtain rfl := Aa h55
    exact Us ⟨rfl, F2, hs37, (Ux _), fI⟩
   ·refine Vgs hb54 1 ?_
    refine Lg hb54 (hs37.pers _ _ ((le30.t le38) _ _ hz1)) <| Lg hb54 (hs37.pers _ _ ((le30.t le38) _ _ hz2)) ?_
    obtain ⟨r57, hr58, h59⟩ := bind_some h56
    refine Cg hb54 AC hs37 (AJ N w36 F2 hs37.pers r32.1 z1 z2 _ hr58) ?_
    rintro _ F4 w61 hs62 le63 rfl
    refine Vgs hb54 1 <| Pk0 hb54 ?_
    obtain rfl := Aa h59
    exact Us ⟨rfl, F4, hs62, le63, fI⟩
 ·rintro f w40 ⟨F3, hs41, le42, ⟨_, rfl⟩⟩
  refine Ab <| Cd h50 (fun hb65 h66 => ?_) (fun hb65 h67 => ?_)
  ·refine Sq (Rg [0] ?_)
   refine Vs 1 <| Nt <| Rt <| Aj ?_
   obtain rfl := Aa h66
   exact ReB [(.bool false)] hs41 ((le30.t le38).trans le42) ⟨a0_7, n0_7, a0_8, n0_8, e0_8, rfl, rfl, hb0_7, (Uz hs0_7 ((le30.t le38).trans le42)), (hr0_8.mono ((le30.t le38).trans le42))⟩
  ·refine Sc ?_
   refine Ab <| Sq (Rg (rG 6) ?_)
   refine Ld (hs41.pers _ _ (((le30.t le38).trans le42) _ _ hz3)) <| Vs 1 <| Cl' Ki hs41 (Ml w40 F3 hs41.pers bp0 3) ?_
   rintro _ F5 w68 hs69 le70 rfl
   refine Vs 2 <| St0 #[(.bool x0.o_.Report), (.bool x0.o_.Serial), (.bool x0.o_.Zone), (sv x0.l_.Call), (vi x0.l_.Category), (vi r32.1), (vi x0.l_.Claimed), (.slice a0_7 x0.l_.Jumps.length n0_7), (.slice a0_8 x0.l_.Lines.length n0_8), (fV 153 #[]), (fV 154 #[]), (fV 190 #[(pt tb0_9_0 0), (pt tb0_9_1 0), (pt tb0_9_2 0), (pt tb0_9_3 0)]), (fV 191 #[(pt tb0_9_0 0), (pt tb0_9_3 0)]), (fV 190 #[(pt tb0_9_4 0), (pt tb0_9_5 0), (pt tb0_9_6 0), (pt tb0_9_7 0)]), (fV 191 #[(pt tb0_9_4 0), (pt tb0_9_7 0)]), (fV 190 #[(pt tb0_9_8 0), (pt tb0_9_9 0), (pt tb0_9_10 0), (pt tb0_9_11 0)]), (fV 191 #[(pt tb0_9_8 0), (pt tb0_9_11 0)]), (fV 159 #[]), (fV 160 #[]), (vi x0.done_), (.bool x0.ended_)] hs69 (fun w71 hs72 => ?_)
   refine Nss (Rg [0] ?_)
   refine Vs 1 <| Nt <| Rt ?_
   obtain rfl := Aa h67
   exact ReB [(.bool true)] hs72 (((le30.t le38).trans le42).trans le70) ⟨a0_7, n0_7, a0_8, n0_8, e0_8, rfl, rfl, hb0_7, (Uz hs0_7 (((le30.t le38).trans le42).trans le70)), (hr0_8.mono (((le30.t le38).trans le42).trans le70))⟩
def CN (N : Nat) (x0 : Ah) (x1 : UQ) (z0 : UQ) (z1 : Int) (z2 : Int) : Option (Ah × Bool) :=
 ((CQ z0 ([32] : UQ)).bind fun r21 => ((strings_CutPrefix N x1 r21).bind fun r24 => ((AD N r24.1).bind fun r32 => ((bif (!r24.2) then some true else (bif (!r32.2) then some true else ((AP N r32.1 z1 z2).bind fun r57 => some (!r57)))).bind fun j43 => (bif j43 then some (x0, false) else some (({ o_ := ({ Report := x0.o_.Report, Serial := x0.o_.Serial, Zone := x0.o_.Zone } : Ac), l_ := ({ Call := x0.l_.Call, Category := x0.l_.Category, Power := x0.l_.Power, Claimed := r32.1, Jumps := x0.l_.Jumps, Lines := x0.l_.Lines } : Log), done_ := x0.done_, ended_ := x0.ended_ } : Ah), true))))))
theorem HA : Ag Tryz.prog 190 := fun _ _ => by kernel_rfl
theorem Ib (N : Nat) {wb w0 : World} {Fb F0 : Mem} {Lf : Own} (hG : Br F0) (bp0 : Nat) (x0 : Ah) (a0_7 : UR) (n0_7 : Nat) (tb0_9_0 : Nat) (tb0_9_1 : Nat) (tb0_9_2 : Nat) (tb0_9_3 : Nat) (tb0_9_4 : Nat) (tb0_9_5 : Nat) (tb0_9_6 : Nat) (tb0_9_7 : Nat) (tb0_9_8 : Nat) (tb0_9_9 : Nat) (tb0_9_10 : Nat) (tb0_9_11 : Nat) (a0_8 : UR) (n0_8 : Nat) (e0_8 : Option Nat × Obj) (hb0_7 : LC x0.l_.Jumps.length n0_7) (hs0_7 : SlA AQ F0 a0_7 x0.l_.Jumps) (htb0_9_0 : F0 tb0_9_0 = some (oc #[(sv (([67, 65, 84, 69, 71, 79, 82, 89] : UQ)))] 9)) (htb0_9_1 : F0 tb0_9_1 = some (oc #[(vi 1)] 3)) (htb0_9_2 : F0 tb0_9_2 = some (oc #[(vi 9)] 3)) (htb0_9_3 : F0 tb0_9_3 = some (oc #[(fV 156 #[])] 195)) (htb0_9_4 : F0 tb0_9_4 = some (oc #[(sv (([80, 79, 87, 69, 82] : UQ)))] 9)) (htb0_9_5 : F0 tb0_9_5 = some (oc #[(vi 1)] 3)) (htb0_9_6 : F0 tb0_9_6 = some (oc #[(vi 9999)] 3)) (htb0_9_7 : F0 tb0_9_7 = some (oc #[(fV 157 #[])] 195)) (htb0_9_8 : F0 tb0_9_8 = some (oc #[(sv (([67, 76, 65, 73, 77, 69, 68] : UQ)))] 9)) (htb0_9_9 : F0 tb0_9_9 = some (oc #[(vi 0)] 3)) (htb0_9_10 : F0 tb0_9_10 = some (oc #[(vi 1000000)] 3)) (htb0_9_11 : F0 tb0_9_11 = some (oc #[(fV 158 #[])] 195)) (hr0_8 : Ap AK 34 F0 a0_8 n0_8 x0.l_.Lines e0_8) (x1 : UQ) (bz0 : Nat) (z0 : UQ) (hz0 : F0 bz0 = some (oc #[(sv z0)] 9)) (bz1 : Nat) (z1 : Int) (hz1 : F0 bz1 = some (oc #[(vi z1)] 3)) (bz2 : Nat) (z2 : Int) (hz2 : F0 bz2 = some (oc #[(vi z2)] 3)) (bz3 : Nat) (hz3 : F0 bz3 = some (oc #[(fV 158 #[])] 195)) (hs0 : HS wb Fb w0 F0 ((sb bp0 #[(.bool x0.o_.Report), (.bool x0.o_.Serial), (.bool x0.o_.Zone), (sv x0.l_.Call), (vi x0.l_.Category), (vi x0.l_.Power), (vi x0.l_.Claimed), (.slice a0_7 x0.l_.Jumps.length n0_7), (.slice a0_8 x0.l_.Lines.length n0_8), (fV 153 #[]), (fV 154 #[]), (fV 190 #[(pt tb0_9_0 0), (pt tb0_9_1 0), (pt tb0_9_2 0), (pt tb0_9_3 0)]), (fV 191 #[(pt tb0_9_0 0), (pt tb0_9_3 0)]), (fV 190 #[(pt tb0_9_4 0), (pt tb0_9_5 0), (pt tb0_9_6 0), (pt tb0_9_7 0)]), (fV 191 #[(pt tb0_9_4 0), (pt tb0_9_7 0)]), (fV 190 #[(pt tb0_9_8 0), (pt tb0_9_9 0), (pt tb0_9_10 0), (pt tb0_9_11 0)]), (fV 191 #[(pt tb0_9_8 0), (pt tb0_9_11 0)]), (fV 159 #[]), (fV 160 #[]), (vi x0.done_), (.bool x0.ended_)] 130) :: e0_8 :: Lf)) (r : (Ah × Bool)) (h : CN N x0 x1 z0 z1 z2 = some r) :
  Calls Tryz.prog 190 ([(pt bp0 3), (sv x1), (pt bz0 0), (pt bz1 0), (pt bz2 0), (pt bz3 0)] : List Value).toArray w0 (Ed wb Fb F0 fun F' v L' => ∃ (aq0_7 : UR) (nq0_7 : Nat) (aq0_8 : UR) (nq0_8 : Nat) (eq0_8 : Option Nat × Obj), v = (.bool r.2) /\ L' = (sb bp0 #[(.bool r.1.o_.Report), (.bool r.1.o_.Serial), (.bool r.1.o_.Zone), (sv r.1.l_.Call), (vi r.1.l_.Category), (vi r.1.l_.Power), (vi r.1.l_.Claimed), (.slice aq0_7 r.1.l_.Jumps.length nq0_7), (.slice aq0_8 r.1.l_.Lines.length nq0_8), (fV 153 #[]), (fV 154 #[]), (fV 190 #[(pt tb0_9_0 0), (pt tb0_9_1 0), (pt tb0_9_2 0), (pt tb0_9_3 0)]), (fV 191 #[(pt tb0_9_0 0), (pt tb0_9_3 0)]), (fV 190 #[(pt tb0_9_4 0), (pt tb0_9_5 0), (pt tb0_9_6 0), (pt tb0_9_7 0)]), (fV 191 #[(pt tb0_9_4 0), (pt tb0_9_7 0)]), (fV 190 #[(pt tb0_9_8 0), (pt tb0_9_9 0), (pt tb0_9_10 0), (pt tb0_9_11 0)]), (fV 191 #[(pt tb0_9_8 0), (pt tb0_9_11 0)]), (fV 159 #[]), (fV 160 #[]), (vi r.1.done_), (.bool r.1.ended_)] 130) :: eq0_8 :: Lf /\ LC r.1.l_.Jumps.length nq0_7 /\ SlA AQ F' aq0_7 r.1.l_.Jumps /\ Ap AK 34 F' aq0_8 nq0_8 r.1.l_.Lines eq0_8) := by
 refine Go 43 Tryz.func190 <| Sq (Rg [0] ?_)
 refine Vs 1 <| Nss (Rg (rG 9) ?_)
 refine Vs 1 <| Ld (hs0.pers _ _ hz0) ?_
 obtain ⟨r21, hr22, h23⟩ := bind_some h
 refine V 16 9 (AO (t := 9) (t' := 9) (x := (.tmp 15)) (y := (.const (sv ([32] : UQ)))) (a := z0) (b := ([32] : UQ)) (v := r21) rfl rfl hr22) ?_
 obtain ⟨r24, hr25, h26⟩ := bind_some h23
 refine Cl' AZ hs0 (A5 N w0 F0 hs0.pers x1 r21 _ hr25) ?_
 rintro _ F1 w28 hs29 le30 rfl
 refine Vs 5 <| Nss (Rg (rG 7) ?_)
 refine Vs 1 ?_
 obtain ⟨r32, hr33, h34⟩ := bind_some h26
 refine Cl' Bc hs29 (Bl N w28 F1 hs29.pers (hG.mono le30) r24.1 _ hr33) ?_
 rintro _ F2 w36 hs37 le38 rfl
 refine Vs 5 <| Nss <| Sq (Rg (rG 13) ?_)
 obtain ⟨j43, hj49, h50⟩ := bind_some h34
 refine UC (fun f w => ∃ (F3 : Mem), HS wb Fb w F3 ((sb bp0 #[(.bool x0.o_.Report), (.bool x0.o_.Serial), (.bool x0.o_.Zone), (sv x0.l_.Call), (vi x0.l_.Category), (vi x0.l_.Power), (vi x0.l_.Claimed), (.slice a0_7 x0.l_.Jumps.length n0_7), (.slice a0_8 x0.l_.Lines.length n0_8), (fV 153 #[]), (fV 154 #[]), (fV 190 #[(pt tb0_9_0 0), (pt tb0_9_1 0), (pt tb0_9_2 0), (pt tb0_9_3 0)]), (fV 191 #[(pt tb0_9_0 0), (pt tb0_9_3 0)]), (fV 190 #[(pt tb0_9_4 0), (pt tb0_9_5 0), (pt tb0_9_6 0), (pt tb0_9_7 0)]), (fV 191 #[(pt tb0_9_4 0), (pt tb0_9_7 0)]), (fV 190 #[(pt tb0_9_8 0), (pt tb0_9_9 0), (pt tb0_9_10 0), (pt tb0_9_11 0)]), (fV 191 #[(pt tb0_9_8 0), (pt tb0_9_11 0)]), (fV 159 #[]), (fV 160 #[]), (vi x0.done_), (.bool x0.ended_)] 130) :: e0_8 :: Lf) /\ Uw F2 F3 /\ FI f [] [(0, (pt bp0 3)), (5, (pt bz3 0)), (11, (vi r32.1)), (37, (.bool j43))]) ?_ ?_
 ·refine Vs 3 ?_
  refine Sp hj49 (fun hb51 h52 => ?_) (fun hb51 h53 => ?_)
  ·refine Ss hb51 2 ?_
   refine Pk1 hb51 <| Vs 1 <| Ss (rfl : true = true) 5 <| Pk1 (rfl : true = true) ?_
   obtain rfl := Aa h52
   exact Us ⟨rfl, F2, hs37, (Ux _), fI⟩
  ·refine Vgs hb51 2 ?_
   refine Pk0 hb51 <| Vs 1 <| Sp h53 (fun hb54 h55 => ?_) (fun hb54 h56 => ?_)
   ·refine Ss hb54 5 ?_
    refine Pk1 hb54 ?_
    obtain rfl := Aa h55
    exact Us ⟨rfl, F2, hs37, (Ux _), fI⟩
   ·refine Vgs hb54 1 ?_
    refine Lg hb54 (hs37.pers _ _ ((le30.t le38) _ _ hz1)) <| Lg hb54 (hs37.pers _ _ ((le30.t le38) _ _ hz2)) ?_
    obtain ⟨r57, hr58, h59⟩ := bind_some h56
    refine Cg hb54 AC hs37 (AJ N w36 F2 hs37.pers r32.1 z1 z2 _ hr58) ?_
    rintro _ F4 w61 hs62 le63 rfl
    refine Vgs hb54 1 <| Pk0 hb54 ?_
    obtain rfl := Aa h59
    exact Us ⟨rfl, F4, hs62, le63, fI⟩
 ·rintro f w40 ⟨F3, hs41, le42, ⟨_, rfl⟩⟩
  refine Ab <| Cd h50 (fun hb65 h66 => ?_) (fun hb65 h67 => ?_)
  ·refine Sq (Rg [0] ?_)
   refine Vs 1 <| Nt <| Rt <| Aj ?_
   obtain rfl := Aa h66
   exact ReB [(.bool false)] hs41 ((le30.t le38).trans le42) ⟨a0_7, n0_7, a0_8, n0_8, e0_8, rfl, rfl, hb0_7, (Uz hs0_7 ((le30.t le38).trans le42)), (hr0_8.mono ((le30.t le38).trans le42))⟩
  ·refine Sc ?_
   refine Ab <| Sq (Rg (rG 6) ?_)
   refine Ld (hs41.pers _ _ (((le30.t le38).trans le42) _ _ hz3)) <| Vs 1 <| Cl' Kh hs41 (Mk w40 F3 hs41.pers bp0 3) ?_
   rintro _ F5 w68 hs69 le70 rfl
   refine Vs 2 <| St0 #[(.bool x0.o_.Report), (.bool x0.o_.Serial), (.bool x0.o_.Zone), (sv x0.l_.Call), (vi x0.l_.Category), (vi x0.l_.Power), (vi r32.1), (.slice a0_7 x0.l_.Jumps.length n0_7), (.slice a0_8 x0.l_.Lines.length n0_8), (fV 153 #[]), (fV 154 #[]), (fV 190 #[(pt tb0_9_0 0), (pt tb0_9_1 0), (pt tb0_9_2 0), (pt tb0_9_3 0)]), (fV 191 #[(pt tb0_9_0 0), (pt tb0_9_3 0)]), (fV 190 #[(pt tb0_9_4 0), (pt tb0_9_5 0), (pt tb0_9_6 0), (pt tb0_9_7 0)]), (fV 191 #[(pt tb0_9_4 0), (pt tb0_9_7 0)]), (fV 190 #[(pt tb0_9_8 0), (pt tb0_9_9 0), (pt tb0_9_10 0), (pt tb0_9_11 0)]), (fV 191 #[(pt tb0_9_8 0), (pt tb0_9_11 0)]), (fV 159 #[]), (fV 160 #[]), (vi x0.done_), (.bool x0.ended_)] hs69 (fun w71 hs72 => ?_)
   refine Nss (Rg [0] ?_)
   refine Vs 1 <| Nt <| Rt ?_
   obtain rfl := Aa h67
   exact ReB [(.bool true)] hs72 (((le30.t le38).trans le42).trans le70) ⟨a0_7, n0_7, a0_8, n0_8, e0_8, rfl, rfl, hb0_7, (Uz hs0_7 (((le30.t le38).trans le42).trans le70)), (hr0_8.mono (((le30.t le38).trans le42).trans le70))⟩
def AM (N : Nat) (x0 : Ah) (x1 : UQ) : Option (Ah × Bool × Bool) :=
 (bif x0.ended_ then some (x0, false, false) else (bif (decide (x0.done_ < 5)) then ((bif (decide (x0.done_ = 0)) then ((DT N x0 x1).bind fun r41 => some (r41.2, r41.1.o_.Report, r41.1.o_.Serial, r41.1.o_.Zone, r41.1.l_.Call, r41.1.l_.Category, r41.1.l_.Power, r41.1.l_.Claimed, r41.1.l_.Jumps, r41.1.l_.Lines, r41.1.done_, r41.1.ended_)) else (bif (decide (x0.done_ = 1)) then ((CO N x0 x1 ([67, 65, 84, 69, 71, 79, 82, 89] : UQ) 1 9).bind fun r51 => some (r51.2, r51.1.o_.Report, r51.1.o_.Serial, r51.1.o_.Zone, r51.1.l_.Call, r51.1.l_.Category, r51.1.l_.Power, r51.1.l_.Claimed, r51.1.l_.Jumps, r51.1.l_.Lines, r51.1.done_, r51.1.ended_)) else (bif (decide (x0.done_ = 2)) then ((CM N x0 x1 ([80, 79, 87, 69, 82] : UQ) 1 9999).bind fun r61 => some (r61.2, r61.1.o_.Report, r61.1.o_.Serial, r61.1.o_.Zone, r61.1.l_.Call, r61.1.l_.Category, r61.1.l_.Power, r61.1.l_.Claimed, r61.1.l_.Jumps, r61.1.l_.Lines, r61.1.done_, r61.1.ended_)) else (bif (decide (x0.done_ = 3)) then ((CN N x0 x1 ([67, 76, 65, 73, 77, 69, 68] : UQ) 0 1000000).bind fun r71 => some (r71.2, r71.1.o_.Report, r71.1.o_.Serial, r71.1.o_.Zone, r71.1.l_.Call, r71.1.l_.Category, r71.1.l_.Power, r71.1.l_.Claimed, r71.1.l_.Jumps, r71.1.l_.Lines, r71.1.done_, r71.1.ended_)) else (bif (decide (x0.done_ = 4)) then ((DD N x0 x1).bind fun r81 => some (r81.2, r81.1.o_.Report, r81.1.o_.Serial, r81.1.o_.Zone, r81.1.l_.Call, r81.1.l_.Category, r81.1.l_.Power, r81.1.l_.Claimed, r81.1.l_.Jumps, r81.1.l_.Lines, r81.1.done_, r81.1.ended_)) else none))))).bind fun j32 => ((bif j32.1 then some (W64 (j32.2.2.2.2.2.2.2.2.2.2.1 + 1)) else some j32.2.2.2.2.2.2.2.2.2.2.1).bind fun j91 => some (({ o_ := ({ Report := j32.2.1, Serial := j32.2.2.1, Zone := j32.2.2.2.1 } : Ac), l_ := ({ Call := j32.2.2.2.2.1, Category := j32.2.2.2.2.2.1, Power := j32.2.2.2.2.2.2.1, Claimed := j32.2.2.2.2.2.2.2.1, Jumps := j32.2.2.2.2.2.2.2.2.1, Lines := j32.2.2.2.2.2.2.2.2.2.1 } : Log), done_ := j91, ended_ := j32.2.2.2.2.2.2.2.2.2.2.2 } : Ah), j32.1, false))) else (bif (x1 == ([69, 78, 68] : UQ)) then some (({ o_ := ({ Report := x0.o_.Report, Serial := x0.o_.Serial, Zone := x0.o_.Zone } : Ac), l_ := x0.l_, done_ := x0.done_, ended_ := true } : Ah), true, false) else ((CW N ({ Report := x0.o_.Report, Serial := x0.o_.Serial, Zone := x0.o_.Zone } : Ac) x1).bind fun r106 => ((bif (decide ((x0.l_.Lines.length : Int) > 0)) then ((idx x0.l_.Lines (W64 ((x0.l_.Lines.length : Int) - 1))).bind fun x134 => (bif (decide (r106.1.Num <= x134.Num)) then some true else ((idx x0.l_.Lines (W64 ((x0.l_.Lines.length : Int) - 1))).bind fun x149 => (bif (decide (r106.1.Minute < x149.Minute)) then some true else some (r106.2 != 0))))) else some (r106.2 != 0)).bind fun j124 => (bif j124 then some (x0, false, false) else (bif ((x0.l_.Lines.length : Int) == 400) then some (x0, false, true) else (((Dr x0.l_.Lines [r106.1]).bind fun r183 => some r183).bind fun j174 => some (({ o_ := ({ Report := x0.o_.Report, Serial := x0.o_.Serial, Zone := x0.o_.Zone } : Ac), l_ := ({ Call := x0.l_.Call, Category := x0.l_.Category, Power := x0.l_.Power, Claimed := x0.l_.Claimed, Jumps := x0.l_.Jumps, Lines := j174 } : Log), done_ := x0.done_, ended_ := x0.ended_ } : Ah), true, false)))))))))
theorem Hy : Ag Tryz.prog 106 := fun _ _ => by kernel_rfl
theorem H9 (N : Nat) {wb w0 : World} {Fb F0 : Mem} {Lf : Own} (hG : Br F0) (bp0 : Nat) (x0 : Ah) (a0_7 : UR) (n0_7 : Nat) (tb0_9_0 : Nat) (tb0_9_1 : Nat) (tb0_9_2 : Nat) (tb0_9_3 : Nat) (tb0_9_4 : Nat) (tb0_9_5 : Nat) (tb0_9_6 : Nat) (tb0_9_7 : Nat) (tb0_9_8 : Nat) (tb0_9_9 : Nat) (tb0_9_10 : Nat) (tb0_9_11 : Nat) (a0_8 : UR) (n0_8 : Nat) (e0_8 : Option Nat × Obj) (hb0_7 : LC x0.l_.Jumps.length n0_7) (hs0_7 : SlA AQ F0 a0_7 x0.l_.Jumps) (htb0_9_0 : F0 tb0_9_0 = some (oc #[(sv (([67, 65, 84, 69, 71, 79, 82, 89] : UQ)))] 9)) (htb0_9_1 : F0 tb0_9_1 = some (oc #[(vi 1)] 3)) (htb0_9_2 : F0 tb0_9_2 = some (oc #[(vi 9)] 3)) (htb0_9_3 : F0 tb0_9_3 = some (oc #[(fV 156 #[])] 195)) (htb0_9_4 : F0 tb0_9_4 = some (oc #[(sv (([80, 79, 87, 69, 82] : UQ)))] 9)) (htb0_9_5 : F0 tb0_9_5 = some (oc #[(vi 1)] 3)) (htb0_9_6 : F0 tb0_9_6 = some (oc #[(vi 9999)] 3)) (htb0_9_7 : F0 tb0_9_7 = some (oc #[(fV 157 #[])] 195)) (htb0_9_8 : F0 tb0_9_8 = some (oc #[(sv (([67, 76, 65, 73, 77, 69, 68] : UQ)))] 9)) (htb0_9_9 : F0 tb0_9_9 = some (oc #[(vi 0)] 3)) (htb0_9_10 : F0 tb0_9_10 = some (oc #[(vi 1000000)] 3)) (htb0_9_11 : F0 tb0_9_11 = some (oc #[(fV 158 #[])] 195)) (hr0_8 : Ap AK 34 F0 a0_8 n0_8 x0.l_.Lines e0_8) (x1 : UQ) (hs0 : HS wb Fb w0 F0 ((sb bp0 #[(.bool x0.o_.Report), (.bool x0.o_.Serial), (.bool x0.o_.Zone), (sv x0.l_.Call), (vi x0.l_.Category), (vi x0.l_.Power), (vi x0.l_.Claimed), (.slice a0_7 x0.l_.Jumps.length n0_7), (.slice a0_8 x0.l_.Lines.length n0_8), (fV 153 #[]), (fV 154 #[]), (fV 190 #[(pt tb0_9_0 0), (pt tb0_9_1 0), (pt tb0_9_2 0), (pt tb0_9_3 0)]), (fV 191 #[(pt tb0_9_0 0), (pt tb0_9_3 0)]), (fV 190 #[(pt tb0_9_4 0), (pt tb0_9_5 0), (pt tb0_9_6 0), (pt tb0_9_7 0)]), (fV 191 #[(pt tb0_9_4 0), (pt tb0_9_7 0)]), (fV 190 #[(pt tb0_9_8 0), (pt tb0_9_9 0), (pt tb0_9_10 0), (pt tb0_9_11 0)]), (fV 191 #[(pt tb0_9_8 0), (pt tb0_9_11 0)]), (fV 159 #[]), (fV 160 #[]), (vi x0.done_), (.bool x0.ended_)] 130) :: e0_8 :: Lf)) (r : (Ah × Bool × Bool)) (h : AM N x0 x1 = some r) :
  Calls Tryz.prog 106 ([(pt bp0 0), (sv x1)] : List Value).toArray w0 (Ed wb Fb F0 fun F' v L' => ∃ (aq0_7 : UR) (nq0_7 : Nat) (aq0_8 : UR) (nq0_8 : Nat) (eq0_8 : Option Nat × Obj), v = (.tuple #[(.bool r.2.1), (.bool r.2.2)]) /\ L' = (sb bp0 #[(.bool r.1.o_.Report), (.bool r.1.o_.Serial), (.bool r.1.o_.Zone), (sv r.1.l_.Call), (vi r.1.l_.Category), (vi r.1.l_.Power), (vi r.1.l_.Claimed), (.slice aq0_7 r.1.l_.Jumps.length nq0_7), (.slice aq0_8 r.1.l_.Lines.length nq0_8), (fV 153 #[]), (fV 154 #[]), (fV 190 #[(pt tb0_9_0 0), (pt tb0_9_1 0), (pt tb0_9_2 0), (pt tb0_9_3 0)]), (fV 191 #[(pt tb0_9_0 0), (pt tb0_9_3 0)]), (fV 190 #[(pt tb0_9_4 0), (pt tb0_9_5 0), (pt tb0_9_6 0), (pt tb0_9_7 0)]), (fV 191 #[(pt tb0_9_4 0), (pt tb0_9_7 0)]), (fV 190 #[(pt tb0_9_8 0), (pt tb0_9_9 0), (pt tb0_9_10 0), (pt tb0_9_11 0)]), (fV 191 #[(pt tb0_9_8 0), (pt tb0_9_11 0)]), (fV 159 #[]), (fV 160 #[]), (vi r.1.done_), (.bool r.1.ended_)] 130) :: eq0_8 :: Lf /\ LC r.1.l_.Jumps.length nq0_7 /\ SlA AQ F' aq0_7 r.1.l_.Jumps /\ Ap AK 34 F' aq0_8 nq0_8 r.1.l_.Lines eq0_8) := by
 refine Go 120 Tryz.func106 <| Sq (Rg [0, 1] ?_)
 refine Vs 2 <| Nss <| Bk <| Sq (Rg (rG 5) ?_)
 refine Vs 3 <| Ld hs0.at0 <| Vs 1 <| Nt <| Cd h (fun hb21 h22 => ?_) (fun hb21 h23 => ?_)
 ·refine Sq (Rg [0, 1] ?_)
  refine Vs 2 <| Nt <| Rt <| Az <| Aj ?_
  obtain rfl := Aa h22
  exact ReB [(.bool false), (.bool false)] hs0 (Ux _) ⟨a0_7, n0_7, a0_8, n0_8, e0_8, rfl, rfl, hb0_7, hs0_7, hr0_8⟩
 ·refine Sq (Rg (rG 6) ?_)
  refine Vs 3 <| Ld hs0.at0 <| Vs 2 <| Nt <| Cd h23 (fun hb24 h25 => ?_) (fun hb24 h26 => ?_)
  ·refine Sq ?_
   refine Sq ?_
   obtain ⟨j32, hj36, h37⟩ := bind_some h25
   refine RD 16 16 [] [] hs0 (fun f w => ∃ (F1 : Mem) (aj32_8 : UR) (nj32_8 : Nat) (aj32_9 : UR) (nj32_9 : Nat) (ej32_9 : Option Nat × Obj), HS wb Fb w F1 ((sb bp0 #[(.bool j32.2.1), (.bool j32.2.2.1), (.bool j32.2.2.2.1), (sv j32.2.2.2.2.1), (vi j32.2.2.2.2.2.1), (vi j32.2.2.2.2.2.2.1), (vi j32.2.2.2.2.2.2.2.1), (.slice aj32_8 j32.2.2.2.2.2.2.2.2.1.length nj32_8), (.slice aj32_9 j32.2.2.2.2.2.2.2.2.2.1.length nj32_9), (fV 153 #[]), (fV 154 #[]), (fV 190 #[(pt tb0_9_0 0), (pt tb0_9_1 0), (pt tb0_9_2 0), (pt tb0_9_3 0)]), (fV 191 #[(pt tb0_9_0 0), (pt tb0_9_3 0)]), (fV 190 #[(pt tb0_9_4 0), (pt tb0_9_5 0), (pt tb0_9_6 0), (pt tb0_9_7 0)]), (fV 191 #[(pt tb0_9_4 0), (pt tb0_9_7 0)]), (fV 190 #[(pt tb0_9_8 0), (pt tb0_9_9 0), (pt tb0_9_10 0), (pt tb0_9_11 0)]), (fV 191 #[(pt tb0_9_8 0), (pt tb0_9_11 0)]), (fV 159 #[]), (fV 160 #[]), (vi j32.2.2.2.2.2.2.2.2.2.2.1), (.bool j32.2.2.2.2.2.2.2.2.2.2.2)] 130) :: ej32_9 :: Lf) /\ Uw F0 F1 /\ FI f [] [(0, (pt bp0 0)), (4, (.bool j32.1))] /\ LC j32.2.2.2.2.2.2.2.2.1.length nj32_8 /\ SlA AQ F1 aj32_8 j32.2.2.2.2.2.2.2.2.1 /\ Ap AK 34 F1 aj32_9 nj32_9 j32.2.2.2.2.2.2.2.2.2.1 ej32_9) (fun wd27 hw28 => ?_) ?_
   ·refine Dv [0, 1, 2, 3, 5, 6, 10, 11, 12, 13] ?_
    refine D1 4 <| UG (l' := [true, true, true, true, true, true, true, false, false, false, true, true, true, true, false, false]) (zd := true) (by kernel_rfl) (by kernel_rfl) (dst := (some 24)) (ty := 3) (g := none) (by kernel_rfl) rfl (Bz (t := 3) (x := (.tmp 23)) (b := bp0) (o := 19) (g := false) (s := 1) (C := #[(.bool x0.o_.Report), (.bool x0.o_.Serial), (.bool x0.o_.Zone), (sv x0.l_.Call), (vi x0.l_.Category), (vi x0.l_.Power), (vi x0.l_.Claimed), (.slice a0_7 x0.l_.Jumps.length n0_7), (.slice a0_8 x0.l_.Lines.length n0_8), (fV 153 #[]), (fV 154 #[]), (fV 190 #[(pt tb0_9_0 0), (pt tb0_9_1 0), (pt tb0_9_2 0), (pt tb0_9_3 0)]), (fV 191 #[(pt tb0_9_0 0), (pt tb0_9_3 0)]), (fV 190 #[(pt tb0_9_4 0), (pt tb0_9_5 0), (pt tb0_9_6 0), (pt tb0_9_7 0)]), (fV 191 #[(pt tb0_9_4 0), (pt tb0_9_7 0)]), (fV 190 #[(pt tb0_9_8 0), (pt tb0_9_9 0), (pt tb0_9_10 0), (pt tb0_9_11 0)]), (fV 191 #[(pt tb0_9_8 0), (pt tb0_9_11 0)]), (fV 159 #[]), (fV 160 #[]), (vi x0.done_), (.bool x0.ended_)]) (v := (vi x0.done_)) rfl (by kernel_rfl) hw28.at0 rfl rfl rfl) (Ba hw28 (Ux _) (by simp) (fun e => by cases e)) <| Sd hj36 (fun hb38 h39 => ?_) (fun hb38 h40 => ?_)
    ·refine Dt 7 27 0 (pt bp0 9) (fun _ hq => I7 (t := 110) (E := 109) (len := 5) (s := 2) (g := true) (x := (.tmp 26)) (y := (.tmp 24)) (k := .i64) (b := bp0) (o0 := 9) (o1 := 9) (i := x0.done_) (n := 0) rfl rfl (by kernel_rfl) (by kernel_rfl) hb38 (by decide) rfl) ?_
     refine Dv [8] <| D1 9 <| UG (l' := [true, true, true, true, true, true, true, true, true, true, true, true, true, true, false, false]) (zd := true) (by kernel_rfl) (by kernel_rfl) (dst := (some 29)) (ty := 106) (g := none) (by kernel_rfl) rfl (Bz (t := 106) (x := (.tmp 28)) (b := bp0) (o := 9) (g := false) (s := 1) (C := #[(.bool x0.o_.Report), (.bool x0.o_.Serial), (.bool x0.o_.Zone), (sv x0.l_.Call), (vi x0.l_.Category), (vi x0.l_.Power), (vi x0.l_.Claimed), (.slice a0_7 x0.l_.Jumps.length n0_7), (.slice a0_8 x0.l_.Lines.length n0_8), (fV 153 #[]), (fV 154 #[]), (fV 190 #[(pt tb0_9_0 0), (pt tb0_9_1 0), (pt tb0_9_2 0), (pt tb0_9_3 0)]), (fV 191 #[(pt tb0_9_0 0), (pt tb0_9_3 0)]), (fV 190 #[(pt tb0_9_4 0), (pt tb0_9_5 0), (pt tb0_9_6 0), (pt tb0_9_7 0)]), (fV 191 #[(pt tb0_9_4 0), (pt tb0_9_7 0)]), (fV 190 #[(pt tb0_9_8 0), (pt tb0_9_9 0), (pt tb0_9_10 0), (pt tb0_9_11 0)]), (fV 191 #[(pt tb0_9_8 0), (pt tb0_9_11 0)]), (fV 159 #[]), (fV 160 #[]), (vi x0.done_), (.bool x0.ended_)]) (v := (fV 153 #[])) rfl (by kernel_rfl) hw28.at0 rfl rfl rfl) (Ba hw28 (Ux _) (by simp) (fun e => by cases e)) <| D1 14 ?_
     obtain ⟨r41, hr42, h43⟩ := bind_some h39
     refine DCB Js (Kr N hG bp0 x0 a0_7 n0_7 tb0_9_0 tb0_9_1 tb0_9_2 tb0_9_3 tb0_9_4 tb0_9_5 tb0_9_6 tb0_9_7 tb0_9_8 tb0_9_9 tb0_9_10 tb0_9_11 a0_8 n0_8 e0_8 hb0_7 hs0_7 htb0_9_0 htb0_9_1 htb0_9_2 htb0_9_3 htb0_9_4 htb0_9_5 htb0_9_6 htb0_9_7 htb0_9_8 htb0_9_9 htb0_9_10 htb0_9_11 hr0_8 x1 hw28 _ hr42) ?_
     rintro _ F2 w44 _ hs45 le46 ⟨ar41_0_7, nr41_0_7, ar41_0_8, nr41_0_8, er41_0_8, rfl, rfl, hbr41_0_7, hsr41_0_7, hrr41_0_8⟩
     refine ⟨Ba hs45 le46 (by simp) (zdT (by kernel_rfl)), ?_⟩
     refine Dv [15] ?_
     obtain rfl := Aa h43
     exact UJ (by kernel_rfl) ⟨F2, ar41_0_7, nr41_0_7, ar41_0_8, nr41_0_8, er41_0_8, hs45, le46, fI, hbr41_0_7, hsr41_0_7, hrr41_0_8⟩
    ·refine Sd h40 (fun hb48 h49 => ?_) (fun hb48 h50 => ?_)
     ·refine Dt 7 27 0 (pt bp0 11) (fun _ hq => I7 (t := 110) (E := 109) (len := 5) (s := 2) (g := true) (x := (.tmp 26)) (y := (.tmp 24)) (k := .i64) (b := bp0) (o0 := 9) (o1 := 11) (i := x0.done_) (n := 1) rfl rfl (by kernel_rfl) (by kernel_rfl) hb48 (by decide) rfl) ?_
      refine Dv [8] <| D1 9 <| UG (l' := [true, true, true, true, true, true, true, true, true, true, true, true, true, true, false, false]) (zd := true) (by kernel_rfl) (by kernel_rfl) (dst := (some 29)) (ty := 106) (g := none) (by kernel_rfl) rfl (Bz (t := 106) (x := (.tmp 28)) (b := bp0) (o := 11) (g := false) (s := 1) (C := #[(.bool x0.o_.Report), (.bool x0.o_.Serial), (.bool x0.o_.Zone), (sv x0.l_.Call), (vi x0.l_.Category), (vi x0.l_.Power), (vi x0.l_.Claimed), (.slice a0_7 x0.l_.Jumps.length n0_7), (.slice a0_8 x0.l_.Lines.length n0_8), (fV 153 #[]), (fV 154 #[]), (fV 190 #[(pt tb0_9_0 0), (pt tb0_9_1 0), (pt tb0_9_2 0), (pt tb0_9_3 0)]), (fV 191 #[(pt tb0_9_0 0), (pt tb0_9_3 0)]), (fV 190 #[(pt tb0_9_4 0), (pt tb0_9_5 0), (pt tb0_9_6 0), (pt tb0_9_7 0)]), (fV 191 #[(pt tb0_9_4 0), (pt tb0_9_7 0)]), (fV 190 #[(pt tb0_9_8 0), (pt tb0_9_9 0), (pt tb0_9_10 0), (pt tb0_9_11 0)]), (fV 191 #[(pt tb0_9_8 0), (pt tb0_9_11 0)]), (fV 159 #[]), (fV 160 #[]), (vi x0.done_), (.bool x0.ended_)]) (v := (fV 190 #[(pt tb0_9_0 0), (pt tb0_9_1 0), (pt tb0_9_2 0), (pt tb0_9_3 0)])) rfl (by kernel_rfl) hw28.at0 rfl rfl rfl) (Ba hw28 (Ux _) (by simp) (fun e => by cases e)) <| D1 14 ?_
      obtain ⟨r51, hr52, h53⟩ := bind_some h49
      refine DCB HB (Ic N hG bp0 x0 a0_7 n0_7 tb0_9_0 tb0_9_1 tb0_9_2 tb0_9_3 tb0_9_4 tb0_9_5 tb0_9_6 tb0_9_7 tb0_9_8 tb0_9_9 tb0_9_10 tb0_9_11 a0_8 n0_8 e0_8 hb0_7 hs0_7 htb0_9_0 htb0_9_1 htb0_9_2 htb0_9_3 htb0_9_4 htb0_9_5 htb0_9_6 htb0_9_7 htb0_9_8 htb0_9_9 htb0_9_10 htb0_9_11 hr0_8 x1 tb0_9_0 ([67, 65, 84, 69, 71, 79, 82, 89] : UQ) htb0_9_0 tb0_9_1 1 htb0_9_1 tb0_9_2 9 htb0_9_2 tb0_9_3 htb0_9_3 hw28 _ hr52) ?_
      rintro _ F3 w54 _ hs55 le56 ⟨ar51_0_7, nr51_0_7, ar51_0_8, nr51_0_8, er51_0_8, rfl, rfl, hbr51_0_7, hsr51_0_7, hrr51_0_8⟩
      refine ⟨Ba hs55 le56 (by simp) (zdT (by kernel_rfl)), ?_⟩
      refine Dv [15] ?_
      obtain rfl := Aa h53
      exact UJ (by kernel_rfl) ⟨F3, ar51_0_7, nr51_0_7, ar51_0_8, nr51_0_8, er51_0_8, hs55, le56, fI, hbr51_0_7, hsr51_0_7, hrr51_0_8⟩
     ·refine Sd h50 (fun hb58 h59 => ?_) (fun hb58 h60 => ?_)
      ·refine Dt 7 27 0 (pt bp0 13) (fun _ hq => I7 (t := 110) (E := 109) (len := 5) (s := 2) (g := true) (x := (.tmp 26)) (y := (.tmp 24)) (k := .i64) (b := bp0) (o0 := 9) (o1 := 13) (i := x0.done_) (n := 2) rfl rfl (by kernel_rfl) (by kernel_rfl) hb58 (by decide) rfl) ?_
       refine Dv [8] <| D1 9 <| UG (l' := [true, true, true, true, true, true, true, true, true, true, true, true, true, true, false, false]) (zd := true) (by kernel_rfl) (by kernel_rfl) (dst := (some 29)) (ty := 106) (g := none) (by kernel_rfl) rfl (Bz (t := 106) (x := (.tmp 28)) (b := bp0) (o := 13) (g := false) (s := 1) (C := #[(.bool x0.o_.Report), (.bool x0.o_.Serial), (.bool x0.o_.Zone), (sv x0.l_.Call), (vi x0.l_.Category), (vi x0.l_.Power), (vi x0.l_.Claimed), (.slice a0_7 x0.l_.Jumps.length n0_7), (.slice a0_8 x0.l_.Lines.length n0_8), (fV 153 #[]), (fV 154 #[]), (fV 190 #[(pt tb0_9_0 0), (pt tb0_9_1 0), (pt tb0_9_2 0), (pt tb0_9_3 0)]), (fV 191 #[(pt tb0_9_0 0), (pt tb0_9_3 0)]), (fV 190 #[(pt tb0_9_4 0), (pt tb0_9_5 0), (pt tb0_9_6 0), (pt tb0_9_7 0)]), (fV 191 #[(pt tb0_9_4 0), (pt tb0_9_7 0)]), (fV 190 #[(pt tb0_9_8 0), (pt tb0_9_9 0), (pt tb0_9_10 0), (pt tb0_9_11 0)]), (fV 191 #[(pt tb0_9_8 0), (pt tb0_9_11 0)]), (fV 159 #[]), (fV 160 #[]), (vi x0.done_), (.bool x0.ended_)]) (v := (fV 190 #[(pt tb0_9_4 0), (pt tb0_9_5 0), (pt tb0_9_6 0), (pt tb0_9_7 0)])) rfl (by kernel_rfl) hw28.at0 rfl rfl rfl) (Ba hw28 (Ux _) (by simp) (fun e => by cases e)) <| D1 14 ?_
       obtain ⟨r61, hr62, h63⟩ := bind_some h59
       refine DCB Hz (Ia N hG bp0 x0 a0_7 n0_7 tb0_9_0 tb0_9_1 tb0_9_2 tb0_9_3 tb0_9_4 tb0_9_5 tb0_9_6 tb0_9_7 tb0_9_8 tb0_9_9 tb0_9_10 tb0_9_11 a0_8 n0_8 e0_8 hb0_7 hs0_7 htb0_9_0 htb0_9_1 htb0_9_2 htb0_9_3 htb0_9_4 htb0_9_5 htb0_9_6 htb0_9_7 htb0_9_8 htb0_9_9 htb0_9_10 htb0_9_11 hr0_8 x1 tb0_9_4 ([80, 79, 87, 69, 82] : UQ) htb0_9_4 tb0_9_5 1 htb0_9_5 tb0_9_6 9999 htb0_9_6 tb0_9_7 htb0_9_7 hw28 _ hr62) ?_
       rintro _ F4 w64 _ hs65 le66 ⟨ar61_0_7, nr61_0_7, ar61_0_8, nr61_0_8, er61_0_8, rfl, rfl, hbr61_0_7, hsr61_0_7, hrr61_0_8⟩
       refine ⟨Ba hs65 le66 (by simp) (zdT (by kernel_rfl)), ?_⟩
       refine Dv [15] ?_
       obtain rfl := Aa h63
       exact UJ (by kernel_rfl) ⟨F4, ar61_0_7, nr61_0_7, ar61_0_8, nr61_0_8, er61_0_8, hs65, le66, fI, hbr61_0_7, hsr61_0_7, hrr61_0_8⟩
      ·refine Sd h60 (fun hb68 h69 => ?_) (fun hb68 h70 => ?_)
       ·refine Dt 7 27 0 (pt bp0 15) (fun _ hq => I7 (t := 110) (E := 109) (len := 5) (s := 2) (g := true) (x := (.tmp 26)) (y := (.tmp 24)) (k := .i64) (b := bp0) (o0 := 9) (o1 := 15) (i := x0.done_) (n := 3) rfl rfl (by kernel_rfl) (by kernel_rfl) hb68 (by decide) rfl) ?_
        refine Dv [8] <| D1 9 <| UG (l' := [true, true, true, true, true, true, true, true, true, true, true, true, true, true, false, false]) (zd := true) (by kernel_rfl) (by kernel_rfl) (dst := (some 29)) (ty := 106) (g := none) (by kernel_rfl) rfl (Bz (t := 106) (x := (.tmp 28)) (b := bp0) (o := 15) (g := false) (s := 1) (C := #[(.bool x0.o_.Report), (.bool x0.o_.Serial), (.bool x0.o_.Zone), (sv x0.l_.Call), (vi x0.l_.Category), (vi x0.l_.Power), (vi x0.l_.Claimed), (.slice a0_7 x0.l_.Jumps.length n0_7), (.slice a0_8 x0.l_.Lines.length n0_8), (fV 153 #[]), (fV 154 #[]), (fV 190 #[(pt tb0_9_0 0), (pt tb0_9_1 0), (pt tb0_9_2 0), (pt tb0_9_3 0)]), (fV 191 #[(pt tb0_9_0 0), (pt tb0_9_3 0)]), (fV 190 #[(pt tb0_9_4 0), (pt tb0_9_5 0), (pt tb0_9_6 0), (pt tb0_9_7 0)]), (fV 191 #[(pt tb0_9_4 0), (pt tb0_9_7 0)]), (fV 190 #[(pt tb0_9_8 0), (pt tb0_9_9 0), (pt tb0_9_10 0), (pt tb0_9_11 0)]), (fV 191 #[(pt tb0_9_8 0), (pt tb0_9_11 0)]), (fV 159 #[]), (fV 160 #[]), (vi x0.done_), (.bool x0.ended_)]) (v := (fV 190 #[(pt tb0_9_8 0), (pt tb0_9_9 0), (pt tb0_9_10 0), (pt tb0_9_11 0)])) rfl (by kernel_rfl) hw28.at0 rfl rfl rfl) (Ba hw28 (Ux _) (by simp) (fun e => by cases e)) <| D1 14 ?_
        obtain ⟨r71, hr72, h73⟩ := bind_some h69
        refine DCB HA (Ib N hG bp0 x0 a0_7 n0_7 tb0_9_0 tb0_9_1 tb0_9_2 tb0_9_3 tb0_9_4 tb0_9_5 tb0_9_6 tb0_9_7 tb0_9_8 tb0_9_9 tb0_9_10 tb0_9_11 a0_8 n0_8 e0_8 hb0_7 hs0_7 htb0_9_0 htb0_9_1 htb0_9_2 htb0_9_3 htb0_9_4 htb0_9_5 htb0_9_6 htb0_9_7 htb0_9_8 htb0_9_9 htb0_9_10 htb0_9_11 hr0_8 x1 tb0_9_8 ([67, 76, 65, 73, 77, 69, 68] : UQ) htb0_9_8 tb0_9_9 0 htb0_9_9 tb0_9_10 1000000 htb0_9_10 tb0_9_11 htb0_9_11 hw28 _ hr72) ?_
        rintro _ F5 w74 _ hs75 le76 ⟨ar71_0_7, nr71_0_7, ar71_0_8, nr71_0_8, er71_0_8, rfl, rfl, hbr71_0_7, hsr71_0_7, hrr71_0_8⟩
        refine ⟨Ba hs75 le76 (by simp) (zdT (by kernel_rfl)), ?_⟩
        refine Dv [15] ?_
        obtain rfl := Aa h73
        exact UJ (by kernel_rfl) ⟨F5, ar71_0_7, nr71_0_7, ar71_0_8, nr71_0_8, er71_0_8, hs75, le76, fI, hbr71_0_7, hsr71_0_7, hrr71_0_8⟩
       ·refine Sd h70 (fun hb78 h79 => ?_) (fun hb78 h80 => ?_)
        ·refine Dt 7 27 0 (pt bp0 17) (fun _ hq => I7 (t := 110) (E := 109) (len := 5) (s := 2) (g := true) (x := (.tmp 26)) (y := (.tmp 24)) (k := .i64) (b := bp0) (o0 := 9) (o1 := 17) (i := x0.done_) (n := 4) rfl rfl (by kernel_rfl) (by kernel_rfl) hb78 (by decide) rfl) ?_
         refine Dv [8] <| D1 9 <| UG (l' := [true, true, true, true, true, true, true, true, true, true, true, true, true, true, false, false]) (zd := true) (by kernel_rfl) (by kernel_rfl) (dst := (some 29)) (ty := 106) (g := none) (by kernel_rfl) rfl (Bz (t := 106) (x := (.tmp 28)) (b := bp0) (o := 17) (g := false) (s := 1) (C := #[(.bool x0.o_.Report), (.bool x0.o_.Serial), (.bool x0.o_.Zone), (sv x0.l_.Call), (vi x0.l_.Category), (vi x0.l_.Power), (vi x0.l_.Claimed), (.slice a0_7 x0.l_.Jumps.length n0_7), (.slice a0_8 x0.l_.Lines.length n0_8), (fV 153 #[]), (fV 154 #[]), (fV 190 #[(pt tb0_9_0 0), (pt tb0_9_1 0), (pt tb0_9_2 0), (pt tb0_9_3 0)]), (fV 191 #[(pt tb0_9_0 0), (pt tb0_9_3 0)]), (fV 190 #[(pt tb0_9_4 0), (pt tb0_9_5 0), (pt tb0_9_6 0), (pt tb0_9_7 0)]), (fV 191 #[(pt tb0_9_4 0), (pt tb0_9_7 0)]), (fV 190 #[(pt tb0_9_8 0), (pt tb0_9_9 0), (pt tb0_9_10 0), (pt tb0_9_11 0)]), (fV 191 #[(pt tb0_9_8 0), (pt tb0_9_11 0)]), (fV 159 #[]), (fV 160 #[]), (vi x0.done_), (.bool x0.ended_)]) (v := (fV 159 #[])) rfl (by kernel_rfl) hw28.at0 rfl rfl rfl) (Ba hw28 (Ux _) (by simp) (fun e => by cases e)) <| D1 14 ?_
         obtain ⟨r81, hr82, h83⟩ := bind_some h79
         refine DCB IK (JC N hG bp0 x0 a0_7 n0_7 tb0_9_0 tb0_9_1 tb0_9_2 tb0_9_3 tb0_9_4 tb0_9_5 tb0_9_6 tb0_9_7 tb0_9_8 tb0_9_9 tb0_9_10 tb0_9_11 a0_8 n0_8 e0_8 hb0_7 hs0_7 htb0_9_0 htb0_9_1 htb0_9_2 htb0_9_3 htb0_9_4 htb0_9_5 htb0_9_6 htb0_9_7 htb0_9_8 htb0_9_9 htb0_9_10 htb0_9_11 hr0_8 x1 hw28 _ hr82) ?_
         rintro _ F6 w84 _ hs85 le86 ⟨ar81_0_7, nr81_0_7, ar81_0_8, nr81_0_8, er81_0_8, rfl, rfl, hbr81_0_7, hsr81_0_7, hrr81_0_8⟩
         refine ⟨Ba hs85 le86 (by simp) (zdT (by kernel_rfl)), ?_⟩
         refine Dv [15] ?_
         obtain rfl := Aa h83
         exact UJ (by kernel_rfl) ⟨F6, ar81_0_7, nr81_0_7, ar81_0_8, nr81_0_8, er81_0_8, hs85, le86, fI, hbr81_0_7, hsr81_0_7, hrr81_0_8⟩
        ·cases h80
   ·rintro f w29 ⟨F1, aj32_8, nj32_8, aj32_9, nj32_9, ej32_9, hs30, le31, ⟨_, rfl⟩, hbj32_8, hsj32_8, hrj32_9⟩
    refine Ab <| Sq (Rg [0] ?_)
    refine Vs 1 <| Nt ?_
    obtain ⟨j91, hj94, h95⟩ := bind_some h37
    refine UD (fun f w => ∃ (F7 : Mem), HS wb Fb w F7 ((sb bp0 #[(.bool j32.2.1), (.bool j32.2.2.1), (.bool j32.2.2.2.1), (sv j32.2.2.2.2.1), (vi j32.2.2.2.2.2.1), (vi j32.2.2.2.2.2.2.1), (vi j32.2.2.2.2.2.2.2.1), (.slice aj32_8 j32.2.2.2.2.2.2.2.2.1.length nj32_8), (.slice aj32_9 j32.2.2.2.2.2.2.2.2.2.1.length nj32_9), (fV 153 #[]), (fV 154 #[]), (fV 190 #[(pt tb0_9_0 0), (pt tb0_9_1 0), (pt tb0_9_2 0), (pt tb0_9_3 0)]), (fV 191 #[(pt tb0_9_0 0), (pt tb0_9_3 0)]), (fV 190 #[(pt tb0_9_4 0), (pt tb0_9_5 0), (pt tb0_9_6 0), (pt tb0_9_7 0)]), (fV 191 #[(pt tb0_9_4 0), (pt tb0_9_7 0)]), (fV 190 #[(pt tb0_9_8 0), (pt tb0_9_9 0), (pt tb0_9_10 0), (pt tb0_9_11 0)]), (fV 191 #[(pt tb0_9_8 0), (pt tb0_9_11 0)]), (fV 159 #[]), (fV 160 #[]), (vi j91), (.bool j32.2.2.2.2.2.2.2.2.2.2.2)] 130) :: ej32_9 :: Lf) /\ Uw F1 F7 /\ FI f [] [(4, (.bool j32.1))]) ?_ ?_
    ·refine Cd hj94 (fun hb96 h97 => ?_) (fun hb96 h98 => ?_)
     ·refine Rg (rG 8) ?_
      refine Vs 3 <| Ld hs30.at0 <| Vs 3 <| St0 #[(.bool j32.2.1), (.bool j32.2.2.1), (.bool j32.2.2.2.1), (sv j32.2.2.2.2.1), (vi j32.2.2.2.2.2.1), (vi j32.2.2.2.2.2.2.1), (vi j32.2.2.2.2.2.2.2.1), (.slice aj32_8 j32.2.2.2.2.2.2.2.2.1.length nj32_8), (.slice aj32_9 j32.2.2.2.2.2.2.2.2.2.1.length nj32_9), (fV 153 #[]), (fV 154 #[]), (fV 190 #[(pt tb0_9_0 0), (pt tb0_9_1 0), (pt tb0_9_2 0), (pt tb0_9_3 0)]), (fV 191 #[(pt tb0_9_0 0), (pt tb0_9_3 0)]), (fV 190 #[(pt tb0_9_4 0), (pt tb0_9_5 0), (pt tb0_9_6 0), (pt tb0_9_7 0)]), (fV 191 #[(pt tb0_9_4 0), (pt tb0_9_7 0)]), (fV 190 #[(pt tb0_9_8 0), (pt tb0_9_9 0), (pt tb0_9_10 0), (pt tb0_9_11 0)]), (fV 191 #[(pt tb0_9_8 0), (pt tb0_9_11 0)]), (fV 159 #[]), (fV 160 #[]), (vi (W64 (j32.2.2.2.2.2.2.2.2.2.2.1 + 1))), (.bool j32.2.2.2.2.2.2.2.2.2.2.2)] hs30 (fun w99 hs100 => ?_)
      refine Us ?_
      obtain rfl := Aa h97
      exact .inl ⟨rfl, F1, hs100, (Ux _), fI⟩
     ·refine Sc ?_
      obtain rfl := Aa h98
      exact .inl ⟨rfl, F1, hs30, (Ux _), fI⟩
    ·rintro f w88 ⟨F7, hs89, le90, ⟨_, rfl⟩⟩
     refine Ab <| Sq (Rg [0, 1, 2] ?_)
     refine Vs 3 <| Nt <| Rt <| Az <| Aj ?_
     obtain rfl := Aa h95
     exact ReB [(.bool j32.1), (.bool false)] hs89 (le31.t le90) ⟨aj32_8, nj32_8, aj32_9, nj32_9, ej32_9, rfl, rfl, hbj32_8, (Uz hsj32_8 le90), (hrj32_9.mono le90)⟩
  ·refine Sq (Rg [0, 1, 2] ?_)
   refine Vs 3 <| Nt <| Cd h26 (fun hb101 h102 => ?_) (fun hb101 h103 => ?_)
   ·refine Sq (Rg (rG 4) ?_)
    refine Vs 3 <| St0 #[(.bool x0.o_.Report), (.bool x0.o_.Serial), (.bool x0.o_.Zone), (sv x0.l_.Call), (vi x0.l_.Category), (vi x0.l_.Power), (vi x0.l_.Claimed), (.slice a0_7 x0.l_.Jumps.length n0_7), (.slice a0_8 x0.l_.Lines.length n0_8), (fV 153 #[]), (fV 154 #[]), (fV 190 #[(pt tb0_9_0 0), (pt tb0_9_1 0), (pt tb0_9_2 0), (pt tb0_9_3 0)]), (fV 191 #[(pt tb0_9_0 0), (pt tb0_9_3 0)]), (fV 190 #[(pt tb0_9_4 0), (pt tb0_9_5 0), (pt tb0_9_6 0), (pt tb0_9_7 0)]), (fV 191 #[(pt tb0_9_4 0), (pt tb0_9_7 0)]), (fV 190 #[(pt tb0_9_8 0), (pt tb0_9_9 0), (pt tb0_9_10 0), (pt tb0_9_11 0)]), (fV 191 #[(pt tb0_9_8 0), (pt tb0_9_11 0)]), (fV 159 #[]), (fV 160 #[]), (vi x0.done_), (.bool true)] hs0 (fun w104 hs105 => ?_)
    refine Nss (Rg [0, 1] ?_)
    refine Vs 2 <| Nt <| Rt <| Az <| Aj ?_
    obtain rfl := Aa h102
    exact ReB [(.bool true), (.bool false)] hs105 (Ux _) ⟨a0_7, n0_7, a0_8, n0_8, e0_8, rfl, rfl, hb0_7, hs0_7, hr0_8⟩
   ·refine Sc ?_
    refine Av <| Ab <| Sq (Rg (rG 12) ?_)
    refine Vs 3 <| Ld hs0.at0 <| Vs 1 ?_
    obtain ⟨r106, hr107, h108⟩ := bind_some h103
    refine Cl' Fu hs0 (Gh N w0 F0 hs0.pers hG (({ Report := x0.o_.Report, Serial := x0.o_.Serial, Zone := x0.o_.Zone } : Ac)) x1 _ hr107) ?_
    rintro _ F8 w110 hs111 le112 rfl
    refine Vs 3 <| Al' 34 #[(vi 0), (vi 0), (vi 0), (vi 0), (sv (([] : UQ))), (vi 0), (vi 0), (vi 0), (vi 0), (vi 0), (vi 0)] hs111 (fun b114 w115 hs116 => ?_)
    refine St0 (B6 r106.1) hs116 (fun w117 hs118 => ?_)
    refine Vs 1 <| Nss <| Sq (Rg (rG 7) ?_)
    refine Vs 4 <| Ld hs118.at1 <| Vs 2 <| Nss ?_
    obtain ⟨j124, hj129, h130⟩ := bind_some h108
    refine RD 36 36 [(sb b114 (B6 r106.1) 34), (sb bp0 #[(.bool x0.o_.Report), (.bool x0.o_.Serial), (.bool x0.o_.Zone), (sv x0.l_.Call), (vi x0.l_.Category), (vi x0.l_.Power), (vi x0.l_.Claimed), (.slice a0_7 x0.l_.Jumps.length n0_7), (.slice a0_8 x0.l_.Lines.length n0_8), (fV 153 #[]), (fV 154 #[]), (fV 190 #[(pt tb0_9_0 0), (pt tb0_9_1 0), (pt tb0_9_2 0), (pt tb0_9_3 0)]), (fV 191 #[(pt tb0_9_0 0), (pt tb0_9_3 0)]), (fV 190 #[(pt tb0_9_4 0), (pt tb0_9_5 0), (pt tb0_9_6 0), (pt tb0_9_7 0)]), (fV 191 #[(pt tb0_9_4 0), (pt tb0_9_7 0)]), (fV 190 #[(pt tb0_9_8 0), (pt tb0_9_9 0), (pt tb0_9_10 0), (pt tb0_9_11 0)]), (fV 191 #[(pt tb0_9_8 0), (pt tb0_9_11 0)]), (fV 159 #[]), (fV 160 #[]), (vi x0.done_), (.bool x0.ended_)] 130), e0_8] [] hs118 (fun f w => ∃ (F9 : Mem), HS wb Fb w F9 ((sb b114 (B6 r106.1) 34) :: (sb bp0 #[(.bool x0.o_.Report), (.bool x0.o_.Serial), (.bool x0.o_.Zone), (sv x0.l_.Call), (vi x0.l_.Category), (vi x0.l_.Power), (vi x0.l_.Claimed), (.slice a0_7 x0.l_.Jumps.length n0_7), (.slice a0_8 x0.l_.Lines.length n0_8), (fV 153 #[]), (fV 154 #[]), (fV 190 #[(pt tb0_9_0 0), (pt tb0_9_1 0), (pt tb0_9_2 0), (pt tb0_9_3 0)]), (fV 191 #[(pt tb0_9_0 0), (pt tb0_9_3 0)]), (fV 190 #[(pt tb0_9_4 0), (pt tb0_9_5 0), (pt tb0_9_6 0), (pt tb0_9_7 0)]), (fV 191 #[(pt tb0_9_4 0), (pt tb0_9_7 0)]), (fV 190 #[(pt tb0_9_8 0), (pt tb0_9_9 0), (pt tb0_9_10 0), (pt tb0_9_11 0)]), (fV 191 #[(pt tb0_9_8 0), (pt tb0_9_11 0)]), (fV 159 #[]), (fV 160 #[]), (vi x0.done_), (.bool x0.ended_)] 130) :: e0_8 :: Lf) /\ Uw F8 F9 /\ FI f [] [(0, (pt bp0 0)), (6, (pt b114 0)), (100, (.bool j124))]) (fun wd119 hw120 => ?_) ?_
    ·refine Dvl [0, 1, 2] (tf 3 33) ?_
     refine Sd hj129 (fun hb131 h132 => ?_) (fun hb131 h133 => ?_)
     ·refine Dgl 3 68 0 (pt b114 0) (tf 4 32) 2 true 67 hb131 (fun _ hq => fa 34 6 0 0 1 b114 0 0) ?_
      refine Dgl 4 69 3 _ (tf 5 31) 2 true 67 hb131 (fun _ hq => ld 3 68 b114 0 false 1 (vi r106.1.Num) (hq.1.2 0 _ _ rfl)) <| Dgl 5 70 128 _ (tf 6 30) 2 true 67 hb131 (fun _ hq => mv 0 (pt bp0 0)) <| Dgl 6 71 0 (pt bp0 0) (tf 7 29) 2 true 67 hb131 (fun _ hq => DR (x := (.tmp 70)) (a := ⟨bp0, 0, none⟩) rfl) <| Dgl 7 72 0 (pt bp0 3) (tf 8 28) 2 true 67 hb131 (fun _ hq => fa 130 71 1 3 6 bp0 0 3) <| Dgl 8 73 0 (pt bp0 8) (tf 9 27) 2 true 67 hb131 (fun _ hq => fa 27 72 5 5 1 bp0 3 8) <| Dgl 9 74 25 _ (tf 10 26) 2 true 67 hb131 (fun _ hq => ld 25 73 bp0 8 false 1 (.slice a0_8 x0.l_.Lines.length n0_8) (hq.1.2 1 _ _ rfl)) <| Dgl 10 75 3 _ (tf 11 25) 2 true 67 hb131 (fun _ hq => mv 8 (vi (x0.l_.Lines.length : Int))) <| Dgl 11 76 3 (vi (W64 ((x0.l_.Lines.length : Int) - 1))) (tf 12 24) 2 true 67 hb131 (fun _ hq => Nk (t := 3) (t' := 3) (x := (.tmp 75)) (y := (.const (vi 1))) (k := .i64) (a := (x0.l_.Lines.length : Int)) (b := 1) rfl rfl) ?_
      obtain ⟨x134, hx135, h137⟩ := bind_some h132
      obtain ⟨hi136, hx135'⟩ := As hx135
      obtain ⟨b138, C139, rfl, rfl, hE142⟩ := Ap.open (hr0_8.mono le112) hx135'
      have hr143 := (hr0_8.mono le112)
      have hc145 := hE142 _ _ hx135'
      refine Dgl 12 77 0 (.pointer (some ⟨b138, (((W64 ((x0.l_.Lines.length : Int) - 1)) : Int).toNat * 11), none⟩)) (tf 13 23) 2 true 67 hb131 (fun _ hq => DF (t := 25) (x := (.tmp 74)) (y := (.tmp 76)) (b := b138) (E := 34) (s := 11) (by_ := 96) rfl rfl (by kernel_rfl) hi136) <| Dgl 13 78 0 (.pointer (some ⟨b138, (((W64 ((x0.l_.Lines.length : Int) - 1)) : Int).toNat * 11), none⟩)) (tf 14 22) 2 true 67 hb131 (fun _ hq => fa 34 77 0 0 1 b138 (((W64 ((x0.l_.Lines.length : Int) - 1)) : Int).toNat * 11) (((W64 ((x0.l_.Lines.length : Int) - 1)) : Int).toNat * 11)) <| Dgl 14 79 3 _ (tf 15 21) 2 true 67 hb131 (fun _ hq => lx 3 78 0 11 false 1 (vi x134.Num) (hq.1.2 2 _ _ rfl) hc145) <| Dgl 15 80 4 (.bool (decide (r106.1.Num <= x134.Num))) (tf 16 20) 2 true 67 hb131 (fun _ hq => PD (t := 3) (t' := 3) (x := (.tmp 69)) (y := (.tmp 79)) (k := .i64) (a := r106.1.Num) (b := x134.Num) rfl rfl) <| Dgl 16 81 4 _ (tf 17 19) 2 true 67 hb131 (fun _ hq => mv 80 (.bool (decide (r106.1.Num <= x134.Num)))) <| Sd h137 (fun hb146 h147 => ?_) (fun hb146 h148 => ?_)
      ·refine Dkl [(17, 82), (18, 83), (19, 84), (20, 85), (21, 86), (22, 87)] 16 false 81 hb146 (tf 23 13) ?_
       refine Dkl [(23, 88), (24, 89), (25, 90), (26, 91), (27, 92), (28, 93)] 16 false 81 hb146 (tf 29 7) <| Dkl [(29, 94)] 16 false 81 hb146 (tf 30 6) <| Dgl 30 95 4 _ (tf 31 5) 2 true 67 hb131 (fun _ hq => p1 81 (.const (.bool true)) (.tmp 94) (.bool true) hb146) <| Dtl 31 96 4 _ (tf 32 4) (fun _ hq => p1 67 (.tmp 95) (.const (.bool false)) (.bool true) hb131) <| Dvl [32] (tf 33 3) <| Dkl [(33, 98), (34, 99)] 32 false 97 rfl (tf 35 1) <| Dtl 35 100 4 _ (tf 36 0) (fun _ hq => p1 97 (.const (.bool true)) (.tmp 99) (.bool true) rfl) ?_
       obtain rfl := Aa h147
       exact UJ (by kernel_rfl) ⟨F8, hw120, (Ux _), fI⟩
      ·refine Dgl 17 82 0 (pt b114 3) (tf 18 18) 16 false 81 hb146 (fun _ hq => fa 34 6 3 3 1 b114 0 3) ?_
       refine Dgl 18 83 3 _ (tf 19 17) 16 false 81 hb146 (fun _ hq => ld 3 82 b114 3 false 1 (vi r106.1.Minute) (hq.1.2 0 _ _ rfl)) <| Dgl 19 84 128 _ (tf 20 16) 16 false 81 hb146 (fun _ hq => mv 0 (pt bp0 0)) <| Dgl 20 85 0 (pt bp0 0) (tf 21 15) 16 false 81 hb146 (fun _ hq => DR (x := (.tmp 84)) (a := ⟨bp0, 0, none⟩) rfl) <| Dgl 21 86 0 (pt bp0 3) (tf 22 14) 16 false 81 hb146 (fun _ hq => fa 130 85 1 3 6 bp0 0 3) <| Dgl 22 87 0 (pt bp0 8) (tf 23 13) 16 false 81 hb146 (fun _ hq => fa 27 86 5 5 1 bp0 3 8) <| Dgl 23 88 25 _ (tf 24 12) 16 false 81 hb146 (fun _ hq => ld 25 87 bp0 8 false 1 (.slice (some ⟨b138, 0, none⟩) x0.l_.Lines.length n0_8) (hq.1.2 1 _ _ rfl)) <| Dgl 24 89 3 _ (tf 25 11) 16 false 81 hb146 (fun _ hq => mv 8 (vi (x0.l_.Lines.length : Int))) <| Dgl 25 90 3 (vi (W64 ((x0.l_.Lines.length : Int) - 1))) (tf 26 10) 16 false 81 hb146 (fun _ hq => Nk (t := 3) (t' := 3) (x := (.tmp 89)) (y := (.const (vi 1))) (k := .i64) (a := (x0.l_.Lines.length : Int)) (b := 1) rfl rfl) ?_
       obtain ⟨x149, hx150, h152⟩ := bind_some h148
       obtain ⟨hi151, hx150'⟩ := As hx150
       obtain ⟨b153, C154, ha155, he156, hE157⟩ := Ap.open hr143 hx150'
       cases ha155
       cases he156
       have hc159 := hE157 _ _ hx150'
       refine Dgl 26 91 0 (.pointer (some ⟨b138, (((W64 ((x0.l_.Lines.length : Int) - 1)) : Int).toNat * 11), none⟩)) (tf 27 9) 16 false 81 hb146 (fun _ hq => DF (t := 25) (x := (.tmp 88)) (y := (.tmp 90)) (b := b138) (E := 34) (s := 11) (by_ := 96) rfl rfl (by kernel_rfl) hi151) <| Dgl 27 92 0 (.pointer (some ⟨b138, ((((W64 ((x0.l_.Lines.length : Int) - 1)) : Int).toNat * 11) + 3), none⟩)) (tf 28 8) 16 false 81 hb146 (fun _ hq => fa 34 91 3 3 1 b138 (((W64 ((x0.l_.Lines.length : Int) - 1)) : Int).toNat * 11) ((((W64 ((x0.l_.Lines.length : Int) - 1)) : Int).toNat * 11) + 3)) <| Dgl 28 93 3 _ (tf 29 7) 16 false 81 hb146 (fun _ hq => lx 3 92 3 11 false 1 (vi x149.Minute) (hq.1.2 2 _ _ rfl) hc159) <| Dgl 29 94 4 (.bool (decide (r106.1.Minute < x149.Minute))) (tf 30 6) 16 false 81 hb146 (fun _ hq => Lb (t := 3) (t' := 3) (x := (.tmp 83)) (y := (.tmp 93)) (k := .i64) (a := r106.1.Minute) (b := x149.Minute) rfl rfl) <| Dgl 30 95 4 _ (tf 31 5) 2 true 67 hb131 (fun _ hq => p0 81 (.const (.bool true)) (.tmp 94) (.bool (decide (r106.1.Minute < x149.Minute))) hb146) <| Dtl 31 96 4 _ (tf 32 4) (fun _ hq => p1 67 (.tmp 95) (.const (.bool false)) (.bool (decide (r106.1.Minute < x149.Minute))) hb131) <| Dvl [32] (tf 33 3) <| Sd h152 (fun hb160 h161 => ?_) (fun hb160 h162 => ?_)
       ·refine Dkl [(33, 98), (34, 99)] 32 false 97 hb160 (tf 35 1) ?_
        refine Dtl 35 100 4 _ (tf 36 0) (fun _ hq => p1 97 (.const (.bool true)) (.tmp 99) (.bool true) hb160) ?_
        obtain rfl := Aa h161
        exact UJ (by kernel_rfl) ⟨F8, hw120, (Ux _), fI⟩
       ·refine Dgl 33 98 35 _ (tf 34 2) 32 false 97 hb160 (fun _ hq => mv 7 (vi r106.2)) ?_
        refine Dgl 34 99 4 (.bool (r106.2 != 0)) (tf 35 1) 32 false 97 hb160 (fun _ hq => La (t := 35) (t' := 35) (x := (.tmp 98)) (y := (.const (vi 0))) (k := .i64) (a := r106.2) (b := 0) rfl rfl) <| Dtl 35 100 4 _ (tf 36 0) (fun _ hq => p0 97 (.const (.bool true)) (.tmp 99) (.bool (r106.2 != 0)) hb160) ?_
        obtain rfl := Aa h162
        exact UJ (by kernel_rfl) ⟨F8, hw120, (Ux _), fI⟩
     ·refine Dkl [(3, 68), (4, 69), (5, 70), (6, 71), (7, 72), (8, 73)] 2 true 67 hb131 (tf 9 27) ?_
      refine Dkl [(9, 74), (10, 75), (11, 76), (12, 77), (13, 78), (14, 79)] 2 true 67 hb131 (tf 15 21) <| Dkl [(15, 80), (16, 81)] 2 true 67 hb131 (tf 17 19) <| Dul [(17, 82), (18, 83), (19, 84), (20, 85), (21, 86), (22, 87)] 16 false 81 (tf 23 13) <| Dul [(23, 88), (24, 89), (25, 90), (26, 91), (27, 92), (28, 93)] 16 false 81 (tf 29 7) <| Dul [(29, 94)] 16 false 81 (tf 30 6) <| Dkl [(30, 95)] 2 true 67 hb131 (tf 31 5) <| Dtl 31 96 4 _ (tf 32 4) (fun _ hq => p0 67 (.tmp 95) (.const (.bool false)) (.bool false) hb131) <| Dvl [32] (tf 33 3) <| Dgl 33 98 35 _ (tf 34 2) 32 false 97 rfl (fun _ hq => mv 7 (vi r106.2)) <| Dgl 34 99 4 (.bool (r106.2 != 0)) (tf 35 1) 32 false 97 rfl (fun _ hq => La (t := 35) (t' := 35) (x := (.tmp 98)) (y := (.const (vi 0))) (k := .i64) (a := r106.2) (b := 0) rfl rfl) <| Dtl 35 100 4 _ (tf 36 0) (fun _ hq => p0 97 (.const (.bool true)) (.tmp 99) (.bool (r106.2 != 0)) rfl) ?_
      obtain rfl := Aa h133
      exact UJ (by kernel_rfl) ⟨F8, hw120, (Ux _), fI⟩
    ·rintro f w121 ⟨F9, hs122, le123, ⟨_, rfl⟩⟩
     refine Ab <| Cd h130 (fun hb163 h164 => ?_) (fun hb163 h165 => ?_)
     ·refine Sq (Rg [0, 1] ?_)
      refine Vs 2 <| Nt <| Rt <| Aj ?_
      obtain rfl := Aa h164
      exact ReB [(.bool false), (.bool false)] hs122.dr0 (le112.t le123) ⟨a0_7, n0_7, a0_8, n0_8, e0_8, rfl, rfl, hb0_7, (Uz hs0_7 (le112.t le123)), (hr0_8.mono (le112.t le123))⟩
     ·refine Sc ?_
      refine Ab <| Sq <| Sq (Rg (rG 7) ?_)
      refine Vs 4 <| Ld hs122.at1 <| Vs 2 <| Nt <| Cd h165 (fun hb166 h167 => ?_) (fun hb166 h168 => ?_)
      ·refine Sq (Rg [0, 1] ?_)
       refine Vs 2 <| Nt <| Rt <| Aj ?_
       obtain rfl := Aa h167
       exact ReB [(.bool false), (.bool true)] hs122.dr0 (le112.t le123) ⟨a0_7, n0_7, a0_8, n0_8, e0_8, rfl, rfl, hb0_7, (Uz hs0_7 (le112.t le123)), (hr0_8.mono (le112.t le123))⟩
      ·refine Sc ?_
       refine Ab <| Sq ?_
       obtain ⟨j174, hj176, h177⟩ := bind_some h168
       refine RD 12 13 [(sb b114 (B6 r106.1) 34)] [(sb bp0 #[(.bool x0.o_.Report), (.bool x0.o_.Serial), (.bool x0.o_.Zone), (sv x0.l_.Call), (vi x0.l_.Category), (vi x0.l_.Power), (vi x0.l_.Claimed), (.slice a0_7 x0.l_.Jumps.length n0_7), (.slice a0_8 x0.l_.Lines.length n0_8), (fV 153 #[]), (fV 154 #[]), (fV 190 #[(pt tb0_9_0 0), (pt tb0_9_1 0), (pt tb0_9_2 0), (pt tb0_9_3 0)]), (fV 191 #[(pt tb0_9_0 0), (pt tb0_9_3 0)]), (fV 190 #[(pt tb0_9_4 0), (pt tb0_9_5 0), (pt tb0_9_6 0), (pt tb0_9_7 0)]), (fV 191 #[(pt tb0_9_4 0), (pt tb0_9_7 0)]), (fV 190 #[(pt tb0_9_8 0), (pt tb0_9_9 0), (pt tb0_9_10 0), (pt tb0_9_11 0)]), (fV 191 #[(pt tb0_9_8 0), (pt tb0_9_11 0)]), (fV 159 #[]), (fV 160 #[]), (vi x0.done_), (.bool x0.ended_)] 130)] hs122 (fun f w => ∃ (F10 : Mem) (aj174_0 : UR) (nj174_0 : Nat) (ej174_0 : Option Nat × Obj), HS wb Fb w F10 ((sb bp0 #[(.bool x0.o_.Report), (.bool x0.o_.Serial), (.bool x0.o_.Zone), (sv x0.l_.Call), (vi x0.l_.Category), (vi x0.l_.Power), (vi x0.l_.Claimed), (.slice a0_7 x0.l_.Jumps.length n0_7), (.slice aj174_0 j174.length nj174_0), (fV 153 #[]), (fV 154 #[]), (fV 190 #[(pt tb0_9_0 0), (pt tb0_9_1 0), (pt tb0_9_2 0), (pt tb0_9_3 0)]), (fV 191 #[(pt tb0_9_0 0), (pt tb0_9_3 0)]), (fV 190 #[(pt tb0_9_4 0), (pt tb0_9_5 0), (pt tb0_9_6 0), (pt tb0_9_7 0)]), (fV 191 #[(pt tb0_9_4 0), (pt tb0_9_7 0)]), (fV 190 #[(pt tb0_9_8 0), (pt tb0_9_9 0), (pt tb0_9_10 0), (pt tb0_9_11 0)]), (fV 191 #[(pt tb0_9_8 0), (pt tb0_9_11 0)]), (fV 159 #[]), (fV 160 #[]), (vi x0.done_), (.bool x0.ended_)] 130) :: ej174_0 :: Lf) /\ Uw F9 F10 /\ FI f [] [] /\ Ap AK 34 F10 aj174_0 nj174_0 j174 ej174_0) (fun wd169 hw170 => ?_) ?_
       ·refine Dv [0, 1, 2, 3, 4] ?_
        refine Dl 5 (fun _ hq => ((hq.2 rfl).2 0 _ _ rfl)) <| Dl 6 (fun _ hq => (hq.1.2 0 _ _ rfl)) <| D1 7 <| DBs 34 [(vi r106.1.Num), (vi r106.1.Khz), (vi r106.1.Mode), (vi r106.1.Minute), (sv r106.1.Call), (vi r106.1.Sent.Report), (vi r106.1.Sent.Serial), (vi r106.1.Sent.Zone), (vi r106.1.Got.Report), (vi r106.1.Got.Serial), (vi r106.1.Got.Zone)] hw170 (Ux _) (fun b178 w179 hs180 => ?_)
        have hr182 : Ap AK 34 F9 (some ⟨b178, 0, none⟩) 1 [r106.1] (some b178, .cells ([(vi r106.1.Num), (vi r106.1.Khz), (vi r106.1.Mode), (vi r106.1.Minute), (sv r106.1.Call), (vi r106.1.Sent.Report), (vi r106.1.Sent.Serial), (vi r106.1.Sent.Zone), (vi r106.1.Got.Report), (vi r106.1.Got.Serial), (vi r106.1.Got.Zone)] : List Value).toArray 34 (0, 0)) := UM ⟨rfl, rfl⟩ (by simp)
        refine D1 8 ?_
        obtain ⟨r183, hap184, h185⟩ := bind_some hj176
        refine Uq Q4 hs180 (hr0_8.mono (le112.t le123)) (hs180.rd0 hr182) hap184 (Ux _) (fun a186 n187 e188 w189 hs190 hr191 => ?_)
        refine D1 9 <| UG (l' := [true, true, true, true, true, true, true, true, true, true, false, false, false]) (zd := false) (by kernel_rfl) (by kernel_rfl) (dst := (some 117)) (ty := 0) (g := none) (by kernel_rfl) rfl (DR (x := (.tmp 108)) (a := ⟨bp0, 0, none⟩) rfl) (Ba hs190 (Ux _) (by simp) (fun _ => by simp)) <| D1 10 <| UG (l' := [true, true, true, true, true, true, true, true, true, true, true, false, false]) (zd := false) (by kernel_rfl) (by kernel_rfl) (dst := (some 118)) (ty := 0) (g := none) (by kernel_rfl) rfl (CE (s := 130) (x := (.tmp 117)) (i := 1) (o := 3) (k := 6) (b := bp0) (o0 := 0) rfl (by kernel_rfl) rfl (o1 := 3) rfl) (Ba hs190 (Ux _) (by simp) (fun _ => by simp)) <| Dv [11] <| D1 12 <| MR #[(.bool x0.o_.Report), (.bool x0.o_.Serial), (.bool x0.o_.Zone), (sv x0.l_.Call), (vi x0.l_.Category), (vi x0.l_.Power), (vi x0.l_.Claimed), (.slice a0_7 x0.l_.Jumps.length n0_7), (.slice a186 r183.length n187), (fV 153 #[]), (fV 154 #[]), (fV 190 #[(pt tb0_9_0 0), (pt tb0_9_1 0), (pt tb0_9_2 0), (pt tb0_9_3 0)]), (fV 191 #[(pt tb0_9_0 0), (pt tb0_9_3 0)]), (fV 190 #[(pt tb0_9_4 0), (pt tb0_9_5 0), (pt tb0_9_6 0), (pt tb0_9_7 0)]), (fV 191 #[(pt tb0_9_4 0), (pt tb0_9_7 0)]), (fV 190 #[(pt tb0_9_8 0), (pt tb0_9_9 0), (pt tb0_9_10 0), (pt tb0_9_11 0)]), (fV 191 #[(pt tb0_9_8 0), (pt tb0_9_11 0)]), (fV 159 #[]), (fV 160 #[]), (vi x0.done_), (.bool x0.ended_)] hs190 (Ux _) (fun w192 hs193 => ?_)
        obtain rfl := Aa h185
        exact UJ (by kernel_rfl) ⟨F9, a186, n187, e188, hs193.dr0.dr0, (Ux _), fI, hr191⟩
       ·rintro f w171 ⟨F10, aj174_0, nj174_0, ej174_0, hs172, le173, ⟨_, rfl⟩, hrj174_0⟩
        refine Ab <| Sq (Rg [0, 1] ?_)
        refine Vs 2 <| Nt <| Rt ?_
        obtain rfl := Aa h177
        exact ReB [(.bool true), (.bool false)] hs172 ((le112.t le123).trans le173) ⟨a0_7, n0_7, aj174_0, nj174_0, ej174_0, rfl, rfl, hb0_7, (Uz hs0_7 ((le112.t le123).trans le173)), hrj174_0⟩
def BW {σ : Type} (N : Nat) (y : (σ -> (UQ × Bool) -> Option (Bool × σ))) (z0 : UQ) (s : σ) : (UQ × σ) -> Option (BD σ (UQ × σ)) := fun s4 =>
 (bif (s4.1 != ([] : UQ)) then ((strings_Cut N s4.1 ([10] : UQ)).bind fun r29 => ((y s4.2 (r29.1, r29.2.2)).bind fun q37 => (bif (!q37.1) then some (.ret q37.2) else some (.next (r29.2.1, q37.2))))) else some (.done (s4.1, s4.2)))
def C9 {σ : Type} (N : Nat) (y : σ -> (UQ × Bool) -> Option (Bool × σ)) (z0 : UQ) (s : σ) : Option σ :=
 ((A0 (BW N y z0 s) N (z0, s)).bind fun o => o.k (fun r => some r) (fun s13 => some s13.2))
theorem GQ : Ag Tryz.prog 169 := fun _ _ => by kernel_rfl
theorem HI (N : Nat) (F0 : Mem) (hG : Br F0) (z0 : UQ) (bz0 : Nat) :
  P5 Tryz.prog 169 [(pt bz0 0)] F0 [(sb bz0 #[(sv z0)] 9)] Ps Q3 QT (fun {_} y s => C9 N y z0 s) := by
 intro σ wb w0 Fb F1 l y J s r Lf le01 hJm hs0 hJ hY h
 have hs0 : HS wb Fb w0 F1 ((sb bz0 #[(sv z0)] 9) :: Lf) := hs0
 refine Mj (n := 20) (c := Mp Tryz.f169) Tryz.func169 (by kernel_rfl) (by kernel_rfl) (by kernel_rfl) ?_
 obtain ⟨o1, ho2, h3⟩ := bind_some h
 refine UD (fun f w => ∃ (s13 : (UQ × σ)) (F3 : Mem) (Lf17 : Own), o1 = .done s13 /\ HS wb Fb w F3 Lf17 /\ Uw F1 F3 /\ FI f [] [] /\ J s13.2 F3 Lf17) ?_ ?_
 ·refine Bk ?_
  refine Uv (by kernel_rfl) (fun m f w => ∃ (s4 : (UQ × σ)) (F2 : Mem) (Lf8 : Own), A0 (BW N y z0 s) m s4 = some o1 /\ HS wb Fb w F2 ((sb bz0 #[(sv s4.1)] 9) :: Lf8) /\ Uw F1 F2 /\ FI f [] [(0, (.func (.yield l) #[] #[])), (1, (pt bz0 0))] /\ J s4.2 F2 Lf8) N ⟨(z0, s), F1, Lf, ho2, hs0, (Ux _), fI, hJ⟩ ?_
  rintro m20 f w5 ⟨s4, F2, Lf8, hit21, hs6, le7, ⟨_, rfl⟩, hJ9⟩
  obtain ⟨m22, fl23, rfl, hb24, hnx25⟩ := AU hit21
  refine Sq <| Sq (Rg [0, 1] ?_)
  refine Ld hs6.at0 <| Vs 1 <| Nt <| Cd hb24 (fun hb26 h27 => ?_) (fun hb26 h28 => ?_)
  ·refine Sc ?_
   refine Ab <| Bk <| Sq (Rg (rG 9) ?_)
   refine Ld hs6.at0 ?_
   obtain ⟨r29, hr30, h31⟩ := bind_some h27
   refine Cl' Hx hs6 (Iw N w5 F2 hs6.pers (hG.mono (le01.t le7)) s4.1 (([10] : UQ)) _ hr30) ?_
   rintro _ F4 w33 hs34 le35 rfl
   refine Vs 1 <| Vs 1 <| Vs 1 <| Vs 1 <| Vs 1 <| Vs 1 <| Vs 1 <| Nss <| Sq (Rg (rG 5) ?_)
   refine Vs 1 <| Vs 1 <| Vs 1 ?_
   obtain ⟨q37, hq38, h39⟩ := bind_some h31
   refine RWP.yield (dst := (some 17)) (ty := 4) (g := none) (by kernel_rfl) rfl (f0 := (.tmp 14)) (aos := #[(.tmp 15), (.tmp 16)]) (ats := #[9, 4]) (l := l) (args := [(sv r29.1), (.bool r29.2.2)]) rfl rfl (hY s4.2 (r29.1, r29.2.2) w33 F4 [(sb bz0 #[(sv s4.1)] 9)] Lf8 q37 (le7.t le35) trivial (hJm _ _ _ _ hJ9 le35) hs34 hq38) ?_
   rintro _ w40 ⟨F5, Lf44, rfl, hs41, le42, hJ43⟩
   have hs45 : HS wb Fb w40 F5 ((sb bz0 #[(sv s4.1)] 9) :: Lf44) := hs41
   refine ⟨_, rfl, ?_⟩
   refine Vs 1 <| Nt <| Cd h39 (fun hb46 h47 => ?_) (fun hb46 h48 => ?_)
   ·refine Rt ?_
    refine Aj <| Az <| Aj <| Az ?_
    have hret := DV h47 hnx25
    subst hret
    refine .inr ?_
    have hfin := Aa h3
    subst hfin
    exact ⟨rfl, .tuple #[], AR (l := []) (by kernel_rfl) (vs := []) trivial, F5, Lf44, rfl, hs45.dr0, ((le7.t le35).trans le42), hJ43⟩
   ·refine Sc ?_
    refine Ab <| Rg [0, 1] <| Vs 1 <| St0 #[(sv r29.2.1)] hs45 (fun w49 hs50 => ?_)
    refine Us <| Av ?_
    have hn51 := AV h48 hnx25
    exact ⟨m22, Nat.lt_succ_self _, (r29.2.1, q37.2), F5, Lf44, hn51, hs50, ((le7.t le35).trans le42), fI, hJ43⟩
  ·refine Ex ?_
   refine Au <| Au <| AA rfl ?_
   have ho52 := AW h28 hnx25
   exact .inl ⟨rfl, (s4.1, s4.2), F2, Lf8, ho52, hs6.dr0, le7, fI, hJ9⟩
 ·rintro f w14 ⟨s13, F3, Lf17, rfl, hs15, le16, ⟨_, rfl⟩, hJ18⟩
  have h53 := BL h3
  have hfin := Aa h53
  subst hfin
  exact ⟨rfl, .tuple #[], AR (l := []) (by kernel_rfl) (vs := []) trivial, F3, Lf17, rfl, hs15, le16, hJ18⟩
theorem Iu : Ag Tryz.prog 105 := fun _ _ => by kernel_rfl
set_option maxRecDepth 100000 in
theorem JD (w0 : World) (F0 : Mem) (hF : US w0 F0) (x0 : UQ) :
  Calls Tryz.prog 105 ([(.string ⟨x0.toArray⟩)] : List Value).toArray w0 (Ms w0 F0 fun _ v L' => ∃ (b0 : Nat), v = .func (.func 169) #[] #[.pointer (some ⟨b0, 0, none⟩)] /\ L' = [(some b0, .cells #[(.string ⟨x0.toArray⟩)] 9 (0, 0))]) := by
 have hs0 := Uy hF
 refine Go 4 Tryz.func105 <| Sq (Rg [0, 1] ?_)
 refine Bx' 9 #[(.string ⟨x0.toArray⟩)] hs0 (fun b0 w1 hs1 => ?_)
 refine Vs 1 <| Nss (Rg [0, 1] ?_)
 refine Vs 2 <| Nt <| Rt ?_
 exact ⟨rfl, _, AR (l := [.tmp 2]) (by kernel_rfl) (vs := [.func (.func 169) #[] #[.pointer (some ⟨b0, 0, none⟩)]]) ⟨by kernel_rfl, trivial⟩, _, F0, _, rfl, hs1, b0, rfl, rfl⟩
end Go.Proofs.YthljkpeimofbbaaGreatDoor
