/- Lemmas of the claim AirOrder, printed by a program of the claimant and by hand. No statement of the seat is proved here. -/
import Derived.Test.YtlddakefmfcblaaGreatDoorEf3
set_option linter.unusedVariables false
set_option linter.unusedSimpArgs false
set_option linter.unusedSectionVars false
namespace Go.Proofs.YtlddakefmfcblaaGreatDoor
open Go.Lib (decDigits)
def tText (u : Nat) : List UInt8 := decDigits (u / 1440 + 1) ++ 32 :: (dP 2 (u / 60 % 24) ++ dP 2 (u % 60))
def printT (x : Int) : List UInt8 × Int := if 0 ≤ x ∧ x ≤ 20000 then (tText x.toNat, 0) else ([], 1)
theorem tdivN (u k : Nat) (h : u < 4611686018427387904) : W64 (Int.tdiv (u : Int) (k : Int)) = ((u / k : Nat) : Int) := by
 have : Int.tdiv (u : Int) (k : Int) = ((u / k : Nat) : Int) := by rw [Int.tdiv_eq_ediv_of_nonneg (by omega)]; rfl
 have h2 : u / k ≤ u := Nat.div_le_self _ _
 rw [this]
 generalize u / k = v at h2
 rw [W64_id (by omega) (by omega)]
theorem tmodN (u k : Nat) : Int.tmod (u : Int) (k : Int) = ((u % k : Nat) : Int) := by
 rw [Int.tmod_eq_emod_of_nonneg (by omega)]; rfl
theorem dd_len5 {u : Nat} (h : u < 100000) : (decDigits u).length ≤ 5 := dd_len 4 u (by omega)
theorem dP2_len {u : Nat} (h : u < 100) : (dP 2 u).length = 2 := by
 have h1 := dP_len 2 u
 have h2 := dP_lenle (k := 2) (j := 1) (u := u) (by omega)
 omega
section
variable {N : Nat}
theorem s_PrintTime (x : Int) : air_PrintTime N x = some (printT x) := by
 unfold air_PrintTime printT
 rw [m_within, Option.bind_some]
 by_cases h : 0 ≤ x ∧ x ≤ 20000
 ·rw [if_pos h, decide_eq_true h.1, decide_eq_true h.2]
  obtain ⟨u, rfl⟩ : ∃ u : Nat, x = u := ⟨x.toNat, by omega⟩
  have hu : u ≤ 20000 := by omega
  simp only [Bool.and_self, Bool.not_true, cond_false]
  have e1 := tdivN u 1440 (by omega)
  have e2 := tdivN u 60 (by omega)
  simp only [Int.cast_ofNat_Int] at e1 e2
  have e3 := tmodN (u / 60) 24
  have e4 := tmodN u 60
  simp only [Int.cast_ofNat_Int] at e3 e4
  rw [e1, e2, e3, e4, w64s (u / 1440) (by omega), m_Itoa _ (by omega), Option.bind_some]
  have hl1 := dd_len5 (u := u / 1440 + 1) (by omega)
  have hl2 := dP2_len (u := u / 60 % 24) (by omega)
  have hl3 := dP2_len (u := u % 60) (by omega)
  have p1 := m_padded (N := N) (u / 60 % 24) 2 (by omega) (by omega)
  have p2 := m_padded (N := N) (u % 60) 2 (by omega) (by omega)
  simp only [Int.cast_ofNat_Int] at p1 p2
  rw [sadd_some (by simp; omega), Option.bind_some, p1, Option.bind_some, sadd_some (by simp; omega), Option.bind_some, p2, Option.bind_some, sadd_some (by simp; omega), Option.bind_some]
  unfold tText
  simp
 ·rw [if_neg h]
  have : (decide (0 ≤ x) && decide (x ≤ 20000)) = false := by
   rw [Bool.and_eq_false_iff, decide_eq_false_iff_not, decide_eq_false_iff_not]; omega
  rw [this]; rfl
def tval (p q : Nat) : Nat := (p - 1) * 1440 + q / 100 * 60 + q % 100
theorem tval_eq {p q : Nat} (h1 : 1 ≤ p) (hp : p < 1000000000) (hq : q < 1000000000) : W64 ((W64 ((W64 ((W64 ((p : Int) - 1)) * 1440)) + (W64 ((W64 (Int.tdiv (q : Int) 100)) * 60)))) + (Int.tmod (q : Int) 100)) = (tval p q : Int) := by
 have e1 := tdivN q 100 (by omega)
 have e2 := tmodN q 100
 simp only [Int.cast_ofNat_Int] at e1 e2
 rw [e1, e2, W64_id (n := (p : Int) - 1) (by omega) (by omega), W64_id (n := ((p : Int) - 1) * 1440) (by omega) (by omega), W64_id (n := ((q / 100 : Nat) : Int) * 60) (by omega) (by omega)]
 rw [W64_id (n := ((p : Int) - 1) * 1440 + ((q / 100 : Nat) : Int) * 60) (by omega) (by omega), W64_id (by omega) (by omega)]
 unfold tval
 omega
def parse2 (s a b : List UInt8) : Int × Int := if numB a && numB b && decide (1 ≤ numV a) && decide (printT (tval (numV a) (numV b)) = (s, 0)) then ((tval (numV a) (numV b) : Int), 0) else (0, 13)
def parseT (s : List UInt8) : Int × Int := match pcs 32 s with
 | [a, b] => parse2 s a b
 | _ => (0, 13)
theorem numB_no32 {s : List UInt8} (h : (32 : UInt8) ∈ s) : numB s = false := by
 cases hh : numB s with
 | false => rfl
 | true =>
  have := List.all_eq_true.1 (numB_lt hh).2.2.2 _ h
  revert this; decide
theorem numB_nil : numB [] = false := rfl
theorem ok_dec (s t : List UInt8) (e : Int) : ((e != 0) || (t != s)) = !decide ((t, e) = (s, 0)) := by
 by_cases h1 : e = 0
 ·by_cases h2 : t = s
  ·subst h1; subst h2; simp
  ·rw [decide_eq_false (fun h => h2 (by injection h))]; simp [h2]
 ·rw [decide_eq_false (fun h => h1 (by injection h))]; simp [h1]
theorem parse_air (s a b : List UInt8) (ha : a.length < N) (hb : b.length < N) :
  ((air_number N a).bind fun r9 => ((air_number N b).bind fun r17 => (bif ((decide (r9 < 1)) || ((decide (r9 > 20000)) || (decide (r17 < 0)))) then some ((0 : Int), (13 : Int)) else ((air_PrintTime N (W64 ((W64 ((W64 ((W64 (r9 - 1)) * 1440)) + (W64 ((W64 (Int.tdiv r17 100)) * 60)))) + (Int.tmod r17 100)))).bind fun r38 => (bif ((r38.2 != 0) || (r38.1 != s)) then some (0, 13) else some ((W64 ((W64 ((W64 ((W64 (r9 - 1)) * 1440)) + (W64 ((W64 (Int.tdiv r17 100)) * 60)))) + (Int.tmod r17 100))), 0)))))) = some (parse2 s a b) := by
 rw [m_number ha, m_number hb, Option.bind_some, Option.bind_some]
 unfold numS parse2
 cases hA : numB a with
 | false =>
  simp only [Bool.false_eq_true, if_false, Bool.false_and]
  rfl
 | true =>
  cases hB : numB b with
  | false =>
   simp only [Bool.false_eq_true, if_false, if_true, Bool.and_false, Bool.false_and]
   rw [show decide ((-1 : Int) < 0) = true from rfl, Bool.or_true, Bool.or_true]; rfl
  | true =>
   simp only [if_true, Bool.and_self, Bool.true_and]
   have hp := numB_lt hA
   have hq := numB_lt hB
   generalize numV a = p at hp ⊢
   generalize numV b = q at hq ⊢
   by_cases h1 : 1 ≤ p
   ·rw [decide_eq_false (show ¬ (p : Int) < 1 by omega), decide_eq_true h1, decide_eq_false (show ¬ (q : Int) < 0 by omega), Bool.false_or, Bool.or_false, Bool.true_and, tval_eq h1 hp.1 hq.1]
    by_cases h2 : p ≤ 20000
    ·rw [decide_eq_false (show ¬ (p : Int) > 20000 by omega), cond_false, s_PrintTime, Option.bind_some, ok_dec]
     have : ((printT (tval p q : Int)).1, (printT (tval p q : Int)).2) = printT (tval p q : Int) := rfl
     rw [this]
     by_cases h3 : printT (tval p q : Int) = (s, 0)
     ·rw [decide_eq_true h3, if_pos rfl]; rfl
     ·rw [decide_eq_false h3]; rfl
    ·rw [decide_eq_true (show (p : Int) > 20000 by omega), cond_true]
     have h3 : ¬ printT (tval p q : Int) = (s, 0) := by
      unfold printT tval
      rw [if_neg (by omega)]
      intro h; injection h with h1 h2; exact absurd h2 (by decide)
     rw [decide_eq_false h3]; rfl
   ·rw [decide_eq_true (show (p : Int) < 1 by omega), decide_eq_false h1]; rfl
theorem parse2_err {s a b : List UInt8} (h : numB b = false) : parse2 s a b = (0, 13) := by unfold parse2; rw [h]; simp
theorem s_ParseTime (s : List UInt8) (hs : s.length < 4294967281) (hN : 4294967300 < N) : air_ParseTime N s = some (parseT s) := by
 unfold air_ParseTime
 have hc : strings_Cut N s [32] = some (Go.Lib.cut s [32]) := by unfold strings_Cut; rw [if_pos hs]
 rw [hc, Option.bind_some]
 unfold parseT
 by_cases h : (32 : UInt8) ∈ s
 ·obtain ⟨a, t, rfl, ha⟩ := split_at_first h
  simp only [List.length_append, List.length_cons] at hs
  rw [cut_some ha, pcs_app ha]
  simp only
  rw [parse_air _ a t (by omega) (by omega)]
  by_cases ht : (32 : UInt8) ∈ t
  ·obtain ⟨a', t', rfl, ha'⟩ := split_at_first ht
   rw [pcs_app ha', parse2_err (numB_no32 ht)]
   cases hp : pcs 32 t' with
   | nil => exact absurd hp (pcs_ne 32 t')
   | cons x l => rfl
  ·rw [pcs_none ht]
 ·rw [cut_none h, pcs_none h]
  simp only
  rw [parse_air _ s [] (by omega) (by simp; omega), parse2_err numB_nil]
end
theorem numF_mul (a : Nat) (l : List UInt8) : numF a l = a * 10 ^ l.length + numF 0 l := by
 induction l generalizing a with
 | nil => simp [numF]
 | cons b l ih =>
  rw [numF_cons, numF_cons, ih (10 * a + (b.toNat - 48)), ih (10 * 0 + (b.toNat - 48)), List.length_cons, Nat.pow_succ, Nat.add_mul, Nat.mul_comm (10 ^ l.length) 10, ← Nat.mul_assoc, Nat.mul_comm a 10, Nat.mul_zero, Nat.zero_add, Nat.add_assoc]
theorem numV_app (l m : List UInt8) : numV (l ++ m) = numV l * 10 ^ m.length + numV m := by
 unfold numV
 rw [show numF 0 (l ++ m) = numF (numF 0 l) m by unfold numF; rw [List.foldl_append], numF_mul]
theorem no32 {l : List UInt8} (h : l.all isD = true) : (32 : UInt8) ∉ l := fun hm => by
 have := List.all_eq_true.1 h _ hm
 revert this; decide
theorem parse_text {u : Nat} (h : u ≤ 20000) : parseT (tText u) = ((u : Int), 0) := by
 have hl1 := dd_len5 (u := u / 1440 + 1) (by omega)
 have hl2 := dP2_len (u := u / 60 % 24) (by omega)
 have hl3 := dP2_len (u := u % 60) (by omega)
 have hall : (dP 2 (u / 60 % 24) ++ dP 2 (u % 60)).all isD = true := by rw [List.all_append, dP_all, dP_all]; rfl
 have hp : pcs 32 (tText u) = [decDigits (u / 1440 + 1), dP 2 (u / 60 % 24) ++ dP 2 (u % 60)] := by
  unfold tText
  rw [pcs_app (no32 (dd_all _)), pcs_none (no32 hall)]
 unfold parseT
 rw [hp]
 simp only
 unfold parse2
 have n1 : numB (decDigits (u / 1440 + 1)) = true := by
  unfold numB wiB; have := dd_pos (u / 1440 + 1); rw [dd_all]; simp; omega
 have n2 : numB (dP 2 (u / 60 % 24) ++ dP 2 (u % 60)) = true := by
  unfold numB wiB; rw [hall]; simp [hl2, hl3]
 have v2 : numV (dP 2 (u / 60 % 24) ++ dP 2 (u % 60)) = u / 60 % 24 * 100 + u % 60 := by
  rw [numV_app, dP_num, dP_num, hl3]
 have e : tval (u / 1440 + 1) (u / 60 % 24 * 100 + u % 60) = u := by unfold tval; omega
 have hpr : printT (u : Int) = (tText u, 0) := by unfold printT; rw [if_pos (by omega)]; rfl
 rw [n1, n2, dd_num, v2, e, hpr, decide_eq_true (show 1 ≤ u / 1440 + 1 by omega), decide_eq_true rfl]
 rfl
end Go.Proofs.YtlddakefmfcblaaGreatDoor
namespace Go.Proofs.YtlddakefmfcblaaGreatDoor
open Go.Proofs
end Go.Proofs.YtlddakefmfcblaaGreatDoor
namespace Go.Proofs.YtlddakefmfcblaaGreatDoor
open Go.Proofs
end Go.Proofs.YtlddakefmfcblaaGreatDoor
namespace Go.Proofs.YtlddakefmfcblaaGreatDoor
open Go.Proofs
end Go.Proofs.YtlddakefmfcblaaGreatDoor
namespace Go.Proofs.YtlddakefmfcblaaGreatDoor
open Go.Proofs
end Go.Proofs.YtlddakefmfcblaaGreatDoor
namespace Go.Proofs.YtlddakefmfcblaaGreatDoor
open Go.Proofs
end Go.Proofs.YtlddakefmfcblaaGreatDoor
namespace Go.Proofs.YtlddakefmfcblaaGreatDoor
open Go.Proofs
end Go.Proofs.YtlddakefmfcblaaGreatDoor
namespace Go.Proofs.YtlddakefmfcblaaGreatDoor
open Go.Proofs
end Go.Proofs.YtlddakefmfcblaaGreatDoor
namespace Go.Proofs.YtlddakefmfcblaaGreatDoor
open Go.Proofs
end Go.Proofs.YtlddakefmfcblaaGreatDoor
namespace Go.Proofs.YtlddakefmfcblaaGreatDoor
open Go.Proofs
end Go.Proofs.YtlddakefmfcblaaGreatDoor
namespace Go.Proofs.YtlddakefmfcblaaGreatDoor
open Go.Proofs
end Go.Proofs.YtlddakefmfcblaaGreatDoor
namespace Go.Proofs.YtlddakefmfcblaaGreatDoor
open Go.Proofs
end Go.Proofs.YtlddakefmfcblaaGreatDoor
namespace Go.Proofs.YtlddakefmfcblaaGreatDoor
open Go.Proofs
end Go.Proofs.YtlddakefmfcblaaGreatDoor
namespace Go.Proofs.YtlddakefmfcblaaGreatDoor
open Go.Lib (decDigits)
theorem ne_decB (s : List UInt8) : (s != []) = !decide (s = []) := by
 cases s <;> rfl
section
variable {N : Nat}
theorem m_or2 (a b : List UInt8) (hN : 4294967300 < N) : cmp_Or_string N [a, b] = some (if a = [] then b else a) := by
 obtain ⟨M, rfl⟩ : ∃ M, N = M + 3 := ⟨N - 3, by omega⟩
 unfold cmp_Or_string
 by_cases ha : a = []
 ·rw [if_pos ha]
  by_cases hb : b = []
  ·subst ha; subst hb; rfl
  ·have e1 : cmp_Or_string_L0 (M + 3) [a, b] 0 = some (.next 1) := by subst ha; rfl
   have e2 : cmp_Or_string_L0 (M + 3) [a, b] 1 = some (.ret b) := by
    show (bif (b != ([] : List UInt8)) then some (.ret b) else some (.next (W64 (1 + 1)))) = some (Flow.ret b)
    rw [ne_decB, decide_eq_false hb]; rfl
   rw [iter, e1]
   simp only
   rw [iter, e2]
   rfl
 ·rw [if_neg ha]
  have e1 : cmp_Or_string_L0 (M + 3) [a, b] 0 = some (.ret a) := by
   show (bif (a != ([] : List UInt8)) then some (.ret a) else some (.next (W64 (0 + 1)))) = some (Flow.ret a)
   rw [ne_decB, decide_eq_false ha]; rfl
  rw [iter, e1]
  rfl
def fs (L : Layout) (E : Exchange) : List (List UInt8) := (if L.Report = true then [dP 1 E.Report.toNat] else []) ++ ((if L.Serial = true then [dP 3 E.Serial.toNat] else []) ++ (if L.Zone = true then [dP 2 E.Zone.toNat] else []))
structure OkE (L : Layout) (E : Exchange) : Prop where
 r : if L.Report = true then 1 ≤ E.Report ∧ E.Report ≤ 599 else E.Report = 0
 s : if L.Serial = true then 1 ≤ E.Serial ∧ E.Serial ≤ 99999 else E.Serial = 0
 z : if L.Zone = true then 1 ≤ E.Zone ∧ E.Zone ≤ 99 else E.Zone = 0
theorem OkE.le {L : Layout} {E : Exchange} (h : OkE L E) : (0 ≤ E.Report ∧ E.Report ≤ 599) ∧ (0 ≤ E.Serial ∧ E.Serial ≤ 99999) ∧ 0 ≤ E.Zone ∧ E.Zone ≤ 99 := by
 obtain ⟨h1, h2, h3⟩ := h
 refine ⟨?_, ?_, ?_⟩
 ·split at h1 <;> omega
 ·split at h2 <;> omega
 ·split at h3 <;> omega
end
end Go.Proofs.YtlddakefmfcblaaGreatDoor
namespace Go.Proofs.YtlddakefmfcblaaGreatDoor
theorem firstN_congr {ρ : Type} {n : Nat} {f g : Nat → Option ρ} : ∀ {m k : Nat}, k + m = n → (∀ j, k ≤ j → j < n → f j = g j) → firstN n f k = firstN n g k := by
 intro m
 induction m with
 | zero =>
  intro k hk _
  have : k = n := by omega
  subst this
  rw [firstN_end, firstN_end]
 | succ m ih =>
  intro k hk h
  rw [firstN_step (f := f) (k := k) (by omega), firstN_step (f := g) (k := k) (by omega), h k (Nat.le_refl _) (by omega), ih (by omega) (fun j h1 h2 => h j (by omega) h2)]
theorem firstN_map {ρ τ : Type} {n : Nat} {f : Nat → Option ρ} (g : ρ → τ) (k : Nat) : firstN n (fun i => (f i).map g) k = (firstN n f k).map g := by
 unfold firstN
 generalize (List.range n).drop k = l
 induction l with
 | nil => rfl
 | cons x l ih => rw [List.findSome?_cons, List.findSome?_cons]; cases f x <;> simp [ih]
def clashB (T : List Prefix) (i j : Nat) : Bool := decide ((pAt T i).From ≤ (pAt T j).To) && decide ((pAt T j).From ≤ (pAt T i).To)
def findJ (T : List Prefix) (i : Nat) : Option Nat := firstN T.length (fun j => if (decide (keyP (pAt T j) = keyP (pAt T i)) && (decide (i < j) && clashB T i j)) = true then some j else none) 0
def overF (T : List Prefix) (i : Nat) : Option (Int × Int × Int) := (findJ T i).map fun j : Nat => ((i : Int), (j : Int), (0 : Int))
def overS (T : List Prefix) : Int × Int × Int := if rowsB T = true then (firstN T.length (overF T) 0).elim (0, 0, 3) id else (0, 0, 12)
section
variable {N : Nat} {T : List Prefix}
theorem s_Overlap (hT : fitT N T) (hN : 4294967300 < N) : air_Overlap N T = some (overS T) := by
 unfold air_Overlap overS
 rw [s_rows hT hN, Option.bind_some]
 cases hr : rowsB T with
 | false => rfl
 | true =>
  obtain ⟨h400, _⟩ := rowsB_ok hr
  obtain ⟨m, hm, hk⟩ := s_tableOf (N := N) h400 hN
  rw [Bool.not_true, cond_false, hm, Option.bind_some, if_pos rfl]
  rw [show (0 : Int) = ((0 : Nat) : Int) from rfl, iter_firstN (n := T.length) (overF T) (fun i hi => ?_) ?_ (by omega) 0 (by omega)]
  ·cases firstN T.length (overF T) 0 <;> rfl
  ·unfold air_Overlap_L0
   rw [lt_dec', cond_false]
  ·unfold air_Overlap_L0
   rw [lt_dec hi, cond_true, idx_p hi, Option.bind_some]
   have e1 : air_keyOf N (pAt T i) = some (keyP (pAt T i)) := rfl
   rw [e1, Option.bind_some]
   have hl := keyIdx_len T (keyP (pAt T i)) T.length
   rw [iter_first (l := keyIdx T (keyP (pAt T i)) T.length) (body := air_Overlap_L1 N T true m (i : Int) (pAt T i) (keyP (pAt T i))) (fun x => if (decide (i < x.toNat) && clashB T i x.toNat) = true then some ((fun j : Nat => ((i : Int), (j : Int), (0 : Int))) x.toNat) else none) (by
    intro t ht
    unfold air_Overlap_L1
    rw [hk, lt_dec ht, cond_true, idx_nat ht, Option.bind_some]
    obtain ⟨j, hj, hjn, _⟩ := keyIdx_mem (List.getElem_mem ht)
    rw [hj, idx_p hjn, w64s t (by omega), Int.toNat_natCast]
    simp only [Option.bind_some]
    have : decide ((j : Int) > (i : Int)) = decide (i < j) := by rw [decide_eq_decide]; omega
    rw [this]
    unfold clashB
    cases decide (i < j) <;> cases decide ((pAt T i).From ≤ (pAt T j).To) <;> cases decide ((pAt T j).From ≤ (pAt T i).To) <;> rfl) (by
    unfold air_Overlap_L1
    rw [hk, lt_dec', cond_false]) (by omega)]
   unfold keyIdx
   rw [filter_first (fun j => decide (keyP (pAt T j) = keyP (pAt T i))) (fun j => decide (i < j) && clashB T i j) (fun j : Nat => ((i : Int), (j : Int), (0 : Int))), w64s i (by omega)]
   have e : (List.range T.length).findSome? (fun j => if (decide (keyP (pAt T j) = keyP (pAt T i)) && (decide (i < j) && clashB T i j)) = true then some ((fun j : Nat => ((i : Int), (j : Int), (0 : Int))) j) else none) = overF T i := by
    unfold overF findJ
    rw [← firstN_map]
    unfold firstN
    rw [List.drop_zero]
    congr 1
    funext j
    cases (decide (keyP (pAt T j) = keyP (pAt T i)) && (decide (i < j) && clashB T i j)) <;> rfl
   rw [e]
   cases overF T i <;> rfl
def validT (T : List Prefix) : Bool := (overS T).2.2 == 3
theorem s_ValidT (hT : fitT N T) (hN : 4294967300 < N) : air_ValidTable N T = some (validT T) := by
 unfold air_ValidTable validT
 rw [s_Overlap hT hN]; rfl
def Apart (T : List Prefix) : Prop := ∀ i j, i < j → j < T.length → keyP (pAt T i) = keyP (pAt T j) → ¬ ((pAt T i).From ≤ (pAt T j).To ∧ (pAt T j).From ≤ (pAt T i).To)
theorem validT_iff : validT T = true ↔ rowsB T = true ∧ Apart T := by
 unfold validT overS
 rw [beq_iff_eq]
 by_cases hr : rowsB T = true
 ·rw [if_pos hr]
  have hf : firstN T.length (overF T) 0 = none ↔ Apart T := by
   rw [firstN_none (by omega)]
   unfold overF findJ
   constructor
   ·intro h i j hij hj hk hc
    have := h i (by omega) (by omega)
    rw [Option.map_eq_none_iff, firstN_none (by omega)] at this
    have := this j (by omega) hj
    unfold clashB at this
    rw [decide_eq_true hk.symm, decide_eq_true hij, decide_eq_true hc.1, decide_eq_true hc.2] at this
    cases this
   ·intro h i _ hi
    rw [Option.map_eq_none_iff, firstN_none (by omega)]
    intro j _ hj
    have : ¬ (decide (keyP (pAt T j) = keyP (pAt T i)) && (decide (i < j) && clashB T i j)) = true := by
     unfold clashB
     simp only [Bool.and_eq_true, decide_eq_true_eq]
     rintro ⟨h1, h2, h3⟩
     exact h i j h2 hj h1.symm h3
    rw [if_neg this]
  constructor
  ·intro h
   refine ⟨hr, hf.1 ?_⟩
   cases hc : firstN T.length (overF T) 0 with
   | none => rfl
   | some r =>
    exfalso
    rw [hc] at h
    obtain ⟨i, _, _, hi, _⟩ := (firstN_some (m := T.length) (by omega)).1 hc
    unfold overF at hi
    cases hj : findJ T i with
    | none => rw [hj] at hi; cases hi
    | some j =>
     rw [hj] at hi
     injection hi with hi
     subst hi
     exact absurd (show (0 : Int) = 3 from h) (by decide)
  ·rintro ⟨_, h⟩
   rw [hf.2 h]; rfl
 ·rw [if_neg hr]
  constructor
  ·intro h; exact absurd h (by decide)
  ·rintro ⟨h, _⟩; exact absurd h hr
def bC (c : List UInt8) : List UInt8 := match callB c with
 | some t => if t.1 = [] then t.2.1 else t.1
 | none => []
def downF (T : List Prefix) (b : List UInt8) (d : Int) : Nat → Option Nat
 | 0 => none
 | k + 1 => match atK T { text_ := b.take (k + 1), whole_ := false } d with
  | some i => some i
  | none => downF T b d k
def findS (T : List Prefix) (c : List UInt8) (d : Int) : Option Nat := match atK T { text_ := c, whole_ := true } d with
 | some i => some i
 | none => downF T (bC c) d (bC c).length
def wrongT (T : List Prefix) (c : List UInt8) (d : Int) : Int := if validT T = true then (if validS c = true then (if inI d 0 99999 = true then 0 else 1) else 10) else 12
theorem bC_len (c : List UInt8) : (bC c).length ≤ 8 := by
 unfold bC
 cases h : callB c with
 | none => simp
 | some t =>
  have := ok_len (callB_some h).1
  simp only
  split <;> omega
theorem s_wrongT (hT : fitT N T) (hN : 4294967300 < N) (c : List UInt8) (d : Int) : air_wrong N T c d = some (wrongT T c d) := by
 unfold air_wrong wrongT
 rw [s_ValidT hT hN, Option.bind_some, s_Valid c hN, m_within]
 have : (decide (0 ≤ d) && decide (d ≤ 99999)) = inI d 0 99999 := rfl
 rw [this]
 cases validT T <;> cases validS c <;> cases inI d 0 99999 <;> rfl
theorem toI_neg (o : Option Nat) : decide (toI o < 0) = o.isNone := by
 cases o with
 | none => rfl
 | some i => show decide ((i : Int) < 0) = false; rw [decide_eq_false (by omega)]
theorem toI_ge (o : Option Nat) : decide (toI o ≥ 0) = o.isSome := by
 cases o with
 | none => rfl
 | some i => show decide ((i : Int) ≥ 0) = true; rw [decide_eq_true (by omega)]
theorem s_table_row {m : List (air_key × List Int)} (hm : ∀ k, mgetD m k [] = keyIdx T k T.length) (h : T.length ≤ 400) (hN : 4294967300 < N) (c : List UInt8) (d : Int) : air_table_row N m T c d = some (toI (findS T c d)) := by
 unfold air_table_row findS
 rw [s_row1 hm h hN, Option.bind_some, toI_ge]
 cases ha : atK T { text_ := c, whole_ := true } d with
 | some i => rfl
 | none =>
  simp only [Option.isSome_none, cond_false]
  rw [m_split c hN, Option.bind_some]
  have e1 : (splitR c).1.Prefix ++ (splitR c).1.Suffix = match callB c with | some t => t.2.1 | none => [] := by
   unfold splitR
   cases callB c with
   | none => rfl
   | some t => exact ps_app t
  have e2 : (splitR c).1.Area = match callB c with | some t => t.1 | none => [] := by
   unfold splitR
   cases callB c <;> rfl
  have e3 : (splitR c).1.Prefix.length + (splitR c).1.Suffix.length ≤ 100 := by
   rw [← List.length_append, e1]
   cases hc : callB c with
   | none => simp
   | some t => have := ok_len (callB_some hc).1; simp only; omega
  rw [sadd_some (by omega), Option.bind_some, m_or2 _ _ hN, Option.bind_some]
  have e4 : (if (splitR c).1.Area = [] then (splitR c).1.Prefix ++ (splitR c).1.Suffix else (splitR c).1.Area) = bC c := by
   rw [e1, e2]
   unfold bC
   cases callB c <;> rfl
  rw [e4]
  have hb := bC_len c
  generalize bC c = b at hb
  have loop : ∀ k M, k < M → k ≤ b.length → ((iter (air_table_row_L0 N m T c d (toI none) (splitR c) ((splitR c).1.Prefix ++ (splitR c).1.Suffix) b) M (k : Int)).bind fun o => o.k (fun r => some r) (fun s75 => some (-1))) = some (toI (downF T b d k)) := by
   intro k
   induction k with
   | zero =>
    intro M hM _
    obtain ⟨M, rfl⟩ : ∃ M', M = M' + 1 := ⟨M - 1, by omega⟩
    rw [iter]
    have : air_table_row_L0 N m T c d (toI none) (splitR c) ((splitR c).1.Prefix ++ (splitR c).1.Suffix) b ((0 : Nat) : Int) = some (.done ((0 : Nat) : Int)) := by
     unfold air_table_row_L0
     rw [decide_eq_false (by decide), cond_false]
    rw [this]
    rfl
   | succ k ih =>
    intro M hM hk
    obtain ⟨M, rfl⟩ : ∃ M', M = M' + 1 := ⟨M - 1, by omega⟩
    rw [iter]
    have : air_table_row_L0 N m T c d (toI none) (splitR c) ((splitR c).1.Prefix ++ (splitR c).1.Suffix) b ((k + 1 : Nat) : Int) = some (match atK T { text_ := b.take (k + 1), whole_ := false } d with | some i => .ret (i : Int) | none => .next (k : Int)) := by
     unfold air_table_row_L0
     rw [decide_eq_true (by omega), cond_true, ssub0 hk, Option.bind_some, s_row1 hm h hN, Option.bind_some, toI_ge, w64p (k + 1) (by omega) (by omega)]
     cases atK T { text_ := b.take (k + 1), whole_ := false } d <;> rfl
    rw [this]
    unfold downF
    cases atK T { text_ := b.take (k + 1), whole_ := false } d with
    | some i => rfl
    | none => exact ih M (by omega) (by omega)
  exact loop b.length N (by omega) (Nat.le_refl _)
def rowOfS (T : List Prefix) (c : List UInt8) (d : Int) : Int × Int := if wrongT T c d = 0 then (match findS T c d with | some i => ((i : Int), 0) | none => (0, 3)) else (0, wrongT T c d)
theorem wrongT_ok {c : List UInt8} {d : Int} (h : wrongT T c d = 0) : validT T = true ∧ validS c = true ∧ inI d 0 99999 = true := by
 unfold wrongT at h
 split at h
 ·split at h
  ·split at h
   ·exact ⟨by assumption, by assumption, by assumption⟩
   ·omega
  ·omega
 ·omega
theorem s_RowOf (hT : fitT N T) (hN : 4294967300 < N) (c : List UInt8) (d : Int) : air_RowOf N T c d = some (rowOfS T c d) := by
 unfold air_RowOf rowOfS
 rw [s_wrongT hT hN, Option.bind_some]
 by_cases hw : wrongT T c d = 0
 ·rw [if_pos hw, hw, show ((0 : Int) != 0) = false from rfl, cond_false]
  have hr := (validT_iff.1 (wrongT_ok hw).1).1
  obtain ⟨h400, _⟩ := rowsB_ok hr
  obtain ⟨m, hm, hk⟩ := s_tableOf (N := N) h400 hN
  rw [hm, Option.bind_some, s_table_row hk h400 hN, Option.bind_some, toI_neg]
  cases findS T c d <;> rfl
 ·rw [if_neg hw, show (wrongT T c d != 0) = true by simpa using hw, cond_true]
end
end Go.Proofs.YtlddakefmfcblaaGreatDoor
namespace Go.Proofs.YtlddakefmfcblaaGreatDoor
open Go.Proofs
def law01_awake (N : Nat)  : Option Bool :=
 ((air_Split N ([71, 51, 47, 77, 48, 65, 66, 47, 80] : List UInt8)).bind fun r1 => ((air_PrefixOf N ([87, 49, 65, 87, 47, 52] : List UInt8)).bind fun r14 => ((air_PrintTime N 1505).bind fun r22 => ((air_ParseTime N ([50, 32, 48, 49, 48, 53] : List UInt8)).bind fun r30 => ((air_Nearest N ([({ ID := 1, Lo := 1800, Hi := 2000 } : Band), ({ ID := 2, Lo := 3500, Hi := 3800 } : Band)]) 2750).bind fun r47 => ((bif (r1.2 == 0) then (bif ((r1.1.Area == ([71, 51] : List UInt8)) && ((r1.1.Prefix == ([77, 48] : List UInt8)) && ((r1.1.Suffix == ([65, 66] : List UInt8)) && ((r1.1.Stroke == ([80] : List UInt8)) && true)))) then (bif (r14.2 == 0) then (bif (r14.1 == ([87, 52] : List UInt8)) then (bif (r22.2 == 0) then (bif (r22.1 == ([50, 32, 48, 49, 48, 53] : List UInt8)) then (bif (r30.2 == 0) then (bif (r30.1 == 1505) then (bif (r47.2.2 == 0) then (bif (r47.1 == 1) then (bif (r47.2.1 == 750) then ((air_ValidCall N ([68, 76, 49, 65, 47, 87, 49, 65] : List UInt8)).bind fun r85 => some (!r85)) else some false) else some false) else some false) else some false) else some false) else some false) else some false) else some false) else some false) else some false) else some false).bind fun j58 => some j58))))))
theorem co_law01_awake : CallOk Tryz.prog 17 := fun _ _ => by kernel_rfl
set_option maxHeartbeats 4000000 in
set_option maxRecDepth 100000 in
theorem c_law01_awake (N : Nat) (w0 : World) (F0 : Mem) (hF : ∀ b o, F0 b = some o → w0.heap[b]? = some o) (hG : Glob F0)  (r : Bool) (h : law01_awake N  = some r) :
  Calls Tryz.prog 17 ([] : List Value).toArray w0 (FRet w0 F0 fun F' v => v = (.bool r)) := by
 have hs0 := HS.start hF
 refine calls_of (n := 85) (c := bodyOf Tryz.f17) Tryz.func17 (by kernel_rfl) (by kernel_rfl) (by kernel_rfl) ?_
 refine Sq (Rg [0] ?_)
 refine V 0 4 (mc (.bool false) (.bool false)) ?_
 refine Nss (Rg [0, 1, 2, 3, 4, 5, 6] ?_)
 obtain ⟨r1, hr2, h3⟩ := bind_some h
 refine Cl 14 28 19 #[(.const (.string ⟨([71, 51, 47, 77, 48, 65, 66, 47, 80] : List UInt8).toArray⟩))] #[9] co_air_Split hs0 (c_air_Split N w0 F0 hs0.pers hG (([71, 51, 47, 77, 48, 65, 66, 47, 80] : List UInt8)) _ hr2) ?_
 intro v4 F1 w5 hs6 le7 hp8
 obtain rfl := hp8
 refine V 13 28 (mv 14 (.tuple #[(.agg #[(.string ⟨(r1.1.Area).toArray⟩), (.string ⟨(r1.1.Prefix).toArray⟩), (.string ⟨(r1.1.Suffix).toArray⟩), (.string ⟨(r1.1.Stroke).toArray⟩)]), (vi r1.2)])) ?_
 refine V 15 27 (ex 13 0 (.agg #[(.string ⟨(r1.1.Area).toArray⟩), (.string ⟨(r1.1.Prefix).toArray⟩), (.string ⟨(r1.1.Suffix).toArray⟩), (.string ⟨(r1.1.Stroke).toArray⟩)]) (vs := #[(.agg #[(.string ⟨(r1.1.Area).toArray⟩), (.string ⟨(r1.1.Prefix).toArray⟩), (.string ⟨(r1.1.Suffix).toArray⟩), (.string ⟨(r1.1.Stroke).toArray⟩)]), (vi r1.2)])) ?_
 refine V 16 23 (ex 13 1 (vi r1.2) (vs := #[(.agg #[(.string ⟨(r1.1.Area).toArray⟩), (.string ⟨(r1.1.Prefix).toArray⟩), (.string ⟨(r1.1.Suffix).toArray⟩), (.string ⟨(r1.1.Stroke).toArray⟩)]), (vi r1.2)])) ?_
 refine Al 1 0 27 #[(.string ⟨(([] : List UInt8)).toArray⟩), (.string ⟨(([] : List UInt8)).toArray⟩), (.string ⟨(([] : List UInt8)).toArray⟩), (.string ⟨(([] : List UInt8)).toArray⟩)] hs6 (fun b9 w10 (hs11 : HS w0 F0 w10 F1 [(sb b9 #[(.string ⟨(([] : List UInt8)).toArray⟩), (.string ⟨(([] : List UInt8)).toArray⟩), (.string ⟨(([] : List UInt8)).toArray⟩), (.string ⟨(([] : List UInt8)).toArray⟩)] 27)]) => ?_)
 refine RWP.store (ty := 0) (g := none) (by kernel_rfl) rfl (x := (.tmp 1)) (y := (.tmp 15)) (t := 27) (gg := true) (s := 4) (v := (.agg #[(.string ⟨(r1.1.Area).toArray⟩), (.string ⟨(r1.1.Prefix).toArray⟩), (.string ⟨(r1.1.Suffix).toArray⟩), (.string ⟨(r1.1.Stroke).toArray⟩)])) (b := b9) (o := 0) (C := #[(.string ⟨(([] : List UInt8)).toArray⟩), (.string ⟨(([] : List UInt8)).toArray⟩), (.string ⟨(([] : List UInt8)).toArray⟩), (.string ⟨(([] : List UInt8)).toArray⟩)]) rfl rfl (by kernel_rfl) hs11 (k := 0) rfl rfl rfl rfl (C' := #[(.string ⟨(r1.1.Area).toArray⟩), (.string ⟨(r1.1.Prefix).toArray⟩), (.string ⟨(r1.1.Suffix).toArray⟩), (.string ⟨(r1.1.Stroke).toArray⟩)]) rfl (fun w12 (hs13 : HS w0 F0 w12 F1 [(sb b9 #[(.string ⟨(r1.1.Area).toArray⟩), (.string ⟨(r1.1.Prefix).toArray⟩), (.string ⟨(r1.1.Suffix).toArray⟩), (.string ⟨(r1.1.Stroke).toArray⟩)] 27)]) => ?_)
 refine V 2 23 (ma 16 (vi r1.2)) ?_
 refine Nss (Rg [0, 1, 2, 3, 4, 5] ?_)
 obtain ⟨r14, hr15, h16⟩ := bind_some h3
 refine Cl 18 24 18 #[(.const (.string ⟨([87, 49, 65, 87, 47, 52] : List UInt8).toArray⟩))] #[9] co_air_PrefixOf hs13 (c_air_PrefixOf N w12 F1 hs13.pers (hG.mono le7) (([87, 49, 65, 87, 47, 52] : List UInt8)) _ hr15) ?_
 intro v17 F2 w18 hs19 le20 hp21
 obtain rfl := hp21
 refine V 17 24 (mv 18 (.tuple #[(.string ⟨(r14.1).toArray⟩), (vi r14.2)])) ?_
 refine V 19 9 (ex 17 0 (.string ⟨(r14.1).toArray⟩) (vs := #[(.string ⟨(r14.1).toArray⟩), (vi r14.2)])) ?_
 refine V 20 23 (ex 17 1 (vi r14.2) (vs := #[(.string ⟨(r14.1).toArray⟩), (vi r14.2)])) ?_
 refine V 3 9 (ma 19 (.string ⟨(r14.1).toArray⟩)) ?_
 refine V 4 23 (ma 20 (vi r14.2)) ?_
 refine Nss (Rg [0, 1, 2, 3, 4, 5] ?_)
 obtain ⟨r22, hr23, h24⟩ := bind_some h16
 refine Cl 22 24 28 #[(.const (vi 1505))] #[3] co_air_PrintTime hs19 (c_air_PrintTime N w18 F2 hs19.pers (hG.mono (le7.trans le20)) (1505) _ hr23) ?_
 intro v25 F3 w26 hs27 le28 hp29
 obtain rfl := hp29
 refine V 21 24 (mv 22 (.tuple #[(.string ⟨(r22.1).toArray⟩), (vi r22.2)])) ?_
 refine V 23 9 (ex 21 0 (.string ⟨(r22.1).toArray⟩) (vs := #[(.string ⟨(r22.1).toArray⟩), (vi r22.2)])) ?_
 refine V 24 23 (ex 21 1 (vi r22.2) (vs := #[(.string ⟨(r22.1).toArray⟩), (vi r22.2)])) ?_
 refine V 5 9 (ma 23 (.string ⟨(r22.1).toArray⟩)) ?_
 refine V 6 23 (ma 24 (vi r22.2)) ?_
 refine Nss (Rg [0, 1, 2, 3, 4, 5] ?_)
 obtain ⟨r30, hr31, h32⟩ := bind_some h24
 refine Cl 26 33 30 #[(.const (.string ⟨([50, 32, 48, 49, 48, 53] : List UInt8).toArray⟩))] #[9] co_air_ParseTime hs27 (c_air_ParseTime N w26 F3 hs27.pers (hG.mono ((le7.trans le20).trans le28)) (([50, 32, 48, 49, 48, 53] : List UInt8)) _ hr31) ?_
 intro v33 F4 w34 hs35 le36 hp37
 obtain rfl := hp37
 refine V 25 33 (mv 26 (.tuple #[(vi r30.1), (vi r30.2)])) ?_
 refine V 27 3 (ex 25 0 (vi r30.1) (vs := #[(vi r30.1), (vi r30.2)])) ?_
 refine V 28 23 (ex 25 1 (vi r30.2) (vs := #[(vi r30.1), (vi r30.2)])) ?_
 refine V 7 3 (ma 27 (vi r30.1)) ?_
 refine V 8 23 (ma 28 (vi r30.2)) ?_
 refine Nss (Rg [0, 1, 2, 3] ?_)
 refine V 29 40 (run_build2 (t := 40) (parts := #[(0, (.const (vi 1))), (1, (.const (vi 1800))), (2, (.const (vi 2000)))]) (vs := [(0, (vi 1)), (1, (vi 1800)), (2, (vi 2000))]) (rfl) (cs := [(vi 1), (vi 1800), (vi 2000)]) (by kernel_rfl)) ?_
 refine V 30 40 (run_build2 (t := 40) (parts := #[(0, (.const (vi 2))), (1, (.const (vi 3500))), (2, (.const (vi 3800)))]) (vs := [(0, (vi 2)), (1, (vi 3500)), (2, (vi 3800))]) (rfl) (cs := [(vi 2), (vi 3500), (vi 3800)]) (by kernel_rfl)) ?_
 refine RWP.buildSlice (dst := (some 31)) (ty := 32) (g := none) (by kernel_rfl) rfl (t := 32) (len := 2) (parts := #[(0, (.tmp 29)), (1, (.tmp 30))]) (vs := [(0, (.agg #[(vi 1), (vi 1800), (vi 2000)])), (1, (.agg #[(vi 2), (vi 3500), (vi 3800)]))]) (rfl) (E := 40) (cs := [(vi 1), (vi 1800), (vi 2000), (vi 2), (vi 3500), (vi 3800)]) (by kernel_rfl) hs35 (fun b38 w39 (hs40 : HS w0 F0 w39 F4 [(some b38, .cells ([(vi 1), (vi 1800), (vi 2000), (vi 2), (vi 3500), (vi 3800)] : List Value).toArray 40 (0, 0)), (sb b9 #[(.string ⟨(r1.1.Area).toArray⟩), (.string ⟨(r1.1.Prefix).toArray⟩), (.string ⟨(r1.1.Suffix).toArray⟩), (.string ⟨(r1.1.Stroke).toArray⟩)] 27)]) => ?_)
 have hr42 : RowR tBand 40 F4 (some ⟨b38, 0, none⟩) 2 [({ ID := 1, Lo := 1800, Hi := 2000 } : Band), ({ ID := 2, Lo := 3500, Hi := 3800 } : Band)] (some b38, .cells ([(vi 1), (vi 1800), (vi 2000), (vi 2), (vi 3500), (vi 3800)] : List Value).toArray 40 (0, 0)) := RowR.lit ⟨rfl, ⟨rfl, rfl⟩⟩ (by simp)
 refine V 9 32 (ma 31 (.slice (some ⟨b38, 0, none⟩) [({ ID := 1, Lo := 1800, Hi := 2000 } : Band), ({ ID := 2, Lo := 3500, Hi := 3800 } : Band)].length 2)) ?_
 refine Nss (Rg [0, 1, 2, 3, 4, 5, 6, 7, 8] ?_)
 refine V 33 32 (mv 9 (.slice (some ⟨b38, 0, none⟩) [({ ID := 1, Lo := 1800, Hi := 2000 } : Band), ({ ID := 2, Lo := 3500, Hi := 3800 } : Band)].length 2)) ?_
 have hb46 := RowR.bound hr42
 obtain ⟨F5, hs43, le44, hs45⟩ : ∃ Fq, HS w0 F0 w39 Fq [(sb b9 #[(.string ⟨(r1.1.Area).toArray⟩), (.string ⟨(r1.1.Prefix).toArray⟩), (.string ⟨(r1.1.Suffix).toArray⟩), (.string ⟨(r1.1.Stroke).toArray⟩)] 27)] ∧ Mem.le F4 Fq ∧ SlA tBand Fq (some ⟨b38, 0, none⟩) [({ ID := 1, Lo := 1800, Hi := 2000 } : Band), ({ ID := 2, Lo := 3500, Hi := 3800 } : Band)] := HS.freezeRow hs40 (k := 0) rfl hr42
 obtain ⟨r47, hr48, h49⟩ := bind_some h32
 refine Cl 34 35 24 #[(.tmp 33), (.const (vi 2750))] #[32, 3] co_air_Nearest hs43 (c_air_Nearest N w39 F5 hs43.pers ([({ ID := 1, Lo := 1800, Hi := 2000 } : Band), ({ ID := 2, Lo := 3500, Hi := 3800 } : Band)]) (some ⟨b38, 0, none⟩) 2 hb46 hs45 (2750) _ hr48) ?_
 intro v50 F6 w51 hs52 le53 hp54
 obtain rfl := hp54
 refine V 32 35 (mv 34 (.tuple #[(vi r47.1), (vi r47.2.1), (vi r47.2.2)])) ?_
 refine V 35 3 (ex 32 0 (vi r47.1) (vs := #[(vi r47.1), (vi r47.2.1), (vi r47.2.2)])) ?_
 refine V 36 3 (ex 32 1 (vi r47.2.1) (vs := #[(vi r47.1), (vi r47.2.1), (vi r47.2.2)])) ?_
 refine V 37 23 (ex 32 2 (vi r47.2.2) (vs := #[(vi r47.1), (vi r47.2.1), (vi r47.2.2)])) ?_
 refine V 10 3 (ma 35 (vi r47.1)) ?_
 refine V 11 3 (ma 36 (vi r47.2.1)) ?_
 refine V 12 23 (ma 37 (vi r47.2.2)) ?_
 refine Nss (Rg [0, 1, 2, 3, 4, 5, 6, 7, 8, 9, 10, 11, 12, 13, 14, 15, 16, 17, 18, 19, 20, 21, 22, 23, 24, 25, 26, 27, 28, 29, 30, 31, 32, 33, 34, 35, 36, 37, 38, 39, 40, 41, 42, 43, 44, 45, 46, 47] ?_)
 obtain ⟨j58, hj61, h62⟩ := bind_some h49
 refine RWP.cut (fun f w => ∃ (F7 : Mem), HS w0 F0 w F7 [] ∧ Mem.le F6 F7 ∧ f.d = [] ∧ f 0 = (.bool j58)) ?_ ?_
 ·refine V 38 23 (mv 2 (vi r1.2)) ?_
  refine V 39 4 (run_eql (t := 23) (t' := 23) (x := (.tmp 38)) (y := (.const (vi 0))) (k := .i64) (a := r1.2) (b := 0) rfl rfl) ?_
  refine V 40 4 (mv 39 (.bool (r1.2 == 0))) ?_
  refine RWP.split (r1.2 == 0) (fun hb63 => ?_) (fun hb63 => ?_)
  ·have h64 := cond_t hj61 hb63
   refine Vg 41 27 2 true 40 hb63 (ld 27 1 b9 0 true 4 (.agg #[(.string ⟨(r1.1.Area).toArray⟩), (.string ⟨(r1.1.Prefix).toArray⟩), (.string ⟨(r1.1.Suffix).toArray⟩), (.string ⟨(r1.1.Stroke).toArray⟩)]) (hs52.ownAt (k := 0) rfl)) ?_
   refine Vg 42 27 2 true 40 hb63 (run_build2 (t := 27) (parts := #[(0, (.const (.string ⟨([71, 51] : List UInt8).toArray⟩))), (1, (.const (.string ⟨([77, 48] : List UInt8).toArray⟩))), (2, (.const (.string ⟨([65, 66] : List UInt8).toArray⟩))), (3, (.const (.string ⟨([80] : List UInt8).toArray⟩)))]) (vs := [(0, (.string ⟨(([71, 51] : List UInt8)).toArray⟩)), (1, (.string ⟨(([77, 48] : List UInt8)).toArray⟩)), (2, (.string ⟨(([65, 66] : List UInt8)).toArray⟩)), (3, (.string ⟨(([80] : List UInt8)).toArray⟩))]) (rfl) (cs := [(.string ⟨(([71, 51] : List UInt8)).toArray⟩), (.string ⟨(([77, 48] : List UInt8)).toArray⟩), (.string ⟨(([65, 66] : List UInt8)).toArray⟩), (.string ⟨(([80] : List UInt8)).toArray⟩)]) (by kernel_rfl)) ?_
   refine Vg 43 4 2 true 40 hb63 (run_eqs (t := 27) (t' := 27) (x := (.tmp 41)) (y := (.tmp 42)) (xs := #[(.string ⟨(r1.1.Area).toArray⟩), (.string ⟨(r1.1.Prefix).toArray⟩), (.string ⟨(r1.1.Suffix).toArray⟩), (.string ⟨(r1.1.Stroke).toArray⟩)]) (ys := #[(.string ⟨(([71, 51] : List UInt8)).toArray⟩), (.string ⟨(([77, 48] : List UInt8)).toArray⟩), (.string ⟨(([65, 66] : List UInt8)).toArray⟩), (.string ⟨(([80] : List UInt8)).toArray⟩)]) (b := ((r1.1.Area == ([71, 51] : List UInt8)) && ((r1.1.Prefix == ([77, 48] : List UInt8)) && ((r1.1.Suffix == ([65, 66] : List UInt8)) && ((r1.1.Stroke == ([80] : List UInt8)) && true))))) rfl rfl (by kernel_rfl) (by kernel_rfl)) ?_
   refine V 44 4 (p1 40 (.tmp 43) (.const (.bool false)) (.bool ((r1.1.Area == ([71, 51] : List UInt8)) && ((r1.1.Prefix == ([77, 48] : List UInt8)) && ((r1.1.Suffix == ([65, 66] : List UInt8)) && ((r1.1.Stroke == ([80] : List UInt8)) && true))))) hb63) ?_
   refine V 45 4 (mv 44 (.bool ((r1.1.Area == ([71, 51] : List UInt8)) && ((r1.1.Prefix == ([77, 48] : List UInt8)) && ((r1.1.Suffix == ([65, 66] : List UInt8)) && ((r1.1.Stroke == ([80] : List UInt8)) && true)))))) ?_
   refine RWP.split ((r1.1.Area == ([71, 51] : List UInt8)) && ((r1.1.Prefix == ([77, 48] : List UInt8)) && ((r1.1.Suffix == ([65, 66] : List UInt8)) && ((r1.1.Stroke == ([80] : List UInt8)) && true)))) (fun hb65 => ?_) (fun hb65 => ?_)
   ·have h66 := cond_t h64 hb65
    refine Vg 46 23 7 true 45 hb65 (mv 4 (vi r14.2)) ?_
    refine Vg 47 4 7 true 45 hb65 (run_eql (t := 23) (t' := 23) (x := (.tmp 46)) (y := (.const (vi 0))) (k := .i64) (a := r14.2) (b := 0) rfl rfl) ?_
    refine V 48 4 (p1 45 (.tmp 47) (.const (.bool false)) (.bool (r14.2 == 0)) hb65) ?_
    refine V 49 4 (mv 48 (.bool (r14.2 == 0))) ?_
    refine RWP.split (r14.2 == 0) (fun hb67 => ?_) (fun hb67 => ?_)
    ·have h68 := cond_t h66 hb67
     refine Vg 50 9 11 true 49 hb67 (mv 3 (.string ⟨(r14.1).toArray⟩)) ?_
     refine Vg 51 4 11 true 49 hb67 (run_scmp (t := 9) (t' := 9) (x := (.tmp 50)) (y := (.const (.string ⟨([87, 52] : List UInt8).toArray⟩))) (op := .eql) (a := r14.1) (b := ([87, 52] : List UInt8)) (v := (r14.1 == ([87, 52] : List UInt8))) rfl rfl rfl) ?_
     refine V 52 4 (p1 49 (.tmp 51) (.const (.bool false)) (.bool (r14.1 == ([87, 52] : List UInt8))) hb67) ?_
     refine V 53 4 (mv 52 (.bool (r14.1 == ([87, 52] : List UInt8)))) ?_
     refine RWP.split (r14.1 == ([87, 52] : List UInt8)) (fun hb69 => ?_) (fun hb69 => ?_)
     ·have h70 := cond_t h68 hb69
      refine Vg 54 23 15 true 53 hb69 (mv 6 (vi r22.2)) ?_
      refine Vg 55 4 15 true 53 hb69 (run_eql (t := 23) (t' := 23) (x := (.tmp 54)) (y := (.const (vi 0))) (k := .i64) (a := r22.2) (b := 0) rfl rfl) ?_
      refine V 56 4 (p1 53 (.tmp 55) (.const (.bool false)) (.bool (r22.2 == 0)) hb69) ?_
      refine V 57 4 (mv 56 (.bool (r22.2 == 0))) ?_
      refine RWP.split (r22.2 == 0) (fun hb71 => ?_) (fun hb71 => ?_)
      ·have h72 := cond_t h70 hb71
       refine Vg 58 9 19 true 57 hb71 (mv 5 (.string ⟨(r22.1).toArray⟩)) ?_
       refine Vg 59 4 19 true 57 hb71 (run_scmp (t := 9) (t' := 9) (x := (.tmp 58)) (y := (.const (.string ⟨([50, 32, 48, 49, 48, 53] : List UInt8).toArray⟩))) (op := .eql) (a := r22.1) (b := ([50, 32, 48, 49, 48, 53] : List UInt8)) (v := (r22.1 == ([50, 32, 48, 49, 48, 53] : List UInt8))) rfl rfl rfl) ?_
       refine V 60 4 (p1 57 (.tmp 59) (.const (.bool false)) (.bool (r22.1 == ([50, 32, 48, 49, 48, 53] : List UInt8))) hb71) ?_
       refine V 61 4 (mv 60 (.bool (r22.1 == ([50, 32, 48, 49, 48, 53] : List UInt8)))) ?_
       refine RWP.split (r22.1 == ([50, 32, 48, 49, 48, 53] : List UInt8)) (fun hb73 => ?_) (fun hb73 => ?_)
       ·have h74 := cond_t h72 hb73
        refine Vg 62 23 23 true 61 hb73 (mv 8 (vi r30.2)) ?_
        refine Vg 63 4 23 true 61 hb73 (run_eql (t := 23) (t' := 23) (x := (.tmp 62)) (y := (.const (vi 0))) (k := .i64) (a := r30.2) (b := 0) rfl rfl) ?_
        refine V 64 4 (p1 61 (.tmp 63) (.const (.bool false)) (.bool (r30.2 == 0)) hb73) ?_
        refine V 65 4 (mv 64 (.bool (r30.2 == 0))) ?_
        refine RWP.split (r30.2 == 0) (fun hb75 => ?_) (fun hb75 => ?_)
        ·have h76 := cond_t h74 hb75
         refine Vg 66 3 27 true 65 hb75 (mv 7 (vi r30.1)) ?_
         refine Vg 67 4 27 true 65 hb75 (run_eql (t := 3) (t' := 3) (x := (.tmp 66)) (y := (.const (vi 1505))) (k := .i64) (a := r30.1) (b := 1505) rfl rfl) ?_
         refine V 68 4 (p1 65 (.tmp 67) (.const (.bool false)) (.bool (r30.1 == 1505)) hb75) ?_
         refine V 69 4 (mv 68 (.bool (r30.1 == 1505))) ?_
         refine RWP.split (r30.1 == 1505) (fun hb77 => ?_) (fun hb77 => ?_)
         ·have h78 := cond_t h76 hb77
          refine Vg 70 23 31 true 69 hb77 (mv 12 (vi r47.2.2)) ?_
          refine Vg 71 4 31 true 69 hb77 (run_eql (t := 23) (t' := 23) (x := (.tmp 70)) (y := (.const (vi 0))) (k := .i64) (a := r47.2.2) (b := 0) rfl rfl) ?_
          refine V 72 4 (p1 69 (.tmp 71) (.const (.bool false)) (.bool (r47.2.2 == 0)) hb77) ?_
          refine V 73 4 (mv 72 (.bool (r47.2.2 == 0))) ?_
          refine RWP.split (r47.2.2 == 0) (fun hb79 => ?_) (fun hb79 => ?_)
          ·have h80 := cond_t h78 hb79
           refine Vg 74 3 35 true 73 hb79 (mv 10 (vi r47.1)) ?_
           refine Vg 75 4 35 true 73 hb79 (run_eql (t := 3) (t' := 3) (x := (.tmp 74)) (y := (.const (vi 1))) (k := .i64) (a := r47.1) (b := 1) rfl rfl) ?_
           refine V 76 4 (p1 73 (.tmp 75) (.const (.bool false)) (.bool (r47.1 == 1)) hb79) ?_
           refine V 77 4 (mv 76 (.bool (r47.1 == 1))) ?_
           refine RWP.split (r47.1 == 1) (fun hb81 => ?_) (fun hb81 => ?_)
           ·have h82 := cond_t h80 hb81
            refine Vg 78 3 39 true 77 hb81 (mv 11 (vi r47.2.1)) ?_
            refine Vg 79 4 39 true 77 hb81 (run_eql (t := 3) (t' := 3) (x := (.tmp 78)) (y := (.const (vi 750))) (k := .i64) (a := r47.2.1) (b := 750) rfl rfl) ?_
            refine V 80 4 (p1 77 (.tmp 79) (.const (.bool false)) (.bool (r47.2.1 == 750)) hb81) ?_
            refine V 81 4 (mv 80 (.bool (r47.2.1 == 750))) ?_
            refine RWP.split (r47.2.1 == 750) (fun hb83 => ?_) (fun hb83 => ?_)
            ·have h84 := cond_t h82 hb83
             obtain ⟨r85, hr86, h87⟩ := bind_some h84
             refine RWP.call (dst := (some 82)) (ty := 4) (g := (some (43, true))) (by kernel_rfl) (gd_y (d := 81) (by kernel_rfl) rfl hb83) (f0 := (.func 37)) (aos := #[(.const (.string ⟨([68, 76, 49, 65, 47, 87, 49, 65] : List UInt8).toArray⟩))]) (ats := #[9]) (fid := 37) (first := #[]) (cap := #[]) (args := [(.string ⟨(([68, 76, 49, 65, 47, 87, 49, 65] : List UInt8)).toArray⟩)]) rfl co_air_ValidCall (rfl) hs52 (c_air_ValidCall N w51 F6 hs52.pers (hG.mono (((((le7.trans le20).trans le28).trans le36).trans le44).trans le53)) (([68, 76, 49, 65, 47, 87, 49, 65] : List UInt8)) _ hr86) ?_
             intro v88 F8 w89 hs90 le91 hp92
             obtain rfl := hp92
             refine Vg 83 4 43 true 81 hb83 (run_not (t := 4) (x := (.tmp 82)) (a := r85) rfl) ?_
             refine V 84 4 (p1 81 (.tmp 83) (.const (.bool false)) (.bool (!r85)) hb83) ?_
             refine V 0 4 (ma 84 (.bool (!r85))) ?_
             obtain rfl := some_inj h87
             have hs93 : HS w0 F0 w89 F8 [] := hs90.drop 0
             exact RWP.nil ⟨rfl, F8, hs93, le91, rfl, rfl⟩
            ·have h94 := cond_f h82 hb83
             refine Sk [82, 83] 43 true 81 hb83 ?_
             refine V 84 4 (p0 81 (.tmp 83) (.const (.bool false)) (.bool false) hb83) ?_
             refine V 0 4 (ma 84 (.bool false)) ?_
             obtain rfl := some_inj h94
             have hs95 : HS w0 F0 w51 F6 [] := hs52.drop 0
             exact RWP.nil ⟨rfl, F6, hs95, (Mem.le.refl _), rfl, rfl⟩
           ·have h96 := cond_f h80 hb81
            refine Sk [78, 79] 39 true 77 hb81 ?_
            refine V 80 4 (p0 77 (.tmp 79) (.const (.bool false)) (.bool false) hb81) ?_
            refine V 81 4 (mv 80 (.bool false)) ?_
            refine Sk [82, 83] 43 true 81 rfl ?_
            refine V 84 4 (p0 81 (.tmp 83) (.const (.bool false)) (.bool false) rfl) ?_
            refine V 0 4 (ma 84 (.bool false)) ?_
            obtain rfl := some_inj h96
            have hs97 : HS w0 F0 w51 F6 [] := hs52.drop 0
            exact RWP.nil ⟨rfl, F6, hs97, (Mem.le.refl _), rfl, rfl⟩
          ·have h98 := cond_f h78 hb79
           refine Sk [74, 75] 35 true 73 hb79 ?_
           refine V 76 4 (p0 73 (.tmp 75) (.const (.bool false)) (.bool false) hb79) ?_
           refine V 77 4 (mv 76 (.bool false)) ?_
           refine Sk [78, 79] 39 true 77 rfl ?_
           refine V 80 4 (p0 77 (.tmp 79) (.const (.bool false)) (.bool false) rfl) ?_
           refine V 81 4 (mv 80 (.bool false)) ?_
           refine Sk [82, 83] 43 true 81 rfl ?_
           refine V 84 4 (p0 81 (.tmp 83) (.const (.bool false)) (.bool false) rfl) ?_
           refine V 0 4 (ma 84 (.bool false)) ?_
           obtain rfl := some_inj h98
           have hs99 : HS w0 F0 w51 F6 [] := hs52.drop 0
           exact RWP.nil ⟨rfl, F6, hs99, (Mem.le.refl _), rfl, rfl⟩
         ·have h100 := cond_f h76 hb77
          refine Sk [70, 71] 31 true 69 hb77 ?_
          refine V 72 4 (p0 69 (.tmp 71) (.const (.bool false)) (.bool false) hb77) ?_
          refine V 73 4 (mv 72 (.bool false)) ?_
          refine Sk [74, 75] 35 true 73 rfl ?_
          refine V 76 4 (p0 73 (.tmp 75) (.const (.bool false)) (.bool false) rfl) ?_
          refine V 77 4 (mv 76 (.bool false)) ?_
          refine Sk [78, 79] 39 true 77 rfl ?_
          refine V 80 4 (p0 77 (.tmp 79) (.const (.bool false)) (.bool false) rfl) ?_
          refine V 81 4 (mv 80 (.bool false)) ?_
          refine Sk [82, 83] 43 true 81 rfl ?_
          refine V 84 4 (p0 81 (.tmp 83) (.const (.bool false)) (.bool false) rfl) ?_
          refine V 0 4 (ma 84 (.bool false)) ?_
          obtain rfl := some_inj h100
          have hs101 : HS w0 F0 w51 F6 [] := hs52.drop 0
          exact RWP.nil ⟨rfl, F6, hs101, (Mem.le.refl _), rfl, rfl⟩
        ·have h102 := cond_f h74 hb75
         refine Sk [66, 67] 27 true 65 hb75 ?_
         refine V 68 4 (p0 65 (.tmp 67) (.const (.bool false)) (.bool false) hb75) ?_
         refine V 69 4 (mv 68 (.bool false)) ?_
         refine Sk [70, 71] 31 true 69 rfl ?_
         refine V 72 4 (p0 69 (.tmp 71) (.const (.bool false)) (.bool false) rfl) ?_
         refine V 73 4 (mv 72 (.bool false)) ?_
         refine Sk [74, 75] 35 true 73 rfl ?_
         refine V 76 4 (p0 73 (.tmp 75) (.const (.bool false)) (.bool false) rfl) ?_
         refine V 77 4 (mv 76 (.bool false)) ?_
         refine Sk [78, 79] 39 true 77 rfl ?_
         refine V 80 4 (p0 77 (.tmp 79) (.const (.bool false)) (.bool false) rfl) ?_
         refine V 81 4 (mv 80 (.bool false)) ?_
         refine Sk [82, 83] 43 true 81 rfl ?_
         refine V 84 4 (p0 81 (.tmp 83) (.const (.bool false)) (.bool false) rfl) ?_
         refine V 0 4 (ma 84 (.bool false)) ?_
         obtain rfl := some_inj h102
         have hs103 : HS w0 F0 w51 F6 [] := hs52.drop 0
         exact RWP.nil ⟨rfl, F6, hs103, (Mem.le.refl _), rfl, rfl⟩
       ·have h104 := cond_f h72 hb73
        refine Sk [62, 63] 23 true 61 hb73 ?_
        refine V 64 4 (p0 61 (.tmp 63) (.const (.bool false)) (.bool false) hb73) ?_
        refine V 65 4 (mv 64 (.bool false)) ?_
        refine Sk [66, 67] 27 true 65 rfl ?_
        refine V 68 4 (p0 65 (.tmp 67) (.const (.bool false)) (.bool false) rfl) ?_
        refine V 69 4 (mv 68 (.bool false)) ?_
        refine Sk [70, 71] 31 true 69 rfl ?_
        refine V 72 4 (p0 69 (.tmp 71) (.const (.bool false)) (.bool false) rfl) ?_
        refine V 73 4 (mv 72 (.bool false)) ?_
        refine Sk [74, 75] 35 true 73 rfl ?_
        refine V 76 4 (p0 73 (.tmp 75) (.const (.bool false)) (.bool false) rfl) ?_
        refine V 77 4 (mv 76 (.bool false)) ?_
        refine Sk [78, 79] 39 true 77 rfl ?_
        refine V 80 4 (p0 77 (.tmp 79) (.const (.bool false)) (.bool false) rfl) ?_
        refine V 81 4 (mv 80 (.bool false)) ?_
        refine Sk [82, 83] 43 true 81 rfl ?_
        refine V 84 4 (p0 81 (.tmp 83) (.const (.bool false)) (.bool false) rfl) ?_
        refine V 0 4 (ma 84 (.bool false)) ?_
        obtain rfl := some_inj h104
        have hs105 : HS w0 F0 w51 F6 [] := hs52.drop 0
        exact RWP.nil ⟨rfl, F6, hs105, (Mem.le.refl _), rfl, rfl⟩
      ·have h106 := cond_f h70 hb71
       refine Sk [58, 59] 19 true 57 hb71 ?_
       refine V 60 4 (p0 57 (.tmp 59) (.const (.bool false)) (.bool false) hb71) ?_
       refine V 61 4 (mv 60 (.bool false)) ?_
       refine Sk [62, 63] 23 true 61 rfl ?_
       refine V 64 4 (p0 61 (.tmp 63) (.const (.bool false)) (.bool false) rfl) ?_
       refine V 65 4 (mv 64 (.bool false)) ?_
       refine Sk [66, 67] 27 true 65 rfl ?_
       refine V 68 4 (p0 65 (.tmp 67) (.const (.bool false)) (.bool false) rfl) ?_
       refine V 69 4 (mv 68 (.bool false)) ?_
       refine Sk [70, 71] 31 true 69 rfl ?_
       refine V 72 4 (p0 69 (.tmp 71) (.const (.bool false)) (.bool false) rfl) ?_
       refine V 73 4 (mv 72 (.bool false)) ?_
       refine Sk [74, 75] 35 true 73 rfl ?_
       refine V 76 4 (p0 73 (.tmp 75) (.const (.bool false)) (.bool false) rfl) ?_
       refine V 77 4 (mv 76 (.bool false)) ?_
       refine Sk [78, 79] 39 true 77 rfl ?_
       refine V 80 4 (p0 77 (.tmp 79) (.const (.bool false)) (.bool false) rfl) ?_
       refine V 81 4 (mv 80 (.bool false)) ?_
       refine Sk [82, 83] 43 true 81 rfl ?_
       refine V 84 4 (p0 81 (.tmp 83) (.const (.bool false)) (.bool false) rfl) ?_
       refine V 0 4 (ma 84 (.bool false)) ?_
       obtain rfl := some_inj h106
       have hs107 : HS w0 F0 w51 F6 [] := hs52.drop 0
       exact RWP.nil ⟨rfl, F6, hs107, (Mem.le.refl _), rfl, rfl⟩
     ·have h108 := cond_f h68 hb69
      refine Sk [54, 55] 15 true 53 hb69 ?_
      refine V 56 4 (p0 53 (.tmp 55) (.const (.bool false)) (.bool false) hb69) ?_
      refine V 57 4 (mv 56 (.bool false)) ?_
      refine Sk [58, 59] 19 true 57 rfl ?_
      refine V 60 4 (p0 57 (.tmp 59) (.const (.bool false)) (.bool false) rfl) ?_
      refine V 61 4 (mv 60 (.bool false)) ?_
      refine Sk [62, 63] 23 true 61 rfl ?_
      refine V 64 4 (p0 61 (.tmp 63) (.const (.bool false)) (.bool false) rfl) ?_
      refine V 65 4 (mv 64 (.bool false)) ?_
      refine Sk [66, 67] 27 true 65 rfl ?_
      refine V 68 4 (p0 65 (.tmp 67) (.const (.bool false)) (.bool false) rfl) ?_
      refine V 69 4 (mv 68 (.bool false)) ?_
      refine Sk [70, 71] 31 true 69 rfl ?_
      refine V 72 4 (p0 69 (.tmp 71) (.const (.bool false)) (.bool false) rfl) ?_
      refine V 73 4 (mv 72 (.bool false)) ?_
      refine Sk [74, 75] 35 true 73 rfl ?_
      refine V 76 4 (p0 73 (.tmp 75) (.const (.bool false)) (.bool false) rfl) ?_
      refine V 77 4 (mv 76 (.bool false)) ?_
      refine Sk [78, 79] 39 true 77 rfl ?_
      refine V 80 4 (p0 77 (.tmp 79) (.const (.bool false)) (.bool false) rfl) ?_
      refine V 81 4 (mv 80 (.bool false)) ?_
      refine Sk [82, 83] 43 true 81 rfl ?_
      refine V 84 4 (p0 81 (.tmp 83) (.const (.bool false)) (.bool false) rfl) ?_
      refine V 0 4 (ma 84 (.bool false)) ?_
      obtain rfl := some_inj h108
      have hs109 : HS w0 F0 w51 F6 [] := hs52.drop 0
      exact RWP.nil ⟨rfl, F6, hs109, (Mem.le.refl _), rfl, rfl⟩
    ·have h110 := cond_f h66 hb67
     refine Sk [50, 51] 11 true 49 hb67 ?_
     refine V 52 4 (p0 49 (.tmp 51) (.const (.bool false)) (.bool false) hb67) ?_
     refine V 53 4 (mv 52 (.bool false)) ?_
     refine Sk [54, 55] 15 true 53 rfl ?_
     refine V 56 4 (p0 53 (.tmp 55) (.const (.bool false)) (.bool false) rfl) ?_
     refine V 57 4 (mv 56 (.bool false)) ?_
     refine Sk [58, 59] 19 true 57 rfl ?_
     refine V 60 4 (p0 57 (.tmp 59) (.const (.bool false)) (.bool false) rfl) ?_
     refine V 61 4 (mv 60 (.bool false)) ?_
     refine Sk [62, 63] 23 true 61 rfl ?_
     refine V 64 4 (p0 61 (.tmp 63) (.const (.bool false)) (.bool false) rfl) ?_
     refine V 65 4 (mv 64 (.bool false)) ?_
     refine Sk [66, 67] 27 true 65 rfl ?_
     refine V 68 4 (p0 65 (.tmp 67) (.const (.bool false)) (.bool false) rfl) ?_
     refine V 69 4 (mv 68 (.bool false)) ?_
     refine Sk [70, 71] 31 true 69 rfl ?_
     refine V 72 4 (p0 69 (.tmp 71) (.const (.bool false)) (.bool false) rfl) ?_
     refine V 73 4 (mv 72 (.bool false)) ?_
     refine Sk [74, 75] 35 true 73 rfl ?_
     refine V 76 4 (p0 73 (.tmp 75) (.const (.bool false)) (.bool false) rfl) ?_
     refine V 77 4 (mv 76 (.bool false)) ?_
     refine Sk [78, 79] 39 true 77 rfl ?_
     refine V 80 4 (p0 77 (.tmp 79) (.const (.bool false)) (.bool false) rfl) ?_
     refine V 81 4 (mv 80 (.bool false)) ?_
     refine Sk [82, 83] 43 true 81 rfl ?_
     refine V 84 4 (p0 81 (.tmp 83) (.const (.bool false)) (.bool false) rfl) ?_
     refine V 0 4 (ma 84 (.bool false)) ?_
     obtain rfl := some_inj h110
     have hs111 : HS w0 F0 w51 F6 [] := hs52.drop 0
     exact RWP.nil ⟨rfl, F6, hs111, (Mem.le.refl _), rfl, rfl⟩
   ·have h112 := cond_f h64 hb65
    refine Sk [46, 47] 7 true 45 hb65 ?_
    refine V 48 4 (p0 45 (.tmp 47) (.const (.bool false)) (.bool false) hb65) ?_
    refine V 49 4 (mv 48 (.bool false)) ?_
    refine Sk [50, 51] 11 true 49 rfl ?_
    refine V 52 4 (p0 49 (.tmp 51) (.const (.bool false)) (.bool false) rfl) ?_
    refine V 53 4 (mv 52 (.bool false)) ?_
    refine Sk [54, 55] 15 true 53 rfl ?_
    refine V 56 4 (p0 53 (.tmp 55) (.const (.bool false)) (.bool false) rfl) ?_
    refine V 57 4 (mv 56 (.bool false)) ?_
    refine Sk [58, 59] 19 true 57 rfl ?_
    refine V 60 4 (p0 57 (.tmp 59) (.const (.bool false)) (.bool false) rfl) ?_
    refine V 61 4 (mv 60 (.bool false)) ?_
    refine Sk [62, 63] 23 true 61 rfl ?_
    refine V 64 4 (p0 61 (.tmp 63) (.const (.bool false)) (.bool false) rfl) ?_
    refine V 65 4 (mv 64 (.bool false)) ?_
    refine Sk [66, 67] 27 true 65 rfl ?_
    refine V 68 4 (p0 65 (.tmp 67) (.const (.bool false)) (.bool false) rfl) ?_
    refine V 69 4 (mv 68 (.bool false)) ?_
    refine Sk [70, 71] 31 true 69 rfl ?_
    refine V 72 4 (p0 69 (.tmp 71) (.const (.bool false)) (.bool false) rfl) ?_
    refine V 73 4 (mv 72 (.bool false)) ?_
    refine Sk [74, 75] 35 true 73 rfl ?_
    refine V 76 4 (p0 73 (.tmp 75) (.const (.bool false)) (.bool false) rfl) ?_
    refine V 77 4 (mv 76 (.bool false)) ?_
    refine Sk [78, 79] 39 true 77 rfl ?_
    refine V 80 4 (p0 77 (.tmp 79) (.const (.bool false)) (.bool false) rfl) ?_
    refine V 81 4 (mv 80 (.bool false)) ?_
    refine Sk [82, 83] 43 true 81 rfl ?_
    refine V 84 4 (p0 81 (.tmp 83) (.const (.bool false)) (.bool false) rfl) ?_
    refine V 0 4 (ma 84 (.bool false)) ?_
    obtain rfl := some_inj h112
    have hs113 : HS w0 F0 w51 F6 [] := hs52.drop 0
    exact RWP.nil ⟨rfl, F6, hs113, (Mem.le.refl _), rfl, rfl⟩
  ·have h114 := cond_f hj61 hb63
   refine Sk [41, 42, 43] 2 true 40 hb63 ?_
   refine V 44 4 (p0 40 (.tmp 43) (.const (.bool false)) (.bool false) hb63) ?_
   refine V 45 4 (mv 44 (.bool false)) ?_
   refine Sk [46, 47] 7 true 45 rfl ?_
   refine V 48 4 (p0 45 (.tmp 47) (.const (.bool false)) (.bool false) rfl) ?_
   refine V 49 4 (mv 48 (.bool false)) ?_
   refine Sk [50, 51] 11 true 49 rfl ?_
   refine V 52 4 (p0 49 (.tmp 51) (.const (.bool false)) (.bool false) rfl) ?_
   refine V 53 4 (mv 52 (.bool false)) ?_
   refine Sk [54, 55] 15 true 53 rfl ?_
   refine V 56 4 (p0 53 (.tmp 55) (.const (.bool false)) (.bool false) rfl) ?_
   refine V 57 4 (mv 56 (.bool false)) ?_
   refine Sk [58, 59] 19 true 57 rfl ?_
   refine V 60 4 (p0 57 (.tmp 59) (.const (.bool false)) (.bool false) rfl) ?_
   refine V 61 4 (mv 60 (.bool false)) ?_
   refine Sk [62, 63] 23 true 61 rfl ?_
   refine V 64 4 (p0 61 (.tmp 63) (.const (.bool false)) (.bool false) rfl) ?_
   refine V 65 4 (mv 64 (.bool false)) ?_
   refine Sk [66, 67] 27 true 65 rfl ?_
   refine V 68 4 (p0 65 (.tmp 67) (.const (.bool false)) (.bool false) rfl) ?_
   refine V 69 4 (mv 68 (.bool false)) ?_
   refine Sk [70, 71] 31 true 69 rfl ?_
   refine V 72 4 (p0 69 (.tmp 71) (.const (.bool false)) (.bool false) rfl) ?_
   refine V 73 4 (mv 72 (.bool false)) ?_
   refine Sk [74, 75] 35 true 73 rfl ?_
   refine V 76 4 (p0 73 (.tmp 75) (.const (.bool false)) (.bool false) rfl) ?_
   refine V 77 4 (mv 76 (.bool false)) ?_
   refine Sk [78, 79] 39 true 77 rfl ?_
   refine V 80 4 (p0 77 (.tmp 79) (.const (.bool false)) (.bool false) rfl) ?_
   refine V 81 4 (mv 80 (.bool false)) ?_
   refine Sk [82, 83] 43 true 81 rfl ?_
   refine V 84 4 (p0 81 (.tmp 83) (.const (.bool false)) (.bool false) rfl) ?_
   refine V 0 4 (ma 84 (.bool false)) ?_
   obtain rfl := some_inj h114
   have hs115 : HS w0 F0 w51 F6 [] := hs52.drop 0
   exact RWP.nil ⟨rfl, F6, hs115, (Mem.le.refl _), rfl, rfl⟩
 ·rintro f w55 ⟨F7, hs56, le57, e59, e60⟩
  refine thenQ_nrm ?_
  refine CWP.ret (by kernel_rfl) ?_
  have hfin := some_inj h62
  subst hfin
  exact ⟨e59, (.bool j58), res_of (l := [.tmp 0]) (by kernel_rfl) (vs := [(.bool j58)]) ⟨e60, trivial⟩, (.bool j58), F7, rfl, hs56.clear, rfl⟩
end Go.Proofs.YtlddakefmfcblaaGreatDoor
namespace Go.Proofs.YtlddakefmfcblaaGreatDoor
open Go.Lib (decDigits)
theorem aw1 : splitS [71, 51, 47, 77, 48, 65, 66, 47, 80] = ({ Area := [71, 51], Prefix := [77, 48], Suffix := [65, 66], Stroke := [80] }, 0) := by rfl
theorem aw2 : prefixS [87, 49, 65, 87, 47, 52] = ([87, 52], 0) := by rfl
theorem aw3 : tText 1505 = [50, 32, 48, 49, 48, 53] := by
 unfold tText dP
 rw [show 1505 / 1440 + 1 = 2 from rfl, show 1505 / 60 % 24 = 1 from rfl, show 1505 % 60 = 5 from rfl, dd_small (by decide), dd_small (by decide), dd_small (by decide)]
 rfl
theorem aw4 : printT 1505 = ([50, 32, 48, 49, 48, 53], 0) := by
 unfold printT
 rw [if_pos (by decide)]
 show (tText 1505, (0 : Int)) = _
 rw [aw3]
theorem aw5 : parseT [50, 32, 48, 49, 48, 53] = (1505, 0) := by
 rw [← aw3, parse_text (by decide)]; rfl
theorem aw6 : validS [68, 76, 49, 65, 47, 87, 49, 65] = false := by rfl
theorem aw7 : nearestS [{ ID := 1, Lo := 1800, Hi := 2000 }, { ID := 2, Lo := 3500, Hi := 3800 }] 2750 = (1, 750, 0) := by decide
theorem awake_true {N : Nat} (hN : 4294967300 < N) : law01_awake N = some true := by
 unfold law01_awake
 rw [s_Split _ hN, aw1, Option.bind_some, s_PrefixOf _ hN, aw2, Option.bind_some, s_PrintTime, aw4, Option.bind_some, s_ParseTime _ (by simp) hN, aw5, Option.bind_some, s_Nearest (by simp) hN, aw7, Option.bind_some]
 simp only [s_Valid _ hN, aw6]
 rfl
end Go.Proofs.YtlddakefmfcblaaGreatDoor
namespace Go.Proofs.YtlddakefmfcblaaGreatDoor
open Go.Proofs
end Go.Proofs.YtlddakefmfcblaaGreatDoor
namespace Go.Proofs.YtlddakefmfcblaaGreatDoor
def beginsB (b t : List UInt8) : Bool := decide (t.length ≤ b.length) && (b.take t.length == t)
theorem begins_iff {b t : List UInt8} : beginsB b t = true ↔ t.length ≤ b.length ∧ b.take t.length = t := by
 unfold beginsB
 rw [Bool.and_eq_true, decide_eq_true_eq, beq_iff_eq]
section
variable {N : Nat} {T : List Prefix}
theorem atK_some {k : air_key} {d : Int} {i : Nat} : atK T k d = some i ↔ i < T.length ∧ keyP (pAt T i) = k ∧ dayIn (pAt T i) d = true ∧ ∀ j, j < i → ¬ (keyP (pAt T j) = k ∧ dayIn (pAt T j) d = true) := by
 unfold atK
 rw [firstN_some (m := T.length) (by omega)]
 constructor
 ·rintro ⟨j, _, h2, h3, h4⟩
  split at h3
  ·rename_i hc
   injection h3 with h3
   subst h3
   simp only [Bool.and_eq_true, decide_eq_true_eq] at hc
   refine ⟨h2, hc.1, hc.2, fun q hq hh => ?_⟩
   have := h4 q (by omega) hq
   rw [if_pos (by simp only [Bool.and_eq_true, decide_eq_true_eq]; exact hh)] at this
   cases this
  ·cases h3
 ·rintro ⟨h1, h2, h3, h4⟩
  refine ⟨i, by omega, h1, if_pos (by simp only [Bool.and_eq_true, decide_eq_true_eq]; exact ⟨h2, h3⟩), fun j _ hj => ?_⟩
  rw [if_neg (by simp only [Bool.and_eq_true, decide_eq_true_eq]; exact h4 j hj)]
theorem atK_none {k : air_key} {d : Int} : atK T k d = none ↔ ∀ i, i < T.length → ¬ (keyP (pAt T i) = k ∧ dayIn (pAt T i) d = true) := by
 unfold atK
 rw [firstN_none (by omega)]
 constructor
 ·intro h i hi hh
  have := h i (by omega) hi
  rw [if_pos (by simp only [Bool.and_eq_true, decide_eq_true_eq]; exact hh)] at this
  cases this
 ·intro h i _ hi
  rw [if_neg (by simp only [Bool.and_eq_true, decide_eq_true_eq]; exact h i hi)]
theorem downF_spec (b : List UInt8) (d : Int) : ∀ k, (downF T b d k = none → ∀ l, 1 ≤ l → l ≤ k → atK T { text_ := b.take l, whole_ := false } d = none) ∧ ∀ m, downF T b d k = some m → ∃ l, 1 ≤ l ∧ l ≤ k ∧ atK T { text_ := b.take l, whole_ := false } d = some m ∧ ∀ q, l < q → q ≤ k → atK T { text_ := b.take q, whole_ := false } d = none := by
 intro k
 induction k with
 | zero => exact ⟨fun _ l h1 h2 => by omega, fun m h => by cases h⟩
 | succ k ih =>
  unfold downF
  cases ha : atK T { text_ := b.take (k + 1), whole_ := false } d with
  | some i =>
   refine ⟨fun h => (by cases h), fun m h => ?_⟩
   injection h with h
   subst h
   exact ⟨k + 1, by omega, Nat.le_refl _, ha, fun q h1 h2 => by omega⟩
  | none =>
   refine ⟨fun h l h1 h2 => ?_, fun m h => ?_⟩
   ·by_cases hl : l = k + 1
    ·subst hl; exact ha
    ·exact ih.1 h l h1 (by omega)
   ·obtain ⟨l, h1, h2, h3, h4⟩ := ih.2 m h
    refine ⟨l, h1, by omega, h3, fun q h5 h6 => ?_⟩
    by_cases hq : q = k + 1
    ·subst hq; exact ha
    ·exact h4 q h5 (by omega)
theorem downF_lt {b : List UInt8} {d : Int} {k i : Nat} (h : downF T b d k = some i) : i < T.length ∧ dayIn (pAt T i) d = true := by
 obtain ⟨l, _, _, h3, _⟩ := (downF_spec (T := T) b d k).2 i h
 exact ⟨(atK_some.1 h3).1, (atK_some.1 h3).2.2.1⟩
theorem findS_lt {c : List UInt8} {d : Int} {i : Nat} (h : findS T c d = some i) : i < T.length ∧ dayIn (pAt T i) d = true := by
 unfold findS at h
 cases ha : atK T { text_ := c, whole_ := true } d with
 | some j =>
  rw [ha] at h
  injection h with h
  subst h
  exact ⟨(atK_some.1 ha).1, (atK_some.1 ha).2.2.1⟩
 | none =>
  rw [ha] at h
  exact downF_lt h
def plOf (p : Prefix) : Place := { Country := p.Country, Zone := p.Zone, Continent := p.Continent }
def zPl : Place := { Country := 0, Zone := 0, Continent := 0 }
def placeS (T : List Prefix) (c : List UInt8) (d : Int) : Place × Int := if wrongT T c d = 0 then (match findS T c d with | some i => (plOf (pAt T i), 0) | none => (zPl, 3)) else (zPl, wrongT T c d)
theorem s_PlaceOf (hT : fitT N T) (hN : 4294967300 < N) (c : List UInt8) (d : Int) : air_PlaceOf N T c d = some (placeS T c d) := by
 unfold air_PlaceOf placeS
 rw [s_RowOf hT hN, Option.bind_some]
 unfold rowOfS
 by_cases hw : wrongT T c d = 0
 ·rw [if_pos hw, if_pos hw]
  cases hf : findS T c d with
  | none => rfl
  | some i =>
   simp only
   rw [show ((0 : Int) != 0) = false from rfl, cond_false, idx_p (findS_lt hf).1]
   rfl
 ·rw [if_neg hw, if_neg hw, show ((((0 : Int), wrongT T c d).2) != 0) = true by simpa using hw, cond_true]
  rfl
end
theorem fitT_q {T : List Prefix} (q : T.length < 9223372036854775808 ∧ ∀ x, x ∈ T → qPrefix x) (h : T.length < 4000000000) : fitT 9223372036854775808 T := ⟨h, fun p hp => by
 have := (q.2 p hp).1
 unfold rS at this
 omega⟩
end Go.Proofs.YtlddakefmfcblaaGreatDoor
namespace Go.Proofs.YtlddakefmfcblaaGreatDoor
open Go.Proofs
end Go.Proofs.YtlddakefmfcblaaGreatDoor
namespace Go.Proofs.YtlddakefmfcblaaGreatDoor
open Go.Proofs
end Go.Proofs.YtlddakefmfcblaaGreatDoor
namespace Go.Proofs.YtlddakefmfcblaaGreatDoor
def fitB (c b : List UInt8) (d : Int) (p : Prefix) : Bool := dayIn p d && (bif p.Whole then (p.Text == c) else beginsB b p.Text)
def Fit (c : List UInt8) (d : Int) (p : Prefix) : Prop := fitB c (bC c) d p = true
structure IsAns (T : List Prefix) (c : List UInt8) (d : Int) (r : Prefix) : Prop where
 mem : r ∈ T
 fit : Fit c d r
 best : r.Whole = true ∨ ∀ q, q ∈ T → Fit c d q → q.Whole = false ∧ q.Text.length ≤ r.Text.length
theorem fit_whole {c : List UInt8} {d : Int} {p : Prefix} (h : p.Whole = true) : Fit c d p ↔ dayIn p d = true ∧ p.Text = c := by
 unfold Fit fitB
 rw [h, cond_true, Bool.and_eq_true, beq_iff_eq]
theorem fit_part {c : List UInt8} {d : Int} {p : Prefix} (h : p.Whole = false) : Fit c d p ↔ dayIn p d = true ∧ p.Text.length ≤ (bC c).length ∧ (bC c).take p.Text.length = p.Text := by
 unfold Fit fitB
 rw [h, cond_false, Bool.and_eq_true, begins_iff]
theorem key_eq {p q : Prefix} : keyP p = keyP q ↔ p.Text = q.Text ∧ p.Whole = q.Whole := by
 unfold keyP
 constructor
 ·intro h; injection h with h1 h2; exact ⟨h1, h2⟩
 ·rintro ⟨h1, h2⟩; rw [h1, h2]
theorem dayIn_iff {p : Prefix} {d : Int} : dayIn p d = true ↔ p.From ≤ d ∧ d ≤ p.To := by
 unfold dayIn; rw [Bool.and_eq_true, decide_eq_true_eq, decide_eq_true_eq]
section
variable {T : List Prefix} {c : List UInt8} {d : Int}
theorem findS_ans (hR : ∀ p, p ∈ T → PreR p) {i : Nat} (h : findS T c d = some i) : i < T.length ∧ IsAns T c d (pAt T i) := by
 unfold findS at h
 cases ha : atK T { text_ := c, whole_ := true } d with
 | some j =>
  rw [ha] at h
  injection h with h
  subst h
  obtain ⟨h1, h2, h3, _⟩ := atK_some.1 ha
  unfold keyP at h2
  injection h2 with h2 h2'
  exact ⟨h1, pAt_mem h1, (fit_whole h2').2 ⟨h3, h2⟩, .inl h2'⟩
 | none =>
  rw [ha] at h
  have hno := atK_none.1 ha
  obtain ⟨l, h1, h2, h3, h4⟩ := (downF_spec (T := T) (bC c) d _).2 i h
  obtain ⟨g1, g2, g3, g4⟩ := atK_some.1 h3
  have hk := g2
  unfold keyP at g2
  injection g2 with g2 g2'
  have hl : (pAt T i).Text.length = l := by rw [g2, List.length_take]; omega
  refine ⟨g1, pAt_mem g1, (fit_part g2').2 ⟨g3, by omega, by rw [hl]; exact g2.symm⟩, .inr fun q hq hf => ?_⟩
  obtain ⟨j, hj, rfl⟩ := mem_pAt hq
  cases hw : (pAt T j).Whole with
  | true =>
   obtain ⟨f1, f2⟩ := (fit_whole hw).1 hf
   exact absurd ⟨by unfold keyP; rw [f2, hw], f1⟩ (hno j hj)
  | false =>
   obtain ⟨f1, f2, f3⟩ := (fit_part hw).1 hf
   refine ⟨rfl, ?_⟩
   rw [hl]
   rcases Nat.lt_or_ge l (pAt T j).Text.length with hlt | hge
   ·exact absurd ⟨by unfold keyP; rw [hw, f3], f1⟩ (atK_none.1 (h4 _ hlt f2) j hj)
   ·exact hge
theorem findS_none (hR : ∀ p, p ∈ T → PreR p) (h : findS T c d = none) : ∀ q, q ∈ T → ¬ Fit c d q := by
 unfold findS at h
 cases ha : atK T { text_ := c, whole_ := true } d with
 | some j => rw [ha] at h; cases h
 | none =>
  rw [ha] at h
  have hno := atK_none.1 ha
  have hdn := (downF_spec (T := T) (bC c) d _).1 h
  intro q hq hf
  have hlen := (hR q hq).l1
  obtain ⟨j, hj, rfl⟩ := mem_pAt hq
  cases hw : (pAt T j).Whole with
  | true =>
   obtain ⟨f1, f2⟩ := (fit_whole hw).1 hf
   exact absurd ⟨by unfold keyP; rw [f2, hw], f1⟩ (hno j hj)
  | false =>
   obtain ⟨f1, f2, f3⟩ := (fit_part hw).1 hf
   exact absurd ⟨by unfold keyP; rw [hw, f3], f1⟩ (atK_none.1 (hdn _ hlen f2) j hj)
theorem ans_one (hA : Apart T) {r q : Prefix} (hr : IsAns T c d r) (hq : IsAns T c d q) : r = q := by
 have hk : keyP r = keyP q := by
  rw [key_eq]
  rcases hr.best with h1 | h1
  ·rcases hq.best with h2 | h2
   ·exact ⟨by rw [((fit_whole h1).1 hr.fit).2, ((fit_whole h2).1 hq.fit).2], by rw [h1, h2]⟩
   ·have := (h2 r hr.mem hr.fit).1
    rw [h1] at this; cases this
  ·have hqw := (h1 q hq.mem hq.fit).1
   rcases hq.best with h2 | h2
   ·rw [hqw] at h2; cases h2
   ·have hrw := (h2 r hr.mem hr.fit).1
    have e : r.Text.length = q.Text.length := by have := (h1 q hq.mem hq.fit).2; have := (h2 r hr.mem hr.fit).2; omega
    refine ⟨?_, by rw [hqw, hrw]⟩
    rw [← ((fit_part hrw).1 hr.fit).2.2, ← ((fit_part hqw).1 hq.fit).2.2, e]
 have hdr : dayIn r d = true := by
  have := hr.fit; unfold Fit fitB at this; rw [Bool.and_eq_true] at this; exact this.1
 have hdq : dayIn q d = true := by
  have := hq.fit; unfold Fit fitB at this; rw [Bool.and_eq_true] at this; exact this.1
 rw [dayIn_iff] at hdr hdq
 obtain ⟨i, hi, rfl⟩ := mem_pAt hr.mem
 obtain ⟨j, hj, rfl⟩ := mem_pAt hq.mem
 rcases Nat.lt_trichotomy i j with h | h | h
 ·exact absurd ⟨by omega, by omega⟩ (hA i j h hj hk)
 ·rw [h]
 ·exact absurd ⟨by omega, by omega⟩ (hA j i h hi hk.symm)
theorem findS_of_ans (hR : ∀ p, p ∈ T → PreR p) (hA : Apart T) {r : Prefix} (hr : IsAns T c d r) : ∃ i, findS T c d = some i ∧ i < T.length ∧ pAt T i = r := by
 cases h : findS T c d with
 | none => exact absurd hr.fit (findS_none hR h r hr.mem)
 | some i =>
  obtain ⟨h1, h2⟩ := findS_ans hR h
  exact ⟨i, rfl, h1, ans_one hA h2 hr⟩
def Sep (p q : Prefix) : Prop := keyP p = keyP q → ¬ (p.From ≤ q.To ∧ q.From ≤ p.To)
theorem sep_symm {p q : Prefix} (h : Sep p q) : Sep q p := fun hk hc => h hk.symm ⟨hc.2, hc.1⟩
theorem apart_iff : Apart T ↔ T.Pairwise Sep := by
 rw [List.pairwise_iff_getElem]
 constructor
 ·intro h i j hi hj hij
  have := h i j hij hj
  rw [pAt_get hi, pAt_get hj] at this
  exact this
 ·intro h i j hij hj
  have := h i j (by omega) hj hij
  rw [pAt_get (show i < T.length by omega), pAt_get hj]
  exact this
theorem valid_sub {T' : List Prefix} (hv : validT T = true) (hs : T'.Sublist T) : validT T' = true := by
 rw [validT_iff] at hv ⊢
 obtain ⟨h1, h2⟩ := hv
 have h1' := h1
 unfold rowsB at h1 ⊢
 rw [Bool.and_eq_true, decide_eq_true_eq, List.all_eq_true] at h1 ⊢
 refine ⟨⟨Nat.le_trans hs.length_le h1.1, fun p hp => h1.2 p (hs.subset hp)⟩, ?_⟩
 rw [apart_iff] at h2 ⊢
 exact h2.sublist hs
theorem valid_perm {T' : List Prefix} (hv : validT T = true) (hs : T'.Perm T) : validT T' = true := by
 rw [validT_iff] at hv ⊢
 obtain ⟨h1, h2⟩ := hv
 unfold rowsB at h1 ⊢
 rw [Bool.and_eq_true, decide_eq_true_eq, List.all_eq_true] at h1 ⊢
 refine ⟨⟨by rw [hs.length_eq]; exact h1.1, fun p hp => h1.2 p (hs.mem_iff.1 hp)⟩, ?_⟩
 rw [apart_iff] at h2 ⊢
 exact (hs.pairwise_iff (fun h => sep_symm h)).2 h2
theorem valid_R (hv : validT T = true) : T.length ≤ 400 ∧ (∀ p, p ∈ T → PreR p) ∧ Apart T := by
 have h := validT_iff.1 hv
 exact ⟨(rowsB_ok h.1).1, (rowsB_ok h.1).2, h.2⟩
structure Seen (c : List UInt8) (d : Int) (L : List Prefix) (s : List Prefix × Int × Bool) : Prop where
 fits : s.1 = L.filter (fitB c (bC c) d)
 le : ∀ q, q ∈ L → Fit c d q → q.Whole = false → (q.Text.length : Int) ≤ s.2.1
 at' : s.2.1 = -1 ∨ ∃ q, q ∈ L ∧ Fit c d q ∧ q.Whole = false ∧ (q.Text.length : Int) = s.2.1
 any : s.2.2 = true ↔ ∃ q, q ∈ L ∧ Fit c d q ∧ q.Whole = true
variable {N : Nat}
end
end Go.Proofs.YtlddakefmfcblaaGreatDoor
namespace Go.Proofs.YtlddakefmfcblaaGreatDoor
open Go.Proofs
def air_Since_1 (N : Nat) (x0 : Int) (z0 : (List (air_key × (List Int)))) (z1 : (List Prefix)) (z2 : (List UInt8)) (z3 : Int) : Option Bool :=
 ((air_table_row N z0 z1 z2 x0).bind fun r1 => ((bif (decide (r1 ≥ 0)) then ((idx z1 r1).bind fun x21 => ((idx z1 z3).bind fun x35 => ((air_placeOf N x21).bind fun r41 => ((air_placeOf N x35).bind fun r49 => some ((r41.Country == r49.Country) && ((r41.Zone == r49.Zone) && ((r41.Continent == r49.Continent) && true))))))) else some false).bind fun j14 => some j14))
theorem co_air_Since_1 : CallOk Tryz.prog 102 := fun _ _ => by kernel_rfl
set_option maxHeartbeats 4000000 in
set_option maxRecDepth 100000 in
theorem c_air_Since_1 (N : Nat) (w0 : World) (F0 : Mem) (hF : ∀ b o, F0 b = some o → w0.heap[b]? = some o) (hG : Glob F0) (x0 : Int) (bz0 : Nat) (z0 : (List (air_key × (List Int)))) (oz0_0 : Option Nat) (hmz0_0 : MpA tair_key (tSl tInt) F0 oz0_0 z0) (hz0 : F0 bz0 = some (oc #[(.map oz0_0)] 116)) (bz1 : Nat) (z1 : (List Prefix)) (az1_0 : Option Addr) (nz1_0 : Nat) (hbz1_0 : LC z1.length nz1_0) (hsz1_0 : SlA tPrefix F0 az1_0 z1) (hz1 : F0 bz1 = some (oc #[(.slice az1_0 z1.length nz1_0)] 61)) (bz2 : Nat) (z2 : (List UInt8)) (hz2 : F0 bz2 = some (oc #[(.string ⟨(z2).toArray⟩)] 9)) (bz3 : Nat) (z3 : Int) (hz3 : F0 bz3 = some (oc #[(vi z3)] 3)) (r : Bool) (h : air_Since_1 N x0 z0 z1 z2 z3 = some r) :
  Calls Tryz.prog 102 ([(vi x0), (.pointer (some ⟨bz0, 0, none⟩)), (.pointer (some ⟨bz1, 0, none⟩)), (.pointer (some ⟨bz2, 0, none⟩)), (.pointer (some ⟨bz3, 0, none⟩))] : List Value).toArray w0 (FRet w0 F0 fun F' v => v = (.bool r)) := by
 have hs0 := HS.start hF
 refine calls_of (n := 28) (c := bodyOf Tryz.f102) Tryz.func102 (by kernel_rfl) (by kernel_rfl) (by kernel_rfl) ?_
 refine Sq (Rg [0] ?_)
 refine V 6 4 (mc (.bool false) (.bool false)) ?_
 refine Nss (Rg [0, 1, 2, 3, 4, 5] ?_)
 refine V 8 116 (ld 116 1 bz0 0 false 1 (.map oz0_0) (hs0.pers _ _ hz0)) ?_
 refine V 9 61 (ld 61 2 bz1 0 false 1 (.slice az1_0 z1.length nz1_0) (hs0.pers _ _ hz1)) ?_
 refine V 10 9 (ld 9 3 bz2 0 false 1 (.string ⟨(z2).toArray⟩) (hs0.pers _ _ hz2)) ?_
 refine V 11 3 (mv 0 (vi x0)) ?_
 obtain ⟨r1, hr2, h3⟩ := bind_some h
 refine Cl 12 3 97 #[(.tmp 8), (.tmp 9), (.tmp 10), (.tmp 11)] #[116, 61, 9, 3] co_air_table_row hs0 (c_air_table_row N w0 F0 hs0.pers hG (z0) oz0_0 hmz0_0 (z1) az1_0 nz1_0 hbz1_0 hsz1_0 (z2) (x0) _ hr2) ?_
 intro v4 F1 w5 hs6 le7 hp8
 obtain rfl := hp8
 refine V 7 3 (ma 12 (vi r1)) ?_
 refine Nss ?_
 obtain ⟨j14, hj17, h18⟩ := bind_some h3
 refine CWP.regionD (by kernel_rfl) (by kernel_rfl) (by kernel_rfl) (by kernel_rfl) (z := 16) (F := F1) (Lc := []) (Lz := []) (l := [false, false, false, false, false, false, false, false, false, false, false, false, false, false, false, false]) (fuel := 16) (by kernel_rfl) (by kernel_rfl) hs6 (by simp) (by simp) (fun f w => ∃ (F2 : Mem), HS w0 F0 w F2 [] ∧ Mem.le F1 F2 ∧ f.d = [] ∧ f 6 = (.bool j14)) (fun wd9 hw10 => ?_) ?_
 ·refine Dt 0 13 3 _ (fun _ hq => mv 7 (vi r1)) ?_
  refine Dt 1 14 4 (.bool (decide (r1 ≥ 0))) (fun _ hq => run_geq (t := 3) (t' := 3) (x := (.tmp 13)) (y := (.const (vi 0))) (k := .i64) (a := r1) (b := 0) rfl rfl) ?_
  refine Dt 2 15 4 _ (fun _ hq => mv 14 (.bool (decide (r1 ≥ 0)))) ?_
  refine DWP.split (decide (r1 ≥ 0)) (fun hb19 => ?_) (fun hb19 => ?_)
  ·have h20 := cond_t hj17 hb19
   refine Dg 3 16 61 _ 2 true 15 hb19 (fun _ hq => ld 61 2 bz1 0 false 1 (.slice az1_0 z1.length nz1_0) (hq.1.1 _ _ (le7 _ _ hz1))) ?_
   refine Dg 4 17 3 _ 2 true 15 hb19 (fun _ hq => mv 7 (vi r1)) ?_
   obtain ⟨x21, hx22, h24⟩ := bind_some h20
   obtain ⟨hi23, hx22'⟩ := idx_spec hx22
   obtain ⟨b25, o26, C27, E28, fz29, rfl, hF31, hE32⟩ := SlA.open (SlA.mono hsz1_0 le7) hx22'
   have hc34 := hE32 _ _ hx22'
   refine Dg 5 18 0 (.pointer (some ⟨b25, (o26 + (r1 : Int).toNat * 7), none⟩)) 2 true 15 hb19 (fun _ hq => ix 61 16 17 b25 o26 71 7 64 hi23) ?_
   refine Dg 6 19 71 _ 2 true 15 hb19 (fun _ hq => lx 71 18 0 7 true 7 (.agg #[(.string ⟨(x21.Text).toArray⟩), (vi x21.Country), (vi x21.Zone), (vi x21.Continent), (vi x21.From), (vi x21.To), (.bool x21.Whole)]) (hq.1.1 _ _ hF31) hc34) ?_
   refine Dg 8 21 61 _ 2 true 15 hb19 (fun _ hq => ld 61 2 bz1 0 false 1 (.slice (some ⟨b25, o26, none⟩) z1.length nz1_0) (hq.1.1 _ _ (le7 _ _ hz1))) ?_
   refine Dg 9 22 3 _ 2 true 15 hb19 (fun _ hq => ld 3 4 bz3 0 false 1 (vi z3) (hq.1.1 _ _ (le7 _ _ hz3))) ?_
   obtain ⟨x35, hx36, h38⟩ := bind_some h24
   obtain ⟨hi37, hx36'⟩ := idx_spec hx36
   have hc40 := hE32 _ _ hx36'
   refine Dg 10 23 0 (.pointer (some ⟨b25, (o26 + (z3 : Int).toNat * 7), none⟩)) 2 true 15 hb19 (fun _ hq => ix 61 21 22 b25 o26 71 7 64 hi37) ?_
   refine Dg 11 24 71 _ 2 true 15 hb19 (fun _ hq => lx 71 23 0 7 true 7 (.agg #[(.string ⟨(x35.Text).toArray⟩), (vi x35.Country), (vi x35.Zone), (vi x35.Continent), (vi x35.From), (vi x35.To), (.bool x35.Whole)]) (hq.1.1 _ _ hF31) hc40) ?_
   refine DWP.one (i := 7) (by kernel_rfl) ?_
   obtain ⟨r41, hr42, h43⟩ := bind_some h38
   refine DStep.call (l' := [true, true, true, true, true, true, true, true, true, true, true, true, false, false, false, false]) (zd := true) (by kernel_rfl) (by kernel_rfl) (by kernel_rfl) (dst := (some 20)) (ty := 65) (g := (some (2, true))) (by kernel_rfl) (gd_y (d := 15) (by kernel_rfl) rfl hb19) (f0 := (.func 100)) (aos := #[(.tmp 19)]) (ats := #[71]) (fid := 100) (first := #[]) (cap := #[]) (args := [(.agg #[(.string ⟨(x21.Text).toArray⟩), (vi x21.Country), (vi x21.Zone), (vi x21.Continent), (vi x21.From), (vi x21.To), (.bool x21.Whole)])]) rfl co_air_placeOf (rfl) hw10 (c_air_placeOf N wd9 F1 hw10.pers (x21) _ hr42) ?_
   intro v44 F3 w45 hs46 le47 hp48
   obtain rfl := hp48
   refine DWP.one (i := 12) (by kernel_rfl) ?_
   obtain ⟨r49, hr50, h51⟩ := bind_some h43
   refine DStep.call (l' := [true, true, true, true, true, true, true, true, true, true, true, true, true, false, false, false]) (zd := true) (by kernel_rfl) (by kernel_rfl) (by kernel_rfl) (dst := (some 25)) (ty := 65) (g := (some (2, true))) (by kernel_rfl) (gd_y (d := 15) (by kernel_rfl) rfl hb19) (f0 := (.func 100)) (aos := #[(.tmp 24)]) (ats := #[71]) (fid := 100) (first := #[]) (cap := #[]) (args := [(.agg #[(.string ⟨(x35.Text).toArray⟩), (vi x35.Country), (vi x35.Zone), (vi x35.Continent), (vi x35.From), (vi x35.To), (.bool x35.Whole)])]) rfl co_air_placeOf (rfl) hs46 (c_air_placeOf N w45 F3 hs46.pers (x35) _ hr50) ?_
   intro v52 F4 w53 hs54 le55 hp56
   obtain rfl := hp56
   refine Dg 13 26 4 (.bool ((r41.Country == r49.Country) && ((r41.Zone == r49.Zone) && ((r41.Continent == r49.Continent) && true)))) 2 true 15 hb19 (fun _ hq => run_eqs (t := 65) (t' := 65) (x := (.tmp 20)) (y := (.tmp 25)) (xs := #[(vi r41.Country), (vi r41.Zone), (vi r41.Continent)]) (ys := #[(vi r49.Country), (vi r49.Zone), (vi r49.Continent)]) (b := ((r41.Country == r49.Country) && ((r41.Zone == r49.Zone) && ((r41.Continent == r49.Continent) && true)))) rfl rfl (by kernel_rfl) (by kernel_rfl)) ?_
   refine Dt 14 27 4 _ (fun _ hq => p1 15 (.tmp 26) (.const (.bool false)) (.bool ((r41.Country == r49.Country) && ((r41.Zone == r49.Zone) && ((r41.Continent == r49.Continent) && true)))) hb19) ?_
   refine Dt 15 6 4 _ (fun _ hq => ma 27 (.bool ((r41.Country == r49.Country) && ((r41.Zone == r49.Zone) && ((r41.Continent == r49.Continent) && true))))) ?_
   obtain rfl := some_inj h51
   exact DWP.done (by kernel_rfl) ⟨F4, hs54, (le47.trans le55), rfl, rfl⟩
  ·have h57 := cond_f hj17 hb19
   refine Dk [(3, 16), (4, 17), (5, 18), (6, 19), (7, 20), (8, 21), (9, 22), (10, 23), (11, 24), (12, 25), (13, 26)] 2 true 15 hb19 ?_
   refine Dt 14 27 4 _ (fun _ hq => p0 15 (.tmp 26) (.const (.bool false)) (.bool false) hb19) ?_
   refine Dt 15 6 4 _ (fun _ hq => ma 27 (.bool false)) ?_
   obtain rfl := some_inj h57
   exact DWP.done (by kernel_rfl) ⟨F1, hw10, (Mem.le.refl _), rfl, rfl⟩
 ·rintro f w11 ⟨F2, hs12, le13, e15, e16⟩
  refine thenQ_nrm ?_
  refine CWP.ret (by kernel_rfl) ?_
  have hfin := some_inj h18
  subst hfin
  exact ⟨e15, (.bool j14), res_of (l := [.tmp 6]) (by kernel_rfl) (vs := [(.bool j14)]) ⟨e16, trivial⟩, (.bool j14), F2, rfl, hs12.clear, rfl⟩
end Go.Proofs.YtlddakefmfcblaaGreatDoor
namespace Go.Proofs.YtlddakefmfcblaaGreatDoor
open Go.Proofs
def slices_Backward_int_int_1_L0 {σ : Type} (N : Nat) (y : (σ → (Int × Int) → Option (Bool × σ))) (z0 : (List Int)) (s : σ) : (Int × σ) → Option (Flow σ (Int × σ)) := fun s4 =>
 (bif (decide (s4.1 ≥ 0)) then ((idx z0 s4.1).bind fun x29 => ((y s4.2 (s4.1, x29)).bind fun q43 => (bif (!q43.1) then some (.ret q43.2) else some (.next ((W64 (s4.1 - 1)), q43.2))))) else some (.done (s4.1, s4.2)))
def slices_Backward_int_int_1 {σ : Type} (N : Nat) (y : σ → (Int × Int) → Option (Bool × σ)) (z0 : (List Int)) (s : σ) : Option σ :=
 ((iter (slices_Backward_int_int_1_L0 N y z0 s) N ((W64 ((z0.length : Int) - 1)), s)).bind fun o => o.k (fun r => some r) (fun s14 => some s14.2))
theorem co_slices_Backward_int_int_1 : CallOk Tryz.prog 130 := fun _ _ => by kernel_rfl
set_option maxHeartbeats 4000000 in
set_option maxRecDepth 100000 in
theorem c_slices_Backward_int_int_1 (N : Nat) (F0 : Mem) (z0 : (List Int)) (az0_0 : Option Addr) (nz0_0 : Nat) (hbz0_0 : LC z0.length nz0_0) (hsz0_0 : SlA tInt F0 az0_0 z0) (bz0 : Nat) :
  SeqOk Tryz.prog 130 [(.pointer (some ⟨bz0, 0, none⟩))] F0 [(sb bz0 #[(.slice az0_0 z0.length nz0_0)] 77)] enc156 ok156 px156 (fun {_} y s => slices_Backward_int_int_1 N y z0 s) := by
 intro σ wb w0 Fb F1 l y J s r Lf le01 hJm hs0 hJ hY h
 have hs0 : HS wb Fb w0 F1 ((sb bz0 #[(.slice az0_0 z0.length nz0_0)] 77) :: Lf) := hs0
 refine calls_of (n := 19) (c := bodyOf Tryz.f130) Tryz.func130 (by kernel_rfl) (by kernel_rfl) (by kernel_rfl) ?_
 refine Sq (Rg [0, 1, 2, 3] ?_)
 refine V 4 77 (ld 77 1 bz0 0 false 1 (.slice az0_0 z0.length nz0_0) (hs0.ownAt (k := 0) rfl)) ?_
 refine V 5 3 (ln 4 77 az0_0 z0.length nz0_0 3 1 8) ?_
 refine V 6 3 (run_sub (t := 3) (t' := 3) (x := (.tmp 5)) (y := (.const (vi 1))) (k := .i64) (a := (z0.length : Int)) (b := 1) rfl rfl) ?_
 refine V 3 3 (ma 6 (vi (W64 ((z0.length : Int) - 1)))) ?_
 refine Nt ?_
 obtain ⟨o1, ho2, h3⟩ := bind_some h
 refine CWP.cut (fun f w => ∃ (s14 : (Int × σ)) (F3 : Mem) (Lf18 : Own), o1 = .done s14 ∧ HS wb Fb w F3 Lf18 ∧ Mem.le F1 F3 ∧ f.d = [] ∧ J s14.2 F3 Lf18) ?_ ?_
 ·refine Bk ?_
  refine CWP.loop (by kernel_rfl) (fun m f w => ∃ (s4 : (Int × σ)) (F2 : Mem) (Lf8 : Own), iter (slices_Backward_int_int_1_L0 N y z0 s) m s4 = some o1 ∧ HS wb Fb w F2 ((sb bz0 #[(.slice az0_0 z0.length nz0_0)] 77) :: Lf8) ∧ Mem.le F1 F2 ∧ f.d = [] ∧ f 0 = (.func (.yield l) #[] #[]) ∧ f 1 = (.pointer (some ⟨bz0, 0, none⟩)) ∧ f 3 = (vi s4.1) ∧ J s4.2 F2 Lf8) N ⟨((W64 ((z0.length : Int) - 1)), s), F1, Lf, ho2, hs0, (Mem.le.refl _), rfl, rfl, rfl, rfl, hJ⟩ ?_
  rintro m21 f w5 ⟨s4, F2, Lf8, hit22, hs6, le7, e10, e11, e12, e13, hJ9⟩
  obtain ⟨m23, fl24, rfl, hb25, hnx26⟩ := iter_step hit22
  refine Sq ?_
  refine Sq (Rg [0, 1] ?_)
  refine V 7 3 (mv 3 (vi s4.1) e13) ?_
  refine V 8 4 (run_geq (t := 3) (t' := 3) (x := (.tmp 7)) (y := (.const (vi 0))) (k := .i64) (a := s4.1) (b := 0) rfl rfl) ?_
  refine Nt ?_
  refine CWP.cond (t := (decide (s4.1 ≥ 0))) (by kernel_rfl) rfl (fun hb27 => ?_) (fun hb27 => ?_)
  ·have h28 := cond_t hb25 hb27
   refine Sc ?_
   refine thenQ_nrm ?_
   refine Sq ?_
   refine Bk ?_
   refine Sq (Rg [0, 1, 2, 3, 4, 5, 6, 7] ?_)
   refine V 11 156 (mv 0 (.func (.yield l) #[] #[]) e11) ?_
   refine V 12 3 (mv 3 (vi s4.1) e13) ?_
   refine V 13 77 (ld 77 1 bz0 0 false 1 (.slice az0_0 z0.length nz0_0) (hs6.ownAt (k := 0) rfl) e12) ?_
   refine V 14 3 (mv 3 (vi s4.1) e13) ?_
   obtain ⟨x29, hx30, h32⟩ := bind_some h28
   obtain ⟨hi31, hx30'⟩ := idx_spec hx30
   obtain ⟨b33, o34, C35, E36, fz37, rfl, hF39, hE40⟩ := SlA.open (SlA.mono hsz0_0 (le01.trans le7)) hx30'
   have hc42 := hE40 _ _ hx30'
   refine V 15 0 (ix 77 13 14 b33 o34 3 1 8 hi31) ?_
   refine V 16 3 (lx 3 15 0 1 false 1 (vi x29) (hs6.pers _ _ hF39) hc42) ?_
   obtain ⟨q43, hq44, h45⟩ := bind_some h32
   refine RWP.yield (dst := (some 17)) (ty := 4) (g := none) (by kernel_rfl) rfl (f0 := (.tmp 11)) (aos := #[(.tmp 12), (.tmp 16)]) (ats := #[3, 3]) (l := l) (args := [(vi s4.1), (vi x29)]) rfl (rfl) (hY s4.2 (s4.1, x29) w5 F2 [(sb bz0 #[(.slice (some ⟨b33, o34, none⟩) z0.length nz0_0)] 77)] Lf8 q43 le7 trivial hJ9 hs6 hq44) ?_
   rintro _ w46 ⟨F4, Lf50, rfl, hs47, le48, hJ49⟩
   have hs51 : HS wb Fb w46 F4 ((sb bz0 #[(.slice (some ⟨b33, o34, none⟩) z0.length nz0_0)] 77) :: Lf50) := hs47
   refine ⟨_, rfl, ?_⟩
   refine V 18 4 (run_not (t := 4) (x := (.tmp 17)) (a := q43.1) rfl) ?_
   refine Nt ?_
   refine CWP.cond (t := (!q43.1)) (by kernel_rfl) rfl (fun hb52 => ?_) (fun hb52 => ?_)
   ·have h53 := cond_t h45 hb52
    refine CWP.ret (by kernel_rfl) ?_
    refine blockQ_ret ?_
    refine thenQ_ret ?_
    refine thenQ_ret ?_
    refine blockQ_ret ?_
    have hret := iter_ret h53 hnx26
    subst hret
    refine .inr ?_
    have hs54 : HS wb Fb w46 F4 Lf50 := hs51.drop 0
    have hfin := some_inj h3
    subst hfin
    exact ⟨e10, .tuple #[], res_of (l := []) (by kernel_rfl) (vs := []) trivial, F4, Lf50, rfl, hs54, (le7.trans le48), hJ49⟩
   ·have h55 := cond_f h45 hb52
    refine Sc ?_
    refine blockQ_nrm ?_
    refine thenQ_nrm ?_
    refine Rg [0, 1, 2] ?_
    refine V 9 3 (mv 3 (vi s4.1) e13) ?_
    refine V 10 3 (run_sub (t := 3) (t' := 3) (x := (.tmp 9)) (y := (.const (vi 1))) (k := .i64) (a := s4.1) (b := 1) rfl rfl) ?_
    refine V 3 3 (ma 10 (vi (W64 (s4.1 - 1)))) ?_
    refine RWP.nil ?_
    have hn56 := iter_next h55 hnx26
    exact ⟨m23, Nat.lt_succ_self _, ((W64 (s4.1 - 1)), q43.2), F4, Lf50, hn56, hs51, (le7.trans le48), e10, e11, e12, rfl, hJ49⟩
  ·have h57 := cond_f hb25 hb27
   refine CWP.exit (by kernel_rfl) ?_
   refine thenQ_ex ?_
   refine thenQ_ex ?_
   refine blockQ_hit rfl ?_
   have hs58 : HS wb Fb w5 F2 Lf8 := hs6.drop 0
   have ho59 := iter_done h57 hnx26
   exact .inl ⟨rfl, (s4.1, s4.2), F2, Lf8, ho59, hs58, le7, e10, hJ9⟩
 ·rintro f w15 ⟨s14, F3, Lf18, rfl, hs16, le17, e20, hJ19⟩
  have h60 := k_done h3
  have hfin := some_inj h60
  subst hfin
  exact ⟨e20, .tuple #[], res_of (l := []) (by kernel_rfl) (vs := []) trivial, F3, Lf18, rfl, hs16, le17, hJ19⟩
end Go.Proofs.YtlddakefmfcblaaGreatDoor
namespace Go.Proofs.YtlddakefmfcblaaGreatDoor
open Go.Proofs
theorem co_slices_Backward_int_int : CallOk Tryz.prog 105 := fun _ _ => by kernel_rfl
set_option maxRecDepth 100000 in
theorem c_slices_Backward_int_int (w0 : World) (F0 : Mem) (hF : ∀ b o, F0 b = some o → w0.heap[b]? = some o) (x0 : List Int) (a0_0 : Option Addr) (n0_0 : Nat) (_ : LC x0.length n0_0) (_ : SlA tInt F0 a0_0 x0) :
  Calls Tryz.prog 105 ([(.slice a0_0 x0.length n0_0)] : List Value).toArray w0 (FRetO w0 F0 fun _ v L' => ∃ (b0 : Nat), v = .func (.func 130) #[] #[.pointer (some ⟨b0, 0, none⟩)] ∧ L' = [(some b0, .cells #[(.slice a0_0 x0.length n0_0)] 77 (0, 0))]) := by
 have hs0 := HS.start hF
 refine calls_of (n := 4) (c := bodyOf Tryz.f105) Tryz.func105 (by kernel_rfl) (by kernel_rfl) (by kernel_rfl) ?_
 refine CWP.seq (by kernel_rfl) ?_
 refine CWP.region (l := [0, 1]) (by kernel_rfl) (by kernel_rfl) (by kernel_rfl) ?_
 refine RWP.box (dst := (some 1)) (ty := 0) (g := none) (by kernel_rfl) rfl (x := (.tmp 0)) (t := 77) (v := (.slice a0_0 x0.length n0_0)) rfl (C := #[(.slice a0_0 x0.length n0_0)]) rfl hs0 (fun b0 w1 hs1 => ?_)
 refine RWP.val (dst := (some 2)) (ty := 129) (g := none) (by kernel_rfl) rfl (run_assign (x := (.const .nilFunc)) (v := .nilFunc) rfl) ?_
 refine RWP.nil ?_
 refine thenQ_nrm ?_
 refine CWP.seq (by kernel_rfl) ?_
 refine CWP.region (l := [0, 1]) (by kernel_rfl) (by kernel_rfl) (by kernel_rfl) ?_
 refine RWP.val (dst := some 3) (ty := 128) (g := none) (by kernel_rfl) rfl (run_makeFunc (fn := .func 130) (first := #[]) (cap := #[.tmp 1]) (fl := []) (cl := [.pointer (some ⟨b0, 0, none⟩)]) rfl rfl) ?_
 refine RWP.val (dst := (some 2)) (ty := 129) (g := none) (by kernel_rfl) rfl (run_assign (x := (.tmp 3)) (v := .func (.func 130) #[] #[.pointer (some ⟨b0, 0, none⟩)]) rfl) ?_
 refine RWP.nil ?_
 refine thenQ_nrm ?_
 refine CWP.ret (by kernel_rfl) ?_
 exact ⟨rfl, _, res_of (l := [.tmp 2]) (by kernel_rfl) (vs := [.func (.func 130) #[] #[.pointer (some ⟨b0, 0, none⟩)]]) ⟨rfl, trivial⟩, _, F0, _, rfl, hs1, b0, rfl, rfl⟩
end Go.Proofs.YtlddakefmfcblaaGreatDoor
namespace Go.Proofs.YtlddakefmfcblaaGreatDoor
open Go.Proofs
def air_Since_L0 (N : Nat) (x0 : (List Prefix)) (x1 : (List UInt8)) (x2 : Int) (r13 : (Int × Int)) (r31 : (List (air_key × (List Int)))) : (List Int × Int) → Option (Flow (Span × Int) (List Int × Int)) := fun s54 =>
 (bif (decide (s54.2 < (x0.length : Int))) then ((idx x0 s54.2).bind fun x83 => ((apnd s54.1 [x83.From, (W64 (x83.To + 1))]).bind fun r107 => some (.next (r107, (W64 (s54.2 + 1)))))) else some (.done (s54.1, s54.2)))
def air_Since_L1 (N : Nat) (x0 : (List Prefix)) (x1 : (List UInt8)) (x2 : Int) (r13 : (Int × Int)) (r31 : (List (air_key × (List Int)))) (s66 : (List Int × Int)) (r122 : List Int) (r131 : List Int) : Int → (Int × Int) → Option (Int × Bool) := fun s166 x179 =>
 ((bif (decide (x179.2 ≤ x2)) then ((air_Since_1 N (W64 (x179.2 - 1)) r31 x0 x1 r13.1).bind fun r209 => some (!r209)) else some false).bind fun j197 => (bif j197 then some (x179.2, false) else some (s166, true)))
def air_Since_L2 (N : Nat) (x0 : (List Prefix)) (x1 : (List UInt8)) (x2 : Int) (r13 : (Int × Int)) (r31 : (List (air_key × (List Int)))) (s66 : (List Int × Int)) (r122 : List Int) (r131 : List Int) (r174 : (Int × Bool)) : (Int × Int) → Option (Flow (Span × Int) (Int × Int)) := fun s233 =>
 (bif (decide (s233.1 < (r131.length : Int))) then ((idx r131 s233.1).bind fun x260 => ((bif (decide (x260 > x2)) then (bif (decide (x260 ≤ 99999)) then ((air_Since_1 N x260 r31 x0 x1 r13.1).bind fun r294 => some (!r294)) else some false) else some false).bind fun j277 => (bif j277 then some (.done (s233.1, (W64 (x260 - 1)))) else some (.next ((W64 (s233.1 + 1)), s233.2))))) else some (.done (s233.1, s233.2)))
def air_Since (N : Nat) (x0 : (List Prefix)) (x1 : (List UInt8)) (x2 : Int) : Option (Span × Int) :=
 ((air_RowOf N x0 x1 x2).bind fun r13 => (bif (r13.2 != 0) then some (({ Lo := 0, Hi := 0 } : Span), r13.2) else ((air_tableOf N x0).bind fun r31 => ((iter (air_Since_L0 N x0 x1 x2 r13 r31) N (([] : List Int), 0)).bind fun o => o.k (fun r => some r) (fun s66 => ((slices_Sort_int_int N s66.1).bind fun r122 => ((slices_Compact_int_int N r122).bind fun r131 => ((slices_Backward_int_int_1 N (brkY (air_Since_L1 N x0 x1 x2 r13 r31 s66 r122 r131)) r131 (0, true)).bind fun r174 => ((iter (air_Since_L2 N x0 x1 x2 r13 r31 s66 r122 r131 r174) N (0, 99999)).bind fun o => o.k (fun r => some r) (fun s245 => some (({ Lo := r174.1, Hi := s245.2 } : Span), 0)))))))))))
theorem co_air_Since : CallOk Tryz.prog 59 := fun _ _ => by kernel_rfl
set_option maxHeartbeats 4000000 in
set_option maxRecDepth 100000 in
theorem c_air_Since (N : Nat) (w0 : World) (F0 : Mem) (hF : ∀ b o, F0 b = some o → w0.heap[b]? = some o) (hG : Glob F0) (x0 : (List Prefix)) (a0_0 : Option Addr) (n0_0 : Nat) (hb0_0 : LC x0.length n0_0) (hs0_0 : SlA tPrefix F0 a0_0 x0) (x1 : (List UInt8)) (x2 : Int) (r : (Span × Int)) (h : air_Since N x0 x1 x2 = some r) :
  Calls Tryz.prog 59 ([(.slice a0_0 x0.length n0_0), (.string ⟨(x1).toArray⟩), (vi x2)] : List Value).toArray w0 (FRet w0 F0 fun F' v => v = (.tuple #[(.agg #[(vi r.1.Lo), (vi r.1.Hi)]), (vi r.2)])) := by
 have hs0 := HS.start hF
 refine calls_ofM (n := 94) (c := bodyOf Tryz.f59) Tryz.func59 (by kernel_rfl) (by kernel_rfl) (by kernel_rfl) ?_
 refine Sq (Rg [0, 1, 2, 3, 4] ?_)
 refine Bx 3 0 0 61 #[(.slice a0_0 x0.length n0_0)] hs0 (fun b1 w2 (hs3 : HS w0 F0 w2 F0 [(sb b1 #[(.slice a0_0 x0.length n0_0)] 61)]) => ?_)
 refine Bx 4 0 1 9 #[(.string ⟨(x1).toArray⟩)] hs3 (fun b4 w5 (hs6 : HS w0 F0 w5 F0 [(sb b4 #[(.string ⟨(x1).toArray⟩)] 9), (sb b1 #[(.slice a0_0 x0.length n0_0)] 61)]) => ?_)
 refine Bx 5 0 2 3 #[(vi x2)] hs6 (fun b7 w8 (hs9 : HS w0 F0 w8 F0 [(sb b7 #[(vi x2)] 3), (sb b4 #[(.string ⟨(x1).toArray⟩)] 9), (sb b1 #[(.slice a0_0 x0.length n0_0)] 61)]) => ?_)
 refine Al 6 0 74 #[(vi 0), (vi 0)] hs9 (fun b10 w11 (hs12 : HS w0 F0 w11 F0 [(sb b10 #[(vi 0), (vi 0)] 74), (sb b7 #[(vi x2)] 3), (sb b4 #[(.string ⟨(x1).toArray⟩)] 9), (sb b1 #[(.slice a0_0 x0.length n0_0)] 61)]) => ?_)
 refine V 7 23 (mc (vi 0) (vi 0)) ?_
 refine Nss (Rg [0, 1, 2, 3, 4, 5, 6, 7, 8, 9] ?_)
 refine V 21 61 (ld 61 3 b1 0 false 1 (.slice a0_0 x0.length n0_0) (hs12.ownAt (k := 3) rfl)) ?_
 refine V 22 9 (ld 9 4 b4 0 false 1 (.string ⟨(x1).toArray⟩) (hs12.ownAt (k := 2) rfl)) ?_
 refine V 23 3 (ld 3 5 b7 0 false 1 (vi x2) (hs12.ownAt (k := 1) rfl)) ?_
 obtain ⟨r13, hr14, h15⟩ := bind_some h
 refine Cl 24 33 52 #[(.tmp 21), (.tmp 22), (.tmp 23)] #[61, 9, 3] co_air_RowOf hs12 (c_air_RowOf N w11 F0 hs12.pers hG (x0) a0_0 n0_0 hb0_0 hs0_0 (x1) (x2) _ hr14) ?_
 intro v16 F1 w17 hs18 le19 hp20
 obtain rfl := hp20
 refine V 20 33 (mv 24 (.tuple #[(vi r13.1), (vi r13.2)])) ?_
 refine V 25 3 (ex 20 0 (vi r13.1) (vs := #[(vi r13.1), (vi r13.2)])) ?_
 refine V 26 23 (ex 20 1 (vi r13.2) (vs := #[(vi r13.1), (vi r13.2)])) ?_
 refine RWP.alloc (dst := (some 8)) (ty := 0) (g := none) (by kernel_rfl) rfl (t := 3) (z := (vi 0)) (by kernel_rfl) (C := #[(vi 0)]) rfl hs18 (fun b21 w22 (hs23 : HS w0 F0 w22 F1 [(sb b21 #[(vi 0)] 3), (sb b10 #[(vi 0), (vi 0)] 74), (sb b7 #[(vi x2)] 3), (sb b4 #[(.string ⟨(x1).toArray⟩)] 9), (sb b1 #[(.slice a0_0 x0.length n0_0)] 61)]) => ?_)
 refine RWP.store (ty := 0) (g := none) (by kernel_rfl) rfl (x := (.tmp 8)) (y := (.tmp 25)) (t := 3) (gg := false) (s := 1) (v := (vi r13.1)) (b := b21) (o := 0) (C := #[(vi 0)]) rfl rfl (by kernel_rfl) hs23 (k := 0) rfl rfl rfl rfl (C' := #[(vi r13.1)]) rfl (fun w24 (hs25 : HS w0 F0 w24 F1 [(sb b21 #[(vi r13.1)] 3), (sb b10 #[(vi 0), (vi 0)] 74), (sb b7 #[(vi x2)] 3), (sb b4 #[(.string ⟨(x1).toArray⟩)] 9), (sb b1 #[(.slice a0_0 x0.length n0_0)] 61)]) => ?_)
 refine V 9 23 (ma 26 (vi r13.2)) ?_
 refine Nss ?_
 refine Sq (Rg [0, 1] ?_)
 refine V 27 23 (mv 9 (vi r13.2)) ?_
 refine V 28 4 (run_neq (t := 23) (t' := 23) (x := (.tmp 27)) (y := (.const (vi 0))) (k := .i64) (a := r13.2) (b := 0) rfl rfl) ?_
 refine Nt ?_
 refine CWP.cond (t := (r13.2 != 0)) (by kernel_rfl) rfl (fun hb26 => ?_) (fun hb26 => ?_)
 ·have h27 := cond_t h15 hb26
  refine Sq (Rg [0, 1, 2, 3] ?_)
  refine V 29 74 (run_build2 (t := 74) (parts := #[]) (vs := []) (rfl) (cs := [(vi 0), (vi 0)]) (by kernel_rfl)) ?_
  refine V 30 23 (mv 9 (vi r13.2)) ?_
  refine RWP.store (ty := 0) (g := none) (by kernel_rfl) rfl (x := (.tmp 6)) (y := (.tmp 29)) (t := 74) (gg := true) (s := 2) (v := (.agg #[(vi 0), (vi 0)])) (b := b10) (o := 0) (C := #[(vi 0), (vi 0)]) rfl rfl (by kernel_rfl) hs25 (k := 1) rfl rfl rfl rfl (C' := #[(vi 0), (vi 0)]) rfl (fun w28 (hs29 : HS w0 F0 w28 F1 [(sb b21 #[(vi r13.1)] 3), (sb b10 #[(vi 0), (vi 0)] 74), (sb b7 #[(vi x2)] 3), (sb b4 #[(.string ⟨(x1).toArray⟩)] 9), (sb b1 #[(.slice a0_0 x0.length n0_0)] 61)]) => ?_)
  refine V 7 23 (ma 30 (vi r13.2)) ?_
  refine Nt ?_
  refine CWP.ret (by kernel_rfl) ?_
  refine thenQ_ret ?_
  have hfin := some_inj h27
  subst hfin
  exact .inl ⟨rfl, (.tuple #[(.agg #[(vi 0), (vi 0)]), (vi r13.2)]), res_of (l := [.cell 6 74, .tmp 7]) (by kernel_rfl) (vs := [(.agg #[(vi 0), (vi 0)]), (vi r13.2)]) ⟨b10, 0, rfl, run_loadVar' (t := 74) (g := true) (s := 2) (by kernel_rfl) (hs29.ownAt (k := 1) rfl) rfl (by decide), ⟨rfl, trivial⟩⟩, (.tuple #[(.agg #[(vi 0), (vi 0)]), (vi r13.2)]), F1, rfl, hs29.clear, rfl⟩
 ·have h30 := cond_f h15 hb26
  refine Sc ?_
  refine thenQ_nrm ?_
  refine Sq (Rg [0, 1, 2, 3] ?_)
  refine V 31 61 (ld 61 3 b1 0 false 1 (.slice a0_0 x0.length n0_0) (hs25.ownAt (k := 4) rfl)) ?_
  obtain ⟨r31, hr32, h33⟩ := bind_some h30
  refine Cl 32 116 93 #[(.tmp 31)] #[61] co_air_tableOf hs25 (c_air_tableOf N w24 F1 hs25.pers (x0) a0_0 n0_0 hb0_0 (SlA.mono hs0_0 le19) _ hr32) ?_
  intro v34 F2 w35 hs36 le37 hp38
  obtain ⟨or31_0_0, rfl, hmr31_0_0⟩ := hp38
  refine RWP.alloc (dst := (some 10)) (ty := 0) (g := none) (by kernel_rfl) rfl (t := 116) (z := (.map none)) (by kernel_rfl) (C := #[(.map none)]) rfl hs36 (fun b39 w40 (hs41 : HS w0 F0 w40 F2 [(sb b39 #[(.map none)] 116), (sb b21 #[(vi r13.1)] 3), (sb b10 #[(vi 0), (vi 0)] 74), (sb b7 #[(vi x2)] 3), (sb b4 #[(.string ⟨(x1).toArray⟩)] 9), (sb b1 #[(.slice a0_0 x0.length n0_0)] 61)]) => ?_)
  refine RWP.store (ty := 0) (g := none) (by kernel_rfl) rfl (x := (.tmp 10)) (y := (.tmp 32)) (t := 116) (gg := false) (s := 1) (v := (.map or31_0_0)) (b := b39) (o := 0) (C := #[(.map none)]) rfl rfl (by kernel_rfl) hs41 (k := 0) rfl rfl rfl rfl (C' := #[(.map or31_0_0)]) rfl (fun w42 (hs43 : HS w0 F0 w42 F2 [(sb b39 #[(.map or31_0_0)] 116), (sb b21 #[(vi r13.1)] 3), (sb b10 #[(vi 0), (vi 0)] 74), (sb b7 #[(vi x2)] 3), (sb b4 #[(.string ⟨(x1).toArray⟩)] 9), (sb b1 #[(.slice a0_0 x0.length n0_0)] 61)]) => ?_)
  refine Nss (Rg [0, 1, 2] ?_)
  refine V 33 125 (run_makeFunc (fn := .func 102) (first := #[]) (cap := #[(.tmp 10), (.tmp 3), (.tmp 4), (.tmp 8)]) (fl := []) (cl := [(.pointer (some ⟨b39, 0, none⟩)), (.pointer (some ⟨b1, 0, none⟩)), (.pointer (some ⟨b4, 0, none⟩)), (.pointer (some ⟨b21, 0, none⟩))]) rfl (rfl)) ?_
  refine RWP.alloc (dst := (some 11)) (ty := 0) (g := none) (by kernel_rfl) rfl (t := 125) (z := .nilFunc) (by kernel_rfl) (C := #[.nilFunc]) rfl hs43 (fun b44 w45 (hs46 : HS w0 F0 w45 F2 [(sb b44 #[.nilFunc] 125), (sb b39 #[(.map or31_0_0)] 116), (sb b21 #[(vi r13.1)] 3), (sb b10 #[(vi 0), (vi 0)] 74), (sb b7 #[(vi x2)] 3), (sb b4 #[(.string ⟨(x1).toArray⟩)] 9), (sb b1 #[(.slice a0_0 x0.length n0_0)] 61)]) => ?_)
  refine RWP.store (ty := 0) (g := none) (by kernel_rfl) rfl (x := (.tmp 11)) (y := (.tmp 33)) (t := 125) (gg := false) (s := 1) (v := (.func (.func 102) #[] #[(.pointer (some ⟨b39, 0, none⟩)), (.pointer (some ⟨b1, 0, none⟩)), (.pointer (some ⟨b4, 0, none⟩)), (.pointer (some ⟨b21, 0, none⟩))])) (b := b44) (o := 0) (C := #[.nilFunc]) rfl rfl (by kernel_rfl) hs46 (k := 0) rfl rfl rfl rfl (C' := #[(.func (.func 102) #[] #[(.pointer (some ⟨b39, 0, none⟩)), (.pointer (some ⟨b1, 0, none⟩)), (.pointer (some ⟨b4, 0, none⟩)), (.pointer (some ⟨b21, 0, none⟩))])]) rfl (fun w47 (hs48 : HS w0 F0 w47 F2 [(sb b44 #[(.func (.func 102) #[] #[(.pointer (some ⟨b39, 0, none⟩)), (.pointer (some ⟨b1, 0, none⟩)), (.pointer (some ⟨b4, 0, none⟩)), (.pointer (some ⟨b21, 0, none⟩))])] 125), (sb b39 #[(.map or31_0_0)] 116), (sb b21 #[(vi r13.1)] 3), (sb b10 #[(vi 0), (vi 0)] 74), (sb b7 #[(vi x2)] 3), (sb b4 #[(.string ⟨(x1).toArray⟩)] 9), (sb b1 #[(.slice a0_0 x0.length n0_0)] 61)]) => ?_)
  refine Nss (Rg [0] ?_)
  refine V 12 77 (mc (.slice none 0 0) (.slice none ([] : List Int).length 0)) ?_
  refine Nss ?_
  refine Sq (Rg [0, 1, 2] ?_)
  refine V 34 61 (ld 61 3 b1 0 false 1 (.slice a0_0 x0.length n0_0) (hs48.ownAt (k := 6) rfl)) ?_
  refine V 35 3 (ln 34 61 a0_0 x0.length n0_0 71 7 64) ?_
  refine V 36 3 (run_move (x := (.const (vi 0))) (v := (vi 0)) rfl) ?_
  refine Nt ?_
  have hs49 : HS w0 F0 w47 F2 [(none, .cells #[] 0 (0, 0)), (sb b44 #[(.func (.func 102) #[] #[(.pointer (some ⟨b39, 0, none⟩)), (.pointer (some ⟨b1, 0, none⟩)), (.pointer (some ⟨b4, 0, none⟩)), (.pointer (some ⟨b21, 0, none⟩))])] 125), (sb b39 #[(.map or31_0_0)] 116), (sb b21 #[(vi r13.1)] 3), (sb b10 #[(vi 0), (vi 0)] 74), (sb b7 #[(vi x2)] 3), (sb b4 #[(.string ⟨(x1).toArray⟩)] 9), (sb b1 #[(.slice a0_0 x0.length n0_0)] 61)] := hs48.dummy _
  obtain ⟨o51, ho52, h53⟩ := bind_some h33
  refine CWP.cut (fun f w => ∃ (s66 : (List Int × Int)) (F4 : Mem) (as66_0 : Option Addr) (ns66_0 : Nat) (es66_0 : Option Nat × Obj), o51 = .done s66 ∧ HS w0 F0 w F4 [es66_0, (sb b44 #[(.func (.func 102) #[] #[(.pointer (some ⟨b39, 0, none⟩)), (.pointer (some ⟨b1, 0, none⟩)), (.pointer (some ⟨b4, 0, none⟩)), (.pointer (some ⟨b21, 0, none⟩))])] 125), (sb b39 #[(.map or31_0_0)] 116), (sb b21 #[(vi r13.1)] 3), (sb b10 #[(vi 0), (vi 0)] 74), (sb b7 #[(vi x2)] 3), (sb b4 #[(.string ⟨(x1).toArray⟩)] 9), (sb b1 #[(.slice a0_0 x0.length n0_0)] 61)] ∧ Mem.le F2 F4 ∧ f.d = [] ∧ f 5 = (.pointer (some ⟨b7, 0, none⟩)) ∧ f 6 = (.pointer (some ⟨b10, 0, none⟩)) ∧ f 11 = (.pointer (some ⟨b44, 0, none⟩)) ∧ f 12 = (.slice as66_0 s66.1.length ns66_0) ∧ RowR tInt 3 F4 as66_0 ns66_0 s66.1 es66_0) ?_ ?_
  ·refine Bk ?_
   refine CWP.loop (by kernel_rfl) (fun m f w => ∃ (s54 : (List Int × Int)) (F3 : Mem) (as54_0 : Option Addr) (ns54_0 : Nat) (es54_0 : Option Nat × Obj), iter (air_Since_L0 N x0 x1 x2 r13 r31) m s54 = some o51 ∧ HS w0 F0 w F3 [es54_0, (sb b44 #[(.func (.func 102) #[] #[(.pointer (some ⟨b39, 0, none⟩)), (.pointer (some ⟨b1, 0, none⟩)), (.pointer (some ⟨b4, 0, none⟩)), (.pointer (some ⟨b21, 0, none⟩))])] 125), (sb b39 #[(.map or31_0_0)] 116), (sb b21 #[(vi r13.1)] 3), (sb b10 #[(vi 0), (vi 0)] 74), (sb b7 #[(vi x2)] 3), (sb b4 #[(.string ⟨(x1).toArray⟩)] 9), (sb b1 #[(.slice a0_0 x0.length n0_0)] 61)] ∧ Mem.le F2 F3 ∧ f.d = [] ∧ f 5 = (.pointer (some ⟨b7, 0, none⟩)) ∧ f 6 = (.pointer (some ⟨b10, 0, none⟩)) ∧ f 11 = (.pointer (some ⟨b44, 0, none⟩)) ∧ f 12 = (.slice as54_0 s54.1.length ns54_0) ∧ f 34 = (.slice a0_0 x0.length n0_0) ∧ f 35 = (vi (x0.length : Int)) ∧ f 36 = (vi s54.2) ∧ RowR tInt 3 F3 as54_0 ns54_0 s54.1 es54_0) N ⟨(([] : List Int), 0), F2, none, 0, (none, .cells #[] 0 (0, 0)), ho52, hs49, (Mem.le.refl _), rfl, rfl, rfl, rfl, rfl, rfl, rfl, rfl, (RowR.nil tInt 3 F2 _)⟩ ?_
   rintro m75 f w55 ⟨s54, F3, as54_0, ns54_0, es54_0, hit76, hs56, le57, e58, e59, e60, e61, e62, e63, e64, e65, hrs54_0⟩
   obtain ⟨m77, fl78, rfl, hb79, hnx80⟩ := iter_step hit76
   refine Sq (Rg [0] ?_)
   refine V 37 0 (run_lss (t := 3) (t' := 3) (x := (.tmp 36)) (y := (.tmp 35)) (k := .i64) (a := s54.2) (b := (x0.length : Int)) e65 e64) ?_
   refine Nss ?_
   refine CWP.cond (t := (decide (s54.2 < (x0.length : Int)))) (by kernel_rfl) rfl (fun hb81 => ?_) (fun hb81 => ?_)
   ·have h82 := cond_t hb79 hb81
    refine Sc ?_
    refine thenQ_nrm ?_
    refine Sq ?_
    refine Bk ?_
    refine Sq (Rg [0, 1, 2, 3] ?_)
    obtain ⟨x83, hx84, h86⟩ := bind_some h82
    obtain ⟨hi85, hx84'⟩ := idx_spec hx84
    obtain ⟨b87, o88, C89, E90, fz91, rfl, hF93, hE94⟩ := SlA.open (SlA.mono hs0_0 ((le19.trans le37).trans le57)) hx84'
    have hc96 := hE94 _ _ hx84'
    refine V 38 0 (run_index (t := 61) (x := (.tmp 34)) (y := (.tmp 36)) (b := b87) (o := o88) (E := 71) (s := 7) (by_ := 64) e63 e65 (by kernel_rfl) hi85) ?_
    refine V 39 71 (lx 71 38 0 7 true 7 (.agg #[(.string ⟨(x83.Text).toArray⟩), (vi x83.Country), (vi x83.Zone), (vi x83.Continent), (vi x83.From), (vi x83.To), (.bool x83.Whole)]) (hs56.pers _ _ hF93) hc96) ?_
    refine Al 14 0 71 #[(.string ⟨(([] : List UInt8)).toArray⟩), (vi 0), (vi 0), (vi 0), (vi 0), (vi 0), (.bool false)] hs56 (fun b97 w98 (hs99 : HS w0 F0 w98 F3 [(sb b97 #[(.string ⟨(([] : List UInt8)).toArray⟩), (vi 0), (vi 0), (vi 0), (vi 0), (vi 0), (.bool false)] 71), es54_0, (sb b44 #[(.func (.func 102) #[] #[(.pointer (some ⟨b39, 0, none⟩)), (.pointer (some ⟨b1, 0, none⟩)), (.pointer (some ⟨b4, 0, none⟩)), (.pointer (some ⟨b21, 0, none⟩))])] 125), (sb b39 #[(.map or31_0_0)] 116), (sb b21 #[(vi r13.1)] 3), (sb b10 #[(vi 0), (vi 0)] 74), (sb b7 #[(vi x2)] 3), (sb b4 #[(.string ⟨(x1).toArray⟩)] 9), (sb b1 #[(.slice (some ⟨b87, o88, none⟩) x0.length n0_0)] 61)]) => ?_)
    refine RWP.store (ty := 0) (g := none) (by kernel_rfl) rfl (x := (.tmp 14)) (y := (.tmp 39)) (t := 71) (gg := true) (s := 7) (v := (.agg #[(.string ⟨(x83.Text).toArray⟩), (vi x83.Country), (vi x83.Zone), (vi x83.Continent), (vi x83.From), (vi x83.To), (.bool x83.Whole)])) (b := b97) (o := 0) (C := #[(.string ⟨(([] : List UInt8)).toArray⟩), (vi 0), (vi 0), (vi 0), (vi 0), (vi 0), (.bool false)]) rfl rfl (by kernel_rfl) hs99 (k := 0) rfl rfl rfl rfl (C' := #[(.string ⟨(x83.Text).toArray⟩), (vi x83.Country), (vi x83.Zone), (vi x83.Continent), (vi x83.From), (vi x83.To), (.bool x83.Whole)]) rfl (fun w100 (hs101 : HS w0 F0 w100 F3 [(sb b97 #[(.string ⟨(x83.Text).toArray⟩), (vi x83.Country), (vi x83.Zone), (vi x83.Continent), (vi x83.From), (vi x83.To), (.bool x83.Whole)] 71), es54_0, (sb b44 #[(.func (.func 102) #[] #[(.pointer (some ⟨b39, 0, none⟩)), (.pointer (some ⟨b1, 0, none⟩)), (.pointer (some ⟨b4, 0, none⟩)), (.pointer (some ⟨b21, 0, none⟩))])] 125), (sb b39 #[(.map or31_0_0)] 116), (sb b21 #[(vi r13.1)] 3), (sb b10 #[(vi 0), (vi 0)] 74), (sb b7 #[(vi x2)] 3), (sb b4 #[(.string ⟨(x1).toArray⟩)] 9), (sb b1 #[(.slice (some ⟨b87, o88, none⟩) x0.length n0_0)] 61)]) => ?_)
    refine Nt ?_
    refine Rg [0, 1, 2, 3, 4, 5, 6, 7, 8] ?_
    refine V 40 77 (mv 12 (.slice as54_0 s54.1.length ns54_0) e62) ?_
    refine V 41 0 (fa 71 14 4 4 1 b97 0 4) ?_
    refine V 42 3 (ld 3 41 b97 4 false 1 (vi x83.From) (hs101.ownAt (k := 0) rfl)) ?_
    refine V 43 0 (fa 71 14 5 5 1 b97 0 5) ?_
    refine V 44 3 (ld 3 43 b97 5 false 1 (vi x83.To) (hs101.ownAt (k := 0) rfl)) ?_
    refine V 45 3 (run_add (t := 3) (t' := 3) (x := (.tmp 44)) (y := (.const (vi 1))) (k := .i64) (a := x83.To) (b := 1) rfl rfl) ?_
    refine RWP.buildSlice (dst := (some 46)) (ty := 77) (g := none) (by kernel_rfl) rfl (t := 77) (len := 2) (parts := #[(0, (.tmp 42)), (1, (.tmp 45))]) (vs := [(0, (vi x83.From)), (1, (vi (W64 (x83.To + 1))))]) (rfl) (E := 3) (cs := [(vi x83.From), (vi (W64 (x83.To + 1)))]) (by kernel_rfl) hs101 (fun b102 w103 (hs104 : HS w0 F0 w103 F3 [(some b102, .cells ([(vi x83.From), (vi (W64 (x83.To + 1)))] : List Value).toArray 3 (0, 0)), (sb b97 #[(.string ⟨(x83.Text).toArray⟩), (vi x83.Country), (vi x83.Zone), (vi x83.Continent), (vi x83.From), (vi x83.To), (.bool x83.Whole)] 71), es54_0, (sb b44 #[(.func (.func 102) #[] #[(.pointer (some ⟨b39, 0, none⟩)), (.pointer (some ⟨b1, 0, none⟩)), (.pointer (some ⟨b4, 0, none⟩)), (.pointer (some ⟨b21, 0, none⟩))])] 125), (sb b39 #[(.map or31_0_0)] 116), (sb b21 #[(vi r13.1)] 3), (sb b10 #[(vi 0), (vi 0)] 74), (sb b7 #[(vi x2)] 3), (sb b4 #[(.string ⟨(x1).toArray⟩)] 9), (sb b1 #[(.slice (some ⟨b87, o88, none⟩) x0.length n0_0)] 61)]) => ?_)
    have hr106 : RowR tInt 3 F3 (some ⟨b102, 0, none⟩) 2 [x83.From, (W64 (x83.To + 1))] (some b102, .cells ([(vi x83.From), (vi (W64 (x83.To + 1)))] : List Value).toArray 3 (0, 0)) := RowR.lit ⟨rfl, ⟨rfl, rfl⟩⟩ (by simp)
    obtain ⟨r107, hap108, h109⟩ := bind_some h86
    refine RWP.append (dst := (some 47)) (ty := 77) (g := none) (by kernel_rfl) rfl (x := (.tmp 40)) (y := (.tmp 46)) (t := 77) (t2 := 77) (by_ := 8) (z := (vi 0)) (a2 := (some ⟨b102, 0, none⟩)) (c2 := 2) (m := [x83.From, (W64 (x83.To + 1))]) (T := tInt) (E := 3) (a := as54_0) (cap := ns54_0) (l := s54.1) rfl rfl (by kernel_rfl) (by decide) (by kernel_rfl) (by kernel_rfl) rfl oInt hs104 (k := 2) rfl hrs54_0 (RowR.rd hs104 (k := 0) rfl hr106) (r := r107) hap108 (fun a110 n111 e112 w113 (hs114 : HS w0 F0 w113 F3 [(some b102, .cells ([(vi x83.From), (vi (W64 (x83.To + 1)))] : List Value).toArray 3 (0, 0)), (sb b97 #[(.string ⟨(x83.Text).toArray⟩), (vi x83.Country), (vi x83.Zone), (vi x83.Continent), (vi x83.From), (vi x83.To), (.bool x83.Whole)] 71), e112, (sb b44 #[(.func (.func 102) #[] #[(.pointer (some ⟨b39, 0, none⟩)), (.pointer (some ⟨b1, 0, none⟩)), (.pointer (some ⟨b4, 0, none⟩)), (.pointer (some ⟨b21, 0, none⟩))])] 125), (sb b39 #[(.map or31_0_0)] 116), (sb b21 #[(vi r13.1)] 3), (sb b10 #[(vi 0), (vi 0)] 74), (sb b7 #[(vi x2)] 3), (sb b4 #[(.string ⟨(x1).toArray⟩)] 9), (sb b1 #[(.slice (some ⟨b87, o88, none⟩) x0.length n0_0)] 61)]) hr115 => ?_)
    refine V 12 77 (ma 47 (.slice a110 r107.length n111)) ?_
    refine RWP.nil ?_
    refine blockQ_nrm ?_
    refine thenQ_nrm ?_
    refine Rg [0, 1] ?_
    refine V 48 3 (run_add (t := 3) (t' := 3) (x := (.tmp 36)) (y := (.const (vi 1))) (k := .i64) (a := s54.2) (b := 1) e65 rfl) ?_
    refine V 36 3 (mv 48 (vi (W64 (s54.2 + 1)))) ?_
    refine RWP.nil ?_
    have hs116 : HS w0 F0 w113 F3 [(sb b97 #[(.string ⟨(x83.Text).toArray⟩), (vi x83.Country), (vi x83.Zone), (vi x83.Continent), (vi x83.From), (vi x83.To), (.bool x83.Whole)] 71), e112, (sb b44 #[(.func (.func 102) #[] #[(.pointer (some ⟨b39, 0, none⟩)), (.pointer (some ⟨b1, 0, none⟩)), (.pointer (some ⟨b4, 0, none⟩)), (.pointer (some ⟨b21, 0, none⟩))])] 125), (sb b39 #[(.map or31_0_0)] 116), (sb b21 #[(vi r13.1)] 3), (sb b10 #[(vi 0), (vi 0)] 74), (sb b7 #[(vi x2)] 3), (sb b4 #[(.string ⟨(x1).toArray⟩)] 9), (sb b1 #[(.slice (some ⟨b87, o88, none⟩) x0.length n0_0)] 61)] := hs114.drop 0
    have hs117 : HS w0 F0 w113 F3 [e112, (sb b44 #[(.func (.func 102) #[] #[(.pointer (some ⟨b39, 0, none⟩)), (.pointer (some ⟨b1, 0, none⟩)), (.pointer (some ⟨b4, 0, none⟩)), (.pointer (some ⟨b21, 0, none⟩))])] 125), (sb b39 #[(.map or31_0_0)] 116), (sb b21 #[(vi r13.1)] 3), (sb b10 #[(vi 0), (vi 0)] 74), (sb b7 #[(vi x2)] 3), (sb b4 #[(.string ⟨(x1).toArray⟩)] 9), (sb b1 #[(.slice (some ⟨b87, o88, none⟩) x0.length n0_0)] 61)] := hs116.drop 0
    have hn118 := iter_next h109 hnx80
    exact ⟨m77, Nat.lt_succ_self _, (r107, (W64 (s54.2 + 1))), F3, a110, n111, e112, hn118, hs117, le57, e58, e59, e60, e61, rfl, e63, e64, rfl, hr115⟩
   ·have h119 := cond_f hb79 hb81
    refine CWP.exit (by kernel_rfl) ?_
    refine thenQ_ex ?_
    refine thenQ_ex ?_
    refine blockQ_hit rfl ?_
    have ho120 := iter_done h119 hnx80
    exact .inl ⟨rfl, (s54.1, s54.2), F3, as54_0, ns54_0, es54_0, ho120, hs56, le57, e58, e59, e60, e61, e62, hrs54_0⟩
  ·rintro f w67 ⟨s66, F4, as66_0, ns66_0, es66_0, rfl, hs68, le69, e70, e71, e72, e73, e74, hrs66_0⟩
   have h121 := k_done h53
   refine thenQ_nrm ?_
   refine Sq (Rg [0, 1] ?_)
   refine V 49 77 (mv 12 (.slice as66_0 s66.1.length ns66_0) e74) ?_
   obtain ⟨r122, hr123, h124⟩ := bind_some h121
   refine RWP.callS (dst := (some 50)) (ty := 0) (g := none) (by kernel_rfl) rfl (f0 := (.func 103)) (aos := #[(.tmp 49)]) (ats := #[77]) (fid := 103) (first := #[]) (cap := #[]) (args := [(.slice as66_0 s66.1.length ns66_0)]) rfl co_slices_Sort_int_int (rfl) (c_slices_Sort_int_int N (Lf := [(sb b44 #[(.func (.func 102) #[] #[(.pointer (some ⟨b39, 0, none⟩)), (.pointer (some ⟨b1, 0, none⟩)), (.pointer (some ⟨b4, 0, none⟩)), (.pointer (some ⟨b21, 0, none⟩))])] 125), (sb b39 #[(.map or31_0_0)] 116), (sb b21 #[(vi r13.1)] 3), (sb b10 #[(vi 0), (vi 0)] 74), (sb b7 #[(vi x2)] 3), (sb b4 #[(.string ⟨(x1).toArray⟩)] 9), (sb b1 #[(.slice a0_0 x0.length n0_0)] 61)]) s66.1 as66_0 ns66_0 es66_0 hrs66_0 hs68  _ hr123) ?_
   rintro _ w126 ⟨F5, e125, rfl, hs127, le128, hr129⟩
   refine ⟨_, rfl, ?_⟩
   have hs130 : HS w0 F0 w126 F5 [e125, (sb b44 #[(.func (.func 102) #[] #[(.pointer (some ⟨b39, 0, none⟩)), (.pointer (some ⟨b1, 0, none⟩)), (.pointer (some ⟨b4, 0, none⟩)), (.pointer (some ⟨b21, 0, none⟩))])] 125), (sb b39 #[(.map or31_0_0)] 116), (sb b21 #[(vi r13.1)] 3), (sb b10 #[(vi 0), (vi 0)] 74), (sb b7 #[(vi x2)] 3), (sb b4 #[(.string ⟨(x1).toArray⟩)] 9), (sb b1 #[(.slice a0_0 x0.length n0_0)] 61)] := hs127
   refine Nss (Rg [0, 1, 2] ?_)
   refine V 51 77 (mv 12 (.slice as66_0 r122.length ns66_0) (len_eq e74 (ml_slices_Sort_int_int hr123))) ?_
   obtain ⟨r131, hr132, h133⟩ := bind_some h124
   refine RWP.callS (dst := (some 52)) (ty := 77) (g := none) (by kernel_rfl) rfl (f0 := (.func 104)) (aos := #[(.tmp 51)]) (ats := #[77]) (fid := 104) (first := #[]) (cap := #[]) (args := [(.slice as66_0 r122.length ns66_0)]) rfl co_slices_Compact_int_int (rfl) (c_slices_Compact_int_int N (Lf := [(sb b44 #[(.func (.func 102) #[] #[(.pointer (some ⟨b39, 0, none⟩)), (.pointer (some ⟨b1, 0, none⟩)), (.pointer (some ⟨b4, 0, none⟩)), (.pointer (some ⟨b21, 0, none⟩))])] 125), (sb b39 #[(.map or31_0_0)] 116), (sb b21 #[(vi r13.1)] 3), (sb b10 #[(vi 0), (vi 0)] 74), (sb b7 #[(vi x2)] 3), (sb b4 #[(.string ⟨(x1).toArray⟩)] 9), (sb b1 #[(.slice a0_0 x0.length n0_0)] 61)]) r122 as66_0 ns66_0 e125 hr129 hs130  _ hr132) ?_
   rintro _ w135 ⟨F6, e134, rfl, hs136, le137, hr138⟩
   refine ⟨_, rfl, ?_⟩
   have hs139 : HS w0 F0 w135 F6 [e134, (sb b44 #[(.func (.func 102) #[] #[(.pointer (some ⟨b39, 0, none⟩)), (.pointer (some ⟨b1, 0, none⟩)), (.pointer (some ⟨b4, 0, none⟩)), (.pointer (some ⟨b21, 0, none⟩))])] 125), (sb b39 #[(.map or31_0_0)] 116), (sb b21 #[(vi r13.1)] 3), (sb b10 #[(vi 0), (vi 0)] 74), (sb b7 #[(vi x2)] 3), (sb b4 #[(.string ⟨(x1).toArray⟩)] 9), (sb b1 #[(.slice a0_0 x0.length n0_0)] 61)] := hs136
   refine V 12 77 (ma 52 (.slice as66_0 r131.length ns66_0)) ?_
   refine Nss (Rg [0, 1, 2] ?_)
   refine V 53 74 (run_build2 (t := 74) (parts := #[(0, (.const (vi 0))), (1, (.const (vi 99999)))]) (vs := [(0, (vi 0)), (1, (vi 99999))]) (rfl) (cs := [(vi 0), (vi 99999)]) (by kernel_rfl)) ?_
   refine Al 15 0 74 #[(vi 0), (vi 0)] hs139 (fun b140 w141 (hs142 : HS w0 F0 w141 F6 [(sb b140 #[(vi 0), (vi 0)] 74), e134, (sb b44 #[(.func (.func 102) #[] #[(.pointer (some ⟨b39, 0, none⟩)), (.pointer (some ⟨b1, 0, none⟩)), (.pointer (some ⟨b4, 0, none⟩)), (.pointer (some ⟨b21, 0, none⟩))])] 125), (sb b39 #[(.map or31_0_0)] 116), (sb b21 #[(vi r13.1)] 3), (sb b10 #[(vi 0), (vi 0)] 74), (sb b7 #[(vi x2)] 3), (sb b4 #[(.string ⟨(x1).toArray⟩)] 9), (sb b1 #[(.slice a0_0 x0.length n0_0)] 61)]) => ?_)
   refine RWP.store (ty := 0) (g := none) (by kernel_rfl) rfl (x := (.tmp 15)) (y := (.tmp 53)) (t := 74) (gg := true) (s := 2) (v := (.agg #[(vi 0), (vi 99999)])) (b := b140) (o := 0) (C := #[(vi 0), (vi 0)]) rfl rfl (by kernel_rfl) hs142 (k := 0) rfl rfl rfl rfl (C' := #[(vi 0), (vi 99999)]) rfl (fun w143 (hs144 : HS w0 F0 w143 F6 [(sb b140 #[(vi 0), (vi 99999)] 74), e134, (sb b44 #[(.func (.func 102) #[] #[(.pointer (some ⟨b39, 0, none⟩)), (.pointer (some ⟨b1, 0, none⟩)), (.pointer (some ⟨b4, 0, none⟩)), (.pointer (some ⟨b21, 0, none⟩))])] 125), (sb b39 #[(.map or31_0_0)] 116), (sb b21 #[(vi r13.1)] 3), (sb b10 #[(vi 0), (vi 0)] 74), (sb b7 #[(vi x2)] 3), (sb b4 #[(.string ⟨(x1).toArray⟩)] 9), (sb b1 #[(.slice a0_0 x0.length n0_0)] 61)]) => ?_)
   refine Nss ?_
   refine Sq (Rg [0, 1] ?_)
   refine V 54 77 (mv 12 (.slice as66_0 r131.length ns66_0)) ?_
   have hb148 := RowR.bound hr138
   obtain ⟨F7, hs145, le146, hs147⟩ : ∃ Fq, HS w0 F0 w143 Fq [(sb b140 #[(vi 0), (vi 99999)] 74), (sb b44 #[(.func (.func 102) #[] #[(.pointer (some ⟨b39, 0, none⟩)), (.pointer (some ⟨b1, 0, none⟩)), (.pointer (some ⟨b4, 0, none⟩)), (.pointer (some ⟨b21, 0, none⟩))])] 125), (sb b39 #[(.map or31_0_0)] 116), (sb b21 #[(vi r13.1)] 3), (sb b10 #[(vi 0), (vi 0)] 74), (sb b7 #[(vi x2)] 3), (sb b4 #[(.string ⟨(x1).toArray⟩)] 9), (sb b1 #[(.slice a0_0 x0.length n0_0)] 61)] ∧ Mem.le F6 Fq ∧ SlA tInt Fq as66_0 r131 := HS.freezeRow hs144 (k := 1) rfl hr138
   refine RWP.callO (dst := (some 55)) (ty := 129) (g := none) (by kernel_rfl) rfl (f0 := (.func 105)) (aos := #[(.tmp 54)]) (ats := #[77]) (fid := 105) (first := #[]) (cap := #[]) (args := [(.slice as66_0 r131.length ns66_0)]) rfl co_slices_Backward_int_int (rfl) hs145 (c_slices_Backward_int_int w143 F7 hs145.pers (r131) as66_0 ns66_0 hb148 hs147) ?_
   rintro _ F8 w150 _ hs151 le152 ⟨b149, rfl, rfl⟩
   have hs153 : HS w0 F0 w150 F8 [(sb b149 #[(.slice as66_0 r131.length ns66_0)] 77), (sb b140 #[(vi 0), (vi 99999)] 74), (sb b44 #[(.func (.func 102) #[] #[(.pointer (some ⟨b39, 0, none⟩)), (.pointer (some ⟨b1, 0, none⟩)), (.pointer (some ⟨b4, 0, none⟩)), (.pointer (some ⟨b21, 0, none⟩))])] 125), (sb b39 #[(.map or31_0_0)] 116), (sb b21 #[(vi r13.1)] 3), (sb b10 #[(vi 0), (vi 0)] 74), (sb b7 #[(vi x2)] 3), (sb b4 #[(.string ⟨(x1).toArray⟩)] 9), (sb b1 #[(.slice a0_0 x0.length n0_0)] 61)] := hs151
   refine Nt ?_
   obtain ⟨F9, hs154, le155, hF156⟩ : ∃ Fq, HS w0 F0 w150 Fq [(sb b149 #[(.slice as66_0 r131.length ns66_0)] 77), (sb b140 #[(vi 0), (vi 99999)] 74), (sb b44 #[(.func (.func 102) #[] #[(.pointer (some ⟨b39, 0, none⟩)), (.pointer (some ⟨b1, 0, none⟩)), (.pointer (some ⟨b4, 0, none⟩)), (.pointer (some ⟨b21, 0, none⟩))])] 125), (sb b21 #[(vi r13.1)] 3), (sb b10 #[(vi 0), (vi 0)] 74), (sb b7 #[(vi x2)] 3), (sb b4 #[(.string ⟨(x1).toArray⟩)] 9), (sb b1 #[(.slice a0_0 x0.length n0_0)] 61)] ∧ Mem.le F8 Fq ∧ Fq b39 = some (oc #[(.map or31_0_0)] 116) := HS.freezeC hs153 (k := 3) rfl
   obtain ⟨F10, hs157, le158, hF159⟩ : ∃ Fq, HS w0 F0 w150 Fq [(sb b149 #[(.slice as66_0 r131.length ns66_0)] 77), (sb b140 #[(vi 0), (vi 99999)] 74), (sb b44 #[(.func (.func 102) #[] #[(.pointer (some ⟨b39, 0, none⟩)), (.pointer (some ⟨b1, 0, none⟩)), (.pointer (some ⟨b4, 0, none⟩)), (.pointer (some ⟨b21, 0, none⟩))])] 125), (sb b10 #[(vi 0), (vi 0)] 74), (sb b7 #[(vi x2)] 3), (sb b4 #[(.string ⟨(x1).toArray⟩)] 9), (sb b1 #[(.slice a0_0 x0.length n0_0)] 61)] ∧ Mem.le F9 Fq ∧ Fq b21 = some (oc #[(vi r13.1)] 3) := HS.freezeC hs154 (k := 3) rfl
   obtain ⟨F11, hs160, le161, hF162⟩ : ∃ Fq, HS w0 F0 w150 Fq [(sb b149 #[(.slice as66_0 r131.length ns66_0)] 77), (sb b140 #[(vi 0), (vi 99999)] 74), (sb b44 #[(.func (.func 102) #[] #[(.pointer (some ⟨b39, 0, none⟩)), (.pointer (some ⟨b1, 0, none⟩)), (.pointer (some ⟨b4, 0, none⟩)), (.pointer (some ⟨b21, 0, none⟩))])] 125), (sb b10 #[(vi 0), (vi 0)] 74), (sb b7 #[(vi x2)] 3), (sb b1 #[(.slice a0_0 x0.length n0_0)] 61)] ∧ Mem.le F10 Fq ∧ Fq b4 = some (oc #[(.string ⟨(x1).toArray⟩)] 9) := HS.freezeC hs157 (k := 5) rfl
   obtain ⟨F12, hs163, le164, hF165⟩ : ∃ Fq, HS w0 F0 w150 Fq [(sb b149 #[(.slice as66_0 r131.length ns66_0)] 77), (sb b140 #[(vi 0), (vi 99999)] 74), (sb b44 #[(.func (.func 102) #[] #[(.pointer (some ⟨b39, 0, none⟩)), (.pointer (some ⟨b1, 0, none⟩)), (.pointer (some ⟨b4, 0, none⟩)), (.pointer (some ⟨b21, 0, none⟩))])] 125), (sb b10 #[(vi 0), (vi 0)] 74), (sb b7 #[(vi x2)] 3)] ∧ Mem.le F11 Fq ∧ Fq b1 = some (oc #[(.slice a0_0 x0.length n0_0)] 61) := HS.freezeC hs160 (k := 5) rfl
   obtain ⟨r174, hr175, h176⟩ := bind_some h133
   refine CWP.blockRange (enc := enc156) (ok := ok156) (px := px156) (m := fun {_} y s => slices_Backward_int_int_1 N y r131 s) (L := [(sb b140 #[(vi 0), (vi 99999)] 74), (sb b44 #[(.func (.func 102) #[] #[(.pointer (some ⟨b39, 0, none⟩)), (.pointer (some ⟨b1, 0, none⟩)), (.pointer (some ⟨b4, 0, none⟩)), (.pointer (some ⟨b21, 0, none⟩))])] 125), (sb b10 #[(vi 0), (vi 0)] 74), (sb b7 #[(vi x2)] 3)]) (B := [(sb b149 #[(.slice as66_0 r131.length ns66_0)] 77)]) (ps := [56, 57]) (by kernel_rfl) (by kernel_rfl) (gf := 130) (cap := [(.pointer (some ⟨b149, 0, none⟩))]) rfl co_slices_Backward_int_int_1 e70 (by kernel_rfl) (by kernel_rfl) (fun _ => rfl) hs163 (c_slices_Backward_int_int_1 N F12 r131 as66_0 ns66_0 hb148 (SlA.mono hs147 ((((le152.trans le155).trans le158).trans le161).trans le164)) b149) (air_Since_L1 N x0 x1 x2 r13 r31 s66 r122 r131) (fun (s166 : Int) (F13 : Mem) (Lq : Own) => Lq = [(sb b140 #[(vi s166), (vi 99999)] 74), (sb b44 #[(.func (.func 102) #[] #[(.pointer (some ⟨b39, 0, none⟩)), (.pointer (some ⟨b1, 0, none⟩)), (.pointer (some ⟨b4, 0, none⟩)), (.pointer (some ⟨b21, 0, none⟩))])] 125), (sb b10 #[(vi 0), (vi 0)] 74), (sb b7 #[(vi x2)] 3)]) ?_ (s := 0) (r := r174) ?_ hr175 ?_ ?_
   ·rintro s F F' L rfl hl
    exact rfl
   ·exact rfl
   ·rintro l177 s166 x179 w180 F13 _ Rf182 q183 le184 ok185 rfl hs186 hy187
    have h188 := hy187
    have hs189 : HS w0 F0 w180 F13 ((sb b140 #[(vi s166), (vi 99999)] 74) :: (sb b44 #[(.func (.func 102) #[] #[(.pointer (some ⟨b39, 0, none⟩)), (.pointer (some ⟨b1, 0, none⟩)), (.pointer (some ⟨b4, 0, none⟩)), (.pointer (some ⟨b21, 0, none⟩))])] 125) :: (sb b10 #[(vi 0), (vi 0)] 74) :: (sb b7 #[(vi x2)] 3) :: Rf182) := hs186
    refine Rg [0] ?_
    refine V 17 3 (ma 57 (vi x179.2)) ?_
    refine RWP.nil ?_
    refine ⟨rfl, F13, [(sb b140 #[(vi s166), (vi 99999)] 74), (sb b44 #[(.func (.func 102) #[] #[(.pointer (some ⟨b39, 0, none⟩)), (.pointer (some ⟨b1, 0, none⟩)), (.pointer (some ⟨b4, 0, none⟩)), (.pointer (some ⟨b21, 0, none⟩))])] 125), (sb b10 #[(vi 0), (vi 0)] 74), (sb b7 #[(vi x2)] 3)], hs189, fun w190 Rf191 hs192 => ?_⟩
    have hs193 : HS w0 F0 w190 F13 ((sb b140 #[(vi s166), (vi 99999)] 74) :: (sb b44 #[(.func (.func 102) #[] #[(.pointer (some ⟨b39, 0, none⟩)), (.pointer (some ⟨b1, 0, none⟩)), (.pointer (some ⟨b4, 0, none⟩)), (.pointer (some ⟨b21, 0, none⟩))])] 125) :: (sb b10 #[(vi 0), (vi 0)] 74) :: (sb b7 #[(vi x2)] 3) :: Rf191) := hs192
    refine Bk ?_
    refine Sq (Rg [0, 1, 2, 3, 4, 5, 6, 7, 8, 9] ?_)
    obtain ⟨j197, hj205, h206⟩ := bind_some h188
    refine RWP.cut (fun f w => ∃ (F15 : Mem), HS w0 F0 w F15 ((sb b140 #[(vi s166), (vi 99999)] 74) :: (sb b44 #[(.func (.func 102) #[] #[(.pointer (some ⟨b39, 0, none⟩)), (.pointer (some ⟨b1, 0, none⟩)), (.pointer (some ⟨b4, 0, none⟩)), (.pointer (some ⟨b21, 0, none⟩))])] 125) :: (sb b10 #[(vi 0), (vi 0)] 74) :: (sb b7 #[(vi x2)] 3) :: Rf191) ∧ Mem.le F13 F15 ∧ f.d = [] ∧ f 5 = (.pointer (some ⟨b7, 0, none⟩)) ∧ f 6 = (.pointer (some ⟨b10, 0, none⟩)) ∧ f 11 = (.pointer (some ⟨b44, 0, none⟩)) ∧ f 15 = (.pointer (some ⟨b140, 0, none⟩)) ∧ f 17 = (vi x179.2) ∧ f 67 = (.bool j197)) ?_ ?_
    ·refine V 58 3 (mv 17 (vi x179.2)) ?_
     refine V 59 3 (ld 3 5 b7 0 false 1 (vi x2) (hs193.ownAt (k := 3) rfl) e71) ?_
     refine V 60 4 (run_leq (t := 3) (t' := 3) (x := (.tmp 58)) (y := (.tmp 59)) (k := .i64) (a := x179.2) (b := x2) rfl rfl) ?_
     refine V 61 4 (mv 60 (.bool (decide (x179.2 ≤ x2)))) ?_
     refine RWP.split (decide (x179.2 ≤ x2)) (fun hb207 => ?_) (fun hb207 => ?_)
     ·have h208 := cond_t hj205 hb207
      refine Vg 62 125 3 true 61 hb207 (ld 125 11 b44 0 false 1 (.func (.func 102) #[] #[(.pointer (some ⟨b39, 0, none⟩)), (.pointer (some ⟨b1, 0, none⟩)), (.pointer (some ⟨b4, 0, none⟩)), (.pointer (some ⟨b21, 0, none⟩))]) (hs193.ownAt (k := 1) rfl) e73) ?_
      refine Vg 63 3 3 true 61 hb207 (mv 17 (vi x179.2)) ?_
      refine Vg 64 3 3 true 61 hb207 (run_sub (t := 3) (t' := 3) (x := (.tmp 63)) (y := (.const (vi 1))) (k := .i64) (a := x179.2) (b := 1) rfl rfl) ?_
      obtain ⟨r209, hr210, h211⟩ := bind_some h208
      refine RWP.call (dst := (some 65)) (ty := 4) (g := (some (3, true))) (by kernel_rfl) (gd_y (d := 61) (by kernel_rfl) rfl hb207) (f0 := (.tmp 62)) (aos := #[(.tmp 64)]) (ats := #[3]) (fid := 102) (first := #[]) (cap := #[(.pointer (some ⟨b39, 0, none⟩)), (.pointer (some ⟨b1, 0, none⟩)), (.pointer (some ⟨b4, 0, none⟩)), (.pointer (some ⟨b21, 0, none⟩))]) (args := [(vi (W64 (x179.2 - 1))), (.pointer (some ⟨b39, 0, none⟩)), (.pointer (some ⟨b1, 0, none⟩)), (.pointer (some ⟨b4, 0, none⟩)), (.pointer (some ⟨b21, 0, none⟩))]) rfl co_air_Since_1 (rfl) hs193 (c_air_Since_1 N w190 F13 hs193.pers (hG.mono (((((((((((le19.trans le37).trans le69).trans le128).trans le137).trans le146).trans le152).trans le155).trans le158).trans le161).trans le164).trans le184)) ((W64 (x179.2 - 1))) b39 r31 or31_0_0 (MpA.mono hmr31_0_0 (((((((((le69.trans le128).trans le137).trans le146).trans le152).trans le155).trans le158).trans le161).trans le164).trans le184)) ((((le158.trans le161).trans le164).trans le184) _ _ hF156) b1 x0 a0_0 n0_0 hb0_0 (SlA.mono hs0_0 (((((((((((le19.trans le37).trans le69).trans le128).trans le137).trans le146).trans le152).trans le155).trans le158).trans le161).trans le164).trans le184)) (le184 _ _ hF165) b4 x1 ((le164.trans le184) _ _ hF162) b21 r13.1 (((le161.trans le164).trans le184) _ _ hF159) _ hr210) ?_
      intro v212 F16 w213 hs214 le215 hp216
      obtain rfl := hp216
      refine Vg 66 4 3 true 61 hb207 (run_not (t := 4) (x := (.tmp 65)) (a := r209) rfl) ?_
      refine V 67 4 (p1 61 (.tmp 66) (.const (.bool false)) (.bool (!r209)) hb207) ?_
      obtain rfl := some_inj h211
      exact RWP.nil ⟨rfl, F16, hs214, le215, e70, e71, e72, e73, rfl, rfl, rfl⟩
     ·have h217 := cond_f hj205 hb207
      refine Sk [62, 63, 64, 65, 66] 3 true 61 hb207 ?_
      refine V 67 4 (p0 61 (.tmp 66) (.const (.bool false)) (.bool false) hb207) ?_
      obtain rfl := some_inj h217
      exact RWP.nil ⟨rfl, F13, hs193, (Mem.le.refl _), e70, e71, e72, e73, rfl, rfl, rfl⟩
    ·rintro f w194 ⟨F15, hs195, le196, e198, e199, e200, e201, e202, e203, e204⟩
     refine thenQ_nrm ?_
     refine CWP.cond (t := j197) (by kernel_rfl) e204 (fun hb218 => ?_) (fun hb218 => ?_)
     ·have h219 := cond_t h206 hb218
      refine Sq (Rg [0, 1, 2] ?_)
      refine V 68 3 (mv 17 (vi x179.2) e203) ?_
      refine V 69 0 (fa 74 15 0 0 1 b140 0 0 e202) ?_
      refine RWP.store (ty := 0) (g := none) (by kernel_rfl) rfl (x := (.tmp 69)) (y := (.tmp 68)) (t := 3) (gg := false) (s := 1) (v := (vi x179.2)) (b := b140) (o := 0) (C := #[(vi s166), (vi 99999)]) rfl rfl (by kernel_rfl) hs195 (k := 0) rfl rfl rfl rfl (C' := #[(vi x179.2), (vi 99999)]) rfl (fun w220 (hs221 : HS w0 F0 w220 F15 ((sb b140 #[(vi x179.2), (vi 99999)] 74) :: (sb b44 #[(.func (.func 102) #[] #[(.pointer (some ⟨b39, 0, none⟩)), (.pointer (some ⟨b1, 0, none⟩)), (.pointer (some ⟨b4, 0, none⟩)), (.pointer (some ⟨b21, 0, none⟩))])] 125) :: (sb b10 #[(vi 0), (vi 0)] 74) :: (sb b7 #[(vi x2)] 3) :: Rf191)) => ?_)
      refine Nt ?_
      refine CWP.exit (by kernel_rfl) ?_
      refine blockQ_miss (by decide) ?_
      obtain rfl := some_inj h219
      exact ⟨.inr ⟨rfl, rfl⟩, F15, [(sb b140 #[(vi x179.2), (vi 99999)] 74), (sb b44 #[(.func (.func 102) #[] #[(.pointer (some ⟨b39, 0, none⟩)), (.pointer (some ⟨b1, 0, none⟩)), (.pointer (some ⟨b4, 0, none⟩)), (.pointer (some ⟨b21, 0, none⟩))])] 125), (sb b10 #[(vi 0), (vi 0)] 74), (sb b7 #[(vi x2)] 3)], hs221, le196, rfl⟩
     ·have h223 := cond_f h206 hb218
      refine Sc ?_
      refine blockQ_nrm ?_
      obtain rfl := some_inj h223
      exact ⟨.inl ⟨rfl, rfl⟩, F15, [(sb b140 #[(vi s166), (vi 99999)] 74), (sb b44 #[(.func (.func 102) #[] #[(.pointer (some ⟨b39, 0, none⟩)), (.pointer (some ⟨b1, 0, none⟩)), (.pointer (some ⟨b4, 0, none⟩)), (.pointer (some ⟨b21, 0, none⟩))])] 125), (sb b10 #[(vi 0), (vi 0)] 74), (sb b7 #[(vi x2)] 3)], hs195, le196, rfl⟩
   ·rintro D225 w226 F14 _ hs227 le228 rfl
    have hs229 : HS w0 F0 w226 F14 [(some D225, (.deferred (some []))), (sb b140 #[(vi r174.1), (vi 99999)] 74), (sb b44 #[(.func (.func 102) #[] #[(.pointer (some ⟨b39, 0, none⟩)), (.pointer (some ⟨b1, 0, none⟩)), (.pointer (some ⟨b4, 0, none⟩)), (.pointer (some ⟨b21, 0, none⟩))])] 125), (sb b10 #[(vi 0), (vi 0)] 74), (sb b7 #[(vi x2)] 3)] := hs227
    refine thenQ_nrm ?_
    refine Sq ?_
    refine Sq (Rg [0, 1, 2] ?_)
    refine V 70 77 (mv 12 (.slice as66_0 r131.length ns66_0)) ?_
    refine V 71 3 (ln 70 77 as66_0 r131.length ns66_0 3 1 8) ?_
    refine V 72 3 (run_move (x := (.const (vi 0))) (v := (vi 0)) rfl) ?_
    refine Nt ?_
    obtain ⟨o230, ho231, h232⟩ := bind_some h176
    refine CWP.cut (fun f w => ∃ (s245 : (Int × Int)) (F18 : Mem), o230 = .done s245 ∧ HS w0 F0 w F18 [(some D225, (.deferred (some []))), (sb b140 #[(vi r174.1), (vi s245.2)] 74), (sb b10 #[(vi 0), (vi 0)] 74)] ∧ Mem.le F14 F18 ∧ f.d = [{ target := .collected D225, args := #[] }] ∧ f 6 = (.pointer (some ⟨b10, 0, none⟩)) ∧ f 15 = (.pointer (some ⟨b140, 0, none⟩))) ?_ ?_
    ·refine Bk ?_
     refine CWP.loop (by kernel_rfl) (fun m f w => ∃ (s233 : (Int × Int)) (F17 : Mem), iter (air_Since_L2 N x0 x1 x2 r13 r31 s66 r122 r131 r174) m s233 = some o230 ∧ HS w0 F0 w F17 [(some D225, (.deferred (some []))), (sb b140 #[(vi r174.1), (vi s233.2)] 74), (sb b44 #[(.func (.func 102) #[] #[(.pointer (some ⟨b39, 0, none⟩)), (.pointer (some ⟨b1, 0, none⟩)), (.pointer (some ⟨b4, 0, none⟩)), (.pointer (some ⟨b21, 0, none⟩))])] 125), (sb b10 #[(vi 0), (vi 0)] 74), (sb b7 #[(vi x2)] 3)] ∧ Mem.le F14 F17 ∧ f.d = [{ target := .collected D225, args := #[] }] ∧ f 5 = (.pointer (some ⟨b7, 0, none⟩)) ∧ f 6 = (.pointer (some ⟨b10, 0, none⟩)) ∧ f 11 = (.pointer (some ⟨b44, 0, none⟩)) ∧ f 15 = (.pointer (some ⟨b140, 0, none⟩)) ∧ f 70 = (.slice as66_0 r131.length ns66_0) ∧ f 71 = (vi (r131.length : Int)) ∧ f 72 = (vi s233.1)) N ⟨(0, 99999), F14, ho231, hs229, (Mem.le.refl _), rfl, e71, e72, e73, rfl, rfl, rfl, rfl⟩ ?_
     rintro m252 f w234 ⟨s233, F17, hit253, hs235, le236, e237, e238, e239, e240, e241, e242, e243, e244⟩
     obtain ⟨m254, fl255, rfl, hb256, hnx257⟩ := iter_step hit253
     refine Sq (Rg [0] ?_)
     refine V 73 0 (run_lss (t := 3) (t' := 3) (x := (.tmp 72)) (y := (.tmp 71)) (k := .i64) (a := s233.1) (b := (r131.length : Int)) e244 e243) ?_
     refine Nss ?_
     refine CWP.cond (t := (decide (s233.1 < (r131.length : Int)))) (by kernel_rfl) rfl (fun hb258 => ?_) (fun hb258 => ?_)
     ·have h259 := cond_t hb256 hb258
      refine Sc ?_
      refine thenQ_nrm ?_
      refine Sq ?_
      refine Bk ?_
      refine Sq (Rg [0, 1, 2] ?_)
      obtain ⟨x260, hx261, h263⟩ := bind_some h259
      obtain ⟨hi262, hx261'⟩ := idx_spec hx261
      obtain ⟨b264, o265, C266, E267, fz268, rfl, hF270, hE271⟩ := SlA.open (SlA.mono hs147 ((((((le152.trans le155).trans le158).trans le161).trans le164).trans le228).trans le236)) hx261'
      have hc273 := hE271 _ _ hx261'
      refine V 74 0 (run_index (t := 77) (x := (.tmp 70)) (y := (.tmp 72)) (b := b264) (o := o265) (E := 3) (s := 1) (by_ := 8) e242 e244 (by kernel_rfl) hi262) ?_
      refine V 75 3 (lx 3 74 0 1 false 1 (vi x260) (hs235.pers _ _ hF270) hc273) ?_
      refine V 19 3 (ma 75 (vi x260)) ?_
      refine Nss (Rg [0, 1, 2, 3, 4, 5, 6, 7, 8, 9, 10, 11, 12] ?_)
      obtain ⟨j277, hj288, h289⟩ := bind_some h263
      refine RWP.cut (fun f w => ∃ (F19 : Mem), HS w0 F0 w F19 [(some D225, (.deferred (some []))), (sb b140 #[(vi r174.1), (vi s233.2)] 74), (sb b44 #[(.func (.func 102) #[] #[(.pointer (some ⟨b39, 0, none⟩)), (.pointer (some ⟨b1, 0, none⟩)), (.pointer (some ⟨b4, 0, none⟩)), (.pointer (some ⟨b21, 0, none⟩))])] 125), (sb b10 #[(vi 0), (vi 0)] 74), (sb b7 #[(vi x2)] 3)] ∧ Mem.le F17 F19 ∧ f.d = [{ target := .collected D225, args := #[] }] ∧ f 5 = (.pointer (some ⟨b7, 0, none⟩)) ∧ f 6 = (.pointer (some ⟨b10, 0, none⟩)) ∧ f 11 = (.pointer (some ⟨b44, 0, none⟩)) ∧ f 15 = (.pointer (some ⟨b140, 0, none⟩)) ∧ f 19 = (vi x260) ∧ f 70 = (.slice (some ⟨b264, o265, none⟩) r131.length ns66_0) ∧ f 71 = (vi (r131.length : Int)) ∧ f 72 = (vi s233.1) ∧ f 88 = (.bool j277)) ?_ ?_
      ·refine V 76 3 (mv 19 (vi x260)) ?_
       refine V 77 3 (ld 3 5 b7 0 false 1 (vi x2) (hs235.ownAt (k := 4) rfl) e238) ?_
       refine V 78 4 (run_gtr (t := 3) (t' := 3) (x := (.tmp 76)) (y := (.tmp 77)) (k := .i64) (a := x260) (b := x2) rfl rfl) ?_
       refine V 79 4 (mv 78 (.bool (decide (x260 > x2)))) ?_
       refine RWP.split (decide (x260 > x2)) (fun hb290 => ?_) (fun hb290 => ?_)
       ·have h291 := cond_t hj288 hb290
        refine Vg 80 3 3 true 79 hb290 (mv 19 (vi x260)) ?_
        refine Vg 81 4 3 true 79 hb290 (run_leq (t := 3) (t' := 3) (x := (.tmp 80)) (y := (.const (vi 99999))) (k := .i64) (a := x260) (b := 99999) rfl rfl) ?_
        refine V 82 4 (p1 79 (.tmp 81) (.const (.bool false)) (.bool (decide (x260 ≤ 99999))) hb290) ?_
        refine V 83 4 (mv 82 (.bool (decide (x260 ≤ 99999)))) ?_
        refine RWP.split (decide (x260 ≤ 99999)) (fun hb292 => ?_) (fun hb292 => ?_)
        ·have h293 := cond_t h291 hb292
         refine Vg 84 125 7 true 83 hb292 (ld 125 11 b44 0 false 1 (.func (.func 102) #[] #[(.pointer (some ⟨b39, 0, none⟩)), (.pointer (some ⟨b1, 0, none⟩)), (.pointer (some ⟨b4, 0, none⟩)), (.pointer (some ⟨b21, 0, none⟩))]) (hs235.ownAt (k := 2) rfl) e240) ?_
         refine Vg 85 3 7 true 83 hb292 (mv 19 (vi x260)) ?_
         obtain ⟨r294, hr295, h296⟩ := bind_some h293
         refine RWP.call (dst := (some 86)) (ty := 4) (g := (some (7, true))) (by kernel_rfl) (gd_y (d := 83) (by kernel_rfl) rfl hb292) (f0 := (.tmp 84)) (aos := #[(.tmp 85)]) (ats := #[3]) (fid := 102) (first := #[]) (cap := #[(.pointer (some ⟨b39, 0, none⟩)), (.pointer (some ⟨b1, 0, none⟩)), (.pointer (some ⟨b4, 0, none⟩)), (.pointer (some ⟨b21, 0, none⟩))]) (args := [(vi x260), (.pointer (some ⟨b39, 0, none⟩)), (.pointer (some ⟨b1, 0, none⟩)), (.pointer (some ⟨b4, 0, none⟩)), (.pointer (some ⟨b21, 0, none⟩))]) rfl co_air_Since_1 (rfl) hs235 (c_air_Since_1 N w234 F17 hs235.pers (hG.mono ((((((((((((le19.trans le37).trans le69).trans le128).trans le137).trans le146).trans le152).trans le155).trans le158).trans le161).trans le164).trans le228).trans le236)) (x260) b39 r31 or31_0_0 (MpA.mono hmr31_0_0 ((((((((((le69.trans le128).trans le137).trans le146).trans le152).trans le155).trans le158).trans le161).trans le164).trans le228).trans le236)) (((((le158.trans le161).trans le164).trans le228).trans le236) _ _ hF156) b1 x0 a0_0 n0_0 hb0_0 (SlA.mono hs0_0 ((((((((((((le19.trans le37).trans le69).trans le128).trans le137).trans le146).trans le152).trans le155).trans le158).trans le161).trans le164).trans le228).trans le236)) ((le228.trans le236) _ _ hF165) b4 x1 (((le164.trans le228).trans le236) _ _ hF162) b21 r13.1 ((((le161.trans le164).trans le228).trans le236) _ _ hF159) _ hr295) ?_
         intro v297 F20 w298 hs299 le300 hp301
         obtain rfl := hp301
         refine Vg 87 4 7 true 83 hb292 (run_not (t := 4) (x := (.tmp 86)) (a := r294) rfl) ?_
         refine V 88 4 (p1 83 (.tmp 87) (.const (.bool false)) (.bool (!r294)) hb292) ?_
         obtain rfl := some_inj h296
         exact RWP.nil ⟨rfl, F20, hs299, le300, e237, e238, e239, e240, e241, rfl, e242, e243, e244, rfl⟩
        ·have h302 := cond_f h291 hb292
         refine Sk [84, 85, 86, 87] 7 true 83 hb292 ?_
         refine V 88 4 (p0 83 (.tmp 87) (.const (.bool false)) (.bool false) hb292) ?_
         obtain rfl := some_inj h302
         exact RWP.nil ⟨rfl, F17, hs235, (Mem.le.refl _), e237, e238, e239, e240, e241, rfl, e242, e243, e244, rfl⟩
       ·have h303 := cond_f hj288 hb290
        refine Sk [80, 81] 3 true 79 hb290 ?_
        refine V 82 4 (p0 79 (.tmp 81) (.const (.bool false)) (.bool false) hb290) ?_
        refine V 83 4 (mv 82 (.bool false)) ?_
        refine Sk [84, 85, 86, 87] 7 true 83 rfl ?_
        refine V 88 4 (p0 83 (.tmp 87) (.const (.bool false)) (.bool false) rfl) ?_
        obtain rfl := some_inj h303
        exact RWP.nil ⟨rfl, F17, hs235, (Mem.le.refl _), e237, e238, e239, e240, e241, rfl, e242, e243, e244, rfl⟩
      ·rintro f w274 ⟨F19, hs275, le276, e278, e279, e280, e281, e282, e283, e284, e285, e286, e287⟩
       refine thenQ_nrm ?_
       refine CWP.cond (t := j277) (by kernel_rfl) e287 (fun hb304 => ?_) (fun hb304 => ?_)
       ·have h305 := cond_t h289 hb304
        refine Sq (Rg [0, 1, 2, 3] ?_)
        refine V 89 3 (mv 19 (vi x260) e283) ?_
        refine V 90 3 (run_sub (t := 3) (t' := 3) (x := (.tmp 89)) (y := (.const (vi 1))) (k := .i64) (a := x260) (b := 1) rfl rfl) ?_
        refine V 91 0 (fa 74 15 1 1 1 b140 0 1 e282) ?_
        refine RWP.store (ty := 0) (g := none) (by kernel_rfl) rfl (x := (.tmp 91)) (y := (.tmp 90)) (t := 3) (gg := false) (s := 1) (v := (vi (W64 (x260 - 1)))) (b := b140) (o := 1) (C := #[(vi r174.1), (vi s233.2)]) rfl rfl (by kernel_rfl) hs275 (k := 1) rfl rfl rfl rfl (C' := #[(vi r174.1), (vi (W64 (x260 - 1)))]) rfl (fun w306 (hs307 : HS w0 F0 w306 F19 [(some D225, (.deferred (some []))), (sb b140 #[(vi r174.1), (vi (W64 (x260 - 1)))] 74), (sb b44 #[(.func (.func 102) #[] #[(.pointer (some ⟨b39, 0, none⟩)), (.pointer (some ⟨b1, 0, none⟩)), (.pointer (some ⟨b4, 0, none⟩)), (.pointer (some ⟨b21, 0, none⟩))])] 125), (sb b10 #[(vi 0), (vi 0)] 74), (sb b7 #[(vi x2)] 3)]) => ?_)
        refine Nt ?_
        refine CWP.exit (by kernel_rfl) ?_
        refine blockQ_miss (by decide) ?_
        refine thenQ_ex ?_
        refine thenQ_ex ?_
        refine blockQ_hit rfl ?_
        have hs308 : HS w0 F0 w306 F19 [(some D225, (.deferred (some []))), (sb b140 #[(vi r174.1), (vi (W64 (x260 - 1)))] 74), (sb b10 #[(vi 0), (vi 0)] 74), (sb b7 #[(vi x2)] 3)] := hs307.drop 2
        have hs309 : HS w0 F0 w306 F19 [(some D225, (.deferred (some []))), (sb b140 #[(vi r174.1), (vi (W64 (x260 - 1)))] 74), (sb b10 #[(vi 0), (vi 0)] 74)] := hs308.drop 3
        have ho310 := iter_done h305 hnx257
        exact .inl ⟨rfl, (s233.1, (W64 (x260 - 1))), F19, ho310, hs309, (le236.trans le276), e278, e280, e282⟩
       ·have h311 := cond_f h289 hb304
        refine Sc ?_
        refine blockQ_nrm ?_
        refine thenQ_nrm ?_
        refine Rg [0, 1] ?_
        refine V 92 3 (run_add (t := 3) (t' := 3) (x := (.tmp 72)) (y := (.const (vi 1))) (k := .i64) (a := s233.1) (b := 1) e286 rfl) ?_
        refine V 72 3 (mv 92 (vi (W64 (s233.1 + 1)))) ?_
        refine RWP.nil ?_
        have hn312 := iter_next h311 hnx257
        exact ⟨m254, Nat.lt_succ_self _, ((W64 (s233.1 + 1)), s233.2), F19, hn312, hs275, (le236.trans le276), e278, e279, e280, e281, e282, e284, e285, rfl⟩
     ·have h313 := cond_f hb256 hb258
      refine CWP.exit (by kernel_rfl) ?_
      refine thenQ_ex ?_
      refine thenQ_ex ?_
      refine blockQ_hit rfl ?_
      have hs314 : HS w0 F0 w234 F17 [(some D225, (.deferred (some []))), (sb b140 #[(vi r174.1), (vi s233.2)] 74), (sb b10 #[(vi 0), (vi 0)] 74), (sb b7 #[(vi x2)] 3)] := hs235.drop 2
      have hs315 : HS w0 F0 w234 F17 [(some D225, (.deferred (some []))), (sb b140 #[(vi r174.1), (vi s233.2)] 74), (sb b10 #[(vi 0), (vi 0)] 74)] := hs314.drop 3
      have ho316 := iter_done h313 hnx257
      exact .inl ⟨rfl, (s233.1, s233.2), F17, ho316, hs315, le236, e237, e239, e241⟩
    ·rintro f w246 ⟨s245, F18, rfl, hs247, le248, e249, e250, e251⟩
     have h317 := k_done h232
     refine thenQ_nrm ?_
     refine Sq (Rg [0, 1, 2] ?_)
     refine V 93 74 (ld 74 15 b140 0 true 2 (.agg #[(vi r174.1), (vi s245.2)]) (hs247.ownAt (k := 1) rfl) e251) ?_
     refine RWP.store (ty := 0) (g := none) (by kernel_rfl) rfl (x := (.tmp 6)) (y := (.tmp 93)) (t := 74) (gg := true) (s := 2) (v := (.agg #[(vi r174.1), (vi s245.2)])) (b := b10) (o := 0) (C := #[(vi 0), (vi 0)]) e250 rfl (by kernel_rfl) hs247 (k := 2) rfl rfl rfl rfl (C' := #[(vi r174.1), (vi s245.2)]) rfl (fun w318 (hs319 : HS w0 F0 w318 F18 [(some D225, (.deferred (some []))), (sb b140 #[(vi r174.1), (vi s245.2)] 74), (sb b10 #[(vi r174.1), (vi s245.2)] 74)]) => ?_)
     refine V 7 23 (mc (vi 0) (vi 0)) ?_
     refine Nt ?_
     refine CWP.ret (by kernel_rfl) ?_
     have hs320 := hs319.put (k := 0) rfl (.deferred none)
     have hs321 : HS w0 F0 (putB w318 D225 (.deferred none)) F18 [(sb b140 #[(vi r174.1), (vi s245.2)] 74), (sb b10 #[(vi r174.1), (vi s245.2)] 74)] := hs320.drop 0
     have hfin := some_inj h317
     subst hfin
     exact .inr ⟨D225, e249, hs319.ownAt (k := 0) rfl, (.tuple #[(.agg #[(vi r174.1), (vi s245.2)]), (vi 0)]), res_of (l := [.cell 6 74, .tmp 7]) (by kernel_rfl) (vs := [(.agg #[(vi r174.1), (vi s245.2)]), (vi 0)]) ⟨b10, 0, e250, run_loadVar' (t := 74) (g := true) (s := 2) (by kernel_rfl) (hs321.ownAt (k := 1) rfl) rfl (by decide), ⟨rfl, trivial⟩⟩, (.tuple #[(.agg #[(vi r174.1), (vi s245.2)]), (vi 0)]), F18, rfl, hs321.clear, rfl⟩
end Go.Proofs.YtlddakefmfcblaaGreatDoor
namespace Go.Proofs.YtlddakefmfcblaaGreatDoor
open Go.Proofs
end Go.Proofs.YtlddakefmfcblaaGreatDoor
namespace Go.Proofs.YtlddakefmfcblaaGreatDoor
theorem bang_get (zs : List Int) {j : Nat} (h : j < zs.length) : zs.toArray[j]! = zs[j] := by
 simp [h]
theorem compact_sub (zs : List Int) : (Go.Lib.compact zs).Sublist zs := by
 have : (List.range zs.length).map (fun j => zs.toArray[j]!) = zs := by
  apply List.ext_getElem
  ·simp
  ·intro i h1 h2
   rw [List.getElem_map, List.getElem_range, bang_get zs h2]
 unfold Go.Lib.compact Go.Lib.compactUpTo
 conv => rhs; rw [← this]
 exact List.Sublist.map _ List.filter_sublist
theorem compact_mem {zs : List Int} {x : Int} (h : x ∈ zs) : x ∈ Go.Lib.compact zs := by
 obtain ⟨j, hj, hx⟩ := List.getElem_of_mem h
 have key : ∀ n j, j ≤ n → ∀ hj : j < zs.length, zs[j] = x → x ∈ Go.Lib.compact zs := by
  intro n
  induction n with
  | zero =>
   intro j hjn hj hx
   have : j = 0 := by omega
   subst this
   unfold Go.Lib.compact Go.Lib.compactUpTo
   rw [List.mem_map]
   exact ⟨0, by rw [List.mem_filter, List.mem_range]; exact ⟨hj, by simp [Go.Lib.keeps]⟩, by rw [bang_get zs hj]; exact hx⟩
  | succ n ih =>
   intro j hjn hj hx
   by_cases hk : Go.Lib.keeps zs.toArray j = true
   ·unfold Go.Lib.compact Go.Lib.compactUpTo
    rw [List.mem_map]
    exact ⟨j, by rw [List.mem_filter, List.mem_range]; exact ⟨hj, hk⟩, by rw [bang_get zs hj]; exact hx⟩
   ·unfold Go.Lib.keeps at hk
    rw [decide_eq_true_eq] at hk
    have h0 : j ≠ 0 := fun h => hk (.inl h)
    have h1 : zs.toArray[j]! = zs.toArray[j - 1]! := Classical.byContradiction fun h => hk (.inr h)
    rw [bang_get zs hj, bang_get zs (show j - 1 < zs.length by omega)] at h1
    exact ih (j - 1) (by omega) (by omega) (by rw [← h1]; exact hx)
 exact key j j (Nat.le_refl _) hj hx
theorem sortI_mem {l : List Int} {x : Int} : x ∈ sortI l ↔ x ∈ l := by
 unfold sortI; exact (List.mergeSort_perm l _).mem_iff
theorem sortI_sorted (l : List Int) : (sortI l).Pairwise (fun x y => x ≤ y) := by
 unfold sortI
 have := List.pairwise_mergeSort (le := fun x y : Int => decide (x ≤ y)) (by intro a b c h1 h2; simp at h1 h2 ⊢; omega) (by intro a b; simp; omega) l
 exact this.imp (fun h => by simpa using h)
def sameB (T : List Prefix) (c : List UInt8) (pl : Place) (x : Int) : Bool := match findS T c x with
 | some i => decide (plOf (pAt T i) = pl)
 | none => false
structure Run (T : List Prefix) (c : List UInt8) (pl : Place) (d lo hi : Int) : Prop where
 lo0 : 0 ≤ lo
 lod : lo ≤ d
 hid : d ≤ hi
 hi9 : hi ≤ 99999
 same : ∀ y, lo ≤ y → y ≤ hi → sameB T c pl y = true
 below : lo = 0 ∨ sameB T c pl (lo - 1) = false
 above : hi = 99999 ∨ sameB T c pl (hi + 1) = false
theorem run_one {T : List Prefix} {c : List UInt8} {pl : Place} {d e lo hi lo' hi' : Int} (h : Run T c pl d lo hi) (h' : Run T c pl e lo' hi') (h1 : lo ≤ e) (h2 : e ≤ hi) : lo = lo' ∧ hi = hi' := by
 constructor
 ·rcases Int.lt_trichotomy lo lo' with hlt | heq | hgt
  ·exfalso
   rcases h'.below with hb | hb
   ·have := h.lo0; omega
   ·have := h.same (lo' - 1) (by omega) (by have := h'.lod; omega)
    rw [hb] at this; cases this
  ·exact heq
  ·exfalso
   rcases h.below with hb | hb
   ·have := h'.lo0; omega
   ·have := h'.same (lo - 1) (by omega) (by have := h'.hid; omega)
    rw [hb] at this; cases this
 ·rcases Int.lt_trichotomy hi hi' with hlt | heq | hgt
  ·exfalso
   rcases h.above with hb | hb
   ·have := h'.hi9; omega
   ·have := h'.same (hi + 1) (by have := h'.lod; omega) (by omega)
    rw [hb] at this; cases this
  ·exact heq
  ·exfalso
   rcases h'.above with hb | hb
   ·have := h.hi9; omega
   ·have := h.same (hi' + 1) (by have := h'.hid; omega) (by omega)
    rw [hb] at this; cases this
def bnd (T : List Prefix) (x : Int) : Prop := ∃ p, p ∈ T ∧ (x = p.From ∨ x = p.To + 1)
theorem findS_congr {T : List Prefix} {c : List UInt8} {y y' : Int} (h : ∀ p, p ∈ T → dayIn p y = dayIn p y') : findS T c y = findS T c y' := by
 have hk : ∀ k, atK T k y = atK T k y' := by
  intro k
  unfold atK
  refine firstN_congr (m := T.length) (by omega) (fun i _ hi => ?_)
  rw [h _ (pAt_mem hi)]
 unfold findS
 rw [hk]
 cases atK T { text_ := c, whole_ := true } y' with
 | some i => rfl
 | none =>
  simp only
  generalize (bC c).length = n
  induction n with
  | zero => rfl
  | succ n ih => unfold downF; rw [hk, ih]
theorem day_step {T : List Prefix} {c : List UInt8} {y : Int} (h : ¬ bnd T (y + 1)) : findS T c y = findS T c (y + 1) := by
 refine findS_congr fun p hp => ?_
 rw [Bool.eq_iff_iff, dayIn_iff, dayIn_iff]
 have h1 : y + 1 ≠ p.From := fun hh => h ⟨p, hp, .inl hh⟩
 have h2 : y + 1 ≠ p.To + 1 := fun hh => h ⟨p, hp, .inr hh⟩
 omega
def loC (T : List Prefix) (c : List UInt8) (pl : Place) (d x : Int) : Bool := decide (x ≤ d) && !sameB T c pl (x - 1)
def hiC (T : List Prefix) (c : List UInt8) (pl : Place) (d x : Int) : Bool := decide (x > d) && (decide (x ≤ 99999) && !sameB T c pl x)
structure LoOK (T : List Prefix) (c : List UInt8) (pl : Place) (d lo : Int) : Prop where
 pos : 0 ≤ lo
 at' : lo = 0 ∨ loC T c pl d lo = true
 top : ∀ x, bnd T x → loC T c pl d x = true → x ≤ lo
structure HiOK (T : List Prefix) (c : List UInt8) (pl : Place) (d hi : Int) : Prop where
 le : hi ≤ 99999
 at' : hi = 99999 ∨ hiC T c pl d (hi + 1) = true
 bot : ∀ x, bnd T x → hiC T c pl d x = true → hi + 1 ≤ x
theorem run_of {T : List Prefix} {c : List UInt8} {pl : Place} {d lo hi : Int} (hd : 0 ≤ d ∧ d ≤ 99999) (hs : sameB T c pl d = true) (hl : LoOK T c pl d lo) (hh : HiOK T c pl d hi) : Run T c pl d lo hi := by
 have hlod : lo ≤ d := by
  rcases hl.at' with h | h
  ·omega
  ·unfold loC at h; rw [Bool.and_eq_true, decide_eq_true_eq] at h; exact h.1
 have hdhi : d ≤ hi := by
  rcases hh.at' with h | h
  ·omega
  ·unfold hiC at h; rw [Bool.and_eq_true, decide_eq_true_eq] at h; omega
 have down : ∀ n : Nat, lo ≤ d - n → sameB T c pl (d - n) = true := by
  intro n
  induction n with
  | zero => intro _; simpa using hs
  | succ n ih =>
   intro hn
   have h1 := ih (by omega)
   by_cases hb : bnd T (d - n)
   ·cases hc : sameB T c pl (d - (n + 1 : Nat)) with
    | true => rfl
    | false =>
     have : loC T c pl d (d - n) = true := by
      unfold loC
      rw [decide_eq_true (by omega), show d - (n : Int) - 1 = d - ((n + 1 : Nat) : Int) by omega, hc]; rfl
     have := hl.top _ hb this
     omega
   ·have e : d - (n : Int) = (d - ((n + 1 : Nat) : Int)) + 1 := by omega
    rw [e] at hb h1
    unfold sameB at h1 ⊢
    rw [day_step hb]; exact h1
 have up : ∀ n : Nat, d + n ≤ hi → sameB T c pl (d + n) = true := by
  intro n
  induction n with
  | zero => intro _; simpa using hs
  | succ n ih =>
   intro hn
   have h1 := ih (by omega)
   have e : d + ((n + 1 : Nat) : Int) = d + (n : Int) + 1 := by omega
   rw [e]
   by_cases hb : bnd T (d + n + 1)
   ·cases hc : sameB T c pl (d + n + 1) with
    | true => rfl
    | false =>
     have : hiC T c pl d (d + n + 1) = true := by
      unfold hiC
      rw [decide_eq_true (by omega), decide_eq_true (by have := hh.le; omega), hc]; rfl
     have := hh.bot _ hb this
     omega
   ·unfold sameB at h1 ⊢
    rw [← day_step hb]; exact h1
 refine ⟨hl.pos, hlod, hdhi, hh.le, fun y h1 h2 => ?_, ?_, ?_⟩
 ·rcases Int.le_total y d with h | h
  ·have := down (d - y).toNat (by omega)
   rwa [show d - ((d - y).toNat : Int) = y by omega] at this
  ·have := up (y - d).toNat (by omega)
   rwa [show d + ((y - d).toNat : Int) = y by omega] at this
 ·rcases hl.at' with h | h
  ·exact .inl h
  ·unfold loC at h; rw [Bool.and_eq_true, Bool.not_eq_true'] at h; exact .inr h.2
 ·rcases hh.at' with h | h
  ·exact .inl h
  ·unfold hiC at h; rw [Bool.and_eq_true, Bool.and_eq_true, Bool.not_eq_true'] at h; exact .inr h.2.2
def SinceOK (T : List Prefix) (c : List UInt8) (d : Int) (r : Span × Int) : Prop :=
 ((placeS T c d).2 ≠ 0 ∧ r = ({ Lo := 0, Hi := 0 }, (placeS T c d).2)) ∨ ((placeS T c d).2 = 0 ∧ r.2 = 0 ∧ Run T c (placeS T c d).1 d r.1.Lo r.1.Hi)
theorem since_one {T : List Prefix} {c : List UInt8} {d : Int} {r r' : Span × Int} (h : SinceOK T c d r) (h' : SinceOK T c d r') : r = r' := by
 rcases h with ⟨h1, h2⟩ | ⟨h1, h2, h3⟩
 ·rcases h' with ⟨_, h2'⟩ | ⟨h1', _⟩
  ·rw [h2, h2']
  ·exact absurd h1' h1
 ·rcases h' with ⟨h1', _⟩ | ⟨h1', h2', h3'⟩
  ·exact absurd h1 h1'
  ·obtain ⟨a, b⟩ := run_one h3 h3' h3.lod h3.hid
   obtain ⟨⟨lo, hi⟩, e⟩ := r
   obtain ⟨⟨lo', hi'⟩, e'⟩ := r'
   simp only at a b h2 h2'
   rw [a, b, h2, h2']
theorem place_ok {T : List Prefix} {c : List UInt8} {d : Int} (h : (placeS T c d).2 = 0) : wrongT T c d = 0 ∧ ∃ i, findS T c d = some i ∧ (placeS T c d).1 = plOf (pAt T i) ∧ sameB T c (placeS T c d).1 d = true := by
 unfold placeS at h ⊢
 by_cases hw : wrongT T c d = 0
 ·rw [if_pos hw] at h
  cases hf : findS T c d with
  | none => rw [hf] at h; exact absurd (show (3 : Int) = 0 from h) (by decide)
  | some i =>
   refine ⟨hw, i, rfl, by rw [if_pos hw], ?_⟩
   rw [if_pos hw]
   unfold sameB
   rw [hf]
   simp
 ·rw [if_neg hw] at h; exact absurd h hw
theorem rowOf_place {T : List Prefix} {c : List UInt8} {d : Int} : (rowOfS T c d).2 = (placeS T c d).2 := by
 unfold rowOfS placeS
 by_cases hw : wrongT T c d = 0
 ·rw [if_pos hw, if_pos hw]; cases findS T c d <;> rfl
 ·rw [if_neg hw, if_neg hw]
theorem peq_pl (p q : Place) : ((p.Country == q.Country) && ((p.Zone == q.Zone) && ((p.Continent == q.Continent) && true))) = decide (p = q) := by
 obtain ⟨a, b, e⟩ := p
 obtain ⟨a', b', e'⟩ := q
 rw [Bool.eq_iff_iff]
 simp
section
variable {N : Nat} {T : List Prefix} {c : List UInt8} {d : Int}
def bl (T : List Prefix) : List Int := cat T.length (fun i => [(pAt T i).From, (pAt T i).To + 1])
theorem bl_mem {x : Int} : x ∈ bl T ↔ bnd T x := by
 unfold bl cat bnd
 rw [List.mem_flatMap]
 constructor
 ·rintro ⟨i, hi, hx⟩
  rw [List.mem_range] at hi
  simp only [List.mem_cons, List.not_mem_nil, or_false] at hx
  exact ⟨pAt T i, pAt_mem hi, hx⟩
 ·rintro ⟨p, hp, hx⟩
  obtain ⟨i, hi, rfl⟩ := mem_pAt hp
  exact ⟨i, by rw [List.mem_range]; exact hi, by simpa using hx⟩
theorem s_Since1 {m : List (air_key × List Int)} (hm : ∀ k, mgetD m k [] = keyIdx T k T.length) (h400 : T.length ≤ 400) (hN : 4294967300 < N) {j : Nat} (hj : j < T.length) (x : Int) : air_Since_1 N x m T c (j : Int) = some (sameB T c (plOf (pAt T j)) x) := by
 unfold air_Since_1 sameB
 rw [s_table_row hm h400 hN, Option.bind_some, toI_ge]
 cases hf : findS T c x with
 | none => rfl
 | some i =>
  simp only [Option.isSome_some, cond_true]
  rw [show toI (some i) = (i : Int) from rfl, idx_p (findS_lt hf).1, idx_p hj]
  simp only [Option.bind_some]
  have e1 : air_placeOf N (pAt T i) = some (plOf (pAt T i)) := rfl
  have e2 : air_placeOf N (pAt T j) = some (plOf (pAt T j)) := rfl
  rw [e1, e2]
  simp only [Option.bind_some]
  rw [peq_pl]
theorem back_loop {body : Int → Int × Int → Option (Int × Bool)} {B : List Int} {P : Int → Bool} (hP : ∀ i x, x ∈ B → body 0 (i, x) = some (if P x = true then (x, false) else (0, true))) (hB : B.length < 4000000000) (hN : 4294967300 < N) :
  ∃ lo f, slices_Backward_int_int_1 N (brkY body) B ((0 : Int), true) = some (lo, f) ∧ ((lo = 0 ∧ ∀ x, x ∈ B → P x = false) ∨ ∃ j, ∃ h : j < B.length, lo = B[j] ∧ P B[j] = true ∧ ∀ k (hk : k < B.length), j < k → P B[k] = false) := by
 unfold slices_Backward_int_int_1
 rw [W64_id (by omega) (by omega)]
 have loop : ∀ k M, k < M → k ≤ B.length → (∀ q (hq : q < B.length), k ≤ q → P B[q] = false) → ∃ lo f, ((iter (slices_Backward_int_int_1_L0 N (brkY body) B ((0 : Int), true)) M ((k : Int) - 1, ((0 : Int), true))).bind fun o => o.k (fun r => some r) (fun s14 => some s14.2)) = some (lo, f) ∧ ((lo = 0 ∧ ∀ x, x ∈ B → P x = false) ∨ ∃ j, ∃ h : j < B.length, lo = B[j] ∧ P B[j] = true ∧ ∀ k (hk : k < B.length), j < k → P B[k] = false) := by
  intro k
  induction k with
  | zero =>
   intro M hM _ hno
   obtain ⟨M, rfl⟩ : ∃ M', M = M' + 1 := ⟨M - 1, by omega⟩
   refine ⟨0, true, ?_, .inl ⟨rfl, fun x hx => ?_⟩⟩
   ·rw [iter]
    have : slices_Backward_int_int_1_L0 N (brkY body) B ((0 : Int), true) (((0 : Nat) : Int) - 1, ((0 : Int), true)) = some (.done (((0 : Nat) : Int) - 1, ((0 : Int), true))) := by
     unfold slices_Backward_int_int_1_L0
     rw [decide_eq_false (show ¬ ((((0 : Nat) : Int) - 1, ((0 : Int), true)) : Int × Int × Bool).1 ≥ 0 by decide), cond_false]
    rw [this]; rfl
   ·obtain ⟨q, hq, rfl⟩ := List.getElem_of_mem hx
    exact hno q hq (by omega)
  | succ k ih =>
   intro M hM hk hno
   obtain ⟨M, rfl⟩ : ∃ M', M = M' + 1 := ⟨M - 1, by omega⟩
   have hkB : k < B.length := by omega
   have e0 : (((k + 1 : Nat) : Int) - 1) = (k : Int) := by omega
   rw [e0]
   have hbody : slices_Backward_int_int_1_L0 N (brkY body) B ((0 : Int), true) ((k : Int), ((0 : Int), true)) = some (if P B[k] = true then .ret (B[k], false) else .next ((k : Int) - 1, ((0 : Int), true))) := by
    unfold slices_Backward_int_int_1_L0
    simp only
    rw [decide_eq_true (show (k : Int) ≥ 0 by omega), cond_true, idx_nat hkB, Option.bind_some]
    unfold brkY
    simp only [cond_true]
    rw [hP _ _ (List.getElem_mem hkB), W64_id (by omega) (by omega)]
    by_cases hp : P B[k] = true
    ·rw [if_pos hp, if_pos hp]; rfl
    ·rw [if_neg hp, if_neg hp]; rfl
   rw [iter, hbody]
   by_cases hp : P B[k] = true
   ·rw [if_pos hp]
    exact ⟨B[k], false, rfl, .inr ⟨k, hkB, rfl, hp, fun q hq hkq => hno q hq (by omega)⟩⟩
   ·rw [if_neg hp]
    refine ih M (by omega) (by omega) (fun q hq hkq => ?_)
    by_cases hqk : q = k
    ·subst hqk; simpa using hp
    ·exact hno q hq (by omega)
 exact loop B.length N (by omega) (Nat.le_refl _) (fun q hq hk => by omega)
theorem s_Since (hT : fitT N T) (hN : 4294967300 < N) : ∃ r, air_Since N T c d = some r ∧ SinceOK T c d r := by
 unfold air_Since
 rw [s_RowOf hT hN, Option.bind_some, rowOf_place]
 by_cases hp : (placeS T c d).2 = 0
 ·rw [hp, show ((0 : Int) != 0) = false from rfl, cond_false]
  obtain ⟨hw, j, hf, hpl, hsame⟩ := place_ok hp
  have hv := (wrongT_ok hw).1
  have hday := (wrongT_ok hw).2.2
  unfold inI at hday
  rw [Bool.and_eq_true, decide_eq_true_eq, decide_eq_true_eq] at hday
  obtain ⟨h400, hR, hA⟩ := valid_R hv
  have hj := (findS_lt hf).1
  have er : rowOfS T c d = ((j : Int), 0) := by unfold rowOfS; rw [if_pos hw, hf]
  obtain ⟨m, hm, hk⟩ := s_tableOf (N := N) h400 hN
  rw [hm, Option.bind_some, er]
  rw [iter_cat' (n := T.length) 2 (fun i => [(pAt T i).From, (pAt T i).To + 1]) (fun i _ => by simp) (s0 := []) (fun i s hi hs => by
   unfold air_Since_L0
   simp only
   have hp := hR _ (pAt_mem hi)
   have h1 := hp.f0
   have h2 := hp.ft
   have h3 := hp.tle
   rw [lt_dec hi, cond_true, idx_p hi, Option.bind_some, W64_id (n := (pAt T i).To + 1) (by omega) (by omega), apnd_ok (by simp at hs ⊢; omega), Option.bind_some, w64s i (by omega)]) (fun s => by
   unfold air_Since_L0
   simp only [lt_dec', cond_false]) (by omega)]
  simp only [List.nil_append, Option.bind_some, Flow.k]
  have ebl : cat T.length (fun i => [(pAt T i).From, (pAt T i).To + 1]) = bl T := rfl
  rw [ebl]
  have e1 : slices_Sort_int_int N (bl T) = some (sortI (bl T)) := rfl
  have e2 : slices_Compact_int_int N (sortI (bl T)) = some (Go.Lib.compact (sortI (bl T))) := by
   unfold slices_Compact_int_int
   rw [if_pos (compact_sub _).length_le]
  rw [e1, Option.bind_some, e2, Option.bind_some]
  have hBm : ∀ x, x ∈ Go.Lib.compact (sortI (bl T)) ↔ bnd T x := fun x => ⟨fun h => bl_mem.1 (sortI_mem.1 ((compact_sub _).subset h)), fun h => compact_mem (sortI_mem.2 (bl_mem.2 h))⟩
  have hBs : (Go.Lib.compact (sortI (bl T))).Pairwise (fun x y => x ≤ y) := (sortI_sorted _).sublist (compact_sub _)
  have hBl : (Go.Lib.compact (sortI (bl T))).length ≤ 800 := by
   refine Nat.le_trans (compact_sub _).length_le ?_
   unfold sortI
   rw [List.length_mergeSort]
   unfold bl
   have := cat_le (n := T.length) (K := 2) (f := fun i => [(pAt T i).From, (pAt T i).To + 1]) (fun i _ => by simp)
   omega
  have hB0 : ∀ x, bnd T x → 0 ≤ x ∧ x ≤ 100000 := by
   rintro x ⟨p, hp, hx⟩
   have h1 := (hR p hp).f0
   have h2 := (hR p hp).ft
   have h3 := (hR p hp).tle
   rcases hx with rfl | rfl <;> omega
  generalize hBB : Go.Lib.compact (sortI (bl T)) = B at hBm hBs hBl
  rw [List.pairwise_iff_getElem] at hBs
  have hpj : plOf (pAt T j) = (placeS T c d).1 := hpl.symm
  obtain ⟨lo, f, hback, hlo⟩ := back_loop (N := N) (body := air_Since_L1 N T c d ((j : Int), 0) m (bl T, (T.length : Int)) (sortI (bl T)) B) (B := B) (P := loC T c (placeS T c d).1 d) (fun i x hx => by
   have hx0 := hB0 x ((hBm x).1 hx)
   unfold air_Since_L1
   simp only
   rw [W64_id (n := x - 1) (by omega) (by omega), s_Since1 hk h400 hN hj, Option.bind_some, hpj]
   unfold loC
   by_cases hxd : x ≤ d
   ·rw [decide_eq_true hxd, cond_true, Option.bind_some, Bool.true_and]
    cases sameB T c (placeS T c d).1 (x - 1) <;> rfl
   ·rw [decide_eq_false hxd]; rfl) (by omega) hN
  rw [hback, Option.bind_some]
  have LO : LoOK T c (placeS T c d).1 d lo := by
   rcases hlo with ⟨h1, h2⟩ | ⟨q, hq, h1, h2, h3⟩
   ·refine ⟨by omega, .inl h1, fun x hx hc => ?_⟩
    rw [h2 x ((hBm x).2 hx)] at hc; cases hc
   ·have hq0 := hB0 _ ((hBm _).1 (List.getElem_mem hq))
    refine ⟨by rw [h1]; exact hq0.1, .inr (by rw [h1]; exact h2), fun x hx hc => ?_⟩
    obtain ⟨k, hkl, rfl⟩ := List.getElem_of_mem ((hBm x).2 hx)
    rcases Nat.lt_trichotomy k q with h | h | h
    ·rw [h1]; exact hBs k q hkl hq h
    ·subst h; omega
    ·rw [h3 k hkl h] at hc; cases hc
  obtain ⟨o, ho, hO⟩ := iter_ex (body := air_Since_L2 N T c d ((j : Int), 0) m (bl T, (T.length : Int)) (sortI (bl T)) B (lo, f)) B.length (fun i s => s = ((i : Int), 99999) ∧ ∀ k (hk : k < B.length), k < i → hiC T c (placeS T c d).1 d B[k] = false)
   (fun o => (o = .done ((B.length : Int), 99999) ∧ ∀ k (hk : k < B.length), hiC T c (placeS T c d).1 d B[k] = false) ∨ ∃ i, ∃ hi : i < B.length, o = .done ((i : Int), B[i] - 1) ∧ hiC T c (placeS T c d).1 d B[i] = true ∧ ∀ k (hk : k < B.length), k < i → hiC T c (placeS T c d).1 d B[k] = false) (by
   rintro i s hi ⟨rfl, hno⟩
   by_cases h : i < B.length
   ·have hx0 := hB0 _ ((hBm _).1 (List.getElem_mem h))
    have hbody : air_Since_L2 N T c d ((j : Int), 0) m (bl T, (T.length : Int)) (sortI (bl T)) B (lo, f) ((i : Int), 99999) = some (bif hiC T c (placeS T c d).1 d B[i] then .done ((i : Int), B[i] - 1) else .next (((i + 1 : Nat) : Int), 99999)) := by
     unfold air_Since_L2
     simp only
     rw [lt_dec h, cond_true, idx_nat h, Option.bind_some, s_Since1 hk h400 hN hj, Option.bind_some, hpj, W64_id (n := B[i] - 1) (by omega) (by omega), w64s i (by omega)]
     unfold hiC
     cases decide (B[i] > d) <;> cases decide (B[i] ≤ 99999) <;> cases sameB T c (placeS T c d).1 B[i] <;> rfl
    rw [hbody]
    cases hc : hiC T c (placeS T c d).1 d B[i] with
    | true => exact .inr ⟨_, rfl, (fun _ h => by cases h), .inr ⟨i, h, rfl, hc, hno⟩⟩
    | false =>
     refine .inl ⟨_, rfl, ⟨rfl, fun k hk hki => ?_⟩, h⟩
     by_cases hkk : k = i
     ·subst hkk; exact hc
     ·exact hno k hk (by omega)
   ·have : i = B.length := by omega
    subst this
    refine .inr ⟨_, ?_, (fun _ h => by cases h), .inl ⟨rfl, fun k hk => hno k hk hk⟩⟩
    unfold air_Since_L2
    simp only [lt_dec', cond_false]) B.length N 0 (0, 99999) (by omega) ⟨rfl, fun k hk h => by omega⟩ (by omega)
  have HI : ∀ hi, (hi = 99999 ∧ ∀ k (hk : k < B.length), hiC T c (placeS T c d).1 d B[k] = false) ∨ (∃ i, ∃ h : i < B.length, hi = B[i] - 1 ∧ hiC T c (placeS T c d).1 d B[i] = true ∧ ∀ k (hk : k < B.length), k < i → hiC T c (placeS T c d).1 d B[k] = false) → HiOK T c (placeS T c d).1 d hi := by
   rintro hi (⟨h1, h2⟩ | ⟨i, hi', h1, h2, h3⟩)
   ·refine ⟨by omega, .inl h1, fun x hx hc => ?_⟩
    obtain ⟨k, hkl, rfl⟩ := List.getElem_of_mem ((hBm x).2 hx)
    rw [h2 k hkl] at hc; cases hc
   ·have h2' := h2
    unfold hiC at h2'
    rw [Bool.and_eq_true, Bool.and_eq_true, decide_eq_true_eq, decide_eq_true_eq] at h2'
    refine ⟨by omega, .inr (by rw [h1, Int.sub_add_cancel]; exact h2), fun x hx hc => ?_⟩
    obtain ⟨k, hkl, rfl⟩ := List.getElem_of_mem ((hBm x).2 hx)
    rcases Nat.lt_trichotomy k i with h | h | h
    ·rw [h3 k hkl h] at hc; cases hc
    ·subst h; omega
    ·have := hBs i k hi' hkl h; omega
  rw [ho]
  rcases hO with ⟨rfl, h2⟩ | ⟨i, hi', rfl, h2, h3⟩
  ·exact ⟨({ Lo := lo, Hi := 99999 }, 0), rfl, .inr ⟨hp, rfl, run_of hday hsame LO (HI 99999 (.inl ⟨rfl, h2⟩))⟩⟩
  ·exact ⟨({ Lo := lo, Hi := B[i] - 1 }, 0), rfl, .inr ⟨hp, rfl, run_of hday hsame LO (HI (B[i] - 1) (.inr ⟨i, hi', rfl, h2, h3⟩))⟩⟩
 ·rw [show ((placeS T c d).2 != 0) = true by simpa using hp, cond_true]
  exact ⟨_, rfl, .inl ⟨hp, rfl⟩⟩
end
end Go.Proofs.YtlddakefmfcblaaGreatDoor
namespace Go.Proofs.YtlddakefmfcblaaGreatDoor
open Go.Proofs
end Go.Proofs.YtlddakefmfcblaaGreatDoor
namespace Go.Proofs.YtlddakefmfcblaaGreatDoor
open Go.Proofs
def law01_AirOrder_L0 (N : Nat) (x0 : (List Prefix)) (x1 : Int) (x2 : (List UInt8)) (x3 : Int) (r1 : Bool) (r23 : (Int × Int × Int)) (r31 : Bool) : (List Prefix × Int) → Option (Flow Bool (List Prefix × Int)) := fun s71 =>
 (bif (decide (s71.2 < (x0.length : Int))) then ((nzq (x0.length : Int)).bind fun _ => ((nzq (x0.length : Int)).bind fun _ => ((idx x0 (Int.tmod (W64 (s71.2 + (Int.tmod (bif (decide (x1 < 0)) then (W64 (0 - (W64 (x1 + 1)))) else x1) (x0.length : Int)))) (x0.length : Int))).bind fun x107 => ((apnd s71.1 [x107]).bind fun r126 => some (.next (r126, (W64 (s71.2 + 1)))))))) else some (.done (s71.1, s71.2)))
def law01_AirOrder (N : Nat) (x0 : (List Prefix)) (x1 : Int) (x2 : (List UInt8)) (x3 : Int) : Option Bool :=
 ((law01_awake N ).bind fun r1 => (bif ((decide ((x0.length : Int) > 40)) || (decide ((x2.length : Int) > 1000))) then some r1 else ((air_Overlap N x0).bind fun r23 => ((air_ValidTable N x0).bind fun r31 => (bif (!(r31 == (r23.2.2 == 3))) then some false else (bif ((r23.2.2 != 3) || ((x0.length : Int) == 0)) then some r1 else ((iter (law01_AirOrder_L0 N x0 x1 x2 x3 r1 r23 r31) N (([] : List Prefix), 0)).bind fun o => o.k (fun r => some r) (fun s83 => ((air_PlaceOf N x0 x2 x3).bind fun r140 => ((air_PlaceOf N s83.1 x2 x3).bind fun r157 => ((air_Since N x0 x2 x3).bind fun r170 => ((air_Since N s83.1 x2 x3).bind fun r183 => ((bif r1 then ((air_ValidTable N s83.1).bind fun r206 => (bif r206 then ((sub s83.1 1 (s83.1.length : Int)).bind fun r216 => ((air_ValidTable N r216).bind fun r224 => (bif r224 then (bif ((r140.1.Country == r157.1.Country) && ((r140.1.Zone == r157.1.Zone) && ((r140.1.Continent == r157.1.Continent) && true))) then (bif (r140.2 == r157.2) then (bif ((r170.1.Lo == r183.1.Lo) && ((r170.1.Hi == r183.1.Hi) && true)) then some (r170.2 == r183.2) else some false) else some false) else some false) else some false))) else some false)) else some false).bind fun j199 => some j199)))))))))))))
set_option maxHeartbeats 4000000 in
set_option maxRecDepth 100000 in
theorem c_law01_AirOrder (N : Nat) (w0 : World) (F0 : Mem) (hF : ∀ b o, F0 b = some o → w0.heap[b]? = some o) (hG : Glob F0) (x0 : (List Prefix)) (a0_0 : Option Addr) (n0_0 : Nat) (hb0_0 : LC x0.length n0_0) (hs0_0 : SlA tPrefix F0 a0_0 x0) (x1 : Int) (x2 : (List UInt8)) (x3 : Int) (r : Bool) (h : law01_AirOrder N x0 x1 x2 x3 = some r) :
  Calls Tryz.prog 15 ([(.slice a0_0 x0.length n0_0), (vi x1), (.string ⟨(x2).toArray⟩), (vi x3)] : List Value).toArray w0 (FRet w0 F0 fun F' v => v = (.bool r)) := by
 have hs0 := HS.start hF
 refine calls_of (n := 136) (c := bodyOf Tryz.f15) Tryz.func15 (by kernel_rfl) (by kernel_rfl) (by kernel_rfl) ?_
 refine Sq (Rg [0] ?_)
 refine V 8 4 (mc (.bool false) (.bool false)) ?_
 refine Nss (Rg [0, 1] ?_)
 obtain ⟨r1, hr2, h3⟩ := bind_some h
 refine Cl 23 4 17 #[] #[] co_law01_awake hs0 (c_law01_awake N w0 F0 hs0.pers hG  _ hr2) ?_
 intro v4 F1 w5 hs6 le7 hp8
 obtain rfl := hp8
 refine V 9 4 (ma 23 (.bool r1)) ?_
 refine Nss ?_
 refine Sq (Rg [0, 1, 2, 3, 4, 5, 6, 7] ?_)
 refine RWP.cut (fun f w => ∃ (F2 : Mem), HS w0 F0 w F2 [] ∧ Mem.le F1 F2 ∧ f.d = [] ∧ f 0 = (.slice a0_0 x0.length n0_0) ∧ f 1 = (vi x1) ∧ f 2 = (.string ⟨(x2).toArray⟩) ∧ f 3 = (vi x3) ∧ f 9 = (.bool r1) ∧ f 31 = (.bool ((decide ((x0.length : Int) > 40)) || (decide ((x2.length : Int) > 1000))))) ?_ ?_
 ·refine V 24 61 (mv 0 (.slice a0_0 x0.length n0_0)) ?_
  refine V 25 3 (ln 24 61 a0_0 x0.length n0_0 71 7 64) ?_
  refine V 26 4 (run_gtr (t := 3) (t' := 3) (x := (.tmp 25)) (y := (.const (vi 40))) (k := .i64) (a := (x0.length : Int)) (b := 40) rfl rfl) ?_
  refine V 27 4 (mv 26 (.bool (decide ((x0.length : Int) > 40)))) ?_
  refine RWP.split (decide ((x0.length : Int) > 40)) (fun hb19 => ?_) (fun hb19 => ?_)
  ·refine Sk [28, 29, 30] 3 false 27 hb19 ?_
   refine V 31 4 (p1 27 (.const (.bool true)) (.tmp 30) (.bool true) hb19) ?_
   exact RWP.nil ⟨rfl, F1, hs6, (Mem.le.refl _), rfl, rfl, rfl, rfl, rfl, rfl, (congrArg Value.bool (or_t hb19 (rfl)))⟩
  ·refine Vg 28 9 3 false 27 hb19 (mv 2 (.string ⟨(x2).toArray⟩)) ?_
   refine Vg 29 3 3 false 27 hb19 (run_slen (x := (.tmp 28)) (ats := #[9]) (t := 9) (a := x2) rfl rfl (by kernel_rfl)) ?_
   refine Vg 30 4 3 false 27 hb19 (run_gtr (t := 3) (t' := 3) (x := (.tmp 29)) (y := (.const (vi 1000))) (k := .i64) (a := (x2.length : Int)) (b := 1000) rfl rfl) ?_
   refine V 31 4 (p0 27 (.const (.bool true)) (.tmp 30) (.bool (decide ((x2.length : Int) > 1000))) hb19) ?_
   exact RWP.nil ⟨rfl, F1, hs6, (Mem.le.refl _), rfl, rfl, rfl, rfl, rfl, rfl, (congrArg Value.bool (or_f hb19 (rfl)))⟩
 ·rintro f w9 ⟨F2, hs10, le11, e12, e13, e14, e15, e16, e17, e18⟩
  refine thenQ_nrm ?_
  refine CWP.cond (t := ((decide ((x0.length : Int) > 40)) || (decide ((x2.length : Int) > 1000)))) (by kernel_rfl) e18 (fun hb20 => ?_) (fun hb20 => ?_)
  ·have h21 := cond_t h3 hb20
   refine Sq (Rg [0, 1] ?_)
   refine V 32 4 (mv 9 (.bool r1) e17) ?_
   refine V 8 4 (ma 32 (.bool r1)) ?_
   refine Nt ?_
   refine CWP.ret (by kernel_rfl) ?_
   refine thenQ_ret ?_
   have hfin := some_inj h21
   subst hfin
   exact ⟨e12, (.bool r1), res_of (l := [.tmp 8]) (by kernel_rfl) (vs := [(.bool r1)]) ⟨rfl, trivial⟩, (.bool r1), F2, rfl, hs10.clear, rfl⟩
  ·have h22 := cond_f h3 hb20
   refine Sc ?_
   refine thenQ_nrm ?_
   refine Sq (Rg [0, 1, 2, 3, 4, 5, 6, 7, 8] ?_)
   refine V 34 61 (mv 0 (.slice a0_0 x0.length n0_0) e13) ?_
   obtain ⟨r23, hr24, h25⟩ := bind_some h22
   refine Cl 35 35 50 #[(.tmp 34)] #[61] co_air_Overlap hs10 (c_air_Overlap N w9 F2 hs10.pers (x0) a0_0 n0_0 hb0_0 (SlA.mono hs0_0 (le7.trans le11)) _ hr24) ?_
   intro v26 F3 w27 hs28 le29 hp30
   obtain rfl := hp30
   refine V 33 35 (mv 35 (.tuple #[(vi r23.1), (vi r23.2.1), (vi r23.2.2)])) ?_
   refine V 36 3 (ex 33 0 (vi r23.1) (vs := #[(vi r23.1), (vi r23.2.1), (vi r23.2.2)])) ?_
   refine V 37 3 (ex 33 1 (vi r23.2.1) (vs := #[(vi r23.1), (vi r23.2.1), (vi r23.2.2)])) ?_
   refine V 38 23 (ex 33 2 (vi r23.2.2) (vs := #[(vi r23.1), (vi r23.2.1), (vi r23.2.2)])) ?_
   refine V 10 3 (ma 36 (vi r23.1)) ?_
   refine V 11 3 (ma 37 (vi r23.2.1)) ?_
   refine V 12 23 (ma 38 (vi r23.2.2)) ?_
   refine Nss ?_
   refine Sq (Rg [0, 1, 2, 3, 4] ?_)
   refine V 39 61 (mv 0 (.slice a0_0 x0.length n0_0) e13) ?_
   obtain ⟨r31, hr32, h33⟩ := bind_some h25
   refine Cl 40 4 56 #[(.tmp 39)] #[61] co_air_ValidTable hs28 (c_air_ValidTable N w27 F3 hs28.pers (x0) a0_0 n0_0 hb0_0 (SlA.mono hs0_0 ((le7.trans le11).trans le29)) _ hr32) ?_
   intro v34 F4 w35 hs36 le37 hp38
   obtain rfl := hp38
   refine V 41 23 (mv 12 (vi r23.2.2)) ?_
   refine V 42 4 (run_eql (t := 23) (t' := 23) (x := (.tmp 41)) (y := (.const (vi 3))) (k := .i64) (a := r23.2.2) (b := 3) rfl rfl) ?_
   refine V 43 4 (run_neb (t := 4) (t' := 4) (x := (.tmp 40)) (y := (.tmp 42)) (a := r31) (b := (r23.2.2 == 3)) rfl rfl (by kernel_rfl)) ?_
   refine Nt ?_
   refine CWP.cond (t := (!(r31 == (r23.2.2 == 3)))) (by kernel_rfl) rfl (fun hb39 => ?_) (fun hb39 => ?_)
   ·have h40 := cond_t h33 hb39
    refine Sq (Rg [0] ?_)
    refine V 8 4 (mc (.bool false) (.bool false)) ?_
    refine Nt ?_
    refine CWP.ret (by kernel_rfl) ?_
    refine thenQ_ret ?_
    have hfin := some_inj h40
    subst hfin
    exact ⟨e12, (.bool false), res_of (l := [.tmp 8]) (by kernel_rfl) (vs := [(.bool false)]) ⟨rfl, trivial⟩, (.bool false), F4, rfl, hs36.clear, rfl⟩
   ·have h41 := cond_f h33 hb39
    refine Sc ?_
    refine thenQ_nrm ?_
    refine Sq ?_
    refine Sq (Rg [0, 1, 2, 3, 4, 5, 6] ?_)
    refine RWP.cut (fun f w => ∃ (F5 : Mem), HS w0 F0 w F5 [] ∧ Mem.le F4 F5 ∧ f.d = [] ∧ f 0 = (.slice a0_0 x0.length n0_0) ∧ f 1 = (vi x1) ∧ f 2 = (.string ⟨(x2).toArray⟩) ∧ f 3 = (vi x3) ∧ f 9 = (.bool r1) ∧ f 50 = (.bool ((r23.2.2 != 3) || ((x0.length : Int) == 0)))) ?_ ?_
    ·refine V 44 23 (mv 12 (vi r23.2.2)) ?_
     refine V 45 4 (run_neq (t := 23) (t' := 23) (x := (.tmp 44)) (y := (.const (vi 3))) (k := .i64) (a := r23.2.2) (b := 3) rfl rfl) ?_
     refine V 46 4 (mv 45 (.bool (r23.2.2 != 3))) ?_
     refine RWP.split (r23.2.2 != 3) (fun hb52 => ?_) (fun hb52 => ?_)
     ·refine Sk [47, 48, 49] 2 false 46 hb52 ?_
      refine V 50 4 (p1 46 (.const (.bool true)) (.tmp 49) (.bool true) hb52) ?_
      exact RWP.nil ⟨rfl, F4, hs36, (Mem.le.refl _), e12, e13, e14, e15, e16, e17, (congrArg Value.bool (or_t hb52 (rfl)))⟩
     ·refine Vg 47 61 2 false 46 hb52 (mv 0 (.slice a0_0 x0.length n0_0) e13) ?_
      refine Vg 48 3 2 false 46 hb52 (ln 47 61 a0_0 x0.length n0_0 71 7 64) ?_
      refine Vg 49 4 2 false 46 hb52 (run_eql (t := 3) (t' := 3) (x := (.tmp 48)) (y := (.const (vi 0))) (k := .i64) (a := (x0.length : Int)) (b := 0) rfl rfl) ?_
      refine V 50 4 (p0 46 (.const (.bool true)) (.tmp 49) (.bool ((x0.length : Int) == 0)) hb52) ?_
      exact RWP.nil ⟨rfl, F4, hs36, (Mem.le.refl _), e12, e13, e14, e15, e16, e17, (congrArg Value.bool (or_f hb52 (rfl)))⟩
    ·rintro f w42 ⟨F5, hs43, le44, e45, e46, e47, e48, e49, e50, e51⟩
     refine thenQ_nrm ?_
     refine CWP.cond (t := ((r23.2.2 != 3) || ((x0.length : Int) == 0))) (by kernel_rfl) e51 (fun hb53 => ?_) (fun hb53 => ?_)
     ·have h54 := cond_t h41 hb53
      refine Sq (Rg [0, 1] ?_)
      refine V 51 4 (mv 9 (.bool r1) e50) ?_
      refine V 8 4 (ma 51 (.bool r1)) ?_
      refine Nt ?_
      refine CWP.ret (by kernel_rfl) ?_
      refine thenQ_ret ?_
      have hfin := some_inj h54
      subst hfin
      exact ⟨e45, (.bool r1), res_of (l := [.tmp 8]) (by kernel_rfl) (vs := [(.bool r1)]) ⟨rfl, trivial⟩, (.bool r1), F5, rfl, hs43.clear, rfl⟩
     ·have h55 := cond_f h41 hb53
      refine Sc ?_
      refine thenQ_nrm ?_
      refine Sq ?_
      refine Sq (Rg [0, 1] ?_)
      refine V 52 3 (mv 1 (vi x1) e47) ?_
      refine V 53 4 (run_lss (t := 3) (t' := 3) (x := (.tmp 52)) (y := (.const (vi 0))) (k := .i64) (a := x1) (b := 0) rfl rfl) ?_
      refine Nt ?_
      refine CWP.cut (fun f w => ∃ (F6 : Mem), HS w0 F0 w F6 [] ∧ Mem.le F5 F6 ∧ f.d = [] ∧ f 0 = (.slice a0_0 x0.length n0_0) ∧ f 1 = (vi (bif (decide (x1 < 0)) then (W64 (0 - (W64 (x1 + 1)))) else x1)) ∧ f 2 = (.string ⟨(x2).toArray⟩) ∧ f 3 = (vi x3) ∧ f 9 = (.bool r1)) ?_ ?_
      ·refine CWP.cond (t := (decide (x1 < 0))) (by kernel_rfl) rfl (fun hb65 => ?_) (fun hb65 => ?_)
       ·refine Rg [0, 1, 2, 3] ?_
        refine V 54 3 (mv 1 (vi x1) e47) ?_
        refine V 55 3 (run_add (t := 3) (t' := 3) (x := (.tmp 54)) (y := (.const (vi 1))) (k := .i64) (a := x1) (b := 1) rfl rfl) ?_
        refine V 56 3 (run_neg (t := 3) (x := (.tmp 55)) (k := .i64) (a := (W64 (x1 + 1))) rfl) ?_
        refine V 1 3 (ma 56 (vi (W64 (0 - (W64 (x1 + 1)))))) ?_
        refine RWP.nil ?_
        exact .inl ⟨rfl, F5, hs43, (Mem.le.refl _), e45, e46, (congrArg (Value.int .i64) (bif_t hb65 (rfl))), e48, e49, e50⟩
       ·refine Sc ?_
        exact .inl ⟨rfl, F5, hs43, (Mem.le.refl _), e45, e46, (e47.trans (congrArg (Value.int .i64) (bif_f hb65 (rfl)))), e48, e49, e50⟩
      ·rintro f w56 ⟨F6, hs57, le58, e59, e60, e61, e62, e63, e64⟩
       refine thenQ_nrm ?_
       refine Sq (Rg [0] ?_)
       refine V 13 61 (mc (.slice none 0 0) (.slice none ([] : List Prefix).length 0)) ?_
       refine Nss ?_
       refine Sq (Rg [0] ?_)
       refine V 14 3 (mc (vi 0) (vi 0)) ?_
       refine Nt ?_
       have hs66 : HS w0 F0 w56 F6 [(none, .cells #[] 0 (0, 0))] := hs57.dummy _
       obtain ⟨o68, ho69, h70⟩ := bind_some h55
       refine CWP.cut (fun f w => ∃ (s83 : (List Prefix × Int)) (F8 : Mem) (as83_0 : Option Addr) (ns83_0 : Nat) (es83_0 : Option Nat × Obj), o68 = .done s83 ∧ HS w0 F0 w F8 [es83_0] ∧ Mem.le F6 F8 ∧ f.d = [] ∧ f 0 = (.slice a0_0 x0.length n0_0) ∧ f 2 = (.string ⟨(x2).toArray⟩) ∧ f 3 = (vi x3) ∧ f 9 = (.bool r1) ∧ f 13 = (.slice as83_0 s83.1.length ns83_0) ∧ RowR tPrefix 71 F8 as83_0 ns83_0 s83.1 es83_0) ?_ ?_
       ·refine Bk ?_
        refine CWP.loop (by kernel_rfl) (fun m f w => ∃ (s71 : (List Prefix × Int)) (F7 : Mem) (as71_0 : Option Addr) (ns71_0 : Nat) (es71_0 : Option Nat × Obj), iter (law01_AirOrder_L0 N x0 x1 x2 x3 r1 r23 r31) m s71 = some o68 ∧ HS w0 F0 w F7 [es71_0] ∧ Mem.le F6 F7 ∧ f.d = [] ∧ f 0 = (.slice a0_0 x0.length n0_0) ∧ f 1 = (vi (bif (decide (x1 < 0)) then (W64 (0 - (W64 (x1 + 1)))) else x1)) ∧ f 2 = (.string ⟨(x2).toArray⟩) ∧ f 3 = (vi x3) ∧ f 9 = (.bool r1) ∧ f 13 = (.slice as71_0 s71.1.length ns71_0) ∧ f 14 = (vi s71.2) ∧ RowR tPrefix 71 F7 as71_0 ns71_0 s71.1 es71_0) N ⟨(([] : List Prefix), 0), F6, none, 0, (none, .cells #[] 0 (0, 0)), ho69, hs66, (Mem.le.refl _), e59, e60, e61, e62, e63, e64, rfl, rfl, (RowR.nil tPrefix 71 F6 _)⟩ ?_
        rintro m93 f w72 ⟨s71, F7, as71_0, ns71_0, es71_0, hit94, hs73, le74, e75, e76, e77, e78, e79, e80, e81, e82, hrs71_0⟩
        obtain ⟨m95, fl96, rfl, hb97, hnx98⟩ := iter_step hit94
        refine Sq ?_
        refine Sq (Rg [0, 1, 2, 3] ?_)
        refine V 57 3 (mv 14 (vi s71.2) e82) ?_
        refine V 58 61 (mv 0 (.slice a0_0 x0.length n0_0) e76) ?_
        refine V 59 3 (ln 58 61 a0_0 x0.length n0_0 71 7 64) ?_
        refine V 60 4 (run_lss (t := 3) (t' := 3) (x := (.tmp 57)) (y := (.tmp 59)) (k := .i64) (a := s71.2) (b := (x0.length : Int)) rfl rfl) ?_
        refine Nt ?_
        refine CWP.cond (t := (decide (s71.2 < (x0.length : Int)))) (by kernel_rfl) rfl (fun hb99 => ?_) (fun hb99 => ?_)
        ·have h100 := cond_t hb97 hb99
         refine Sc ?_
         refine thenQ_nrm ?_
         refine Sq ?_
         refine Bk ?_
         refine Rg [0, 1, 2, 3, 4, 5, 6, 7, 8, 9, 10, 11, 12, 13, 14, 15] ?_
         refine V 63 61 (mv 13 (.slice as71_0 s71.1.length ns71_0) e81) ?_
         refine V 64 61 (mv 0 (.slice a0_0 x0.length n0_0) e76) ?_
         refine V 65 3 (mv 14 (vi s71.2) e82) ?_
         refine V 66 3 (mv 1 (vi (bif (decide (x1 < 0)) then (W64 (0 - (W64 (x1 + 1)))) else x1)) e77) ?_
         refine V 67 61 (mv 0 (.slice a0_0 x0.length n0_0) e76) ?_
         refine V 68 3 (ln 67 61 a0_0 x0.length n0_0 71 7 64) ?_
         obtain ⟨u101, hr102, h103⟩ := bind_some h100
         refine V 69 3 (run_rem (t := 3) (t' := 3) (x := (.tmp 66)) (y := (.tmp 68)) (k := .i64) (a := (bif (decide (x1 < 0)) then (W64 (0 - (W64 (x1 + 1)))) else x1)) (b := (x0.length : Int)) rfl rfl (nzq_spec hr102)) ?_
         refine V 70 3 (run_add (t := 3) (t' := 3) (x := (.tmp 65)) (y := (.tmp 69)) (k := .i64) (a := s71.2) (b := (Int.tmod (bif (decide (x1 < 0)) then (W64 (0 - (W64 (x1 + 1)))) else x1) (x0.length : Int))) rfl rfl) ?_
         refine V 71 61 (mv 0 (.slice a0_0 x0.length n0_0) e76) ?_
         refine V 72 3 (ln 71 61 a0_0 x0.length n0_0 71 7 64) ?_
         obtain ⟨u104, hr105, h106⟩ := bind_some h103
         refine V 73 3 (run_rem (t := 3) (t' := 3) (x := (.tmp 70)) (y := (.tmp 72)) (k := .i64) (a := (W64 (s71.2 + (Int.tmod (bif (decide (x1 < 0)) then (W64 (0 - (W64 (x1 + 1)))) else x1) (x0.length : Int))))) (b := (x0.length : Int)) rfl rfl (nzq_spec hr105)) ?_
         obtain ⟨x107, hx108, h110⟩ := bind_some h106
         obtain ⟨hi109, hx108'⟩ := idx_spec hx108
         obtain ⟨b111, o112, C113, E114, fz115, rfl, hF117, hE118⟩ := SlA.open (SlA.mono hs0_0 ((((((le7.trans le11).trans le29).trans le37).trans le44).trans le58).trans le74)) hx108'
         have hc120 := hE118 _ _ hx108'
         refine V 74 0 (ix 61 64 73 b111 o112 71 7 64 hi109) ?_
         refine V 75 71 (lx 71 74 0 7 true 7 (.agg #[(.string ⟨(x107.Text).toArray⟩), (vi x107.Country), (vi x107.Zone), (vi x107.Continent), (vi x107.From), (vi x107.To), (.bool x107.Whole)]) (hs73.pers _ _ hF117) hc120) ?_
         refine RWP.buildSlice (dst := (some 76)) (ty := 61) (g := none) (by kernel_rfl) rfl (t := 61) (len := 1) (parts := #[(0, (.tmp 75))]) (vs := [(0, (.agg #[(.string ⟨(x107.Text).toArray⟩), (vi x107.Country), (vi x107.Zone), (vi x107.Continent), (vi x107.From), (vi x107.To), (.bool x107.Whole)]))]) (rfl) (E := 71) (cs := [(.string ⟨(x107.Text).toArray⟩), (vi x107.Country), (vi x107.Zone), (vi x107.Continent), (vi x107.From), (vi x107.To), (.bool x107.Whole)]) (by kernel_rfl) hs73 (fun b121 w122 (hs123 : HS w0 F0 w122 F7 [(some b121, .cells ([(.string ⟨(x107.Text).toArray⟩), (vi x107.Country), (vi x107.Zone), (vi x107.Continent), (vi x107.From), (vi x107.To), (.bool x107.Whole)] : List Value).toArray 71 (0, 0)), es71_0]) => ?_)
         have hr125 : RowR tPrefix 71 F7 (some ⟨b121, 0, none⟩) 1 [x107] (some b121, .cells ([(.string ⟨(x107.Text).toArray⟩), (vi x107.Country), (vi x107.Zone), (vi x107.Continent), (vi x107.From), (vi x107.To), (.bool x107.Whole)] : List Value).toArray 71 (0, 0)) := RowR.lit ⟨rfl, rfl⟩ (by simp)
         obtain ⟨r126, hap127, h128⟩ := bind_some h110
         refine RWP.append (dst := (some 77)) (ty := 61) (g := none) (by kernel_rfl) rfl (x := (.tmp 63)) (y := (.tmp 76)) (t := 61) (t2 := 61) (by_ := 64) (z := (.agg #[(.string ⟨(([] : List UInt8)).toArray⟩), (vi 0), (vi 0), (vi 0), (vi 0), (vi 0), (.bool false)])) (a2 := (some ⟨b121, 0, none⟩)) (c2 := 1) (m := [x107]) (T := tPrefix) (E := 71) (a := as71_0) (cap := ns71_0) (l := s71.1) rfl rfl (by kernel_rfl) (by decide) (by kernel_rfl) (by kernel_rfl) rfl oPrefix hs123 (k := 1) rfl hrs71_0 (RowR.rd hs123 (k := 0) rfl hr125) (r := r126) hap127 (fun a129 n130 e131 w132 (hs133 : HS w0 F0 w132 F7 [(some b121, .cells ([(.string ⟨(x107.Text).toArray⟩), (vi x107.Country), (vi x107.Zone), (vi x107.Continent), (vi x107.From), (vi x107.To), (.bool x107.Whole)] : List Value).toArray 71 (0, 0)), e131]) hr134 => ?_)
         refine V 13 61 (ma 77 (.slice a129 r126.length n130)) ?_
         refine RWP.nil ?_
         refine blockQ_nrm ?_
         refine thenQ_nrm ?_
         refine Rg [0, 1, 2] ?_
         refine V 61 3 (mv 14 (vi s71.2) e82) ?_
         refine V 62 3 (run_add (t := 3) (t' := 3) (x := (.tmp 61)) (y := (.const (vi 1))) (k := .i64) (a := s71.2) (b := 1) rfl rfl) ?_
         refine V 14 3 (ma 62 (vi (W64 (s71.2 + 1)))) ?_
         refine RWP.nil ?_
         have hs135 : HS w0 F0 w132 F7 [e131] := hs133.drop 0
         have hn136 := iter_next h128 hnx98
         exact ⟨m95, Nat.lt_succ_self _, (r126, (W64 (s71.2 + 1))), F7, a129, n130, e131, hn136, hs135, le74, e75, e76, e77, e78, e79, e80, rfl, rfl, hr134⟩
        ·have h137 := cond_f hb97 hb99
         refine CWP.exit (by kernel_rfl) ?_
         refine thenQ_ex ?_
         refine thenQ_ex ?_
         refine blockQ_hit rfl ?_
         have ho138 := iter_done h137 hnx98
         exact .inl ⟨rfl, (s71.1, s71.2), F7, as71_0, ns71_0, es71_0, ho138, hs73, le74, e75, e76, e78, e79, e80, e81, hrs71_0⟩
       ·rintro f w84 ⟨s83, F8, as83_0, ns83_0, es83_0, rfl, hs85, le86, e87, e88, e89, e90, e91, e92, hrs83_0⟩
        have h139 := k_done h70
        refine thenQ_nrm ?_
        refine Sq (Rg [0, 1, 2, 3, 4, 5, 6, 7, 8, 9] ?_)
        refine V 79 61 (mv 0 (.slice a0_0 x0.length n0_0) e88) ?_
        refine V 80 9 (mv 2 (.string ⟨(x2).toArray⟩) e89) ?_
        refine V 81 3 (mv 3 (vi x3) e90) ?_
        obtain ⟨r140, hr141, h142⟩ := bind_some h139
        refine Cl 82 66 54 #[(.tmp 79), (.tmp 80), (.tmp 81)] #[61, 9, 3] co_air_PlaceOf hs85 (c_air_PlaceOf N w84 F8 hs85.pers (hG.mono ((((((le7.trans le11).trans le29).trans le37).trans le44).trans le58).trans le86)) (x0) a0_0 n0_0 hb0_0 (SlA.mono hs0_0 ((((((le7.trans le11).trans le29).trans le37).trans le44).trans le58).trans le86)) (x2) (x3) _ hr141) ?_
        intro v143 F9 w144 hs145 le146 hp147
        obtain rfl := hp147
        refine V 78 66 (mv 82 (.tuple #[(.agg #[(vi r140.1.Country), (vi r140.1.Zone), (vi r140.1.Continent)]), (vi r140.2)])) ?_
        refine V 83 65 (ex 78 0 (.agg #[(vi r140.1.Country), (vi r140.1.Zone), (vi r140.1.Continent)]) (vs := #[(.agg #[(vi r140.1.Country), (vi r140.1.Zone), (vi r140.1.Continent)]), (vi r140.2)])) ?_
        refine V 84 23 (ex 78 1 (vi r140.2) (vs := #[(.agg #[(vi r140.1.Country), (vi r140.1.Zone), (vi r140.1.Continent)]), (vi r140.2)])) ?_
        refine Al 15 0 65 #[(vi 0), (vi 0), (vi 0)] hs145 (fun b148 w149 (hs150 : HS w0 F0 w149 F9 [(sb b148 #[(vi 0), (vi 0), (vi 0)] 65), es83_0]) => ?_)
        refine RWP.store (ty := 0) (g := none) (by kernel_rfl) rfl (x := (.tmp 15)) (y := (.tmp 83)) (t := 65) (gg := true) (s := 3) (v := (.agg #[(vi r140.1.Country), (vi r140.1.Zone), (vi r140.1.Continent)])) (b := b148) (o := 0) (C := #[(vi 0), (vi 0), (vi 0)]) rfl rfl (by kernel_rfl) hs150 (k := 0) rfl rfl rfl rfl (C' := #[(vi r140.1.Country), (vi r140.1.Zone), (vi r140.1.Continent)]) rfl (fun w151 (hs152 : HS w0 F0 w151 F9 [(sb b148 #[(vi r140.1.Country), (vi r140.1.Zone), (vi r140.1.Continent)] 65), es83_0]) => ?_)
        refine V 16 23 (ma 84 (vi r140.2)) ?_
        refine Nss (Rg [0, 1, 2, 3, 4, 5, 6, 7, 8, 9] ?_)
        refine V 86 61 (mv 13 (.slice as83_0 s83.1.length ns83_0) e92) ?_
        refine V 87 9 (mv 2 (.string ⟨(x2).toArray⟩) e89) ?_
        refine V 88 3 (mv 3 (vi x3) e90) ?_
        have hb156 := RowR.bound (hrs83_0.mono le146)
        obtain ⟨F10, hs153, le154, hs155⟩ : ∃ Fq, HS w0 F0 w151 Fq [(sb b148 #[(vi r140.1.Country), (vi r140.1.Zone), (vi r140.1.Continent)] 65)] ∧ Mem.le F9 Fq ∧ SlA tPrefix Fq as83_0 s83.1 := HS.freezeRow hs152 (k := 1) rfl (hrs83_0.mono le146)
        obtain ⟨r157, hr158, h159⟩ := bind_some h142
        refine Cl 89 66 54 #[(.tmp 86), (.tmp 87), (.tmp 88)] #[61, 9, 3] co_air_PlaceOf hs153 (c_air_PlaceOf N w151 F10 hs153.pers (hG.mono ((((((((le7.trans le11).trans le29).trans le37).trans le44).trans le58).trans le86).trans le146).trans le154)) (s83.1) as83_0 ns83_0 hb156 hs155 (x2) (x3) _ hr158) ?_
        intro v160 F11 w161 hs162 le163 hp164
        obtain rfl := hp164
        refine V 85 66 (mv 89 (.tuple #[(.agg #[(vi r157.1.Country), (vi r157.1.Zone), (vi r157.1.Continent)]), (vi r157.2)])) ?_
        refine V 90 65 (ex 85 0 (.agg #[(vi r157.1.Country), (vi r157.1.Zone), (vi r157.1.Continent)]) (vs := #[(.agg #[(vi r157.1.Country), (vi r157.1.Zone), (vi r157.1.Continent)]), (vi r157.2)])) ?_
        refine V 91 23 (ex 85 1 (vi r157.2) (vs := #[(.agg #[(vi r157.1.Country), (vi r157.1.Zone), (vi r157.1.Continent)]), (vi r157.2)])) ?_
        refine Al 17 0 65 #[(vi 0), (vi 0), (vi 0)] hs162 (fun b165 w166 (hs167 : HS w0 F0 w166 F11 [(sb b165 #[(vi 0), (vi 0), (vi 0)] 65), (sb b148 #[(vi r140.1.Country), (vi r140.1.Zone), (vi r140.1.Continent)] 65)]) => ?_)
        refine RWP.store (ty := 0) (g := none) (by kernel_rfl) rfl (x := (.tmp 17)) (y := (.tmp 90)) (t := 65) (gg := true) (s := 3) (v := (.agg #[(vi r157.1.Country), (vi r157.1.Zone), (vi r157.1.Continent)])) (b := b165) (o := 0) (C := #[(vi 0), (vi 0), (vi 0)]) rfl rfl (by kernel_rfl) hs167 (k := 0) rfl rfl rfl rfl (C' := #[(vi r157.1.Country), (vi r157.1.Zone), (vi r157.1.Continent)]) rfl (fun w168 (hs169 : HS w0 F0 w168 F11 [(sb b165 #[(vi r157.1.Country), (vi r157.1.Zone), (vi r157.1.Continent)] 65), (sb b148 #[(vi r140.1.Country), (vi r140.1.Zone), (vi r140.1.Continent)] 65)]) => ?_)
        refine V 18 23 (ma 91 (vi r157.2)) ?_
        refine Nss (Rg [0, 1, 2, 3, 4, 5, 6, 7, 8, 9] ?_)
        refine V 93 61 (mv 0 (.slice a0_0 x0.length n0_0) e88) ?_
        refine V 94 9 (mv 2 (.string ⟨(x2).toArray⟩) e89) ?_
        refine V 95 3 (mv 3 (vi x3) e90) ?_
        obtain ⟨r170, hr171, h172⟩ := bind_some h159
        refine Cl 96 75 59 #[(.tmp 93), (.tmp 94), (.tmp 95)] #[61, 9, 3] co_air_Since hs169 (c_air_Since N w168 F11 hs169.pers (hG.mono (((((((((le7.trans le11).trans le29).trans le37).trans le44).trans le58).trans le86).trans le146).trans le154).trans le163)) (x0) a0_0 n0_0 hb0_0 (SlA.mono hs0_0 (((((((((le7.trans le11).trans le29).trans le37).trans le44).trans le58).trans le86).trans le146).trans le154).trans le163)) (x2) (x3) _ hr171) ?_
        intro v173 F12 w174 hs175 le176 hp177
        obtain rfl := hp177
        refine V 92 75 (mv 96 (.tuple #[(.agg #[(vi r170.1.Lo), (vi r170.1.Hi)]), (vi r170.2)])) ?_
        refine V 97 74 (ex 92 0 (.agg #[(vi r170.1.Lo), (vi r170.1.Hi)]) (vs := #[(.agg #[(vi r170.1.Lo), (vi r170.1.Hi)]), (vi r170.2)])) ?_
        refine V 98 23 (ex 92 1 (vi r170.2) (vs := #[(.agg #[(vi r170.1.Lo), (vi r170.1.Hi)]), (vi r170.2)])) ?_
        refine Al 19 0 74 #[(vi 0), (vi 0)] hs175 (fun b178 w179 (hs180 : HS w0 F0 w179 F12 [(sb b178 #[(vi 0), (vi 0)] 74), (sb b165 #[(vi r157.1.Country), (vi r157.1.Zone), (vi r157.1.Continent)] 65), (sb b148 #[(vi r140.1.Country), (vi r140.1.Zone), (vi r140.1.Continent)] 65)]) => ?_)
        refine RWP.store (ty := 0) (g := none) (by kernel_rfl) rfl (x := (.tmp 19)) (y := (.tmp 97)) (t := 74) (gg := true) (s := 2) (v := (.agg #[(vi r170.1.Lo), (vi r170.1.Hi)])) (b := b178) (o := 0) (C := #[(vi 0), (vi 0)]) rfl rfl (by kernel_rfl) hs180 (k := 0) rfl rfl rfl rfl (C' := #[(vi r170.1.Lo), (vi r170.1.Hi)]) rfl (fun w181 (hs182 : HS w0 F0 w181 F12 [(sb b178 #[(vi r170.1.Lo), (vi r170.1.Hi)] 74), (sb b165 #[(vi r157.1.Country), (vi r157.1.Zone), (vi r157.1.Continent)] 65), (sb b148 #[(vi r140.1.Country), (vi r140.1.Zone), (vi r140.1.Continent)] 65)]) => ?_)
        refine V 20 23 (ma 98 (vi r170.2)) ?_
        refine Nss (Rg [0, 1, 2, 3, 4, 5, 6, 7, 8, 9] ?_)
        refine V 100 61 (mv 13 (.slice as83_0 s83.1.length ns83_0) e92) ?_
        refine V 101 9 (mv 2 (.string ⟨(x2).toArray⟩) e89) ?_
        refine V 102 3 (mv 3 (vi x3) e90) ?_
        obtain ⟨r183, hr184, h185⟩ := bind_some h172
        refine Cl 103 75 59 #[(.tmp 100), (.tmp 101), (.tmp 102)] #[61, 9, 3] co_air_Since hs182 (c_air_Since N w181 F12 hs182.pers (hG.mono ((((((((((le7.trans le11).trans le29).trans le37).trans le44).trans le58).trans le86).trans le146).trans le154).trans le163).trans le176)) (s83.1) as83_0 ns83_0 hb156 (SlA.mono hs155 (le163.trans le176)) (x2) (x3) _ hr184) ?_
        intro v186 F13 w187 hs188 le189 hp190
        obtain rfl := hp190
        refine V 99 75 (mv 103 (.tuple #[(.agg #[(vi r183.1.Lo), (vi r183.1.Hi)]), (vi r183.2)])) ?_
        refine V 104 74 (ex 99 0 (.agg #[(vi r183.1.Lo), (vi r183.1.Hi)]) (vs := #[(.agg #[(vi r183.1.Lo), (vi r183.1.Hi)]), (vi r183.2)])) ?_
        refine V 105 23 (ex 99 1 (vi r183.2) (vs := #[(.agg #[(vi r183.1.Lo), (vi r183.1.Hi)]), (vi r183.2)])) ?_
        refine Al 21 0 74 #[(vi 0), (vi 0)] hs188 (fun b191 w192 (hs193 : HS w0 F0 w192 F13 [(sb b191 #[(vi 0), (vi 0)] 74), (sb b178 #[(vi r170.1.Lo), (vi r170.1.Hi)] 74), (sb b165 #[(vi r157.1.Country), (vi r157.1.Zone), (vi r157.1.Continent)] 65), (sb b148 #[(vi r140.1.Country), (vi r140.1.Zone), (vi r140.1.Continent)] 65)]) => ?_)
        refine RWP.store (ty := 0) (g := none) (by kernel_rfl) rfl (x := (.tmp 21)) (y := (.tmp 104)) (t := 74) (gg := true) (s := 2) (v := (.agg #[(vi r183.1.Lo), (vi r183.1.Hi)])) (b := b191) (o := 0) (C := #[(vi 0), (vi 0)]) rfl rfl (by kernel_rfl) hs193 (k := 0) rfl rfl rfl rfl (C' := #[(vi r183.1.Lo), (vi r183.1.Hi)]) rfl (fun w194 (hs195 : HS w0 F0 w194 F13 [(sb b191 #[(vi r183.1.Lo), (vi r183.1.Hi)] 74), (sb b178 #[(vi r170.1.Lo), (vi r170.1.Hi)] 74), (sb b165 #[(vi r157.1.Country), (vi r157.1.Zone), (vi r157.1.Continent)] 65), (sb b148 #[(vi r140.1.Country), (vi r140.1.Zone), (vi r140.1.Continent)] 65)]) => ?_)
        refine V 22 23 (ma 105 (vi r183.2)) ?_
        refine Nss (Rg [0, 1, 2, 3, 4, 5, 6, 7, 8, 9, 10, 11, 12, 13, 14, 15, 16, 17, 18, 19, 20, 21, 22, 23, 24, 25, 26, 27, 28, 29, 30] ?_)
        obtain ⟨j199, hj202, h203⟩ := bind_some h185
        refine RWP.cut (fun f w => ∃ (F14 : Mem), HS w0 F0 w F14 [] ∧ Mem.le F13 F14 ∧ f.d = [] ∧ f 8 = (.bool j199)) ?_ ?_
        ·refine V 106 4 (mv 9 (.bool r1) e91) ?_
         refine V 107 4 (mv 106 (.bool r1)) ?_
         refine RWP.split r1 (fun hb204 => ?_) (fun hb204 => ?_)
         ·have h205 := cond_t hj202 hb204
          refine Vg 108 61 1 true 107 hb204 (mv 13 (.slice as83_0 s83.1.length ns83_0) e92) ?_
          obtain ⟨r206, hr207, h208⟩ := bind_some h205
          refine RWP.call (dst := (some 109)) (ty := 4) (g := (some (1, true))) (by kernel_rfl) (gd_y (d := 107) (by kernel_rfl) rfl hb204) (f0 := (.func 56)) (aos := #[(.tmp 108)]) (ats := #[61]) (fid := 56) (first := #[]) (cap := #[]) (args := [(.slice as83_0 s83.1.length ns83_0)]) rfl co_air_ValidTable (rfl) hs195 (c_air_ValidTable N w194 F13 hs195.pers (s83.1) as83_0 ns83_0 hb156 (SlA.mono hs155 ((le163.trans le176).trans le189)) _ hr207) ?_
          intro v209 F15 w210 hs211 le212 hp213
          obtain rfl := hp213
          refine V 110 4 (p1 107 (.tmp 109) (.const (.bool false)) (.bool r206) hb204) ?_
          refine V 111 4 (mv 110 (.bool r206)) ?_
          refine RWP.split r206 (fun hb214 => ?_) (fun hb214 => ?_)
          ·have h215 := cond_t h208 hb214
           refine Vg 112 61 5 true 111 hb214 (mv 13 (.slice as83_0 s83.1.length ns83_0) e92) ?_
           obtain ⟨r216, hr217, h218⟩ := bind_some h215
           obtain ⟨a219, n220, hb221, hs222, hrun223⟩ := part_val (P := Tryz.prog) (T := tPrefix) (lo := (some (.const (vi 1)))) (hi := none) (mx := none) (t := 61) (E := 71) (by_ := 64) (c := ns83_0) (a := as83_0) (l := s83.1) (r := r216) (il := 1) (ih := (s83.1.length : Int)) (im := 0) (by kernel_rfl) (by kernel_rfl) hb156 (SlA.mono hs155 (((le163.trans le176).trans le189).trans le212)) (fun h => by first | rfl | cases h) hr217
           refine Vg 113 61 5 true 111 hb214 (hrun223 (x := (.tmp 112)) rfl rfl rfl trivial) ?_
           obtain ⟨r224, hr225, h226⟩ := bind_some h218
           refine RWP.call (dst := (some 114)) (ty := 4) (g := (some (5, true))) (by kernel_rfl) (gd_y (d := 111) (by kernel_rfl) rfl hb214) (f0 := (.func 56)) (aos := #[(.tmp 113)]) (ats := #[61]) (fid := 56) (first := #[]) (cap := #[]) (args := [(.slice a219 r216.length n220)]) rfl co_air_ValidTable (rfl) hs211 (c_air_ValidTable N w210 F15 hs211.pers (r216) a219 n220 hb221 hs222 _ hr225) ?_
           intro v227 F16 w228 hs229 le230 hp231
           obtain rfl := hp231
           refine V 115 4 (p1 111 (.tmp 114) (.const (.bool false)) (.bool r224) hb214) ?_
           refine V 116 4 (mv 115 (.bool r224)) ?_
           refine RWP.split r224 (fun hb232 => ?_) (fun hb232 => ?_)
           ·have h233 := cond_t h226 hb232
            refine Vg 117 65 10 true 116 hb232 (ld 65 15 b148 0 true 3 (.agg #[(vi r140.1.Country), (vi r140.1.Zone), (vi r140.1.Continent)]) (hs229.ownAt (k := 3) rfl)) ?_
            refine Vg 118 65 10 true 116 hb232 (ld 65 17 b165 0 true 3 (.agg #[(vi r157.1.Country), (vi r157.1.Zone), (vi r157.1.Continent)]) (hs229.ownAt (k := 2) rfl)) ?_
            refine Vg 119 4 10 true 116 hb232 (run_eqs (t := 65) (t' := 65) (x := (.tmp 117)) (y := (.tmp 118)) (xs := #[(vi r140.1.Country), (vi r140.1.Zone), (vi r140.1.Continent)]) (ys := #[(vi r157.1.Country), (vi r157.1.Zone), (vi r157.1.Continent)]) (b := ((r140.1.Country == r157.1.Country) && ((r140.1.Zone == r157.1.Zone) && ((r140.1.Continent == r157.1.Continent) && true)))) rfl rfl (by kernel_rfl) (by kernel_rfl)) ?_
            refine V 120 4 (p1 116 (.tmp 119) (.const (.bool false)) (.bool ((r140.1.Country == r157.1.Country) && ((r140.1.Zone == r157.1.Zone) && ((r140.1.Continent == r157.1.Continent) && true)))) hb232) ?_
            refine V 121 4 (mv 120 (.bool ((r140.1.Country == r157.1.Country) && ((r140.1.Zone == r157.1.Zone) && ((r140.1.Continent == r157.1.Continent) && true))))) ?_
            refine RWP.split ((r140.1.Country == r157.1.Country) && ((r140.1.Zone == r157.1.Zone) && ((r140.1.Continent == r157.1.Continent) && true))) (fun hb234 => ?_) (fun hb234 => ?_)
            ·have h235 := cond_t h233 hb234
             refine Vg 122 23 15 true 121 hb234 (mv 16 (vi r140.2)) ?_
             refine Vg 123 23 15 true 121 hb234 (mv 18 (vi r157.2)) ?_
             refine Vg 124 4 15 true 121 hb234 (run_eql (t := 23) (t' := 23) (x := (.tmp 122)) (y := (.tmp 123)) (k := .i64) (a := r140.2) (b := r157.2) rfl rfl) ?_
             refine V 125 4 (p1 121 (.tmp 124) (.const (.bool false)) (.bool (r140.2 == r157.2)) hb234) ?_
             refine V 126 4 (mv 125 (.bool (r140.2 == r157.2))) ?_
             refine RWP.split (r140.2 == r157.2) (fun hb236 => ?_) (fun hb236 => ?_)
             ·have h237 := cond_t h235 hb236
              refine Vg 127 74 20 true 126 hb236 (ld 74 19 b178 0 true 2 (.agg #[(vi r170.1.Lo), (vi r170.1.Hi)]) (hs229.ownAt (k := 1) rfl)) ?_
              refine Vg 128 74 20 true 126 hb236 (ld 74 21 b191 0 true 2 (.agg #[(vi r183.1.Lo), (vi r183.1.Hi)]) (hs229.ownAt (k := 0) rfl)) ?_
              refine Vg 129 4 20 true 126 hb236 (run_eqs (t := 74) (t' := 74) (x := (.tmp 127)) (y := (.tmp 128)) (xs := #[(vi r170.1.Lo), (vi r170.1.Hi)]) (ys := #[(vi r183.1.Lo), (vi r183.1.Hi)]) (b := ((r170.1.Lo == r183.1.Lo) && ((r170.1.Hi == r183.1.Hi) && true))) rfl rfl (by kernel_rfl) (by kernel_rfl)) ?_
              refine V 130 4 (p1 126 (.tmp 129) (.const (.bool false)) (.bool ((r170.1.Lo == r183.1.Lo) && ((r170.1.Hi == r183.1.Hi) && true))) hb236) ?_
              refine V 131 4 (mv 130 (.bool ((r170.1.Lo == r183.1.Lo) && ((r170.1.Hi == r183.1.Hi) && true)))) ?_
              refine RWP.split ((r170.1.Lo == r183.1.Lo) && ((r170.1.Hi == r183.1.Hi) && true)) (fun hb238 => ?_) (fun hb238 => ?_)
              ·have h239 := cond_t h237 hb238
               refine Vg 132 23 25 true 131 hb238 (mv 20 (vi r170.2)) ?_
               refine Vg 133 23 25 true 131 hb238 (mv 22 (vi r183.2)) ?_
               refine Vg 134 4 25 true 131 hb238 (run_eql (t := 23) (t' := 23) (x := (.tmp 132)) (y := (.tmp 133)) (k := .i64) (a := r170.2) (b := r183.2) rfl rfl) ?_
               refine V 135 4 (p1 131 (.tmp 134) (.const (.bool false)) (.bool (r170.2 == r183.2)) hb238) ?_
               refine V 8 4 (ma 135 (.bool (r170.2 == r183.2))) ?_
               obtain rfl := some_inj h239
               have hs240 : HS w0 F0 w228 F16 [(sb b178 #[(vi r170.1.Lo), (vi r170.1.Hi)] 74), (sb b165 #[(vi r157.1.Country), (vi r157.1.Zone), (vi r157.1.Continent)] 65), (sb b148 #[(vi r140.1.Country), (vi r140.1.Zone), (vi r140.1.Continent)] 65)] := hs229.drop 0
               have hs241 : HS w0 F0 w228 F16 [(sb b165 #[(vi r157.1.Country), (vi r157.1.Zone), (vi r157.1.Continent)] 65), (sb b148 #[(vi r140.1.Country), (vi r140.1.Zone), (vi r140.1.Continent)] 65)] := hs240.drop 0
               have hs242 : HS w0 F0 w228 F16 [(sb b148 #[(vi r140.1.Country), (vi r140.1.Zone), (vi r140.1.Continent)] 65)] := hs241.drop 0
               have hs243 : HS w0 F0 w228 F16 [] := hs242.drop 0
               exact RWP.nil ⟨rfl, F16, hs243, (le212.trans le230), e87, rfl⟩
              ·have h244 := cond_f h237 hb238
               refine Sk [132, 133, 134] 25 true 131 hb238 ?_
               refine V 135 4 (p0 131 (.tmp 134) (.const (.bool false)) (.bool false) hb238) ?_
               refine V 8 4 (ma 135 (.bool false)) ?_
               obtain rfl := some_inj h244
               have hs245 : HS w0 F0 w228 F16 [(sb b178 #[(vi r170.1.Lo), (vi r170.1.Hi)] 74), (sb b165 #[(vi r157.1.Country), (vi r157.1.Zone), (vi r157.1.Continent)] 65), (sb b148 #[(vi r140.1.Country), (vi r140.1.Zone), (vi r140.1.Continent)] 65)] := hs229.drop 0
               have hs246 : HS w0 F0 w228 F16 [(sb b165 #[(vi r157.1.Country), (vi r157.1.Zone), (vi r157.1.Continent)] 65), (sb b148 #[(vi r140.1.Country), (vi r140.1.Zone), (vi r140.1.Continent)] 65)] := hs245.drop 0
               have hs247 : HS w0 F0 w228 F16 [(sb b148 #[(vi r140.1.Country), (vi r140.1.Zone), (vi r140.1.Continent)] 65)] := hs246.drop 0
               have hs248 : HS w0 F0 w228 F16 [] := hs247.drop 0
               exact RWP.nil ⟨rfl, F16, hs248, (le212.trans le230), e87, rfl⟩
             ·have h249 := cond_f h235 hb236
              refine Sk [127, 128, 129] 20 true 126 hb236 ?_
              refine V 130 4 (p0 126 (.tmp 129) (.const (.bool false)) (.bool false) hb236) ?_
              refine V 131 4 (mv 130 (.bool false)) ?_
              refine Sk [132, 133, 134] 25 true 131 rfl ?_
              refine V 135 4 (p0 131 (.tmp 134) (.const (.bool false)) (.bool false) rfl) ?_
              refine V 8 4 (ma 135 (.bool false)) ?_
              obtain rfl := some_inj h249
              have hs250 : HS w0 F0 w228 F16 [(sb b178 #[(vi r170.1.Lo), (vi r170.1.Hi)] 74), (sb b165 #[(vi r157.1.Country), (vi r157.1.Zone), (vi r157.1.Continent)] 65), (sb b148 #[(vi r140.1.Country), (vi r140.1.Zone), (vi r140.1.Continent)] 65)] := hs229.drop 0
              have hs251 : HS w0 F0 w228 F16 [(sb b165 #[(vi r157.1.Country), (vi r157.1.Zone), (vi r157.1.Continent)] 65), (sb b148 #[(vi r140.1.Country), (vi r140.1.Zone), (vi r140.1.Continent)] 65)] := hs250.drop 0
              have hs252 : HS w0 F0 w228 F16 [(sb b148 #[(vi r140.1.Country), (vi r140.1.Zone), (vi r140.1.Continent)] 65)] := hs251.drop 0
              have hs253 : HS w0 F0 w228 F16 [] := hs252.drop 0
              exact RWP.nil ⟨rfl, F16, hs253, (le212.trans le230), e87, rfl⟩
            ·have h254 := cond_f h233 hb234
             refine Sk [122, 123, 124] 15 true 121 hb234 ?_
             refine V 125 4 (p0 121 (.tmp 124) (.const (.bool false)) (.bool false) hb234) ?_
             refine V 126 4 (mv 125 (.bool false)) ?_
             refine Sk [127, 128, 129] 20 true 126 rfl ?_
             refine V 130 4 (p0 126 (.tmp 129) (.const (.bool false)) (.bool false) rfl) ?_
             refine V 131 4 (mv 130 (.bool false)) ?_
             refine Sk [132, 133, 134] 25 true 131 rfl ?_
             refine V 135 4 (p0 131 (.tmp 134) (.const (.bool false)) (.bool false) rfl) ?_
             refine V 8 4 (ma 135 (.bool false)) ?_
             obtain rfl := some_inj h254
             have hs255 : HS w0 F0 w228 F16 [(sb b178 #[(vi r170.1.Lo), (vi r170.1.Hi)] 74), (sb b165 #[(vi r157.1.Country), (vi r157.1.Zone), (vi r157.1.Continent)] 65), (sb b148 #[(vi r140.1.Country), (vi r140.1.Zone), (vi r140.1.Continent)] 65)] := hs229.drop 0
             have hs256 : HS w0 F0 w228 F16 [(sb b165 #[(vi r157.1.Country), (vi r157.1.Zone), (vi r157.1.Continent)] 65), (sb b148 #[(vi r140.1.Country), (vi r140.1.Zone), (vi r140.1.Continent)] 65)] := hs255.drop 0
             have hs257 : HS w0 F0 w228 F16 [(sb b148 #[(vi r140.1.Country), (vi r140.1.Zone), (vi r140.1.Continent)] 65)] := hs256.drop 0
             have hs258 : HS w0 F0 w228 F16 [] := hs257.drop 0
             exact RWP.nil ⟨rfl, F16, hs258, (le212.trans le230), e87, rfl⟩
           ·have h259 := cond_f h226 hb232
            refine Sk [117, 118, 119] 10 true 116 hb232 ?_
            refine V 120 4 (p0 116 (.tmp 119) (.const (.bool false)) (.bool false) hb232) ?_
            refine V 121 4 (mv 120 (.bool false)) ?_
            refine Sk [122, 123, 124] 15 true 121 rfl ?_
            refine V 125 4 (p0 121 (.tmp 124) (.const (.bool false)) (.bool false) rfl) ?_
            refine V 126 4 (mv 125 (.bool false)) ?_
            refine Sk [127, 128, 129] 20 true 126 rfl ?_
            refine V 130 4 (p0 126 (.tmp 129) (.const (.bool false)) (.bool false) rfl) ?_
            refine V 131 4 (mv 130 (.bool false)) ?_
            refine Sk [132, 133, 134] 25 true 131 rfl ?_
            refine V 135 4 (p0 131 (.tmp 134) (.const (.bool false)) (.bool false) rfl) ?_
            refine V 8 4 (ma 135 (.bool false)) ?_
            obtain rfl := some_inj h259
            have hs260 : HS w0 F0 w228 F16 [(sb b178 #[(vi r170.1.Lo), (vi r170.1.Hi)] 74), (sb b165 #[(vi r157.1.Country), (vi r157.1.Zone), (vi r157.1.Continent)] 65), (sb b148 #[(vi r140.1.Country), (vi r140.1.Zone), (vi r140.1.Continent)] 65)] := hs229.drop 0
            have hs261 : HS w0 F0 w228 F16 [(sb b165 #[(vi r157.1.Country), (vi r157.1.Zone), (vi r157.1.Continent)] 65), (sb b148 #[(vi r140.1.Country), (vi r140.1.Zone), (vi r140.1.Continent)] 65)] := hs260.drop 0
            have hs262 : HS w0 F0 w228 F16 [(sb b148 #[(vi r140.1.Country), (vi r140.1.Zone), (vi r140.1.Continent)] 65)] := hs261.drop 0
            have hs263 : HS w0 F0 w228 F16 [] := hs262.drop 0
            exact RWP.nil ⟨rfl, F16, hs263, (le212.trans le230), e87, rfl⟩
          ·have h264 := cond_f h208 hb214
           refine Sk [112, 113, 114] 5 true 111 hb214 ?_
           refine V 115 4 (p0 111 (.tmp 114) (.const (.bool false)) (.bool false) hb214) ?_
           refine V 116 4 (mv 115 (.bool false)) ?_
           refine Sk [117, 118, 119] 10 true 116 rfl ?_
           refine V 120 4 (p0 116 (.tmp 119) (.const (.bool false)) (.bool false) rfl) ?_
           refine V 121 4 (mv 120 (.bool false)) ?_
           refine Sk [122, 123, 124] 15 true 121 rfl ?_
           refine V 125 4 (p0 121 (.tmp 124) (.const (.bool false)) (.bool false) rfl) ?_
           refine V 126 4 (mv 125 (.bool false)) ?_
           refine Sk [127, 128, 129] 20 true 126 rfl ?_
           refine V 130 4 (p0 126 (.tmp 129) (.const (.bool false)) (.bool false) rfl) ?_
           refine V 131 4 (mv 130 (.bool false)) ?_
           refine Sk [132, 133, 134] 25 true 131 rfl ?_
           refine V 135 4 (p0 131 (.tmp 134) (.const (.bool false)) (.bool false) rfl) ?_
           refine V 8 4 (ma 135 (.bool false)) ?_
           obtain rfl := some_inj h264
           have hs265 : HS w0 F0 w210 F15 [(sb b178 #[(vi r170.1.Lo), (vi r170.1.Hi)] 74), (sb b165 #[(vi r157.1.Country), (vi r157.1.Zone), (vi r157.1.Continent)] 65), (sb b148 #[(vi r140.1.Country), (vi r140.1.Zone), (vi r140.1.Continent)] 65)] := hs211.drop 0
           have hs266 : HS w0 F0 w210 F15 [(sb b165 #[(vi r157.1.Country), (vi r157.1.Zone), (vi r157.1.Continent)] 65), (sb b148 #[(vi r140.1.Country), (vi r140.1.Zone), (vi r140.1.Continent)] 65)] := hs265.drop 0
           have hs267 : HS w0 F0 w210 F15 [(sb b148 #[(vi r140.1.Country), (vi r140.1.Zone), (vi r140.1.Continent)] 65)] := hs266.drop 0
           have hs268 : HS w0 F0 w210 F15 [] := hs267.drop 0
           exact RWP.nil ⟨rfl, F15, hs268, le212, e87, rfl⟩
         ·have h269 := cond_f hj202 hb204
          refine Sk [108, 109] 1 true 107 hb204 ?_
          refine V 110 4 (p0 107 (.tmp 109) (.const (.bool false)) (.bool false) hb204) ?_
          refine V 111 4 (mv 110 (.bool false)) ?_
          refine Sk [112, 113, 114] 5 true 111 rfl ?_
          refine V 115 4 (p0 111 (.tmp 114) (.const (.bool false)) (.bool false) rfl) ?_
          refine V 116 4 (mv 115 (.bool false)) ?_
          refine Sk [117, 118, 119] 10 true 116 rfl ?_
          refine V 120 4 (p0 116 (.tmp 119) (.const (.bool false)) (.bool false) rfl) ?_
          refine V 121 4 (mv 120 (.bool false)) ?_
          refine Sk [122, 123, 124] 15 true 121 rfl ?_
          refine V 125 4 (p0 121 (.tmp 124) (.const (.bool false)) (.bool false) rfl) ?_
          refine V 126 4 (mv 125 (.bool false)) ?_
          refine Sk [127, 128, 129] 20 true 126 rfl ?_
          refine V 130 4 (p0 126 (.tmp 129) (.const (.bool false)) (.bool false) rfl) ?_
          refine V 131 4 (mv 130 (.bool false)) ?_
          refine Sk [132, 133, 134] 25 true 131 rfl ?_
          refine V 135 4 (p0 131 (.tmp 134) (.const (.bool false)) (.bool false) rfl) ?_
          refine V 8 4 (ma 135 (.bool false)) ?_
          obtain rfl := some_inj h269
          have hs270 : HS w0 F0 w194 F13 [(sb b178 #[(vi r170.1.Lo), (vi r170.1.Hi)] 74), (sb b165 #[(vi r157.1.Country), (vi r157.1.Zone), (vi r157.1.Continent)] 65), (sb b148 #[(vi r140.1.Country), (vi r140.1.Zone), (vi r140.1.Continent)] 65)] := hs195.drop 0
          have hs271 : HS w0 F0 w194 F13 [(sb b165 #[(vi r157.1.Country), (vi r157.1.Zone), (vi r157.1.Continent)] 65), (sb b148 #[(vi r140.1.Country), (vi r140.1.Zone), (vi r140.1.Continent)] 65)] := hs270.drop 0
          have hs272 : HS w0 F0 w194 F13 [(sb b148 #[(vi r140.1.Country), (vi r140.1.Zone), (vi r140.1.Continent)] 65)] := hs271.drop 0
          have hs273 : HS w0 F0 w194 F13 [] := hs272.drop 0
          exact RWP.nil ⟨rfl, F13, hs273, (Mem.le.refl _), e87, rfl⟩
        ·rintro f w196 ⟨F14, hs197, le198, e200, e201⟩
         refine thenQ_nrm ?_
         refine CWP.ret (by kernel_rfl) ?_
         have hfin := some_inj h203
         subst hfin
         exact ⟨e200, (.bool j199), res_of (l := [.tmp 8]) (by kernel_rfl) (vs := [(.bool j199)]) ⟨e201, trivial⟩, (.bool j199), F14, rfl, hs197.clear, rfl⟩
end Go.Proofs.YtlddakefmfcblaaGreatDoor
namespace Go.Proofs.YtlddakefmfcblaaGreatDoor
structure OKL (T : List Prefix) (c : List UInt8) (pl : Place) (d : Int) (L : List Int) (lo hi : Int) : Prop where
 pos : 0 ≤ lo
 lo' : lo = 0 ∨ loC T c pl d lo = true
 top : ∀ x, x ∈ L → loC T c pl d x = true → x ≤ lo
 le : hi ≤ 99999
 hi' : hi = 99999 ∨ hiC T c pl d (hi + 1) = true
 bot : ∀ x, x ∈ L → hiC T c pl d x = true → hi + 1 ≤ x
section
variable {N : Nat} {T : List Prefix} {c : List UInt8} {d : Int} {pl : Place}
end
end Go.Proofs.YtlddakefmfcblaaGreatDoor
namespace Go.Proofs.YtlddakefmfcblaaGreatDoor
section
variable {N : Nat} {T T' : List Prefix} {c : List UInt8} {d : Int}
theorem find_same (hv : validT T = true) (hv' : validT T' = true) (hm : ∀ p, p ∈ T' ↔ p ∈ T) (y : Int) : (findS T' c y).map (pAt T') = (findS T c y).map (pAt T) := by
 obtain ⟨_, hR, hA⟩ := valid_R hv
 obtain ⟨_, hR', hA'⟩ := valid_R hv'
 cases hf : findS T c y with
 | none =>
  have hno := findS_none hR hf
  cases hf' : findS T' c y with
  | none => rfl
  | some i =>
   have ans := (findS_ans hR' hf').2
   exact absurd ans.fit (hno _ ((hm _).1 ans.mem))
 | some i =>
  have ans := (findS_ans hR hf).2
  have ans' : IsAns T' c y (pAt T i) := ⟨(hm _).2 ans.mem, ans.fit, by
   rcases ans.best with h | h
   ·exact .inl h
   ·exact .inr fun q hq hfq => h q ((hm q).1 hq) hfq⟩
  obtain ⟨j, h1, _, h3⟩ := findS_of_ans hR' hA' ans'
  rw [h1]
  simp only [Option.map_some]
  rw [h3]
theorem same_alt (pl : Place) (y : Int) : sameB T c pl y = ((findS T c y).map (pAt T)).elim false (fun p => decide (plOf p = pl)) := by
 unfold sameB
 cases findS T c y <;> rfl
theorem place_alt : placeS T c d = if wrongT T c d = 0 then ((findS T c d).map (pAt T)).elim (zPl, 3) (fun p => (plOf p, 0)) else (zPl, wrongT T c d) := by
 unfold placeS
 cases findS T c d <;> rfl
theorem place_turn (hv : validT T = true) (hv' : validT T' = true) (hm : ∀ p, p ∈ T' ↔ p ∈ T) : placeS T' c d = placeS T c d := by
 have hw : wrongT T' c d = wrongT T c d := by unfold wrongT; rw [hv, hv']
 rw [place_alt, place_alt, hw, find_same hv hv' hm]
theorem since_turn (hv : validT T = true) (hv' : validT T' = true) (hm : ∀ p, p ∈ T' ↔ p ∈ T) {r r' : Span × Int} (h : SinceOK T c d r) (h' : SinceOK T' c d r') : r = r' := by
 refine since_one h ?_
 have hs : ∀ pl y, sameB T' c pl y = sameB T c pl y := fun pl y => by rw [same_alt, same_alt, find_same hv hv' hm]
 unfold SinceOK at h' ⊢
 rw [place_turn hv hv' hm] at h'
 rcases h' with h1 | ⟨h1, h2, h3⟩
 ·exact .inl h1
 ·refine .inr ⟨h1, h2, h3.lo0, h3.lod, h3.hid, h3.hi9, fun y a b => by rw [← hs]; exact h3.same y a b, ?_, ?_⟩
  ·rcases h3.below with h | h
   ·exact .inl h
   ·exact .inr (by rw [← hs]; exact h)
  ·rcases h3.above with h | h
   ·exact .inl h
   ·exact .inr (by rw [← hs]; exact h)
def turnT (T : List Prefix) (K : Nat) : List Prefix := cat T.length (fun i => [pAt T ((i + K) % T.length)])
theorem turn_eq {K : Nat} (hK : K < T.length) : turnT T K = T.drop K ++ T.take K := by
 have e1 : turnT T K = (List.range T.length).map (fun i => pAt T ((i + K) % T.length)) := by
  unfold turnT cat
  rw [List.flatMap_def]
  generalize List.range T.length = l
  induction l with
  | nil => rfl
  | cons x l ih => simp only [List.map_cons, List.flatten_cons, ih]; rfl
 rw [e1]
 apply List.ext_getElem
 ·simp; omega
 ·intro i h1 h2
  simp at h1
  rw [List.getElem_map, List.getElem_range, List.getElem_append]
  split
  ·rename_i h
   rw [List.length_drop] at h
   rw [List.getElem_drop, Nat.mod_eq_of_lt (by omega), pAt_get (by omega)]
   congr 1; omega
  ·rename_i h
   rw [List.length_drop] at h
   rw [List.getElem_take]
   have : (i + K) % T.length = i - (T.length - K) := by
    rw [show i + K = (i - (T.length - K)) + T.length by omega, Nat.add_mod_right, Nat.mod_eq_of_lt (by omega)]
   rw [this, pAt_get (by omega)]
   congr 1
   simp
theorem turn_perm {K : Nat} (hK : K < T.length) : (turnT T K).Perm T := by
 rw [turn_eq hK]
 have := List.perm_append_comm (l₁ := T.drop K) (l₂ := T.take K)
 rwa [List.take_append_drop] at this
theorem order_holds (x1 : Int) (hx : rI x1) (hT : fitT N T) (hN : 4294967300 < N) : law01_AirOrder N T x1 c d = some true := by
 unfold law01_AirOrder
 rw [awake_true hN, Option.bind_some]
 cases hg : ((decide ((T.length : Int) > 40)) || (decide ((c.length : Int) > 1000))) with
 | true => rfl
 | false =>
  rw [Bool.or_eq_false_iff, decide_eq_false_iff_not, decide_eq_false_iff_not] at hg
  rw [cond_false, s_Overlap hT hN, Option.bind_some, s_ValidT hT hN, Option.bind_some]
  have e0 : (!(validT T == ((overS T).2.2 == 3))) = false := by
   have : ((overS T).2.2 == 3) = validT T := rfl
   rw [this]; simp
  rw [e0, cond_false]
  cases hv : (((overS T).2.2 != 3) || ((T.length : Int) == 0)) with
  | true => rfl
  | false =>
   rw [Bool.or_eq_false_iff] at hv
   have hval : validT T = true := by
    unfold validT
    have := hv.1
    rw [bne, Bool.not_eq_false'] at this
    exact this
   have hn : 0 < T.length := by
    have := hv.2
    rw [beq_eq_false_iff_ne] at this
    omega
   rw [cond_false]
   obtain ⟨K, hK, hKe⟩ : ∃ K : Nat, K < T.length ∧ Int.tmod (bif (decide (x1 < 0)) then (W64 (0 - (W64 (x1 + 1)))) else x1) (T.length : Int) = (K : Int) := by
    unfold rI at hx
    have hpos : ∃ u : Nat, (bif (decide (x1 < 0)) then (W64 (0 - (W64 (x1 + 1)))) else x1) = (u : Int) := by
     by_cases h : x1 < 0
     ·rw [decide_eq_true h, cond_true, W64_id (n := x1 + 1) (by omega) (by omega), W64_id (by omega) (by omega)]
      exact ⟨(0 - (x1 + 1)).toNat, by omega⟩
     ·rw [decide_eq_false h, cond_false]
      exact ⟨x1.toNat, by omega⟩
    obtain ⟨u, hu⟩ := hpos
    rw [hu, tmodN]
    exact ⟨u % T.length, Nat.mod_lt _ hn, rfl⟩
   obtain ⟨h400, hR, hA⟩ := valid_R hval
   rw [iter_cat' (n := T.length) 1 (fun i => [pAt T ((i + K) % T.length)]) (fun i _ => by simp) (s0 := []) (fun i s hi hs => by
    unfold law01_AirOrder_L0
    simp only
    have enz : nzq (T.length : Int) = some () := by
     unfold nzq
     rw [decide_eq_false (by omega)]; rfl
    rw [lt_dec hi, cond_true, enz, Option.bind_some, Option.bind_some, hKe, W64_id (n := (i : Int) + (K : Int)) (by omega) (by omega), show (i : Int) + (K : Int) = ((i + K : Nat) : Int) by omega, tmodN, idx_p (Nat.mod_lt _ hn), Option.bind_some, apnd_ok (by simp at hs ⊢; omega), Option.bind_some, w64s i (by omega)]) (fun s => by
    unfold law01_AirOrder_L0
    simp only [lt_dec', cond_false]) (by omega)]
   simp only [List.nil_append, Option.bind_some, Flow.k]
   have et : cat T.length (fun i => [pAt T ((i + K) % T.length)]) = turnT T K := rfl
   rw [et]
   have hperm := turn_perm hK
   have hm : ∀ p, p ∈ turnT T K ↔ p ∈ T := fun p => hperm.mem_iff
   have hlen := hperm.length_eq
   have hv' := valid_perm hval hperm
   generalize turnT T K = T' at hm hlen hv'
   have hT' : fitT N T' := ⟨by rw [hlen]; exact hT.1, fun p hp => hT.2 p ((hm p).1 hp)⟩
   rw [s_PlaceOf hT hN, Option.bind_some, s_PlaceOf hT' hN, Option.bind_some, place_turn hval hv' hm]
   obtain ⟨r, h1, h2⟩ := s_Since (c := c) (d := d) hT hN
   obtain ⟨r', h1', h2'⟩ := s_Since (c := c) (d := d) hT' hN
   rw [h1, h1', Option.bind_some, Option.bind_some, since_turn hval hv' hm h2 h2', s_ValidT hT' hN, Option.bind_some, hv']
   have hsub : sub T' 1 (T'.length : Int) = some ((T'.take T'.length).drop 1) := by
    unfold sub
    rw [if_pos ⟨by omega, by omega, by omega⟩]
    rfl
   have hs : ((T'.take T'.length).drop 1).Sublist T' := (List.drop_sublist _ _).trans (List.take_sublist _ _)
   have hv2 := valid_sub hv' hs
   have hT2 : fitT N ((T'.take T'.length).drop 1) := ⟨Nat.lt_of_le_of_lt hs.length_le hT'.1, fun p hp => hT'.2 p (hs.subset hp)⟩
   simp only [hsub, Option.bind_some, s_ValidT hT2 hN, hv2]
   simp
end
theorem airOrder_row (x0 : List Prefix) (x1 : Int) (x2 : List UInt8) (x3 : Int) (q : x0.length < 9223372036854775808 ∧ ∀ x, x ∈ x0 → qPrefix x) (q1 : rI x1) (_ : rS x2) (_ : rI x3) : law01_AirOrder 9223372036854775808 x0 x1 x2 x3 = some true := by
 by_cases h : x0.length < 4000000000
 ·exact order_holds x1 q1 (fitT_q q h) (by omega)
 ·unfold law01_AirOrder
  rw [awake_true (by omega), Option.bind_some, decide_eq_true (show (x0.length : Int) > 40 by omega)]
  rfl
end Go.Proofs.YtlddakefmfcblaaGreatDoor
