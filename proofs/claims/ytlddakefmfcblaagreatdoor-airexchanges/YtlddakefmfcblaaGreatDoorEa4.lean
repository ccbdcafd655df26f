/- AirExchanges: for every input the law returns true, and each argument reads afterwards as it read before. No condition. -/
import Derived.Test.YtlddakefmfcblaaGreatDoorEa3
set_option linter.unusedVariables false
set_option linter.unusedSimpArgs false
set_option linter.unusedSectionVars false
namespace Go.Proofs.YtlddakefmfcblaaGreatDoor
open Go.Lib (decDigits)
theorem ne_decB (s : List UInt8) : (s != []) = !decide (s = []) := by
 cases s <;> rfl
def jn (l : List (List UInt8)) : List UInt8 := Go.Lib.join l [32]
theorem jn_nil : jn [] = [] := rfl
theorem jn_one (x : List UInt8) : jn [x] = x := Go.Lib.join_one x [32]
theorem jn_snoc {l : List (List UInt8)} (h : l ≠ []) (w : List UInt8) : jn (l ++ [w]) = jn l ++ 32 :: w := by
 match l, h with
 | x :: r, _ =>
  unfold jn
  rw [List.cons_append, Go.Lib.join_cons, Go.Lib.join_cons]
  unfold Go.Lib.joinTail
  simp
section
variable {N : Nat}
theorem m_or2 (a b : List UInt8) (hN : 4294967300 < N) : cmp_Or_string N [a, b] = some (if a = [] then b else a) := by
 obtain ⟨M, rfl⟩ : ∃ M, N = M + 3 := ⟨N - 3, by omega⟩
 unfold cmp_Or_string
 by_cases ha : a = []
 ·rw [if_pos ha]
  by_cases hb : b = []
  ·subst ha; subst hb; rfl
  ·have e1 : cmp_Or_string_L0 (M + 3) [a, b] 0 = some (.next 1) := by subst ha; rfl
   have e2 : cmp_Or_string_L0 (M + 3) [a, b] 1 = some (.ret b) := by
    show (bif (b != ([] : List UInt8)) then some (.ret b) else some (.next (W64 (1 + 1)))) = some (Flow.ret b)
    rw [ne_decB, decide_eq_false hb]; rfl
   rw [iter, e1]
   simp only
   rw [iter, e2]
   rfl
 ·rw [if_neg ha]
  have e1 : cmp_Or_string_L0 (M + 3) [a, b] 0 = some (.ret a) := by
   show (bif (a != ([] : List UInt8)) then some (.ret a) else some (.next (W64 (0 + 1)))) = some (Flow.ret a)
   rw [ne_decB, decide_eq_false ha]; rfl
  rw [iter, e1]
  rfl
theorem m_words {l : List (List UInt8)} (h : l.length ≤ 1000) (hl : ∀ w, w ∈ l → w.length ≤ 1000) (hN : 4294967300 < N) : ref01_words N l = some (jn l) := by
 unfold ref01_words
 have hb : ∀ i, i ≤ l.length → (jn (l.take i)).length ≤ i * 1001 := by
  intro i
  induction i with
  | zero => intro _; simp [jn_nil]
  | succ i ih =>
   intro hi
   have := ih (by omega)
   have hw := hl l[i] (List.getElem_mem (by omega))
   have e : l.take (i + 1) = l.take i ++ [l[i]] := by rw [List.take_add_one, List.getElem?_eq_getElem (by omega)]; rfl
   rw [e]
   by_cases h0 : l.take i = []
   ·rw [h0, List.nil_append, jn_one]; omega
   ·rw [jn_snoc h0, List.length_append, List.length_cons]; omega
 obtain ⟨o, ho, rfl⟩ := iter_ex (body := ref01_words_L0 N l) l.length (fun i st => st = (jn (l.take i), (i : Int))) (fun o => o = .done (jn l, (l.length : Int))) (by
  rintro i st hi rfl
  by_cases h1 : i < l.length
  ·refine .inl ⟨_, ?_, rfl, h1⟩
   have hbi := hb i hi
   have hw := hl l[i] (List.getElem_mem h1)
   have e : l.take (i + 1) = l.take i ++ [l[i]] := by rw [List.take_add_one, List.getElem?_eq_getElem h1]; rfl
   unfold ref01_words_L0
   simp only [lt_dec h1, cond_true, idx_nat h1, Option.bind_some]
   rw [w64s i (by omega), e]
   by_cases h0 : i = 0
   ·subst h0
    rw [decide_eq_false (by decide), cond_false, Option.bind_some]
    simp only [List.take_zero, List.nil_append, jn_nil, jn_one]
    rw [sadd_some (by simp; omega), List.nil_append]; rfl
   ·rw [decide_eq_true (by omega), cond_true, jn_snoc (by rw [Ne, ← List.length_eq_zero_iff, List.length_take]; omega)]
    rw [sadd_some (by simp; omega), Option.bind_some, Option.bind_some, sadd_some (by simp; omega)]
    simp
  ·have : i = l.length := by omega
   subst this
   refine .inr ⟨_, ?_, (fun _ h => by cases h), rfl⟩
   unfold ref01_words_L0
   simp only [lt_dec', cond_false, List.take_length]) l.length N 0 ([], 0) (by omega) rfl (by omega)
 rw [ho]; rfl
theorem m_contains_part {l : List air_part} {p : air_part → Option Bool} (F : air_part → Bool) (hp : ∀ x, x ∈ l → p x = some (F x)) (hl : l.length < 4000000000) (hN : 4294967300 < N) : slices_ContainsFunc_air_part_air_part N l p = some (l.any F) := by
 unfold slices_ContainsFunc_air_part_air_part slices_IndexFunc_air_part_air_part
 rcases iter_check2 (body := slices_IndexFunc_air_part_air_part_L0 N l p) (n := l.length) (fun i => !((l[i]?.map F).getD false)) (fun i => (i : Int)) (by
   intro i hi
   unfold slices_IndexFunc_air_part_air_part_L0
   rw [lt_dec hi, cond_true, idx_nat hi, Option.bind_some, hp _ (List.getElem_mem hi), Option.bind_some, w64s i (by omega), List.getElem?_eq_getElem hi]
   simp only [Option.map_some, Option.getD_some]
   cases F l[i] <;> rfl) (by
   unfold slices_IndexFunc_air_part_air_part_L0
   rw [lt_dec', cond_false]) (N := N) (by omega) with ⟨g1, g2⟩ | ⟨i, hi, g1, _, g2⟩
 ·rw [g2]
  have : l.any F = false := by
   rw [List.any_eq_false]
   intro x hx
   obtain ⟨i, hi, rfl⟩ := List.getElem_of_mem hx
   have := g1 i hi
   rw [List.getElem?_eq_getElem hi] at this
   simpa using this
  rw [this]; rfl
 ·rw [g2]
  have : l.any F = true := by
   rw [List.any_eq_true]
   rw [List.getElem?_eq_getElem hi] at g1
   exact ⟨l[i], List.getElem_mem hi, by simpa using g1⟩
  rw [this]
  show some (decide ((i : Int) ≥ 0)) = some true
  rw [decide_eq_true (by omega)]
def hasB (h : Bool) (n m : Int) : Bool := bif h then (decide (1 ≤ n) && decide (n ≤ m)) else n == 0
def validE (L : Layout) (E : Exchange) : Bool := hasB L.Report E.Report 599 && (hasB L.Serial E.Serial 99999 && hasB L.Zone E.Zone 99)
theorem m_part (P : air_part) : air_ValidExchange_1 N P = some (!hasB P.has_ P.n_ P.most_) := by
 unfold air_ValidExchange_1 hasB
 rw [m_within, Option.bind_some]
 obtain ⟨h, n, m, d⟩ := P
 simp only
 cases h with
 | true => cases (decide (1 ≤ n) && decide (n ≤ m)) <;> rfl
 | false =>
  by_cases hn : n = 0
  ·subst hn
   rw [show (decide ((1 : Int) ≤ 0) && decide (0 ≤ m)) = false by rw [decide_eq_false (by omega)]; rfl]
   rfl
  ·have e1 : (n != 0) = true := by simpa using hn
   have e2 : (n == 0) = false := by simpa using hn
   rw [e1, e2]
   cases (decide (1 ≤ n) && decide (n ≤ m)) <;> rfl
theorem s_ValidX (L : Layout) (E : Exchange) (hN : 4294967300 < N) : air_ValidExchange N L E = some (validE L E) := by
 unfold air_ValidExchange
 unfold air_parts
 rw [Option.bind_some, m_contains_part (fun P => !hasB P.has_ P.n_ P.most_) (fun x _ => m_part x) (by simp) hN, Option.bind_some]
 unfold validE
 simp
theorem s_rValidX (L : Layout) (E : Exchange) : ref01_ValidExchange N L E = some (validE L E) := by
 unfold ref01_ValidExchange validE
 have h : ∀ (b : Bool) (n m : Int), ref01_has N b n m = some (hasB b n m) := by
  intro b n m
  unfold ref01_has hasB
  rw [m_rwithin]
  cases b <;> rfl
 rw [h, h, h]
 cases hasB L.Report E.Report 599 <;> cases hasB L.Serial E.Serial 99999 <;> cases hasB L.Zone E.Zone 99 <;> rfl
def fs (L : Layout) (E : Exchange) : List (List UInt8) := (if L.Report = true then [dP 1 E.Report.toNat] else []) ++ ((if L.Serial = true then [dP 3 E.Serial.toNat] else []) ++ (if L.Zone = true then [dP 2 E.Zone.toNat] else []))
def xText (L : Layout) (E : Exchange) : List UInt8 := if fs L E = [] then [45] else jn (fs L E)
def printX (L : Layout) (E : Exchange) : List UInt8 × Int := if validE L E = true then (xText L E, 0) else ([], 1)
structure OkE (L : Layout) (E : Exchange) : Prop where
 r : if L.Report = true then 1 ≤ E.Report ∧ E.Report ≤ 599 else E.Report = 0
 s : if L.Serial = true then 1 ≤ E.Serial ∧ E.Serial ≤ 99999 else E.Serial = 0
 z : if L.Zone = true then 1 ≤ E.Zone ∧ E.Zone ≤ 99 else E.Zone = 0
theorem okE {L : Layout} {E : Exchange} (h : validE L E = true) : OkE L E := by
 unfold validE hasB at h
 simp only [Bool.and_eq_true] at h
 obtain ⟨h1, h2, h3⟩ := h
 constructor
 ·cases hL : L.Report <;> rw [hL] at h1 <;> simpa using h1
 ·cases hL : L.Serial <;> rw [hL] at h2 <;> simpa using h2
 ·cases hL : L.Zone <;> rw [hL] at h3 <;> simpa using h3
theorem OkE.le {L : Layout} {E : Exchange} (h : OkE L E) : (0 ≤ E.Report ∧ E.Report ≤ 599) ∧ (0 ≤ E.Serial ∧ E.Serial ≤ 99999) ∧ 0 ≤ E.Zone ∧ E.Zone ≤ 99 := by
 obtain ⟨h1, h2, h3⟩ := h
 refine ⟨?_, ?_, ?_⟩
 ·split at h1 <;> omega
 ·split at h2 <;> omega
 ·split at h3 <;> omega
theorem fs_word {L : Layout} {E : Exchange} (h : OkE L E) : ∀ w, w ∈ fs L E → w.length ≤ 5 ∧ w.all isD = true ∧ 1 ≤ w.length := by
 obtain ⟨h1, h2, h3⟩ := h.le
 intro w hw
 unfold fs at hw
 simp only [List.mem_append] at hw
 have l1 := dP_lenle (k := 1) (j := 2) (u := E.Report.toNat) (by omega)
 have l2 := dP_lenle (k := 3) (j := 4) (u := E.Serial.toNat) (by omega)
 have l3 := dP_lenle (k := 2) (j := 1) (u := E.Zone.toNat) (by omega)
 rcases hw with hw | hw | hw
 ·split at hw
  ·simp at hw; subst hw; exact ⟨by omega, dP_all _ _, (dP_len _ _).2⟩
  ·cases hw
 ·split at hw
  ·simp at hw; subst hw; exact ⟨by omega, dP_all _ _, (dP_len _ _).2⟩
  ·cases hw
 ·split at hw
  ·simp at hw; subst hw; exact ⟨by omega, dP_all _ _, (dP_len _ _).2⟩
  ·cases hw
theorem fs_len (L : Layout) (E : Exchange) : (fs L E).length ≤ 3 := by
 unfold fs
 split <;> split <;> split <;> simp
theorem jn_len : ∀ l : List (List UInt8), (∀ w, w ∈ l → w.length ≤ 5) → (jn l).length ≤ l.length * 6
 | [], _ => by simp [jn_nil]
 | [x], h => by rw [jn_one]; have := h x (by simp); simp; omega
 | x :: y :: r, h => by
  have ih := jn_len (y :: r) (fun w hw => h w (List.mem_cons_of_mem _ hw))
  have hx := h x (by simp)
  have : jn (x :: y :: r) = x ++ 32 :: jn (y :: r) := by
   unfold jn
   rw [Go.Lib.join_cons, Go.Lib.join_cons]
   unfold Go.Lib.joinTail
   simp
  rw [this, List.length_append, List.length_cons, List.length_cons (a := x)]
  omega
theorem fs_jn {L : Layout} {E : Exchange} (h : OkE L E) : (jn (fs L E)).length ≤ 18 := by
 have := jn_len (fs L E) (fun w hw => (fs_word h w hw).1)
 have := fs_len L E
 omega
theorem jn_ne {l : List (List UInt8)} (h : ∀ w, w ∈ l → 1 ≤ w.length) : jn l = [] ↔ l = [] := by
 constructor
 ·intro hj
  match l, h, hj with
  | [], _, _ => rfl
  | x :: r, h, hj =>
   exfalso
   unfold jn at hj
   rw [Go.Lib.join_cons] at hj
   have := h x (by simp)
   rw [List.append_eq_nil_iff] at hj
   rw [hj.1] at this
   exact absurd this (by decide)
 ·rintro rfl; rfl
theorem padI {n : Int} {k : Nat} (h0 : 0 ≤ n) (h1 : n ≤ 1000000000) (hk : k ≤ 100) : air_padded N n (k : Int) = some (dP k n.toNat) := by
 obtain ⟨u, rfl⟩ : ∃ u : Nat, n = u := ⟨n.toNat, by omega⟩
 exact m_padded u k (by omega) hk
theorem decI {n : Int} {k : Nat} (h0 : 0 ≤ n) (h1 : n ≤ 1000000000) (hk : k ≤ 100) (h2 : 1 ≤ k) (hN : 4294967300 < N) : ref01_Decimal N n (k : Int) = some (dP k n.toNat) := by
 obtain ⟨u, rfl⟩ : ∃ u : Nat, n = u := ⟨n.toNat, by omega⟩
 exact m_Decimal u k (by omega) hk h2 hN
def fsAt (L : Layout) (E : Exchange) (i : Nat) : List (List UInt8) := if i = 0 then (if L.Report = true then [dP 1 E.Report.toNat] else []) else if i = 1 then (if L.Serial = true then [dP 3 E.Serial.toNat] else []) else (if L.Zone = true then [dP 2 E.Zone.toNat] else [])
theorem fs_cat (L : Layout) (E : Exchange) : cat 3 (fsAt L E) = fs L E := by
 rw [cat_succ, cat_succ, cat_succ]
 unfold fs
 rw [← List.append_assoc]
 rfl
theorem fsAt_len (L : Layout) (E : Exchange) (i : Nat) : (fsAt L E i).length ≤ 1 := by
 unfold fsAt
 split
 ·split <;> simp
 ·split <;> split <;> simp
theorem s_PrintX (L : Layout) (E : Exchange) (hN : 4294967300 < N) : air_PrintExchange N L E = some (printX L E) := by
 unfold air_PrintExchange printX
 rw [s_ValidX L E hN, Option.bind_some]
 cases hv : validE L E with
 | false => rfl
 | true =>
  have ok := okE hv
  obtain ⟨h1, h2, h3⟩ := ok.le
  rw [Bool.not_true, cond_false, if_pos rfl]
  unfold air_parts
  rw [Option.bind_some]
  generalize hP : ([_, _, _] : List air_part) = P
  have hstep : ∀ (i : Nat) (s : List (List UInt8)), i < 3 → s.length + 1 ≤ 0 + 3 * 1 → air_PrintExchange_L0 N L E true P (s, (i : Int)) = some (.next (s ++ fsAt L E i, ((i + 1 : Nat) : Int))) := by
   intro i s hi hs
   have p1 : air_padded N E.Report 1 = some (dP 1 E.Report.toNat) := padI (k := 1) h1.1 (by omega) (by omega)
   have p2 : air_padded N E.Serial 3 = some (dP 3 E.Serial.toNat) := padI (k := 3) h2.1 (by omega) (by omega)
   have p3 : air_padded N E.Zone 2 = some (dP 2 E.Zone.toNat) := padI (k := 2) h3.1 (by omega) (by omega)
   have ha : ∀ w : List UInt8, apnd s [w] = some (s ++ [w]) := fun w => apnd_ok (by simp; omega)
   unfold air_PrintExchange_L0
   subst hP
   simp only
   rw [w64s i (by omega)]
   match i, hi with
   | 0, _ =>
    show ((bif L.Report then ((air_padded N E.Report 1).bind fun r88 => ((apnd s [r88]).bind fun r101 => some r101)) else some s).bind fun j78 => some (Flow.next (j78, _))) = _
    rw [p1, Option.bind_some, ha]
    unfold fsAt
    cases L.Report <;> simp
   | 1, _ =>
    show ((bif L.Serial then ((air_padded N E.Serial 3).bind fun r88 => ((apnd s [r88]).bind fun r101 => some r101)) else some s).bind fun j78 => some (Flow.next (j78, _))) = _
    rw [p2, Option.bind_some, ha]
    unfold fsAt
    cases L.Serial <;> simp
   | 2, _ =>
    show ((bif L.Zone then ((air_padded N E.Zone 2).bind fun r88 => ((apnd s [r88]).bind fun r101 => some r101)) else some s).bind fun j78 => some (Flow.next (j78, _))) = _
    rw [p3, Option.bind_some, ha]
    unfold fsAt
    cases L.Zone <;> simp
  have hend : ∀ s : List (List UInt8), air_PrintExchange_L0 N L E true P (s, ((3 : Nat) : Int)) = some (.done (s, ((3 : Nat) : Int))) := by
   intro s
   subst hP
   rfl
  rw [iter_cat' (n := 3) 1 (fsAt L E) (fun i _ => fsAt_len L E i) (s0 := []) hstep hend (by omega), fs_cat]
  simp only [List.nil_append, Option.bind_some, Flow.k]
  have hj := fs_jn ok
  have hl := fs_len L E
  have e1 : strings_Join N (fs L E) [32] = some (jn (fs L E)) := by
   unfold strings_Join
   exact if_pos ⟨by omega, by unfold jn at hj; omega⟩
  rw [e1, Option.bind_some, m_or2 _ _ hN, Option.bind_some]
  unfold xText
  have := jn_ne (fun w hw => (fs_word ok w hw).2.2)
  by_cases hf : fs L E = []
  ·rw [if_pos hf, if_pos (this.2 hf)]
  ·rw [if_neg hf, if_neg (fun h => hf (this.1 h))]
theorem s_rPrintX (L : Layout) (E : Exchange) (hN : 4294967300 < N) : ref01_PrintExchange N L E = some (printX L E) := by
 unfold ref01_PrintExchange printX
 rw [s_rValidX L E, Option.bind_some]
 cases hv : validE L E with
 | false => rfl
 | true =>
  have ok := okE hv
  obtain ⟨h1, h2, h3⟩ := ok.le
  rw [Bool.not_true, cond_false, if_pos rfl]
  have p1 : ref01_Decimal N E.Report 1 = some (dP 1 E.Report.toNat) := decI (k := 1) h1.1 (by omega) (by omega) (by omega) hN
  have p2 : ref01_Decimal N E.Serial 3 = some (dP 3 E.Serial.toNat) := decI (k := 3) h2.1 (by omega) (by omega) (by omega) hN
  have p3 : ref01_Decimal N E.Zone 2 = some (dP 2 E.Zone.toNat) := decI (k := 2) h3.1 (by omega) (by omega) (by omega) hN
  rw [p1, p2, p3]
  simp only [Option.bind_some]
  have e1 : (bif L.Report then ((apnd ([] : List (List UInt8)) [dP 1 E.Report.toNat]).bind fun r45 => some r45) else some ([] : List (List UInt8))) = some (fsAt L E 0) := by
   unfold fsAt; cases L.Report <;> rfl
  have l0 := fsAt_len L E 0
  have l1 := fsAt_len L E 1
  have e2 : (bif L.Serial then ((apnd (fsAt L E 0) [dP 3 E.Serial.toNat]).bind fun r81 => some r81) else some (fsAt L E 0)) = some (fsAt L E 0 ++ fsAt L E 1) := by
   rw [apnd_ok (by simp; omega)]
   have : fsAt L E 1 = if L.Serial = true then [dP 3 E.Serial.toNat] else [] := rfl
   rw [this]
   cases L.Serial <;> simp
  have e3 : (bif L.Zone then ((apnd (fsAt L E 0 ++ fsAt L E 1) [dP 2 E.Zone.toNat]).bind fun r115 => some r115) else some (fsAt L E 0 ++ fsAt L E 1)) = some (fs L E) := by
   rw [apnd_ok (by simp; omega)]
   have h2 : fsAt L E 2 = if L.Zone = true then [dP 2 E.Zone.toNat] else [] := rfl
   have : fs L E = fsAt L E 0 ++ fsAt L E 1 ++ fsAt L E 2 := by rw [← fs_cat, cat_succ, cat_succ, cat_succ]; rfl
   rw [this, h2]
   cases L.Zone <;> simp
  rw [e1, Option.bind_some, e2, Option.bind_some, e3, Option.bind_some]
  have hl := fs_len L E
  rw [m_words (by omega) (fun w hw => by have := (fs_word ok w hw).1; omega) hN]
  unfold xText
  by_cases hf : fs L E = []
  ·rw [if_pos hf, hf]; rfl
  ·rw [if_neg hf]
   have : (((fs L E).length : Int) == 0) = false := by
    rw [beq_eq_false_iff_ne]
    have := List.length_pos_iff.2 hf
    omega
   rw [this]; rfl
def take1 (h : Bool) (ws : List (List UInt8)) : List (List UInt8) × Int := match h, ws with
 | true, w :: r => (r, numS w)
 | _, _ => (ws, 0)
def parseW (L : Layout) (ws : List (List UInt8)) : Exchange := { Report := (take1 L.Report ws).2, Serial := (take1 L.Serial (take1 L.Report ws).1).2, Zone := (take1 L.Zone (take1 L.Serial (take1 L.Report ws).1).1).2 }
def parseX (L : Layout) (s : List UInt8) : Exchange × Int := if printX L (parseW L (pcs 32 s)) = (s, 0) then (parseW L (pcs 32 s), 0) else ({ Report := 0, Serial := 0, Zone := 0 }, 1)
theorem take1_sub (h : Bool) (ws : List (List UInt8)) : ∀ w, w ∈ (take1 h ws).1 → w ∈ ws := by
 intro w hw
 match h, ws, hw with
 | true, x :: r, hw => exact List.mem_cons_of_mem _ hw
 | true, [], hw => exact hw
 | false, _, hw => exact hw
theorem take_air (h : Bool) (ws : List (List UInt8)) (hl : ∀ w, w ∈ ws → w.length < N) : (bif (h && decide ((ws.length : Int) > 0)) then ((idx ws 0).bind fun x80 => ((air_number N x80).bind fun r94 => ((sub ws 1 (ws.length : Int)).bind fun r104 => some (r104, r94)))) else some (ws, (0 : Int))) = some (take1 h ws) := by
 match h, ws, hl with
 | false, _, _ => rfl
 | true, [], _ => rfl
 | true, w :: r, hl =>
  have e0 : idx (w :: r) 0 = some w := rfl
  have e1 : sub (w :: r) 1 ((w :: r).length : Int) = some r := by
   unfold sub
   rw [if_pos ⟨by omega, by simp only [List.length_cons]; omega, by omega⟩]
   simp
  rw [decide_eq_true (by simp only [List.length_cons]; omega), e0, e1, Option.bind_some, m_number (hl w (by simp))]
  rfl
theorem take_ref (h : Bool) (ws : List (List UInt8)) (k : Nat) (hk : k < 4000000000) (hl : ∀ w, w ∈ ws → w.length < N) : ∃ k', (bif (h && decide ((k : Int) < (ws.length : Int))) then ((idx ws (k : Int)).bind fun x52 => ((ref01_number N x52).bind fun r66 => some ((W64 ((k : Int) + 1)), r66))) else some ((k : Int), (0 : Int))) = some (((k' : Nat) : Int), (take1 h (ws.drop k)).2) ∧ (take1 h (ws.drop k)).1 = ws.drop k' ∧ k' ≤ k + 1 := by
 by_cases hh : h = true ∧ k < ws.length
 ·obtain ⟨rfl, hh⟩ := hh
  refine ⟨k + 1, ?_, ?_, Nat.le_refl _⟩
  ·rw [lt_dec hh, idx_nat hh, Option.bind_some, m_rnumber (hl _ (List.getElem_mem hh)), w64s k (by omega), List.drop_eq_getElem_cons hh]
   rfl
  ·rw [List.drop_eq_getElem_cons hh]; rfl
 ·refine ⟨k, ?_, ?_, by omega⟩
  ·cases h with
   | false => rfl
   | true =>
    have hk : ws.length ≤ k := by
     rcases Nat.lt_or_ge k ws.length with h1 | h1
     ·exact absurd ⟨rfl, h1⟩ hh
     ·exact h1
    rw [decide_eq_false (by omega), List.drop_of_length_le hk]
    rfl
  ·cases h with
   | false => rfl
   | true =>
    have hk : ws.length ≤ k := by
     rcases Nat.lt_or_ge k ws.length with h1 | h1
     ·exact absurd ⟨rfl, h1⟩ hh
     ·exact h1
    rw [List.drop_of_length_le hk]
    rfl
theorem s_ParseX (L : Layout) (s : List UInt8) (hs : s.length < 4294967281) (hN : 4294967300 < N) : air_ParseExchange N L s = some (parseX L s) := by
 unfold air_ParseExchange parseX
 rw [m_Split 32 hs, Option.bind_some]
 have hle := pcs_le 32 s
 generalize pcs 32 s = ws at hle
 have hn : ∀ w, w ∈ ws → w.length < N := fun w hw => by have := hle w hw; omega
 have c0 : ∀ (E : Exchange) (b : Bool), ((air_parts N L E).bind fun r38 => ((idx r38 0).bind fun x46 => (bif x46.has_ then some b else some false))) = some (L.Report && b) := by
  intro E b
  show (bif L.Report then some b else some false) = _
  cases L.Report <;> rfl
 have c1 : ∀ (E : Exchange) (b : Bool), ((air_parts N L E).bind fun r38 => ((idx r38 1).bind fun x46 => (bif x46.has_ then some b else some false))) = some (L.Serial && b) := by
  intro E b
  show (bif L.Serial then some b else some false) = _
  cases L.Serial <;> rfl
 have c2 : ∀ (E : Exchange) (b : Bool), ((air_parts N L E).bind fun r38 => ((idx r38 2).bind fun x46 => (bif x46.has_ then some b else some false))) = some (L.Zone && b) := by
  intro E b
  show (bif L.Zone then some b else some false) = _
  cases L.Zone <;> rfl
 rw [c0, Option.bind_some, take_air L.Report ws hn, Option.bind_some, c1, Option.bind_some]
 have hn1 : ∀ w, w ∈ (take1 L.Report ws).1 → w.length < N := fun w hw => hn w (take1_sub _ _ w hw)
 rw [take_air L.Serial _ hn1, Option.bind_some, c2, Option.bind_some]
 have hn2 : ∀ w, w ∈ (take1 L.Serial (take1 L.Report ws).1).1 → w.length < N := fun w hw => hn1 w (take1_sub _ _ w hw)
 rw [take_air L.Zone _ hn2, Option.bind_some]
 show ((air_PrintExchange N L (parseW L ws)).bind _) = _
 rw [s_PrintX L _ hN, Option.bind_some, ok_dec]
 show (bif (!decide (printX L (parseW L ws) = (s, 0))) then _ else some (parseW L ws, (0 : Int))) = _
 by_cases h : printX L (parseW L ws) = (s, 0)
 ·rw [decide_eq_true h, if_pos h]; rfl
 ·rw [decide_eq_false h, if_neg h]; rfl
theorem printX_len {L : Layout} {E : Exchange} {s : List UInt8} (h : printX L E = (s, 0)) : s.length ≤ 18 ∧ validE L E = true := by
 unfold printX at h
 by_cases hv : validE L E = true
 ·rw [if_pos hv] at h
  injection h with h _
  refine ⟨?_, hv⟩
  rw [← h]
  unfold xText
  split
  ·simp
  ·exact fs_jn (okE hv)
 ·rw [if_neg hv] at h
  injection h with _ h
  exact absurd h (by decide)
theorem s_rParseX (L : Layout) (s : List UInt8) (hs : s.length < 4294967281) (hN : 4294967300 < N) : ref01_ParseExchange N L s = some (parseX L s) := by
 unfold ref01_ParseExchange parseX
 by_cases h100 : s.length ≤ 100
 ·rw [decide_eq_false (by omega), cond_false, m_rsplit s (by omega) (by omega), Option.bind_some]
  have hle := pcs_le 32 s
  generalize pcs 32 s = ws at hle
  have hn : ∀ w, w ∈ ws → w.length < N := fun w hw => by have := hle w hw; omega
  obtain ⟨k1, a1, b1, d1⟩ := take_ref L.Report ws 0 (by omega) hn
  have a1' : (bif (L.Report && (decide (0 < (ws.length : Int)))) then ((idx ws 0).bind fun x52 => ((ref01_number N x52).bind fun r66 => some ((W64 (0 + 1)), r66))) else some (0, 0)) = some (((k1 : Nat) : Int), (take1 L.Report (ws.drop 0)).2) := a1
  rw [a1', Option.bind_some]
  simp only
  obtain ⟨k2, a2, b2, d2⟩ := take_ref L.Serial ws k1 (by omega) hn
  rw [a2, Option.bind_some]
  simp only
  obtain ⟨k3, a3, b3, d3⟩ := take_ref L.Zone ws k2 (by omega) hn
  have a3' : (bif (L.Zone && (decide ((k2 : Int) < (ws.length : Int)))) then ((idx ws (k2 : Int)).bind fun x154 => ((ref01_number N x154).bind fun r168 => some r168)) else some 0) = some (take1 L.Zone (ws.drop k2)).2 := by
   have := congrArg (fun o => o.bind fun (x : Int × Int) => some x.2) a3
   simp only [Option.bind_some] at this
   rw [← this]
   cases hc : (L.Zone && (decide ((k2 : Int) < (ws.length : Int)))) with
   | false => rfl
   | true =>
    rw [cond_true, cond_true]
    cases idx ws (k2 : Int) with
    | none => rfl
    | some x => cases h : ref01_number N x <;> simp [h]
  rw [a3', Option.bind_some]
  rw [List.drop_zero] at b1 ⊢
  rw [← b1] at b2 ⊢
  rw [← b2]
  show ((ref01_PrintExchange N L (parseW L ws)).bind _) = _
  rw [s_rPrintX L _ hN, Option.bind_some, ok_dec]
  show (bif (!decide (printX L (parseW L ws) = (s, 0))) then _ else some (parseW L ws, (0 : Int))) = _
  by_cases h : printX L (parseW L ws) = (s, 0)
  ·rw [decide_eq_true h, if_pos h]; rfl
  ·rw [decide_eq_false h, if_neg h]; rfl
 ·rw [decide_eq_true (by omega), cond_true]
  rw [if_neg (fun h => by have := printX_len h; omega)]
end
end Go.Proofs.YtlddakefmfcblaaGreatDoor
namespace Go.Proofs.YtlddakefmfcblaaGreatDoor
open Go.Proofs
def law01_AirExchanges (N : Nat) (x0 : Layout) (x1 : Exchange) (x2 : (List UInt8)) : Option Bool :=
 ((law01_awake N ).bind fun r7 => (bif (decide ((x2.length : Int) > 1000)) then some r7 else ((air_PrintExchange N ({ Report := x0.Report, Serial := x0.Serial, Zone := x0.Zone } : Layout) ({ Report := x1.Report, Serial := x1.Serial, Zone := x1.Zone } : Exchange)).bind fun r18 => ((ref01_PrintExchange N ({ Report := x0.Report, Serial := x0.Serial, Zone := x0.Zone } : Layout) ({ Report := x1.Report, Serial := x1.Serial, Zone := x1.Zone } : Exchange)).bind fun r26 => ((air_ParseExchange N ({ Report := x0.Report, Serial := x0.Serial, Zone := x0.Zone } : Layout) x2).bind fun r34 => ((ref01_ParseExchange N ({ Report := x0.Report, Serial := x0.Serial, Zone := x0.Zone } : Layout) x2).bind fun r47 => ((bif r7 then ((air_ValidExchange N ({ Report := x0.Report, Serial := x0.Serial, Zone := x0.Zone } : Layout) ({ Report := x1.Report, Serial := x1.Serial, Zone := x1.Zone } : Exchange)).bind fun r72 => ((ref01_ValidExchange N ({ Report := x0.Report, Serial := x0.Serial, Zone := x0.Zone } : Layout) ({ Report := x1.Report, Serial := x1.Serial, Zone := x1.Zone } : Exchange)).bind fun r80 => (bif (r72 == r80) then (bif (r18.1 == r26.1) then (bif (r18.2 == r26.2) then (bif ((r34.1.Report == r47.1.Report) && ((r34.1.Serial == r47.1.Serial) && ((r34.1.Zone == r47.1.Zone) && true))) then some (r34.2 == r47.2) else some false) else some false) else some false) else some false))) else some false).bind fun j65 => some j65)))))))
set_option maxHeartbeats 4000000 in
set_option maxRecDepth 100000 in
theorem c_law01_AirExchanges (N : Nat) (w0 : World) (F0 : Mem) (hF : ∀ b o, F0 b = some o → w0.heap[b]? = some o) (hG : Glob F0) (x0 : Layout) (x1 : Exchange) (x2 : (List UInt8)) (r : Bool) (h : law01_AirExchanges N x0 x1 x2 = some r) :
  Calls Tryz.prog 10 ([(.agg (kLayout x0)), (.agg (kExchange x1)), (.string ⟨(x2).toArray⟩)] : List Value).toArray w0 (FRet w0 F0 fun F' v => v = (.bool r)) := by
 have hs0 := HS.start hF
 refine calls_of (n := 75) (c := bodyOf Tryz.f10) Tryz.func10 (by kernel_rfl) (by kernel_rfl) (by kernel_rfl) ?_
 refine Sq (Rg [0, 1, 2] ?_)
 refine Bx 3 0 0 52 (kLayout x0) hs0 (fun b1 w2 (hs3 : HS w0 F0 w2 F0 [(sb b1 (kLayout x0) 52)]) => ?_)
 refine Bx 4 0 1 54 (kExchange x1) hs3 (fun b4 w5 (hs6 : HS w0 F0 w5 F0 [(sb b4 (kExchange x1) 54), (sb b1 (kLayout x0) 52)]) => ?_)
 refine V 6 4 (mc (.bool false) (.bool false)) ?_
 refine Nss (Rg [0, 1] ?_)
 obtain ⟨r7, hr8, h9⟩ := bind_some h
 refine Cl 16 4 17 #[] #[] co_law01_awake hs6 (c_law01_awake N w5 F0 hs6.pers hG  _ hr8) ?_
 intro v10 F1 w11 hs12 le13 hp14
 obtain rfl := hp14
 refine V 7 4 (ma 16 (.bool r7)) ?_
 refine Nss ?_
 refine Sq (Rg [0, 1, 2] ?_)
 refine V 17 9 (mv 2 (.string ⟨(x2).toArray⟩)) ?_
 refine V 18 3 (run_slen (x := (.tmp 17)) (ats := #[9]) (t := 9) (a := x2) rfl rfl (by kernel_rfl)) ?_
 refine V 19 4 (run_gtr (t := 3) (t' := 3) (x := (.tmp 18)) (y := (.const (vi 1000))) (k := .i64) (a := (x2.length : Int)) (b := 1000) rfl rfl) ?_
 refine Nt ?_
 refine CWP.cond (t := (decide ((x2.length : Int) > 1000))) (by kernel_rfl) rfl (fun hb15 => ?_) (fun hb15 => ?_)
 ·have h16 := cond_t h9 hb15
  refine Sq (Rg [0, 1] ?_)
  refine V 20 4 (mv 7 (.bool r7)) ?_
  refine V 6 4 (ma 20 (.bool r7)) ?_
  refine Nt ?_
  refine CWP.ret (by kernel_rfl) ?_
  refine thenQ_ret ?_
  have hfin := some_inj h16
  subst hfin
  exact ⟨rfl, (.bool r7), res_of (l := [.tmp 6]) (by kernel_rfl) (vs := [(.bool r7)]) ⟨rfl, trivial⟩, (.bool r7), F1, rfl, hs12.clear, rfl⟩
 ·have h17 := cond_f h9 hb15
  refine Sc ?_
  refine thenQ_nrm ?_
  refine Sq (Rg [0, 1, 2, 3, 4, 5, 6, 7] ?_)
  refine V 22 52 (ld 52 3 b1 0 true 3 (.agg (kLayout x0)) (hs12.ownAt (k := 1) rfl)) ?_
  refine V 23 54 (ld 54 4 b4 0 true 3 (.agg (kExchange x1)) (hs12.ownAt (k := 0) rfl)) ?_
  obtain ⟨r18, hr19, h20⟩ := bind_some h17
  refine Cl 24 24 44 #[(.tmp 22), (.tmp 23)] #[52, 54] co_air_PrintExchange hs12 (c_air_PrintExchange N w11 F1 hs12.pers (hG.mono le13) (({ Report := x0.Report, Serial := x0.Serial, Zone := x0.Zone } : Layout)) (({ Report := x1.Report, Serial := x1.Serial, Zone := x1.Zone } : Exchange)) _ hr19) ?_
  intro v21 F2 w22 hs23 le24 hp25
  obtain rfl := hp25
  refine V 21 24 (mv 24 (.tuple #[(.string ⟨(r18.1).toArray⟩), (vi r18.2)])) ?_
  refine V 25 9 (ex 21 0 (.string ⟨(r18.1).toArray⟩) (vs := #[(.string ⟨(r18.1).toArray⟩), (vi r18.2)])) ?_
  refine V 26 23 (ex 21 1 (vi r18.2) (vs := #[(.string ⟨(r18.1).toArray⟩), (vi r18.2)])) ?_
  refine V 8 9 (ma 25 (.string ⟨(r18.1).toArray⟩)) ?_
  refine V 9 23 (ma 26 (vi r18.2)) ?_
  refine Nss (Rg [0, 1, 2, 3, 4, 5, 6, 7] ?_)
  refine V 28 52 (ld 52 3 b1 0 true 3 (.agg (kLayout x0)) (hs23.ownAt (k := 1) rfl)) ?_
  refine V 29 54 (ld 54 4 b4 0 true 3 (.agg (kExchange x1)) (hs23.ownAt (k := 0) rfl)) ?_
  obtain ⟨r26, hr27, h28⟩ := bind_some h20
  refine Cl 30 24 45 #[(.tmp 28), (.tmp 29)] #[52, 54] co_ref01_PrintExchange hs23 (c_ref01_PrintExchange N w22 F2 hs23.pers (({ Report := x0.Report, Serial := x0.Serial, Zone := x0.Zone } : Layout)) (({ Report := x1.Report, Serial := x1.Serial, Zone := x1.Zone } : Exchange)) _ hr27) ?_
  intro v29 F3 w30 hs31 le32 hp33
  obtain rfl := hp33
  refine V 27 24 (mv 30 (.tuple #[(.string ⟨(r26.1).toArray⟩), (vi r26.2)])) ?_
  refine V 31 9 (ex 27 0 (.string ⟨(r26.1).toArray⟩) (vs := #[(.string ⟨(r26.1).toArray⟩), (vi r26.2)])) ?_
  refine V 32 23 (ex 27 1 (vi r26.2) (vs := #[(.string ⟨(r26.1).toArray⟩), (vi r26.2)])) ?_
  refine V 10 9 (ma 31 (.string ⟨(r26.1).toArray⟩)) ?_
  refine V 11 23 (ma 32 (vi r26.2)) ?_
  refine Nss (Rg [0, 1, 2, 3, 4, 5, 6, 7, 8] ?_)
  refine V 34 52 (ld 52 3 b1 0 true 3 (.agg (kLayout x0)) (hs31.ownAt (k := 1) rfl)) ?_
  refine V 35 9 (mv 2 (.string ⟨(x2).toArray⟩)) ?_
  obtain ⟨r34, hr35, h36⟩ := bind_some h28
  refine Cl 36 56 46 #[(.tmp 34), (.tmp 35)] #[52, 9] co_air_ParseExchange hs31 (c_air_ParseExchange N w30 F3 hs31.pers (hG.mono ((le13.trans le24).trans le32)) (({ Report := x0.Report, Serial := x0.Serial, Zone := x0.Zone } : Layout)) (x2) _ hr35) ?_
  intro v37 F4 w38 hs39 le40 hp41
  obtain rfl := hp41
  refine V 33 56 (mv 36 (.tuple #[(.agg (kExchange r34.1)), (vi r34.2)])) ?_
  refine V 37 54 (ex 33 0 (.agg (kExchange r34.1)) (vs := #[(.agg (kExchange r34.1)), (vi r34.2)])) ?_
  refine V 38 23 (ex 33 1 (vi r34.2) (vs := #[(.agg (kExchange r34.1)), (vi r34.2)])) ?_
  refine Al 12 0 54 #[(vi 0), (vi 0), (vi 0)] hs39 (fun b42 w43 (hs44 : HS w0 F0 w43 F4 [(sb b42 #[(vi 0), (vi 0), (vi 0)] 54), (sb b4 (kExchange x1) 54), (sb b1 (kLayout x0) 52)]) => ?_)
  refine RWP.store (ty := 0) (g := none) (by kernel_rfl) rfl (x := (.tmp 12)) (y := (.tmp 37)) (t := 54) (gg := true) (s := 3) (v := (.agg (kExchange r34.1))) (b := b42) (o := 0) (C := #[(vi 0), (vi 0), (vi 0)]) rfl rfl (by kernel_rfl) hs44 (k := 0) rfl rfl rfl rfl (C' := (kExchange r34.1)) rfl (fun w45 (hs46 : HS w0 F0 w45 F4 [(sb b42 (kExchange r34.1) 54), (sb b4 (kExchange x1) 54), (sb b1 (kLayout x0) 52)]) => ?_)
  refine V 13 23 (ma 38 (vi r34.2)) ?_
  refine Nss (Rg [0, 1, 2, 3, 4, 5, 6, 7, 8] ?_)
  refine V 40 52 (ld 52 3 b1 0 true 3 (.agg (kLayout x0)) (hs46.ownAt (k := 2) rfl)) ?_
  refine V 41 9 (mv 2 (.string ⟨(x2).toArray⟩)) ?_
  obtain ⟨r47, hr48, h49⟩ := bind_some h36
  refine Cl 42 56 47 #[(.tmp 40), (.tmp 41)] #[52, 9] co_ref01_ParseExchange hs46 (c_ref01_ParseExchange N w45 F4 hs46.pers (({ Report := x0.Report, Serial := x0.Serial, Zone := x0.Zone } : Layout)) (x2) _ hr48) ?_
  intro v50 F5 w51 hs52 le53 hp54
  obtain rfl := hp54
  refine V 39 56 (mv 42 (.tuple #[(.agg (kExchange r47.1)), (vi r47.2)])) ?_
  refine V 43 54 (ex 39 0 (.agg (kExchange r47.1)) (vs := #[(.agg (kExchange r47.1)), (vi r47.2)])) ?_
  refine V 44 23 (ex 39 1 (vi r47.2) (vs := #[(.agg (kExchange r47.1)), (vi r47.2)])) ?_
  refine Al 14 0 54 #[(vi 0), (vi 0), (vi 0)] hs52 (fun b55 w56 (hs57 : HS w0 F0 w56 F5 [(sb b55 #[(vi 0), (vi 0), (vi 0)] 54), (sb b42 (kExchange r34.1) 54), (sb b4 (kExchange x1) 54), (sb b1 (kLayout x0) 52)]) => ?_)
  refine RWP.store (ty := 0) (g := none) (by kernel_rfl) rfl (x := (.tmp 14)) (y := (.tmp 43)) (t := 54) (gg := true) (s := 3) (v := (.agg (kExchange r47.1))) (b := b55) (o := 0) (C := #[(vi 0), (vi 0), (vi 0)]) rfl rfl (by kernel_rfl) hs57 (k := 0) rfl rfl rfl rfl (C' := (kExchange r47.1)) rfl (fun w58 (hs59 : HS w0 F0 w58 F5 [(sb b55 (kExchange r47.1) 54), (sb b42 (kExchange r34.1) 54), (sb b4 (kExchange x1) 54), (sb b1 (kLayout x0) 52)]) => ?_)
  refine V 15 23 (ma 44 (vi r47.2)) ?_
  refine Nss ?_
  obtain ⟨j65, hj68, h69⟩ := bind_some h49
  refine CWP.regionD (by kernel_rfl) (by kernel_rfl) (by kernel_rfl) (by kernel_rfl) (z := 31) (F := F5) (Lc := [(sb b55 (kExchange r47.1) 54), (sb b42 (kExchange r34.1) 54), (sb b4 (kExchange x1) 54), (sb b1 (kLayout x0) 52)]) (Lz := []) (l := [false, false, false, false, false, false, false, false, false, false, false, false, false, false, false, false, false, false, false, false, false, false, false, false, false, false, false, false, false, false, false]) (fuel := 31) (by kernel_rfl) (by kernel_rfl) hs59 (by simp) (by simp) (fun f w => ∃ (F6 : Mem), HS w0 F0 w F6 [] ∧ Mem.le F5 F6 ∧ f.d = [] ∧ f 6 = (.bool j65)) (fun wd60 hw61 => ?_) ?_
  ·refine Dtl 0 45 4 _ [tt, ff, ff, ff, ff, ff, ff, ff, ff, ff, ff, ff, ff, ff, ff, ff, ff, ff, ff, ff, ff, ff, ff, ff, ff, ff, ff, ff, ff, ff, ff] (fun _ hq => mv 7 (.bool r7)) ?_
   refine Dtl 1 46 4 _ [tt, tt, ff, ff, ff, ff, ff, ff, ff, ff, ff, ff, ff, ff, ff, ff, ff, ff, ff, ff, ff, ff, ff, ff, ff, ff, ff, ff, ff, ff, ff] (fun _ hq => mv 45 (.bool r7)) ?_
   refine DWP.split r7 (fun hb70 => ?_) (fun hb70 => ?_)
   ·have h71 := cond_t hj68 hb70
    refine Dgl 2 47 52 _ [tt, tt, tt, ff, ff, ff, ff, ff, ff, ff, ff, ff, ff, ff, ff, ff, ff, ff, ff, ff, ff, ff, ff, ff, ff, ff, ff, ff, ff, ff, ff] 1 true 46 hb70 (fun _ hq => ld 52 3 b1 0 true 3 (.agg (kLayout x0)) (hq.1.2 3 _ _ rfl)) ?_
    refine Dgl 3 48 54 _ [tt, tt, tt, tt, ff, ff, ff, ff, ff, ff, ff, ff, ff, ff, ff, ff, ff, ff, ff, ff, ff, ff, ff, ff, ff, ff, ff, ff, ff, ff, ff] 1 true 46 hb70 (fun _ hq => ld 54 4 b4 0 true 3 (.agg (kExchange x1)) (hq.1.2 2 _ _ rfl)) ?_
    refine Dgl 5 50 52 _ [tt, tt, tt, tt, ff, tt, ff, ff, ff, ff, ff, ff, ff, ff, ff, ff, ff, ff, ff, ff, ff, ff, ff, ff, ff, ff, ff, ff, ff, ff, ff] 1 true 46 hb70 (fun _ hq => ld 52 3 b1 0 true 3 (.agg (kLayout x0)) (hq.1.2 3 _ _ rfl)) ?_
    refine Dgl 6 51 54 _ [tt, tt, tt, tt, ff, tt, tt, ff, ff, ff, ff, ff, ff, ff, ff, ff, ff, ff, ff, ff, ff, ff, ff, ff, ff, ff, ff, ff, ff, ff, ff] 1 true 46 hb70 (fun _ hq => ld 54 4 b4 0 true 3 (.agg (kExchange x1)) (hq.1.2 2 _ _ rfl)) ?_
    refine DWP.one (i := 4) (by kernel_rfl) ?_
    obtain ⟨r72, hr73, h74⟩ := bind_some h71
    refine DStep.call (l' := [true, true, true, true, true, true, true, false, false, false, false, false, false, false, false, false, false, false, false, false, false, false, false, false, false, false, false, false, false, false, false]) (zd := true) (by kernel_rfl) (by kernel_rfl) (by kernel_rfl) (dst := (some 49)) (ty := 4) (g := (some (1, true))) (by kernel_rfl) (gd_y (d := 46) (by kernel_rfl) rfl hb70) (f0 := (.func 48)) (aos := #[(.tmp 47), (.tmp 48)]) (ats := #[52, 54]) (fid := 48) (first := #[]) (cap := #[]) (args := [(.agg (kLayout x0)), (.agg (kExchange x1))]) rfl co_air_ValidExchange (rfl) hw61 (c_air_ValidExchange N wd60 F5 hw61.pers (({ Report := x0.Report, Serial := x0.Serial, Zone := x0.Zone } : Layout)) (({ Report := x1.Report, Serial := x1.Serial, Zone := x1.Zone } : Exchange)) _ hr73) ?_
    intro v75 F7 w76 hs77 le78 hp79
    obtain rfl := hp79
    refine DWP.one (i := 7) (by kernel_rfl) ?_
    obtain ⟨r80, hr81, h82⟩ := bind_some h74
    refine DStep.call (l' := [true, true, true, true, true, true, true, true, false, false, false, false, false, false, false, false, false, false, false, false, false, false, false, false, false, false, false, false, false, false, false]) (zd := true) (by kernel_rfl) (by kernel_rfl) (by kernel_rfl) (dst := (some 52)) (ty := 4) (g := (some (1, true))) (by kernel_rfl) (gd_y (d := 46) (by kernel_rfl) rfl hb70) (f0 := (.func 49)) (aos := #[(.tmp 50), (.tmp 51)]) (ats := #[52, 54]) (fid := 49) (first := #[]) (cap := #[]) (args := [(.agg (kLayout x0)), (.agg (kExchange x1))]) rfl co_ref01_ValidExchange (rfl) hs77 (c_ref01_ValidExchange N w76 F7 hs77.pers (({ Report := x0.Report, Serial := x0.Serial, Zone := x0.Zone } : Layout)) (({ Report := x1.Report, Serial := x1.Serial, Zone := x1.Zone } : Exchange)) _ hr81) ?_
    intro v83 F8 w84 hs85 le86 hp87
    obtain rfl := hp87
    refine Dgl 8 53 4 (.bool (r72 == r80)) [tt, tt, tt, tt, tt, tt, tt, tt, tt, ff, ff, ff, ff, ff, ff, ff, ff, ff, ff, ff, ff, ff, ff, ff, ff, ff, ff, ff, ff, ff, ff] 1 true 46 hb70 (fun _ hq => run_eqb (t := 4) (t' := 4) (x := (.tmp 49)) (y := (.tmp 52)) (a := r72) (b := r80) rfl rfl (by kernel_rfl)) ?_
    refine Dtl 9 54 4 _ [tt, tt, tt, tt, tt, tt, tt, tt, tt, tt, ff, ff, ff, ff, ff, ff, ff, ff, ff, ff, ff, ff, ff, ff, ff, ff, ff, ff, ff, ff, ff] (fun _ hq => p1 46 (.tmp 53) (.const (.bool false)) (.bool (r72 == r80)) hb70) ?_
    refine Dtl 10 55 4 _ [tt, tt, tt, tt, tt, tt, tt, tt, tt, tt, tt, ff, ff, ff, ff, ff, ff, ff, ff, ff, ff, ff, ff, ff, ff, ff, ff, ff, ff, ff, ff] (fun _ hq => mv 54 (.bool (r72 == r80))) ?_
    refine DWP.split (r72 == r80) (fun hb88 => ?_) (fun hb88 => ?_)
    ·have h89 := cond_t h82 hb88
     refine Dgl 11 56 9 _ [tt, tt, tt, tt, tt, tt, tt, tt, tt, tt, tt, tt, ff, ff, ff, ff, ff, ff, ff, ff, ff, ff, ff, ff, ff, ff, ff, ff, ff, ff, ff] 10 true 55 hb88 (fun _ hq => mv 8 (.string ⟨(r18.1).toArray⟩)) ?_
     refine Dgl 12 57 9 _ [tt, tt, tt, tt, tt, tt, tt, tt, tt, tt, tt, tt, tt, ff, ff, ff, ff, ff, ff, ff, ff, ff, ff, ff, ff, ff, ff, ff, ff, ff, ff] 10 true 55 hb88 (fun _ hq => mv 10 (.string ⟨(r26.1).toArray⟩)) ?_
     refine Dgl 13 58 4 (.bool (r18.1 == r26.1)) [tt, tt, tt, tt, tt, tt, tt, tt, tt, tt, tt, tt, tt, tt, ff, ff, ff, ff, ff, ff, ff, ff, ff, ff, ff, ff, ff, ff, ff, ff, ff] 10 true 55 hb88 (fun _ hq => run_scmp (t := 9) (t' := 9) (x := (.tmp 56)) (y := (.tmp 57)) (op := .eql) (a := r18.1) (b := r26.1) (v := (r18.1 == r26.1)) rfl rfl rfl) ?_
     refine Dtl 14 59 4 _ [tt, tt, tt, tt, tt, tt, tt, tt, tt, tt, tt, tt, tt, tt, tt, ff, ff, ff, ff, ff, ff, ff, ff, ff, ff, ff, ff, ff, ff, ff, ff] (fun _ hq => p1 55 (.tmp 58) (.const (.bool false)) (.bool (r18.1 == r26.1)) hb88) ?_
     refine Dtl 15 60 4 _ [tt, tt, tt, tt, tt, tt, tt, tt, tt, tt, tt, tt, tt, tt, tt, tt, ff, ff, ff, ff, ff, ff, ff, ff, ff, ff, ff, ff, ff, ff, ff] (fun _ hq => mv 59 (.bool (r18.1 == r26.1))) ?_
     refine DWP.split (r18.1 == r26.1) (fun hb90 => ?_) (fun hb90 => ?_)
     ·have h91 := cond_t h89 hb90
      refine Dgl 16 61 23 _ [tt, tt, tt, tt, tt, tt, tt, tt, tt, tt, tt, tt, tt, tt, tt, tt, tt, ff, ff, ff, ff, ff, ff, ff, ff, ff, ff, ff, ff, ff, ff] 15 true 60 hb90 (fun _ hq => mv 9 (vi r18.2)) ?_
      refine Dgl 17 62 23 _ [tt, tt, tt, tt, tt, tt, tt, tt, tt, tt, tt, tt, tt, tt, tt, tt, tt, tt, ff, ff, ff, ff, ff, ff, ff, ff, ff, ff, ff, ff, ff] 15 true 60 hb90 (fun _ hq => mv 11 (vi r26.2)) ?_
      refine Dgl 18 63 4 (.bool (r18.2 == r26.2)) [tt, tt, tt, tt, tt, tt, tt, tt, tt, tt, tt, tt, tt, tt, tt, tt, tt, tt, tt, ff, ff, ff, ff, ff, ff, ff, ff, ff, ff, ff, ff] 15 true 60 hb90 (fun _ hq => run_eql (t := 23) (t' := 23) (x := (.tmp 61)) (y := (.tmp 62)) (k := .i64) (a := r18.2) (b := r26.2) rfl rfl) ?_
      refine Dtl 19 64 4 _ [tt, tt, tt, tt, tt, tt, tt, tt, tt, tt, tt, tt, tt, tt, tt, tt, tt, tt, tt, tt, ff, ff, ff, ff, ff, ff, ff, ff, ff, ff, ff] (fun _ hq => p1 60 (.tmp 63) (.const (.bool false)) (.bool (r18.2 == r26.2)) hb90) ?_
      refine Dtl 20 65 4 _ [tt, tt, tt, tt, tt, tt, tt, tt, tt, tt, tt, tt, tt, tt, tt, tt, tt, tt, tt, tt, tt, ff, ff, ff, ff, ff, ff, ff, ff, ff, ff] (fun _ hq => mv 64 (.bool (r18.2 == r26.2))) ?_
      refine DWP.split (r18.2 == r26.2) (fun hb92 => ?_) (fun hb92 => ?_)
      ·have h93 := cond_t h91 hb92
       refine Dgl 21 66 54 _ [tt, tt, tt, tt, tt, tt, tt, tt, tt, tt, tt, tt, tt, tt, tt, tt, tt, tt, tt, tt, tt, tt, ff, ff, ff, ff, ff, ff, ff, ff, ff] 20 true 65 hb92 (fun _ hq => ld 54 12 b42 0 true 3 (.agg (kExchange r34.1)) (hq.1.2 1 _ _ rfl)) ?_
       refine Dgl 22 67 54 _ [tt, tt, tt, tt, tt, tt, tt, tt, tt, tt, tt, tt, tt, tt, tt, tt, tt, tt, tt, tt, tt, tt, tt, ff, ff, ff, ff, ff, ff, ff, ff] 20 true 65 hb92 (fun _ hq => ld 54 14 b55 0 true 3 (.agg (kExchange r47.1)) (hq.1.2 0 _ _ rfl)) ?_
       refine Dgl 23 68 4 (.bool ((r34.1.Report == r47.1.Report) && ((r34.1.Serial == r47.1.Serial) && ((r34.1.Zone == r47.1.Zone) && true)))) [tt, tt, tt, tt, tt, tt, tt, tt, tt, tt, tt, tt, tt, tt, tt, tt, tt, tt, tt, tt, tt, tt, tt, tt, ff, ff, ff, ff, ff, ff, ff] 20 true 65 hb92 (fun _ hq => run_eqs (t := 54) (t' := 54) (x := (.tmp 66)) (y := (.tmp 67)) (xs := (kExchange r34.1)) (ys := (kExchange r47.1)) (b := ((r34.1.Report == r47.1.Report) && ((r34.1.Serial == r47.1.Serial) && ((r34.1.Zone == r47.1.Zone) && true)))) rfl rfl (by kernel_rfl) (by kernel_rfl)) ?_
       refine Dtl 24 69 4 _ [tt, tt, tt, tt, tt, tt, tt, tt, tt, tt, tt, tt, tt, tt, tt, tt, tt, tt, tt, tt, tt, tt, tt, tt, tt, ff, ff, ff, ff, ff, ff] (fun _ hq => p1 65 (.tmp 68) (.const (.bool false)) (.bool ((r34.1.Report == r47.1.Report) && ((r34.1.Serial == r47.1.Serial) && ((r34.1.Zone == r47.1.Zone) && true)))) hb92) ?_
       refine Dtl 25 70 4 _ [tt, tt, tt, tt, tt, tt, tt, tt, tt, tt, tt, tt, tt, tt, tt, tt, tt, tt, tt, tt, tt, tt, tt, tt, tt, tt, ff, ff, ff, ff, ff] (fun _ hq => mv 69 (.bool ((r34.1.Report == r47.1.Report) && ((r34.1.Serial == r47.1.Serial) && ((r34.1.Zone == r47.1.Zone) && true))))) ?_
       refine DWP.split ((r34.1.Report == r47.1.Report) && ((r34.1.Serial == r47.1.Serial) && ((r34.1.Zone == r47.1.Zone) && true))) (fun hb94 => ?_) (fun hb94 => ?_)
       ·have h95 := cond_t h93 hb94
        refine Dgl 26 71 23 _ [tt, tt, tt, tt, tt, tt, tt, tt, tt, tt, tt, tt, tt, tt, tt, tt, tt, tt, tt, tt, tt, tt, tt, tt, tt, tt, tt, ff, ff, ff, ff] 25 true 70 hb94 (fun _ hq => mv 13 (vi r34.2)) ?_
        refine Dgl 27 72 23 _ [tt, tt, tt, tt, tt, tt, tt, tt, tt, tt, tt, tt, tt, tt, tt, tt, tt, tt, tt, tt, tt, tt, tt, tt, tt, tt, tt, tt, ff, ff, ff] 25 true 70 hb94 (fun _ hq => mv 15 (vi r47.2)) ?_
        refine Dgl 28 73 4 (.bool (r34.2 == r47.2)) [tt, tt, tt, tt, tt, tt, tt, tt, tt, tt, tt, tt, tt, tt, tt, tt, tt, tt, tt, tt, tt, tt, tt, tt, tt, tt, tt, tt, tt, ff, ff] 25 true 70 hb94 (fun _ hq => run_eql (t := 23) (t' := 23) (x := (.tmp 71)) (y := (.tmp 72)) (k := .i64) (a := r34.2) (b := r47.2) rfl rfl) ?_
        refine Dtl 29 74 4 _ [tt, tt, tt, tt, tt, tt, tt, tt, tt, tt, tt, tt, tt, tt, tt, tt, tt, tt, tt, tt, tt, tt, tt, tt, tt, tt, tt, tt, tt, tt, ff] (fun _ hq => p1 70 (.tmp 73) (.const (.bool false)) (.bool (r34.2 == r47.2)) hb94) ?_
        refine Dtl 30 6 4 _ [tt, tt, tt, tt, tt, tt, tt, tt, tt, tt, tt, tt, tt, tt, tt, tt, tt, tt, tt, tt, tt, tt, tt, tt, tt, tt, tt, tt, tt, tt, tt] (fun _ hq => ma 74 (.bool (r34.2 == r47.2))) ?_
        obtain rfl := some_inj h95
        have hs96 : HS w0 F0 w84 F8 [(sb b42 (kExchange r34.1) 54), (sb b4 (kExchange x1) 54), (sb b1 (kLayout x0) 52)] := hs85.drop 0
        have hs97 : HS w0 F0 w84 F8 [(sb b4 (kExchange x1) 54), (sb b1 (kLayout x0) 52)] := hs96.drop 0
        have hs98 : HS w0 F0 w84 F8 [(sb b1 (kLayout x0) 52)] := hs97.drop 0
        have hs99 : HS w0 F0 w84 F8 [] := hs98.drop 0
        exact DWP.done (by kernel_rfl) ⟨F8, hs99, (le78.trans le86), rfl, rfl⟩
       ·have h100 := cond_f h93 hb94
        refine Dkl [(26, 71), (27, 72), (28, 73)] 25 true 70 hb94 [tt, tt, tt, tt, tt, tt, tt, tt, tt, tt, tt, tt, tt, tt, tt, tt, tt, tt, tt, tt, tt, tt, tt, tt, tt, tt, tt, tt, tt, ff, ff] ?_
        refine Dtl 29 74 4 _ [tt, tt, tt, tt, tt, tt, tt, tt, tt, tt, tt, tt, tt, tt, tt, tt, tt, tt, tt, tt, tt, tt, tt, tt, tt, tt, tt, tt, tt, tt, ff] (fun _ hq => p0 70 (.tmp 73) (.const (.bool false)) (.bool false) hb94) ?_
        refine Dtl 30 6 4 _ [tt, tt, tt, tt, tt, tt, tt, tt, tt, tt, tt, tt, tt, tt, tt, tt, tt, tt, tt, tt, tt, tt, tt, tt, tt, tt, tt, tt, tt, tt, tt] (fun _ hq => ma 74 (.bool false)) ?_
        obtain rfl := some_inj h100
        have hs101 : HS w0 F0 w84 F8 [(sb b42 (kExchange r34.1) 54), (sb b4 (kExchange x1) 54), (sb b1 (kLayout x0) 52)] := hs85.drop 0
        have hs102 : HS w0 F0 w84 F8 [(sb b4 (kExchange x1) 54), (sb b1 (kLayout x0) 52)] := hs101.drop 0
        have hs103 : HS w0 F0 w84 F8 [(sb b1 (kLayout x0) 52)] := hs102.drop 0
        have hs104 : HS w0 F0 w84 F8 [] := hs103.drop 0
        exact DWP.done (by kernel_rfl) ⟨F8, hs104, (le78.trans le86), rfl, rfl⟩
      ·have h105 := cond_f h91 hb92
       refine Dkl [(21, 66), (22, 67), (23, 68)] 20 true 65 hb92 [tt, tt, tt, tt, tt, tt, tt, tt, tt, tt, tt, tt, tt, tt, tt, tt, tt, tt, tt, tt, tt, tt, tt, tt, ff, ff, ff, ff, ff, ff, ff] ?_
       refine Dtl 24 69 4 _ [tt, tt, tt, tt, tt, tt, tt, tt, tt, tt, tt, tt, tt, tt, tt, tt, tt, tt, tt, tt, tt, tt, tt, tt, tt, ff, ff, ff, ff, ff, ff] (fun _ hq => p0 65 (.tmp 68) (.const (.bool false)) (.bool false) hb92) ?_
       refine Dtl 25 70 4 _ [tt, tt, tt, tt, tt, tt, tt, tt, tt, tt, tt, tt, tt, tt, tt, tt, tt, tt, tt, tt, tt, tt, tt, tt, tt, tt, ff, ff, ff, ff, ff] (fun _ hq => mv 69 (.bool false)) ?_
       refine Dkl [(26, 71), (27, 72), (28, 73)] 25 true 70 rfl [tt, tt, tt, tt, tt, tt, tt, tt, tt, tt, tt, tt, tt, tt, tt, tt, tt, tt, tt, tt, tt, tt, tt, tt, tt, tt, tt, tt, tt, ff, ff] ?_
       refine Dtl 29 74 4 _ [tt, tt, tt, tt, tt, tt, tt, tt, tt, tt, tt, tt, tt, tt, tt, tt, tt, tt, tt, tt, tt, tt, tt, tt, tt, tt, tt, tt, tt, tt, ff] (fun _ hq => p0 70 (.tmp 73) (.const (.bool false)) (.bool false) rfl) ?_
       refine Dtl 30 6 4 _ [tt, tt, tt, tt, tt, tt, tt, tt, tt, tt, tt, tt, tt, tt, tt, tt, tt, tt, tt, tt, tt, tt, tt, tt, tt, tt, tt, tt, tt, tt, tt] (fun _ hq => ma 74 (.bool false)) ?_
       obtain rfl := some_inj h105
       have hs106 : HS w0 F0 w84 F8 [(sb b42 (kExchange r34.1) 54), (sb b4 (kExchange x1) 54), (sb b1 (kLayout x0) 52)] := hs85.drop 0
       have hs107 : HS w0 F0 w84 F8 [(sb b4 (kExchange x1) 54), (sb b1 (kLayout x0) 52)] := hs106.drop 0
       have hs108 : HS w0 F0 w84 F8 [(sb b1 (kLayout x0) 52)] := hs107.drop 0
       have hs109 : HS w0 F0 w84 F8 [] := hs108.drop 0
       exact DWP.done (by kernel_rfl) ⟨F8, hs109, (le78.trans le86), rfl, rfl⟩
     ·have h110 := cond_f h89 hb90
      refine Dkl [(16, 61), (17, 62), (18, 63)] 15 true 60 hb90 [tt, tt, tt, tt, tt, tt, tt, tt, tt, tt, tt, tt, tt, tt, tt, tt, tt, tt, tt, ff, ff, ff, ff, ff, ff, ff, ff, ff, ff, ff, ff] ?_
      refine Dtl 19 64 4 _ [tt, tt, tt, tt, tt, tt, tt, tt, tt, tt, tt, tt, tt, tt, tt, tt, tt, tt, tt, tt, ff, ff, ff, ff, ff, ff, ff, ff, ff, ff, ff] (fun _ hq => p0 60 (.tmp 63) (.const (.bool false)) (.bool false) hb90) ?_
      refine Dtl 20 65 4 _ [tt, tt, tt, tt, tt, tt, tt, tt, tt, tt, tt, tt, tt, tt, tt, tt, tt, tt, tt, tt, tt, ff, ff, ff, ff, ff, ff, ff, ff, ff, ff] (fun _ hq => mv 64 (.bool false)) ?_
      refine Dkl [(21, 66), (22, 67), (23, 68)] 20 true 65 rfl [tt, tt, tt, tt, tt, tt, tt, tt, tt, tt, tt, tt, tt, tt, tt, tt, tt, tt, tt, tt, tt, tt, tt, tt, ff, ff, ff, ff, ff, ff, ff] ?_
      refine Dtl 24 69 4 _ [tt, tt, tt, tt, tt, tt, tt, tt, tt, tt, tt, tt, tt, tt, tt, tt, tt, tt, tt, tt, tt, tt, tt, tt, tt, ff, ff, ff, ff, ff, ff] (fun _ hq => p0 65 (.tmp 68) (.const (.bool false)) (.bool false) rfl) ?_
      refine Dtl 25 70 4 _ [tt, tt, tt, tt, tt, tt, tt, tt, tt, tt, tt, tt, tt, tt, tt, tt, tt, tt, tt, tt, tt, tt, tt, tt, tt, tt, ff, ff, ff, ff, ff] (fun _ hq => mv 69 (.bool false)) ?_
      refine Dkl [(26, 71), (27, 72), (28, 73)] 25 true 70 rfl [tt, tt, tt, tt, tt, tt, tt, tt, tt, tt, tt, tt, tt, tt, tt, tt, tt, tt, tt, tt, tt, tt, tt, tt, tt, tt, tt, tt, tt, ff, ff] ?_
      refine Dtl 29 74 4 _ [tt, tt, tt, tt, tt, tt, tt, tt, tt, tt, tt, tt, tt, tt, tt, tt, tt, tt, tt, tt, tt, tt, tt, tt, tt, tt, tt, tt, tt, tt, ff] (fun _ hq => p0 70 (.tmp 73) (.const (.bool false)) (.bool false) rfl) ?_
      refine Dtl 30 6 4 _ [tt, tt, tt, tt, tt, tt, tt, tt, tt, tt, tt, tt, tt, tt, tt, tt, tt, tt, tt, tt, tt, tt, tt, tt, tt, tt, tt, tt, tt, tt, tt] (fun _ hq => ma 74 (.bool false)) ?_
      obtain rfl := some_inj h110
      have hs111 : HS w0 F0 w84 F8 [(sb b42 (kExchange r34.1) 54), (sb b4 (kExchange x1) 54), (sb b1 (kLayout x0) 52)] := hs85.drop 0
      have hs112 : HS w0 F0 w84 F8 [(sb b4 (kExchange x1) 54), (sb b1 (kLayout x0) 52)] := hs111.drop 0
      have hs113 : HS w0 F0 w84 F8 [(sb b1 (kLayout x0) 52)] := hs112.drop 0
      have hs114 : HS w0 F0 w84 F8 [] := hs113.drop 0
      exact DWP.done (by kernel_rfl) ⟨F8, hs114, (le78.trans le86), rfl, rfl⟩
    ·have h115 := cond_f h82 hb88
     refine Dkl [(11, 56), (12, 57), (13, 58)] 10 true 55 hb88 [tt, tt, tt, tt, tt, tt, tt, tt, tt, tt, tt, tt, tt, tt, ff, ff, ff, ff, ff, ff, ff, ff, ff, ff, ff, ff, ff, ff, ff, ff, ff] ?_
     refine Dtl 14 59 4 _ [tt, tt, tt, tt, tt, tt, tt, tt, tt, tt, tt, tt, tt, tt, tt, ff, ff, ff, ff, ff, ff, ff, ff, ff, ff, ff, ff, ff, ff, ff, ff] (fun _ hq => p0 55 (.tmp 58) (.const (.bool false)) (.bool false) hb88) ?_
     refine Dtl 15 60 4 _ [tt, tt, tt, tt, tt, tt, tt, tt, tt, tt, tt, tt, tt, tt, tt, tt, ff, ff, ff, ff, ff, ff, ff, ff, ff, ff, ff, ff, ff, ff, ff] (fun _ hq => mv 59 (.bool false)) ?_
     refine Dkl [(16, 61), (17, 62), (18, 63)] 15 true 60 rfl [tt, tt, tt, tt, tt, tt, tt, tt, tt, tt, tt, tt, tt, tt, tt, tt, tt, tt, tt, ff, ff, ff, ff, ff, ff, ff, ff, ff, ff, ff, ff] ?_
     refine Dtl 19 64 4 _ [tt, tt, tt, tt, tt, tt, tt, tt, tt, tt, tt, tt, tt, tt, tt, tt, tt, tt, tt, tt, ff, ff, ff, ff, ff, ff, ff, ff, ff, ff, ff] (fun _ hq => p0 60 (.tmp 63) (.const (.bool false)) (.bool false) rfl) ?_
     refine Dtl 20 65 4 _ [tt, tt, tt, tt, tt, tt, tt, tt, tt, tt, tt, tt, tt, tt, tt, tt, tt, tt, tt, tt, tt, ff, ff, ff, ff, ff, ff, ff, ff, ff, ff] (fun _ hq => mv 64 (.bool false)) ?_
     refine Dkl [(21, 66), (22, 67), (23, 68)] 20 true 65 rfl [tt, tt, tt, tt, tt, tt, tt, tt, tt, tt, tt, tt, tt, tt, tt, tt, tt, tt, tt, tt, tt, tt, tt, tt, ff, ff, ff, ff, ff, ff, ff] ?_
     refine Dtl 24 69 4 _ [tt, tt, tt, tt, tt, tt, tt, tt, tt, tt, tt, tt, tt, tt, tt, tt, tt, tt, tt, tt, tt, tt, tt, tt, tt, ff, ff, ff, ff, ff, ff] (fun _ hq => p0 65 (.tmp 68) (.const (.bool false)) (.bool false) rfl) ?_
     refine Dtl 25 70 4 _ [tt, tt, tt, tt, tt, tt, tt, tt, tt, tt, tt, tt, tt, tt, tt, tt, tt, tt, tt, tt, tt, tt, tt, tt, tt, tt, ff, ff, ff, ff, ff] (fun _ hq => mv 69 (.bool false)) ?_
     refine Dkl [(26, 71), (27, 72), (28, 73)] 25 true 70 rfl [tt, tt, tt, tt, tt, tt, tt, tt, tt, tt, tt, tt, tt, tt, tt, tt, tt, tt, tt, tt, tt, tt, tt, tt, tt, tt, tt, tt, tt, ff, ff] ?_
     refine Dtl 29 74 4 _ [tt, tt, tt, tt, tt, tt, tt, tt, tt, tt, tt, tt, tt, tt, tt, tt, tt, tt, tt, tt, tt, tt, tt, tt, tt, tt, tt, tt, tt, tt, ff] (fun _ hq => p0 70 (.tmp 73) (.const (.bool false)) (.bool false) rfl) ?_
     refine Dtl 30 6 4 _ [tt, tt, tt, tt, tt, tt, tt, tt, tt, tt, tt, tt, tt, tt, tt, tt, tt, tt, tt, tt, tt, tt, tt, tt, tt, tt, tt, tt, tt, tt, tt] (fun _ hq => ma 74 (.bool false)) ?_
     obtain rfl := some_inj h115
     have hs116 : HS w0 F0 w84 F8 [(sb b42 (kExchange r34.1) 54), (sb b4 (kExchange x1) 54), (sb b1 (kLayout x0) 52)] := hs85.drop 0
     have hs117 : HS w0 F0 w84 F8 [(sb b4 (kExchange x1) 54), (sb b1 (kLayout x0) 52)] := hs116.drop 0
     have hs118 : HS w0 F0 w84 F8 [(sb b1 (kLayout x0) 52)] := hs117.drop 0
     have hs119 : HS w0 F0 w84 F8 [] := hs118.drop 0
     exact DWP.done (by kernel_rfl) ⟨F8, hs119, (le78.trans le86), rfl, rfl⟩
   ·have h120 := cond_f hj68 hb70
    refine Dkl [(2, 47), (3, 48), (4, 49), (5, 50), (6, 51), (7, 52)] 1 true 46 hb70 [tt, tt, tt, tt, tt, tt, tt, tt, ff, ff, ff, ff, ff, ff, ff, ff, ff, ff, ff, ff, ff, ff, ff, ff, ff, ff, ff, ff, ff, ff, ff] ?_
    refine Dkl [(8, 53)] 1 true 46 hb70 [tt, tt, tt, tt, tt, tt, tt, tt, tt, ff, ff, ff, ff, ff, ff, ff, ff, ff, ff, ff, ff, ff, ff, ff, ff, ff, ff, ff, ff, ff, ff] ?_
    refine Dtl 9 54 4 _ [tt, tt, tt, tt, tt, tt, tt, tt, tt, tt, ff, ff, ff, ff, ff, ff, ff, ff, ff, ff, ff, ff, ff, ff, ff, ff, ff, ff, ff, ff, ff] (fun _ hq => p0 46 (.tmp 53) (.const (.bool false)) (.bool false) hb70) ?_
    refine Dtl 10 55 4 _ [tt, tt, tt, tt, tt, tt, tt, tt, tt, tt, tt, ff, ff, ff, ff, ff, ff, ff, ff, ff, ff, ff, ff, ff, ff, ff, ff, ff, ff, ff, ff] (fun _ hq => mv 54 (.bool false)) ?_
    refine Dkl [(11, 56), (12, 57), (13, 58)] 10 true 55 rfl [tt, tt, tt, tt, tt, tt, tt, tt, tt, tt, tt, tt, tt, tt, ff, ff, ff, ff, ff, ff, ff, ff, ff, ff, ff, ff, ff, ff, ff, ff, ff] ?_
    refine Dtl 14 59 4 _ [tt, tt, tt, tt, tt, tt, tt, tt, tt, tt, tt, tt, tt, tt, tt, ff, ff, ff, ff, ff, ff, ff, ff, ff, ff, ff, ff, ff, ff, ff, ff] (fun _ hq => p0 55 (.tmp 58) (.const (.bool false)) (.bool false) rfl) ?_
    refine Dtl 15 60 4 _ [tt, tt, tt, tt, tt, tt, tt, tt, tt, tt, tt, tt, tt, tt, tt, tt, ff, ff, ff, ff, ff, ff, ff, ff, ff, ff, ff, ff, ff, ff, ff] (fun _ hq => mv 59 (.bool false)) ?_
    refine Dkl [(16, 61), (17, 62), (18, 63)] 15 true 60 rfl [tt, tt, tt, tt, tt, tt, tt, tt, tt, tt, tt, tt, tt, tt, tt, tt, tt, tt, tt, ff, ff, ff, ff, ff, ff, ff, ff, ff, ff, ff, ff] ?_
    refine Dtl 19 64 4 _ [tt, tt, tt, tt, tt, tt, tt, tt, tt, tt, tt, tt, tt, tt, tt, tt, tt, tt, tt, tt, ff, ff, ff, ff, ff, ff, ff, ff, ff, ff, ff] (fun _ hq => p0 60 (.tmp 63) (.const (.bool false)) (.bool false) rfl) ?_
    refine Dtl 20 65 4 _ [tt, tt, tt, tt, tt, tt, tt, tt, tt, tt, tt, tt, tt, tt, tt, tt, tt, tt, tt, tt, tt, ff, ff, ff, ff, ff, ff, ff, ff, ff, ff] (fun _ hq => mv 64 (.bool false)) ?_
    refine Dkl [(21, 66), (22, 67), (23, 68)] 20 true 65 rfl [tt, tt, tt, tt, tt, tt, tt, tt, tt, tt, tt, tt, tt, tt, tt, tt, tt, tt, tt, tt, tt, tt, tt, tt, ff, ff, ff, ff, ff, ff, ff] ?_
    refine Dtl 24 69 4 _ [tt, tt, tt, tt, tt, tt, tt, tt, tt, tt, tt, tt, tt, tt, tt, tt, tt, tt, tt, tt, tt, tt, tt, tt, tt, ff, ff, ff, ff, ff, ff] (fun _ hq => p0 65 (.tmp 68) (.const (.bool false)) (.bool false) rfl) ?_
    refine Dtl 25 70 4 _ [tt, tt, tt, tt, tt, tt, tt, tt, tt, tt, tt, tt, tt, tt, tt, tt, tt, tt, tt, tt, tt, tt, tt, tt, tt, tt, ff, ff, ff, ff, ff] (fun _ hq => mv 69 (.bool false)) ?_
    refine Dkl [(26, 71), (27, 72), (28, 73)] 25 true 70 rfl [tt, tt, tt, tt, tt, tt, tt, tt, tt, tt, tt, tt, tt, tt, tt, tt, tt, tt, tt, tt, tt, tt, tt, tt, tt, tt, tt, tt, tt, ff, ff] ?_
    refine Dtl 29 74 4 _ [tt, tt, tt, tt, tt, tt, tt, tt, tt, tt, tt, tt, tt, tt, tt, tt, tt, tt, tt, tt, tt, tt, tt, tt, tt, tt, tt, tt, tt, tt, ff] (fun _ hq => p0 70 (.tmp 73) (.const (.bool false)) (.bool false) rfl) ?_
    refine Dtl 30 6 4 _ [tt, tt, tt, tt, tt, tt, tt, tt, tt, tt, tt, tt, tt, tt, tt, tt, tt, tt, tt, tt, tt, tt, tt, tt, tt, tt, tt, tt, tt, tt, tt] (fun _ hq => ma 74 (.bool false)) ?_
    obtain rfl := some_inj h120
    have hs121 : HS w0 F0 wd60 F5 [(sb b42 (kExchange r34.1) 54), (sb b4 (kExchange x1) 54), (sb b1 (kLayout x0) 52)] := hw61.drop 0
    have hs122 : HS w0 F0 wd60 F5 [(sb b4 (kExchange x1) 54), (sb b1 (kLayout x0) 52)] := hs121.drop 0
    have hs123 : HS w0 F0 wd60 F5 [(sb b1 (kLayout x0) 52)] := hs122.drop 0
    have hs124 : HS w0 F0 wd60 F5 [] := hs123.drop 0
    exact DWP.done (by kernel_rfl) ⟨F5, hs124, (Mem.le.refl _), rfl, rfl⟩
  ·rintro f w62 ⟨F6, hs63, le64, e66, e67⟩
   refine thenQ_nrm ?_
   refine CWP.ret (by kernel_rfl) ?_
   have hfin := some_inj h69
   subst hfin
   exact ⟨e66, (.bool j65), res_of (l := [.tmp 6]) (by kernel_rfl) (vs := [(.bool j65)]) ⟨e67, trivial⟩, (.bool j65), F6, rfl, hs63.clear, rfl⟩
end Go.Proofs.YtlddakefmfcblaaGreatDoor
namespace Go.Proofs.YtlddakefmfcblaaGreatDoor
open Go.Proofs
end Go.Proofs.YtlddakefmfcblaaGreatDoor
namespace Go.Proofs.YtlddakefmfcblaaGreatDoor
open Go.Lib (decDigits)
section
variable {N : Nat}
theorem exchanges_eqs (L : Layout) (E : Exchange) (s : List UInt8) (hN : 4294967300 < N) : law01_AirExchanges N L E s = some true := by
 unfold law01_AirExchanges
 rw [awake_true hN, Option.bind_some]
 by_cases hs : s.length ≤ 1000
 ·rw [decide_eq_false (by omega), cond_false]
  simp only [s_PrintX _ _ hN, s_rPrintX _ _ hN, s_ParseX L s (by omega) hN, s_rParseX L s (by omega) hN, s_ValidX _ _ hN, s_rValidX, Option.bind_some]
  simp
 ·rw [decide_eq_true (by omega), cond_true]
end
theorem airExchanges_row (x0 : Layout) (x1 : Exchange) (x2 : List UInt8) (_ : qLayout x0) (_ : qExchange x1) (_ : rS x2) : law01_AirExchanges 9223372036854775808 x0 x1 x2 = some true := exchanges_eqs x0 x1 x2 (by omega)
end Go.Proofs.YtlddakefmfcblaaGreatDoor
namespace Go.Proofs.YtlddakefmfcblaaGreatDoor
open Go.ChangeShapes Go.WideShapes Go.ChangeAt Go.RowKit
set_option maxRecDepth 100000 in
theorem lifted_airExchanges (os : Os) (started : os.Started) (H : Type) (enc : TypeId × Value → H) :
  ReturnsInHanded {} Tryz.checked os 10 .any (fun w args => (Rows.airExchangesSpec.pre enc Tryz.prog Tryz.f10 Rows.airExchangesRow.domain false w args ∧ laidMetH Tryz.prog Rows.airExchangesRow.laid w) ∧ sizedMet enc Tryz.prog Tryz.f10 (OpenSpec.ofChange Rows.airExchangesSpec) false w args) (Rows.airExchangesSpec.post enc Tryz.prog Tryz.f10 false true false false) := by
 refine handed_laid (C := Tryz.checked) (X := fun w _ => laidMetH Tryz.prog laid7 w) (fun _ _ _ hh h => h.of_heap hh) own_knob started (by kernel_rfl) Tryz.func10
  (ChangeSpec.witness_shaped (enc := enc) (C := Tryz.checked) (os := os) (X := fun w _ => laidMetH Tryz.prog laid7 w) false (World.laidAll Tryz.prog os laid7) #[.agg #[.bool false, .bool false, .bool false], .agg #[.int .i64 0, .int .i64 0, .int .i64 0], .string ByteArray.empty] 8 (World.laidAll_os _ _ _)
   (World.shaped_of_ZipB (by kernel_rfl) (by kernel_rfl)) (by kernel_rfl) (by kernel_rfl) (by kernel_rfl) (door_met7 os _)) ?_
 intro W base args ds gs before hval0 hW hsz hL hsh
 have hval : ∀ (j : Nat) t v, Tryz.f10.params[j]? = some t → args[j]? = some v → Value.okWide Tryz.prog W .any base t v := hval0
 have hW' := hW
 obtain ⟨p, q, hA0, hV, rfl, hfz, hnd⟩ := hW
 have hA : DataW.TrodAll enc Tryz.prog W 0 (fun _ => true) true Tryz.f10.params.toList args.toList ds p := hA0
 rw [Tryz.params10] at hA hval
 obtain ⟨v0, vs0, d0, ds0, p0, q0, hargs, rfl, rfl, h0, r0⟩ := trodAll_cons hA
 obtain ⟨v1, vs1, d1, ds1, p1, q1, rfl, rfl, rfl, h1, r1⟩ := trodAll_cons r0
 obtain ⟨v2, vs2, d2, ds2, p2, q2, rfl, rfl, rfl, h2, r2⟩ := trodAll_cons r1
 obtain ⟨rfl, rfl, rfl⟩ := trodAll_nil r2
 obtain rfl : args = #[v0, v1, v2] := by cases args; simp_all
 have z0 : SzW Tryz.prog 52 d0 := SzW.each hsz (j := 0) (by kernel_rfl) rfl
 obtain ⟨cs0, x0, rfl, R0, Q0⟩ := Opens.agg opens_Layout_52 (by kernel_rfl) (hval 0 52 v0 rfl rfl) h0 z0
 have e0 := R0
 obtain rfl : cs0 = #[.bool x0.Report, .bool x0.Serial, .bool x0.Zone] := Array.ext' (by exact e0)
 have z1 : SzW Tryz.prog 54 d1 := SzW.each hsz (j := 1) (by kernel_rfl) rfl
 obtain ⟨cs1, x1, rfl, R1, Q1⟩ := Opens.agg opens_Exchange_54 (by kernel_rfl) (hval 1 54 v1 rfl rfl) h1 z1
 have e1 := R1
 obtain rfl : cs1 = #[.int .i64 x1.Report, .int .i64 x1.Serial, .int .i64 x1.Zone] := Array.ext' (by exact e1)
 have z2 : SzW Tryz.prog 9 d2 := SzW.each hsz (j := 2) (by kernel_rfl) rfl
 obtain ⟨x2, R2, Q2⟩ := Opens.one (opens_str (t := 9) (by kernel_rfl) (by kernel_rfl) : Opens Tryz.prog 9 tStr rS) (by kernel_rfl) (hval 2 9 v2 rfl rfl) h2 z2
 have e2 : [v2] = [.string ⟨x2.toArray⟩] := R2
 cases e2
 refine (c_law01_AirExchanges 9223372036854775808 W (memOf W) (fun _ _ h => h) (glob_of hL hsh) x0 x1 x2 true (airExchanges_row x0 x1 x2 Q0 Q1 Q2)).mono fun e W' he => ?_
 obtain ⟨r, F', rfl, hs, rfl⟩ := he
 refine ⟨_, rfl, post_grown (by kernel_rfl) (tb := 4) ?_ rfl hW' (by kernel_rfl) (by kernel_rfl) ?_ hs⟩
 ·intro t ht
  rw [Tryz.params10] at ht
  simp only [List.mem_cons, List.not_mem_nil, or_false] at ht
  rcases ht with rfl | rfl | rfl <;> exact ⟨by kernel_rfl, by decide +kernel⟩
 ·intro _; rfl
theorem airExchanges_row_holds : Rows.AirExchangesSaid :=
 OpenClaim.holds_of_wide 10 Tryz.f10 rfl rfl rfl rfl rfl rfl rfl ⟨rfl, rfl, rfl, rfl, rfl⟩ rfl rfl rfl rfl rfl (by kernel_rfl) Tryz.func10 (by kernel_rfl)
  (of_decide_eq_true (by kernel_rfl)) (by unfold Func.isWrapper; first | (rw [if_pos (by decide +kernel)]; kernel_rfl) | (rw [if_neg (by decide +kernel)]; exact ⟨rfl, rfl⟩))
  (fun os started H enc _ => lifted_airExchanges os started H enc)
theorem airExchanges_proved : Rows.AirExchangesCardSaid :=
 Claim7.holds_tied_plain_at .later [] [.data, .data, .data, .data, .sentinel, .sentinel, .pinned] true (true, "e13dca8d4619a64a69fa99222db8f18b16b74485258a6a257541940742401f67") true airExchanges_row_holds (fun _ h => by cases h) (by kernel_rfl) (fun _ h => by cases h) airExchanges_row_tie rfl ⟨rfl, rfl⟩ (by kernel_rfl) rfl
  (fun f fn hf hfn => by
   obtain rfl : f = 10 := Option.some.inj ((show Tryz.prog.funcNamed Tryz.f10.name = some 10 by kernel_rfl).symm.trans hf) |>.symm
   obtain rfl : fn = Tryz.f10 := (Option.some.inj (Tryz.func10.symm.trans hfn)).symm
   exact ⟨by kernel_rfl, fun j t ht => by
    rw [Tryz.params10] at ht
    have hm : t ∈ [52, 54, 9] := by simpa using Array.mem_of_getElem? ht
    have hall : ([52, 54, 9].all fun u => !Tryz.prog.wantsStandIn u) = true := by kernel_rfl
    exact (show Tryz.prog.wantsStandIn t = false by simpa using List.all_eq_true.1 hall t hm)⟩)
  (by kernel_rfl)
end Go.Proofs.YtlddakefmfcblaaGreatDoor
