/- Lemmas of the claim LogsFinds, printed by a program of the claimant and by hand. No statement of the seat is proved here. -/
import Derived.Test.YthljkpeimofbbaaGreatDoorE17x2
set_option linter.unusedVariables false
set_option linter.unusedSimpArgs false
set_option linter.unusedSectionVars false
set_option maxHeartbeats 4000000
set_option maxRecDepth 100000
namespace Go.Proofs.YthljkpeimofbbaaGreatDoor
def isL (b : UInt8) : Bool := decide (65 <= b.toNat) && decide (b.toNat <= 90)
def isD (b : UInt8) : Bool := decide (48 <= b.toNat) && decide (b.toNat <= 57)
def isE (b : UInt8) : Bool := isL b || isD b
theorem Ru {b : UInt8} (h : 128 <= b.toNat) : isL b = false := by unfold isL; simp; omega
theorem Rv {b : UInt8} (h : 128 <= b.toNat) : isD b = false := by unfold isD; simp; omega
theorem TB {b : UInt8} (h : 128 <= b.toNat) : isE b = false := by unfold isE; rw [Ru h, Rv h]; rfl
theorem NC {b : UInt8} (h : isE b = true) : b.toNat < 128 := by unfold isE isL isD at h; simp at h; omega
theorem Up {b : UInt8} (h : isL b = true) : isD b = false := by unfold isL at h; unfold isD; simp at h ⊢; omega
theorem Om (N : Nat) (b : UInt8) : BJ N (b.toNat : Int) = some (isL b) := by
 unfold BJ isL
 congr 2 <;> (rw [decide_eq_decide]; omega)
theorem PW (N : Nat) (b : UInt8) : Bd N (b.toNat : Int) = some (isD b) := by
 unfold Bd isD
 congr 2 <;> (rw [decide_eq_decide]; omega)
theorem Je (N : Nat) {n : Nat} (h : 128 <= n) : BJ N (n : Int) = some false := by
 unfold BJ
 have : decide ((n : Int) <= 90) = false := by rw [decide_eq_false_iff_not]; omega
 rw [this, Bool.and_false]
theorem Kr (N : Nat) {n : Nat} (h : 128 <= n) : Bd N (n : Int) = some false := by
 unfold Bd
 have : decide ((n : Int) <= 57) = false := by rw [decide_eq_false_iff_not]; omega
 rw [this, Bool.and_false]
theorem Rk (N : Nat) (b : UInt8) : C7 N (b.toNat : Int) = some (isE b) := by
 unfold C7 isE
 rw [Om, PW]
 cases isL b <;> rfl
theorem Nv (N : Nat) {n : Nat} (h : 128 <= n) : C7 N (n : Int) = some false := by
 unfold C7
 rw [Je N h, Kr N h]
 rfl
theorem LU (N : Nat) (a b c : Int) : Fm N a b c = some (decide (b <= a) && decide (a <= c)) := rfl
structure Fu (p : Int -> Option Bool) (P : UInt8 -> Bool) : Prop where
 lo : ∀ b : UInt8, b.toNat < 128 -> p (b.toNat : Int) = some (P b)
 hi : ∀ n : Nat, 128 <= n -> p (n : Int) = some false
 big : ∀ b : UInt8, 128 <= b.toNat -> P b = false
theorem QZ (N : Nat) : Fu (fun y0 => BJ N y0) isL := ⟨fun b _ => Om N b, fun _ h => Je N h, fun _ h => Ru h⟩
theorem PO (N : Nat) : Fu (fun y0 => Bd N y0) isD := ⟨fun b _ => PW N b, fun _ h => Kr N h, fun _ h => Rv h⟩
theorem T2 (N : Nat) : Fu (fun y0 => C7 N y0) isE := ⟨fun b _ => Rk N b, fun _ h => Nv N h, fun _ h => TB h⟩
theorem Fu.some {p : Int -> Option Bool} {P : UInt8 -> Bool} (h : Fu p P) (n : Nat) : (p (n : Int)).isSome = true := by
 rcases Nat.lt_or_ge n 128 with h' | h'
 ·have := h.lo (UInt8.ofNat n) (by rw [UInt8.toNat_ofNat']; omega)
  have e : (UInt8.ofNat n).toNat = n := by rw [UInt8.toNat_ofNat']; omega
  rw [e] at this
  rw [this]; rfl
 ·rw [h.hi n h']; rfl
theorem Fu.all {p : Int -> Option Bool} {P : UInt8 -> Bool} (h : Fu p P) : Ja p = true := Hk.2 fun n _ => h.some n
theorem Gg {p : Int -> Option Bool} {P : UInt8 -> Bool} (hp : Fu p P) {N : Nat} (s : UX) (most : Int) (hN : s.length < N) :
  EK N s most p = some (s.all P && (decide (1 <= (s.length : Int)) && decide ((s.length : Int) <= most))) := by
 have key := GI (body := EJ N s most p) s.length (fun i (st : Nat) => st = i /\ (s.take i).all P = true)
  (fun o => (s.all P = true /\ o = .done s.length) \/ (s.all P = false /\ o = .ret false)) (by
   rintro i st hi ⟨rfl, hall⟩
   by_cases h : st < s.length
   ·have hget : s[st]? = some s[st] := List.getElem?_eq_getElem h
    unfold EJ
    simp only [h, decide_true, cond_true]
    have htake : s.take (st + 1) = s.take st ++ [s[st]] := by rw [List.take_add_one, hget]; rfl
    have hfalse : P s[st] = false -> s.all P = false := fun hP => by
     rw [List.all_eq_false]; exact ⟨s[st], List.getElem_mem h, by rw [hP]; simp⟩
    rcases Nat.lt_or_ge s[st].toNat 128 with hb | hb
    ·rw [LE hget hb, hp.lo _ hb]
     simp only [Option.bind_some]
     cases hP : P s[st] with
     | true => exact .inl ⟨st + 1, rfl, ⟨rfl, by rw [htake, List.all_append, hall]; simp [hP]⟩, trivial⟩
     | false => exact .inr ⟨.ret false, rfl, (fun _ e => by cases e), .inr ⟨hfalse hP, rfl⟩⟩
    ·have hs := O6 hget hb
     rw [hp.hi _ hs.1]
     simp only [Option.bind_some]
     exact .inr ⟨.ret false, rfl, (fun _ e => by cases e), .inr ⟨hfalse (hp.big _ hb), rfl⟩⟩
   ·have : st = s.length := by omega
    subst this
    unfold EJ
    simp only [Nat.lt_irrefl, decide_false, cond_false]
    exact .inr ⟨_, rfl, (fun _ e => by cases e), .inl ⟨by simpa using hall, rfl⟩⟩) s.length N 0 0 (by omega) ⟨rfl, rfl⟩ hN
 obtain ⟨o, ho, hR⟩ := key
 unfold EK
 rw [ho]
 rcases hR with ⟨h1, rfl⟩ | ⟨h1, rfl⟩
 ·simp only [Option.bind_some, Ba.k, LU, h1, Bool.true_and]
 ·simp only [Option.bind_some, Ba.k, h1, Bool.false_and]
theorem MZ {p : Int -> Option Bool} {P : UInt8 -> Bool} (hp : Fu p P) {b : UInt8} (h : b.toNat < 128) : EM p b.toNat = P b := by unfold EM; rw [hp.lo b h]; rfl
theorem Jk {p : Int -> Option Bool} {P : UInt8 -> Bool} (hp : Fu p P) (s : UX) (ha : ∀ b, b ∈ s -> b.toNat < 128) : ∀ (f i : Nat), s.length <= i + f -> i <= s.length ->
  (0 <= Go.Lib.idxFuncFrom (EM p) true ⟨s.toArray⟩ f i ↔ (s.drop i).any P = true)
 | 0, i, h1, h2 => by
  have : i = s.length := by omega
  subst this
  simp [Go.Lib.idxFuncFrom]
 | f + 1, i, h1, h2 => by
  unfold Go.Lib.idxFuncFrom
  have hsz : (⟨s.toArray⟩ : ByteArray).size = s.length := by simp [ByteArray.size]
  rw [hsz]
  by_cases h : i < s.length
  ·rw [if_pos h]
   have hget : s[i]? = some s[i] := List.getElem?_eq_getElem h
   have hd : Utf8.decode ⟨s.toArray⟩ i = (s[i].toNat, 1) := LE hget (ha _ (List.getElem_mem h))
   rw [hd]
   simp only
   rw [MZ hp (ha _ (List.getElem_mem h)), List.drop_eq_getElem_cons h, List.any_cons]
   cases hP : P s[i] with
   | true => simp
   | false =>
    simp only [Bool.false_eq_true, if_false, Bool.false_or]
    exact Jk hp s ha f (i + 1) (by omega) (by omega)
  ·have : i = s.length := by omega
   subst this
   simp
theorem Qv {p : Int -> Option Bool} {P : UInt8 -> Bool} (hp : Fu p P) {N : Nat} (s : UX) (ha : ∀ b, b ∈ s -> b.toNat < 128) : ∃ r, B8 N s p = some r /\ decide (r >= 0) = s.any P := by
 refine ⟨_, by unfold B8; rw [if_pos hp.all], ?_⟩
 have := Jk hp s ha s.length 0 (by omega) (by omega)
 have hsz : (⟨s.toArray⟩ : ByteArray).size = s.length := by simp [ByteArray.size]
 unfold Go.Lib.idxFunc
 rw [hsz]
 rw [List.drop_zero] at this
 cases hs : s.any P with
 | true => rw [hs] at this; exact decide_eq_true (this.2 rfl)
 | false =>
  rw [hs] at this
  exact decide_eq_false fun h => by have := this.1 h; cases this
def MC : UX -> Nat
 | [] => 0
 | b :: r => if isD b then r.length + 1 else MC r
def B1 (s : UX) : Nat := MC s.reverse
theorem OC : B1 [] = 0 := rfl
theorem QA (l : UX) (b : UInt8) : B1 (l ++ [b]) = if isD b then l.length + 1 else B1 l := by
 unfold B1
 rw [List.reverse_append]
 simp [MC]
theorem NI : ∀ l : UX, MC l <= l.length
 | [] => Nat.le_refl _
 | b :: r => by
  unfold MC
  split
  ·exact Nat.le_refl _
  ·exact Nat.le_succ_of_le (NI r)
theorem S0 (s : UX) : B1 s <= s.length := by unfold B1; have := NI s.reverse; simpa using this
theorem M7 : ∀ l : UX, ∀ b, b ∈ l.take (l.length - MC l) -> isD b = false
 | [], b, h => by simp at h
 | c :: r, b, h => by
  unfold MC at h
  split at h
  ·simp at h
  ·rename_i hc
   have hc' : isD c = false := by simpa using hc
   have := NI r
   rw [show (c :: r).length - MC r = (r.length - MC r) + 1 by simp; omega, List.take_succ_cons] at h
   rcases List.mem_cons.1 h with rfl | h
   ·exact hc'
   ·exact M7 r b h
theorem QB (s : UX) : ∀ b, b ∈ s.drop (B1 s) -> isD b = false := by
 intro b hb
 have h := M7 s.reverse b
 have e : s.reverse.take (s.reverse.length - MC s.reverse) = (s.drop (B1 s)).reverse := by
  rw [List.reverse_drop, List.length_reverse]; rfl
 rw [e] at h
 exact h (by simpa using hb)
theorem Ir (N : Nat) (s : UX) (ha : ∀ b, b ∈ s -> b.toNat < 128) : ∀ (f i : Nat), i <= f -> i <= s.length ->
  Go.Lib.lastIdxFuncFrom (EM fun y0 => Bd N y0) true ⟨s.toArray⟩ f i + 1 = (B1 (s.take i) : Int)
 | 0, i, h1, h2 => by
  have : i = 0 := by omega
  subst this
  simp [Go.Lib.lastIdxFuncFrom, OC]
 | f + 1, 0, h1, h2 => by simp [Go.Lib.lastIdxFuncFrom, OC]
 | f + 1, i + 1, h1, h2 => by
  unfold Go.Lib.lastIdxFuncFrom
  rw [if_pos (Nat.succ_pos i)]
  have h : i < s.length := by omega
  have htake : s.take (i + 1) = s.take i ++ [s[i]] := by rw [List.take_add_one, List.getElem?_eq_getElem h]; rfl
  have hb := ha _ (List.getElem_mem h)
  have hdl : Go.Lib.decodeLastL (s.take (i + 1)) = (s[i].toNat, 1) := by
   unfold Go.Lib.decodeLastL
   rw [if_neg (fun e => by have h9 := congrArg List.length e; rw [List.length_take, List.length_nil] at h9; omega)]
   have hlen : (s.take (i + 1)).length - 1 = i := by rw [List.length_take]; omega
   have hg : (s.take (i + 1)).getD i 0 = s[i] := by
    rw [List.getD_eq_getElem?_getD, List.getElem?_take, if_pos (by omega), List.getElem?_eq_getElem h]; rfl
   rw [hlen, hg, if_pos hb]
  simp only [List.toList_toArray] at *
  rw [hdl]
  simp only
  rw [MZ (PO N) hb, htake, QA]
  cases hP : isD s[i] with
  | true =>
   simp only [if_true]
   rw [List.length_take, Nat.min_eq_left (by omega)]
   simp
  | false =>
   simp only [Bool.false_eq_true, if_false]
   rw [show i + 1 - 1 = i by omega]
   exact Ir N s ha f i (by omega) (by omega)
theorem IC (i : Nat) (h : i < 4611686018427387904) : W64 ((i : Int) + 1) = ((i + 1 : Nat) : Int) := by
 rw [D7 (by omega) (by omega)]; omega
def pcs (c : UInt8) : UX -> List UX
 | [] => [[]]
 | b :: s => if b = c then [] :: pcs c s else match pcs c s with
  | p :: r => (b :: p) :: r
  | [] => [[b]]
theorem Q5 (c : UInt8) : ∀ s, pcs c s ≠ []
 | [] => by simp [pcs]
 | b :: s => by
  unfold pcs
  split
  ·simp
  ·split <;> simp
theorem Jc {c : UInt8} : ∀ {a : UX}, c ∉ a -> pcs c a = [a]
 | [], _ => rfl
 | b :: s, h => by
  have h1 : ¬ b = c := fun e => h (by rw [e]; exact List.mem_cons_self)
  have h2 : c ∉ s := fun hm => h (List.mem_cons_of_mem _ hm)
  unfold pcs
  rw [if_neg h1, Jc h2]
theorem Lj {c : UInt8} : ∀ {a t : UX}, c ∉ a -> pcs c (a ++ c :: t) = a :: pcs c t
 | [], t, _ => by simp [pcs]
 | b :: s, t, h => by
  have h1 : ¬ b = c := fun e => h (by rw [e]; exact List.mem_cons_self)
  have h2 : c ∉ s := fun hm => h (List.mem_cons_of_mem _ hm)
  rw [List.cons_append]
  conv => lhs; unfold pcs
  rw [if_neg h1, Lj h2]
theorem DR {c : UInt8} : ∀ {s : UX}, c ∈ s -> ∃ a t, s = a ++ c :: t /\ c ∉ a
 | b :: s, h => by
  by_cases hb : b = c
  ·exact ⟨[], s, by rw [hb]; rfl, by simp⟩
  ·rcases List.mem_cons.1 h with e | h
   ·exact absurd e.symm hb
   ·obtain ⟨a, t, h1, h2⟩ := DR h
    exact ⟨b :: a, t, by rw [h1]; rfl, fun hm => by
     rcases List.mem_cons.1 hm with e | hm
     ·exact hb e.symm
     ·exact h2 hm⟩
theorem Hv {c : UInt8} : ∀ {s : UX}, c ∉ s -> Go.Lib.index s [c] = -1
 | [], _ => rfl
 | b :: s, h => by
  have h1 : ¬ c = b := fun e => h (by rw [e]; exact List.mem_cons_self)
  have h2 : c ∉ s := fun hm => h (List.mem_cons_of_mem _ hm)
  unfold Go.Lib.index
  rw [if_neg (by simp [List.isPrefixOf]; exact h1), Hv h2]
  rfl
theorem Hu {c : UInt8} : ∀ {a t : UX}, c ∉ a -> Go.Lib.index (a ++ c :: t) [c] = (a.length : Int)
 | [], t, _ => by
  show Go.Lib.index (c :: t) [c] = 0
  unfold Go.Lib.index
  rw [if_pos (by simp [List.isPrefixOf])]
 | b :: s, t, h => by
  have h1 : ¬ c = b := fun e => h (by rw [e]; exact List.mem_cons_self)
  have h2 : c ∉ s := fun hm => h (List.mem_cons_of_mem _ hm)
  rw [List.cons_append]
  unfold Go.Lib.index
  rw [if_neg (by simp [List.isPrefixOf]; exact h1), Hu h2, if_neg (by simp <;> omega)]
  simp
theorem LB {c : UInt8} : ∀ (n f : Nat) (s : UX), s.length <= n -> s.length < f -> Go.Lib.splitK [c] 0 (Go.Lib.countFrom [c] f s) s = pcs c s
 | _, 0, s, _, h => by omega
 | n, f + 1, s, h1, h2 => by
  by_cases hc : c ∈ s
  ·obtain ⟨a, t, rfl, ha⟩ := DR hc
   have hi := Hu (t := t) ha
   unfold Go.Lib.countFrom
   rw [hi, if_neg (by simp <;> omega), Nat.add_comm 1]
   unfold Go.Lib.splitK
   rw [hi, if_neg (by simp <;> omega)]
   have hdrop : (a ++ c :: t).drop (((a.length : Int)).toNat + [c].length) = t := by
    simp
   have htake : (a ++ c :: t).take (((a.length : Int)).toNat + 0) = a := by simp
   rw [hdrop, htake, Lj ha]
   have hl : t.length < n := by simp at h1; omega
   obtain ⟨n', rfl⟩ : ∃ n', n = n' + 1 := ⟨n - 1, by omega⟩
   rw [LB n' f t (by omega) (by simp at h2; omega)]
  ·rw [Jc hc]
   unfold Go.Lib.countFrom
   rw [Hv hc, if_pos (by simp)]
   rfl
theorem N6 (c : UInt8) (s : UX) : Ng s [c] = pcs c s := by
 unfold Ng
 rw [Go.Lib.splitB_data]
 have : Go.Lib.countB ⟨s.toArray⟩ ⟨[c].toArray⟩ = Go.Lib.countFrom [c] (s.length + 1) s := by
  rfl
 rw [this]
 exact LB s.length (s.length + 1) s (Nat.le_refl _) (Nat.lt_succ_self _)
theorem PX {N : Nat} {s : UX} (c : UInt8) (h : s.length < 4294967281) : strings_Split N s [c] = some (pcs c s) := by
 unfold strings_Split
 rw [if_pos ⟨h, by simp⟩, N6]
theorem RK {c : UInt8} {s : UX} (h : c ∉ s) : Go.Lib.cut s [c] = (s, [], false) := by
 unfold Go.Lib.cut
 rw [Hv h, if_neg (by decide)]
theorem RJ {c : UInt8} {a t : UX} (h : c ∉ a) : Go.Lib.cut (a ++ c :: t) [c] = (a, t, true) := by
 unfold Go.Lib.cut
 rw [Hu h, if_pos (by omega)]
 simp only [Int.toNat_natCast, List.length_singleton]
 rw [List.drop_append]
 simp
theorem Qs {α ρ τ : Type} {body : Int -> Option (Ba ρ Int)} {l : List α} (ok : α -> Bool) (bad : ρ) (hb : ∀ i (h : i < l.length), body (i : Int) = some (bif ok l[i] then .next ((i + 1 : Nat) : Int) else .ret bad))
  (he : body (l.length : Int) = some (.done (l.length : Int))) {N : Nat} (hN : l.length < N) (fd : Int -> Option τ) (fr : ρ -> Option τ) : ((AQ body N 0).bind fun o => o.k fr fd) = bif l.all ok then fd l.length else fr bad := by
 obtain ⟨o, ho, hR⟩ := GI (body := body) l.length (fun i s => s = (i : Int) /\ (l.take i).all ok = true) (fun o => (l.all ok = true /\ o = .done (l.length : Int)) \/ (l.all ok = false /\ o = .ret bad)) (by
  rintro i s hi ⟨rfl, hk⟩
  by_cases h : i < l.length
  ·rw [hb i h]
   cases e : ok l[i] with
   | true => exact .inl ⟨_, rfl, ⟨rfl, by rw [List.take_add_one, List.getElem?_eq_getElem h, List.all_append, hk]; simp [e]⟩, h⟩
   | false => exact .inr ⟨_, rfl, (fun _ h => by cases h), .inr ⟨by rw [List.all_eq_false]; exact ⟨l[i], List.getElem_mem h, by rw [e]; simp⟩, rfl⟩⟩
  ·have : i = l.length := by omega
   subst this
   rw [he]
   exact .inr ⟨_, rfl, (fun _ h => by cases h), .inl ⟨by simpa using hk, rfl⟩⟩) l.length N 0 0 (by omega) ⟨rfl, rfl⟩ hN
 rw [ho]
 rcases hR with ⟨h1, rfl⟩ | ⟨h1, rfl⟩ <;> rw [h1] <;> rfl
section
variable {N : Nat} {s : UX}
theorem Ec {i n : Nat} (h : i < n) : decide ((i : Int) < (n : Int)) = true := decide_eq_true (by omega)
theorem C8 {n : Nat} : decide ((n : Int) < (n : Int)) = false := decide_eq_false (by omega)
def wiB (n lo hi : Nat) : Bool := decide (lo <= n) && decide (n <= hi)
def FQ (s : UX) : Bool := s.all isE && wiB s.length 1 4 && s.any isL
def BQ (s : UX) : Bool := s.all isE && wiB (B1 s) 1 4 && (s.take (B1 s)).any isL && wiB (s.length - B1 s) 1 4
def El (s : UX) : Bool := (s.all isL && wiB s.length 1 4) || (s.all isD && wiB s.length 1 1)
theorem Gz (n lo hi : Nat) : (decide (((lo : Nat) : Int) <= (n : Int)) && decide ((n : Int) <= ((hi : Nat) : Int))) = wiB n lo hi := by
 unfold wiB
 congr 1 <;> (rw [decide_eq_decide]; omega)
theorem w14 (n : Nat) : (decide ((1 : Int) <= (n : Int)) && decide ((n : Int) <= (4 : Int))) = wiB n 1 4 := Gz n 1 4
theorem w11 (n : Nat) : (decide ((1 : Int) <= (n : Int)) && decide ((n : Int) <= (1 : Int))) = wiB n 1 1 := Gz n 1 1
theorem Pm (hs : s.length < 4611686018427387904) (hN : s.length < N) : EL N s = some (FQ s) := by
 unfold EL FQ
 rw [Gg (T2 N) s 4 hN, Option.bind_some, w14]
 cases h : (s.all isE && wiB s.length 1 4) with
 | false => rfl
 | true =>
  rw [Bool.and_eq_true] at h
  obtain ⟨r, h1, h2⟩ := Qv (N := N) (QZ N) s (fun b hb => NC (List.all_eq_true.1 h.1 b hb))
  rw [cond_true, h1, Option.bind_some, h2]
  rfl
theorem Ol (hs : s.length < 4611686018427387904) (hN : s.length < N) : DK N s = some (El s) := by
 unfold DK El
 rw [Gg (QZ N) s 4 hN, Gg (PO N) s 1 hN, w14, w11]
 cases s.all isL && wiB s.length 1 4 <;> rfl
theorem OT (s : UX) : s.all isL = (s.all isE && !s.any isD) := by
 induction s with
 | nil => rfl
 | cons b s ih =>
  simp only [List.all_cons, List.any_cons, ih, isE]
  cases hL : isL b with
  | true => rw [Up hL]; simp
  | false => cases isD b <;> cases s.all isE <;> cases s.any isD <;> rfl
theorem Rq (p : Nat -> Bool) (tr : Bool) (s : UX) : ∀ (f i : Nat), i <= s.length -> Go.Lib.lastIdxFuncFrom p tr ⟨s.toArray⟩ f i = -1 \/ (0 <= Go.Lib.lastIdxFuncFrom p tr ⟨s.toArray⟩ f i /\ Go.Lib.lastIdxFuncFrom p tr ⟨s.toArray⟩ f i < (i : Int))
 | 0, _, _ => .inl rfl
 | f + 1, i, hi => by
  unfold Go.Lib.lastIdxFuncFrom
  split
  ·rename_i h0
   have hw := Go.Lib.decodeLastL_width (s.take i) (by rw [List.length_take]; omega)
   simp only [List.toList_toArray] at *
   split
   ·exact .inr ⟨by omega, by omega⟩
   ·rcases Rq p tr s f (i - (Go.Lib.decodeLastL (s.take i)).2) (by omega) with h | h
    ·exact .inl h
    ·exact .inr ⟨h.1, by omega⟩
  ·exact .inl rfl
theorem Tw (hs : s.length < 4611686018427387904) (hN : s.length < N) : ∃ x y, JL N s = some (x, y, BQ s) /\ (BQ s = true -> x = s.take (B1 s) /\ y = s.drop (B1 s)) := by
 have hr : ∃ k : Nat, BE N s (fun y0 => Bd N y0) = some ((k : Int) - 1) /\ k <= s.length /\ ((∀ b, b ∈ s -> b.toNat < 128) -> k = B1 s) := by
  have hsz : (⟨s.toArray⟩ : ByteArray).size = s.length := by simp [ByteArray.size]
  have e : BE N s (fun y0 => Bd N y0) = some (Go.Lib.lastIdxFunc (EM fun y0 => Bd N y0) true ⟨s.toArray⟩) := by
   unfold BE BZ
   rw [if_pos ⟨(PO N).all, by omega⟩]
   rfl
  rw [e]
  unfold Go.Lib.lastIdxFunc
  rw [hsz]
  have hrange := Rq (EM fun y0 => Bd N y0) true s s.length s.length (Nat.le_refl _)
  refine ⟨(Go.Lib.lastIdxFuncFrom (EM fun y0 => Bd N y0) true ⟨s.toArray⟩ s.length s.length + 1).toNat, ?_, ?_, fun ha => ?_⟩
  ·exact congrArg some (by rcases hrange with h | ⟨h, _⟩ <;> omega)
  ·rcases hrange with h | ⟨h1, h2⟩
   ·omega
   ·omega
  ·have := Ir N s ha s.length s.length (Nat.le_refl _) (Nat.le_refl _)
   rw [List.take_length] at this
   omega
 obtain ⟨k, h1, h2, h3⟩ := hr
 have e1 : W64 ((k : Int) - 1 + 1) = (k : Int) := by rw [D7 (by omega) (by omega)]; omega
 have e2 : Mv s 0 (k : Int) = some (s.take k) := by
  have := N5 (a := s) (lo := 0) (hi := k) (Nat.zero_le _) h2
  simpa using this
 have e3 : Mv s (k : Int) (s.length : Int) = some (s.drop k) := by
  rw [N5 h2 (Nat.le_refl _), List.take_of_length_le (by simp)]
 have e4 := Pm (N := N) (s := s.take k) (by rw [List.length_take]; omega) (by rw [List.length_take]; omega)
 have e5 := Gg (QZ N) (s.drop k) 4 (N := N) (by rw [List.length_drop]; omega)
 refine ⟨s.take k, s.drop k, ?_, ?_⟩
 ·unfold JL
  rw [h1, Option.bind_some, e1, e2, Option.bind_some, e3, Option.bind_some, Option.bind_some, e4, Option.bind_some, e5, w14]
  have hbase : (decide ((k : Int) > 0) && (FQ (s.take k) && ((s.drop k).all isL && wiB (s.drop k).length 1 4))) = BQ s := by
   by_cases ha : s.all isE = true
   ·have hk : k = B1 s := h3 fun b hb => NC (List.all_eq_true.1 ha b hb)
    subst hk
    have hle := S0 s
    have e6 : (s.take (B1 s)).all isE = true := List.all_eq_true.2 fun b hb => List.all_eq_true.1 ha b (List.mem_of_mem_take hb)
    have e7 : (s.drop (B1 s)).all isL = true := by
     rw [OT]
     rw [Bool.and_eq_true]
     refine ⟨List.all_eq_true.2 fun b hb => List.all_eq_true.1 ha b (List.mem_of_mem_drop hb), ?_⟩
     rw [Bool.not_eq_true', List.any_eq_false]
     intro b hb
     rw [QB s b hb]; simp
    unfold FQ BQ
    rw [ha, e6, e7, List.length_take, Nat.min_eq_left hle, List.length_drop]
    have e8 : (decide ((B1 s : Int) > 0) && wiB (B1 s) 1 4) = wiB (B1 s) 1 4 := by
     unfold wiB
     cases hd : decide (1 <= B1 s) with
     | false => simp
     | true => rw [decide_eq_true (by have := of_decide_eq_true hd; omega)]; rfl
    rw [<- e8]
    cases decide ((B1 s : Int) > 0) <;> cases wiB (B1 s) 1 4 <;> cases (s.take (B1 s)).any isL <;> rfl
   ·have ha' : s.all isE = false := by simpa using ha
    unfold FQ BQ
    rw [ha']
    have e9 : (s.take k).all isE = false \/ (s.drop k).all isL = false := by
     rw [<- List.take_append_drop k s, List.all_append] at ha'
     cases h5 : (s.take k).all isE with
     | false => exact .inl rfl
     | true =>
      right
      rw [h5, Bool.true_and] at ha'
      rw [OT, ha']
      rfl
    rcases e9 with e9 | e9 <;> rw [e9] <;> simp
  rw [<- hbase]
  cases decide ((k : Int) > 0) <;> cases FQ (s.take k) <;> rfl
 ·intro hb
  have ha : s.all isE = true := by
   unfold BQ at hb
   simp only [Bool.and_eq_true] at hb
   exact hb.1.1.1
  rw [h3 fun b hb => NC (List.all_eq_true.1 ha b hb)]
  exact ⟨rfl, rfl⟩
end
theorem Pp {α ρ τ : Type} {body : Int -> Option (Ba ρ Int)} {l : List α} (f : α -> Option ρ) (hb : ∀ i (h : i < l.length), body (i : Int) = some ((f l[i]).elim (.next ((i + 1 : Nat) : Int)) .ret))
  (he : body (l.length : Int) = some (.done (l.length : Int))) {N : Nat} (hN : l.length < N) (fd : Int -> Option τ) (fr : ρ -> Option τ) : ((AQ body N 0).bind fun o => o.k fr fd) = (l.findSome? f).elim (fd l.length) fr := by
 obtain ⟨o, ho, hR⟩ := GI (body := body) l.length (fun i s => s = (i : Int) /\ l.findSome? f = (l.drop i).findSome? f) (fun o => (l.findSome? f = none /\ o = .done (l.length : Int)) \/ ∃ r, l.findSome? f = some r /\ o = .ret r) (by
  rintro i s hi ⟨rfl, hk⟩
  by_cases h : i < l.length
  ·rw [hb i h]
   rw [List.drop_eq_getElem_cons h, List.findSome?_cons] at hk
   cases e : f l[i] with
   | some r => rw [e] at hk; exact .inr ⟨_, rfl, (fun _ h => by cases h), .inr ⟨r, hk, rfl⟩⟩
   | none => rw [e] at hk; exact .inl ⟨_, rfl, ⟨rfl, hk⟩, h⟩
  ·have : i = l.length := by omega
   subst this
   rw [he]
   rw [List.drop_length] at hk
   exact .inr ⟨_, rfl, (fun _ h => by cases h), .inl ⟨hk, rfl⟩⟩) l.length N 0 0 (by omega) ⟨rfl, by rw [List.drop_zero]⟩ hN
 rw [ho]
 rcases hR with ⟨h1, rfl⟩ | ⟨r, h1, rfl⟩ <;> rw [h1] <;> rfl
theorem Pj (c : UInt8) : ∀ s p, p ∈ pcs c s -> p.length <= s.length
 | [], p, h => by simp [pcs] at h; subst h; simp
 | b :: s, p, h => by
  have ih := Pj c s
  unfold pcs at h
  by_cases hb : b = c
  ·rw [if_pos hb] at h
   rcases List.mem_cons.1 h with rfl | h
   ·simp
   ·exact Nat.le_succ_of_le (ih p h)
  ·rw [if_neg hb] at h
   cases hp : pcs c s with
   | nil => exact absurd hp (Q5 c s)
   | cons q r =>
    rw [hp] at h ih
    simp only at h
    rcases List.mem_cons.1 h with rfl | h
    ·exact Nat.succ_le_succ (ih q List.mem_cons_self)
    ·exact Nat.le_succ_of_le (ih p (List.mem_cons_of_mem _ h))
def zp : Bb := { Area := [], Prefix := [], Suffix := [], Stroke := [] }
abbrev Tri := UX × UX × UX
def MS (ws : List UX) : Option Tri := match ws with
 | [w] => if BQ w then some ([], w, []) else none
 | [a, b] => if FQ a && BQ b && decide (a.length < b.length) then some (a, b, []) else if BQ a && El b then some ([], a, b) else none
 | [a, b, c] => if FQ a && BQ b && El c then some (a, b, c) else none
 | _ => none
def callB (s : UX) : Option Tri := if s.length <= 16 then MS (pcs 47 s) else none
def PS (t : Tri) : Bb := { Area := t.1, Prefix := t.2.1.take (B1 t.2.1), Suffix := t.2.1.drop (B1 t.2.1), Stroke := t.2.2 }
def O3 (s : UX) : Bb × Bool := match callB s with
 | some t => (PS t, true)
 | none => (zp, false)
section
variable {N : Nat}
theorem Jf {w : UX} (hs : w.length < 4611686018427387904) (hN : w.length < N) : ∃ x y, AE N w = some ({ Area := [], Prefix := x, Suffix := y, Stroke := [] }, BQ w) /\ (BQ w = true -> x = w.take (B1 w) /\ y = w.drop (B1 w)) := by
 obtain ⟨x, y, h1, h2⟩ := Tw hs hN
 exact ⟨x, y, by unfold AE; rw [h1]; rfl, h2⟩
theorem TN {w : UX} {z0 : UX -> Option (Bb × Bool)} {p : Bb} {ok : Bool} (h1 : z0 w = some (p, ok)) : C6 N [w] z0 = some (p, ok) := by
 unfold C6
 have i0 : idx [w] 0 = some w := rfl
 simp only [i0, Option.bind_some, h1]
theorem TM {a b : UX} {z0 : UX -> Option (Bb × Bool)} {x y u v : UX} {A ok : Bool} (h1 : z0 b = some ({ Area := u, Prefix := x, Suffix := y, Stroke := v }, ok)) (h3 : EL N a = some A) : C5 N [a, b] z0 = some ({ Area := a, Prefix := x, Suffix := y, Stroke := v }, ok && A && decide (a.length < b.length)) := by
 unfold C5
 have e : decide ((a.length : Int) < (b.length : Int)) = decide (a.length < b.length) := by rw [decide_eq_decide]; omega
 have i0 : idx [a, b] 0 = some a := rfl
 have i1 : idx [a, b] 1 = some b := rfl
 rw [i0, i1]
 simp only [Option.bind_some, h1, h3]
 clear h1 h3
 rw [e]
 generalize decide (a.length < b.length) = D
 cases ok <;> cases A <;> rfl
theorem TL {a b : UX} {z0 : UX -> Option (Bb × Bool)} {x y u v : UX} {A ok : Bool} (h1 : z0 a = some ({ Area := u, Prefix := x, Suffix := y, Stroke := v }, ok)) (h3 : DK N b = some A) : C4 N [a, b] z0 = some ({ Area := u, Prefix := x, Suffix := y, Stroke := b }, ok && A) := by
 unfold C4
 have i0 : idx [a, b] 0 = some a := rfl
 have i1 : idx [a, b] 1 = some b := rfl
 rw [i0, i1]
 simp only [Option.bind_some, h1, h3]
 clear h1 h3
 cases ok <;> cases A <;> rfl
theorem TK {a b c : UX} {z0 : UX -> Option (Bb × Bool)} {x y u v : UX} {A B ok : Bool} (h1 : z0 b = some ({ Area := u, Prefix := x, Suffix := y, Stroke := v }, ok)) (h3 : EL N a = some A) (h4 : DK N c = some B) : C3 N [a, b, c] z0 = some ({ Area := a, Prefix := x, Suffix := y, Stroke := c }, ok && A && B) := by
 unfold C3
 have i0 : idx [a, b, c] 0 = some a := rfl
 have i1 : idx [a, b, c] 1 = some b := rfl
 have i2 : idx [a, b, c] 2 = some c := rfl
 rw [i0, i1, i2]
 simp only [Option.bind_some, h1, h3, h4]
 clear h1 h3 h4
 cases ok <;> cases A <;> cases B <;> rfl
theorem SN {w : UX} (hs : w.length <= 16) (hN : 16 < N) : ∃ x y, C6 N [w] (fun y0 => AE N y0) = some ({ Area := [], Prefix := x, Suffix := y, Stroke := [] }, BQ w) /\ (BQ w = true -> x = w.take (B1 w) /\ y = w.drop (B1 w)) := by
 obtain ⟨x, y, h1, h2⟩ := Jf (w := w) (N := N) (by omega) (by omega)
 exact ⟨x, y, TN (z0 := fun y0 => AE N y0) h1, h2⟩
theorem SM {a b : UX} (ha : a.length <= 16) (hb : b.length <= 16) (hN : 16 < N) : ∃ x y, C5 N [a, b] (fun y0 => AE N y0) = some ({ Area := a, Prefix := x, Suffix := y, Stroke := [] }, BQ b && FQ a && decide (a.length < b.length)) /\ (BQ b = true -> x = b.take (B1 b) /\ y = b.drop (B1 b)) := by
 obtain ⟨x, y, h1, h2⟩ := Jf (w := b) (N := N) (by omega) (by omega)
 exact ⟨x, y, TM (z0 := fun y0 => AE N y0) h1 (Pm (N := N) (s := a) (by omega) (by omega)), h2⟩
theorem SL {a b : UX} (ha : a.length <= 16) (hb : b.length <= 16) (hN : 16 < N) : ∃ x y, C4 N [a, b] (fun y0 => AE N y0) = some ({ Area := [], Prefix := x, Suffix := y, Stroke := b }, BQ a && El b) /\ (BQ a = true -> x = a.take (B1 a) /\ y = a.drop (B1 a)) := by
 obtain ⟨x, y, h1, h2⟩ := Jf (w := a) (N := N) (by omega) (by omega)
 exact ⟨x, y, TL (z0 := fun y0 => AE N y0) h1 (Ol (N := N) (s := b) (by omega) (by omega)), h2⟩
theorem SK {a b c : UX} (ha : a.length <= 16) (hb : b.length <= 16) (hc : c.length <= 16) (hN : 16 < N) : ∃ x y, C3 N [a, b, c] (fun y0 => AE N y0) = some ({ Area := a, Prefix := x, Suffix := y, Stroke := c }, BQ b && FQ a && El c) /\ (BQ b = true -> x = b.take (B1 b) /\ y = b.drop (B1 b)) := by
 obtain ⟨x, y, h1, h2⟩ := Jf (w := b) (N := N) (by omega) (by omega)
 exact ⟨x, y, TK (z0 := fun y0 => AE N y0) h1 (Pm (N := N) (s := a) (by omega) (by omega)) (Ol (N := N) (s := c) (by omega) (by omega)), h2⟩
def O0 (ws : List UX) (fm : Bw) : Option (Bb × Bool) := if fm.words_ = (ws.length : Int) then match fm.split_ ws with
 | some (p, true) => some (p, true)
 | _ => none
 else none
theorem O2 {s : UX} {ws : List UX} (hle : ∀ w, w ∈ ws -> w.length <= 16) (hN : 4 < N) (f2 f3 f4 f5 : List UX -> Option (Bb × Bool))
  (H2 : ∀ w : UX, w.length <= 16 -> ∃ x y, f2 [w] = some ({ Area := [], Prefix := x, Suffix := y, Stroke := [] }, BQ w) /\ (BQ w = true -> x = w.take (B1 w) /\ y = w.drop (B1 w)))
  (H3 : ∀ a b : UX, a.length <= 16 -> b.length <= 16 -> ∃ x y, f3 [a, b] = some ({ Area := a, Prefix := x, Suffix := y, Stroke := [] }, BQ b && FQ a && decide (a.length < b.length)) /\ (BQ b = true -> x = b.take (B1 b) /\ y = b.drop (B1 b)))
  (H4 : ∀ a b : UX, a.length <= 16 -> b.length <= 16 -> ∃ x y, f4 [a, b] = some ({ Area := [], Prefix := x, Suffix := y, Stroke := b }, BQ a && El b) /\ (BQ a = true -> x = a.take (B1 a) /\ y = a.drop (B1 a)))
  (H5 : ∀ a b c : UX, a.length <= 16 -> b.length <= 16 -> c.length <= 16 -> ∃ x y, f5 [a, b, c] = some ({ Area := a, Prefix := x, Suffix := y, Stroke := c }, BQ b && FQ a && El c) /\ (BQ b = true -> x = b.take (B1 b) /\ y = b.drop (B1 b))) :
  ((AQ (CD N s ws [({ words_ := 1, split_ := f2 } : Bw), { words_ := 2, split_ := f3 }, { words_ := 2, split_ := f4 }, { words_ := 3, split_ := f5 }]) N 0).bind fun o => o.k (fun r => some r) (fun _ => some (zp, false))) = some (match MS ws with | some t => (PS t, true) | none => (zp, false)) := by
 generalize hF : ([_, _, _, _] : List Bw) = F
 have htot : ∀ fm, fm ∈ F -> fm.words_ = (ws.length : Int) -> ∃ r, fm.split_ ws = some r := by
  subst hF
  intro fm hfm hw
  simp only [List.mem_cons, List.not_mem_nil, or_false] at hfm
  rcases hfm with rfl | rfl | rfl | rfl <;> simp only at hw ⊢
  ·match ws, hw with
   | [w], _ => obtain ⟨_, _, h, _⟩ := H2 w (hle w (by simp)); exact ⟨_, h⟩
  ·match ws, hw with
   | [a, b], _ => obtain ⟨_, _, h, _⟩ := H3 a b (hle a (by simp)) (hle b (by simp)); exact ⟨_, h⟩
  ·match ws, hw with
   | [a, b], _ => obtain ⟨_, _, h, _⟩ := H4 a b (hle a (by simp)) (hle b (by simp)); exact ⟨_, h⟩
  ·match ws, hw with
   | [a, b, c], _ => obtain ⟨_, _, h, _⟩ := H5 a b c (hle a (by simp)) (hle b (by simp)) (hle c (by simp)); exact ⟨_, h⟩
 have hlen : F.length = 4 := by subst hF; rfl
 have hb : ∀ i (h : i < F.length), CD N s ws F (i : Int) = some ((O0 ws F[i]).elim (.next ((i + 1 : Nat) : Int)) .ret) := by
  intro i h
  unfold CD
  have hi : idx F (i : Int) = some F[i] := by unfold idx; rw [if_pos (by omega)]; simp [h]
  rw [Ec h, cond_true, hi, Option.bind_some, IC i (by omega)]
  have htt := htot _ (List.getElem_mem h)
  generalize F[i] = fm at htt
  unfold O0
  by_cases hw : fm.words_ = (ws.length : Int)
  ·obtain ⟨⟨p, ok⟩, hr⟩ := htt hw
   rw [if_pos hw, show (fm.words_ != (ws.length : Int)) = false by simp [hw], cond_false, hr]
   cases ok <;> rfl
  ·rw [if_neg hw, show (fm.words_ != (ws.length : Int)) = true by simp [hw], cond_true]
   rfl
 have he : CD N s ws F (F.length : Int) = some (.done (F.length : Int)) := by
  unfold CD
  rw [C8, cond_false]
 rw [Pp (l := F) (O0 ws) hb he (by omega)]
 subst hF
 match ws, hle with
 | [], _ => rfl
 | [w], hle =>
  obtain ⟨x, y, h1, h2⟩ := H2 w (hle w (by simp))
  unfold MS
  have e : (([w] : List UX).length : Int) = 1 := rfl
  simp only [List.findSome?_cons, List.findSome?_nil, O0, e, h1]
  cases hB : BQ w with
  | false => rfl
  | true => obtain ⟨rfl, rfl⟩ := h2 hB; rfl
 | [a, b], hle =>
  have ha := hle a (by simp)
  have hb := hle b (by simp)
  obtain ⟨x, y, h1, h2⟩ := H3 a b ha hb
  obtain ⟨x', y', h3, h4⟩ := H4 a b ha hb
  unfold MS
  have e : (([a, b] : List UX).length : Int) = 2 := rfl
  simp only [List.findSome?_cons, List.findSome?_nil, O0, e, h1, h3]
  clear h1 h3 H2 H3 H4 H5 htot hlen hb he
  generalize decide (a.length < b.length) = D
  generalize FQ a = A
  generalize El b = S
  cases hB : BQ b with
  | false =>
   cases hA : BQ a with
   | false => cases A <;> cases D <;> rfl
   | true =>
    obtain ⟨rfl, rfl⟩ := h4 hA
    cases A <;> cases D <;> cases S <;> rfl
  | true =>
   obtain ⟨rfl, rfl⟩ := h2 hB
   cases hA : BQ a with
   | false => cases A <;> cases D <;> rfl
   | true =>
    obtain ⟨rfl, rfl⟩ := h4 hA
    cases A <;> cases D <;> cases S <;> rfl
 | [a, b, c], hle =>
  have ha := hle a (by simp)
  have hb := hle b (by simp)
  have hc := hle c (by simp)
  obtain ⟨x, y, h1, h2⟩ := H5 a b c ha hb hc
  unfold MS
  have e : (([a, b, c] : List UX).length : Int) = 3 := rfl
  simp only [List.findSome?_cons, List.findSome?_nil, O0, e, h1]
  clear h1 H2 H3 H4 H5 htot hlen hb he
  generalize FQ a = A
  generalize El c = S
  cases hB : BQ b with
  | false => cases A <;> cases S <;> rfl
  | true =>
   obtain ⟨rfl, rfl⟩ := h2 hB
   cases A <;> cases S <;> rfl
 | a :: b :: c :: d :: t, _ =>
  unfold MS
  have e : ∀ k : Int, k <= 3 -> ¬ k = ((a :: b :: c :: d :: t).length : Int) := by intro k hk; simp only [List.length_cons]; omega
  simp only [List.findSome?_cons, List.findSome?_nil, O0, if_neg (e 1 (by decide)), if_neg (e 2 (by decide)), if_neg (e 3 (by decide))]
  rfl
theorem SH (s : UX) (hN : 4294967300 < N) : HZ N s = some (O3 s) := by
 unfold HZ O3 callB
 by_cases hl : s.length <= 16
 ·rw [decide_eq_false (by omega), cond_false, if_pos hl, PX 47 (by omega), Option.bind_some]
  have hle := Pj 47 s
  generalize pcs 47 s = ws at hle
  unfold Kh
  rw [Option.bind_some]
  exact O2 (fun w h => Nat.le_trans (hle w h) hl) (by omega) _ _ _ _ (fun w h => SN h (by omega)) (fun a b h h' => SM h h' (by omega)) (fun a b h h' => SL h h' (by omega)) (fun a b c h h' h'' => SK h h' h'' (by omega))
 ·rw [decide_eq_true (by omega), cond_true, if_neg hl]
  rfl
end
section
open Go.Lib (decDigits)
def Qn (a : Nat) (l : UX) : Nat := l.foldl (fun a b => 10 * a + (b.toNat - 48)) a
def KE (l : UX) : Nat := Qn 0 l
theorem M2 (a : Nat) (b : UInt8) (l : UX) : Qn a (b :: l) = Qn (10 * a + (b.toNat - 48)) l := by unfold Qn; rw [List.foldl_cons]
theorem SU {b : UInt8} (h : isD b = true) : 48 <= b.toNat /\ b.toNat <= 57 := by
 unfold isD at h
 simpa only [Bool.and_eq_true, decide_eq_true_eq] using h
theorem SE (l : UX) : ∀ (a k : Nat), l.all isD = true -> a < 10 ^ k -> Qn a l < 10 ^ (k + l.length) := by
 induction l with
 | nil => intro a k _ h; exact h
 | cons b l ih =>
  intro a k hd h
  rw [M2]
  simp only [List.all_cons, Bool.and_eq_true] at hd
  have hb := SU hd.1
  have hp : 10 ^ (k + 1) = 10 ^ k * 10 := Nat.pow_succ ..
  have := ih (10 * a + (b.toNat - 48)) (k + 1) hd.2 (by omega)
  rw [List.length_cons, show k + (l.length + 1) = k + 1 + l.length by omega]
  exact this
theorem SC {l : UX} (h : l.all isD = true) : KE l < 10 ^ l.length := by
 have := SE l 0 0 h (by decide)
 simpa [KE] using this
theorem dig {b : UInt8} (h : isD b = true) : Go.Lib.digitVal b = some (b.toNat - 48) := by
 unfold isD at h
 simp only [Bool.and_eq_true, decide_eq_true_eq] at h
 unfold Go.Lib.digitVal
 rw [if_pos h]
theorem Jn : ∀ (l : UX) (a : Nat), l.all isD = true -> Go.Lib.decFrom a l = some (Qn a l)
 | [], a, _ => rfl
 | b :: l, a, h => by
  simp only [List.all_cons, Bool.and_eq_true] at h
  unfold Go.Lib.decFrom
  rw [dig h.1, M2, Nat.mul_comm 10 a]
  exact Jn l _ h.2
theorem RT {l : UX} (h : l.all isD = true) (hn : 1 <= l.length) : Go.Lib.atoi l = some (KE l : Int) := by
 match l, h, hn with
 | b :: r, h, _ =>
  have hb := h
  simp only [List.all_cons, Bool.and_eq_true] at hb
  have h1 : (b == 45) = false := by rw [beq_eq_false_iff_ne]; rintro rfl; exact absurd hb.1 (by decide)
  have h2 : (b == 43) = false := by rw [beq_eq_false_iff_ne]; rintro rfl; exact absurd hb.1 (by decide)
  unfold Go.Lib.atoi
  simp only [h1, h2, Bool.false_eq_true, if_false]
  unfold Go.Lib.decNat
  simp only [List.isEmpty_cons, Bool.false_eq_true, if_false]
  rw [Jn _ _ h]
  rfl
def JW (s : UX) : Bool := s.all isD && wiB s.length 1 9
def SD (s : UX) : Int := if JW s = true then (KE s : Int) else -1
theorem Sz {k : Nat} (h : k <= 9) : 10 ^ k <= 1000000000 := Nat.le_trans (Nat.pow_le_pow_right (by decide) h) (by decide)
theorem Lk {s : UX} (h : JW s = true) : KE s < 1000000000 /\ 1 <= s.length /\ s.length <= 9 /\ s.all isD = true := by
 unfold JW wiB at h
 simp only [Bool.and_eq_true, decide_eq_true_eq] at h
 exact ⟨Nat.lt_of_lt_of_le (SC h.1) (Sz h.2.2), h.2.1, h.2.2, h.1⟩
section
variable {N : Nat} {s : UX}
theorem LW (hN : s.length < N) : BX N s = some (SD s) := by
 unfold BX SD
 rw [Gg (PO N) s 9 hN, Option.bind_some, show (decide ((1 : Int) <= (s.length : Int)) && decide ((s.length : Int) <= (9 : Int))) = wiB s.length 1 9 from Gz _ 1 9]
 have e : (s.all isD && wiB s.length 1 9) = JW s := rfl
 rw [e]
 cases h : JW s with
 | false => rfl
 | true =>
  have hl := Lk h
  rw [Bool.not_true, cond_false, if_pos rfl]
  unfold DQ
  rw [if_pos (by omega), Go.Lib.atoiAll_short s (by omega), RT hl.2.2.2 hl.2.1]
  rfl
end
def OB (d : Nat) : UInt8 := UInt8.ofNat (48 + d)
theorem OA {d : Nat} (h : d < 10) : (OB d).toNat = 48 + d := by unfold OB; rw [UInt8.toNat_ofNat']; omega
theorem P0 {d : Nat} (h : d < 10) : isD (OB d) = true := by unfold isD; rw [OA h]; simp; omega
theorem Jo {u : Nat} (h : u < 10) : decDigits u = [OB u] := by rw [decDigits, dif_pos h]; rfl
theorem Pw {u : Nat} (h : ¬ u < 10) : decDigits u = decDigits (u / 10) ++ [OB (u % 10)] := by
 conv => lhs; rw [decDigits, dif_neg h]
 rfl
theorem TP (u : Nat) : 1 <= (decDigits u).length := by
 by_cases h : u < 10
 ·rw [Jo h]; simp
 ·rw [Pw h]; simp
theorem TQ (u : Nat) : (decDigits u).all isD = true := by
 induction u using Nat.strongRecOn with
 | _ u ih =>
  by_cases h : u < 10
  ·rw [Jo h]; simp [P0 h]
  ·rw [Pw h, List.all_append, ih (u / 10) (by omega)]
   simp [P0 (Nat.mod_lt u (by decide : 0 < 10))]
theorem NG : ∀ (k u : Nat), u < 10 ^ (k + 1) -> (decDigits u).length <= k + 1
 | 0, u, h => by rw [Jo (by simpa using h)]; simp
 | k + 1, u, h => by
  by_cases hu : u < 10
  ·rw [Jo hu]; simp
  ·rw [Pw hu, List.length_append]
   have := NG k (u / 10) (by rw [Nat.pow_succ] at h; omega)
   simp; omega
def dP (k u : Nat) : UX := List.replicate (k - (decDigits u).length) 48 ++ decDigits u
theorem Px (k u : Nat) : (dP k u).all isD = true := by
 unfold dP
 rw [List.all_append, TQ, Bool.and_true, List.all_eq_true]
 intro b hb
 rw [List.eq_of_mem_replicate hb]; decide
theorem NH (k u : Nat) : k <= (dP k u).length /\ 1 <= (dP k u).length := by
 unfold dP
 have := TP u
 rw [List.length_append, List.length_replicate]
 omega
theorem Jp {k j u : Nat} (h : u < 10 ^ (j + 1)) : (dP k u).length <= max k (j + 1) := by
 unfold dP
 have := NG j u h
 rw [List.length_append, List.length_replicate]
 omega
theorem PM : ∀ n, Go.Lib.repeatL [48] n = List.replicate n 48
 | 0 => rfl
 | n + 1 => by unfold Go.Lib.repeatL; rw [PM n]; rfl
section
variable {N : Nat}
theorem Rm (u : Nat) (h : u <= 1000000000) : strconv_Itoa N (u : Int) = some (decDigits u) := by
 unfold strconv_Itoa
 rw [if_pos (by omega), Go.Lib.itoa_nonneg]
theorem LV (u k : Nat) (h : u <= 1000000000) (hk : k <= 100) : BI N (u : Int) (k : Int) = some (dP k u) := by
 unfold BI
 rw [Rm u h, Option.bind_some]
 have hl : (decDigits u).length <= 10 := NG 9 u (by omega)
 rw [D7 (by omega) (by omega)]
 have e : max (0 : Int) ((k : Int) - ((decDigits u).length : Int)) = ((k - (decDigits u).length : Nat) : Int) := by omega
 rw [e]
 unfold strings_Repeat
 rw [if_pos (by simp; omega), Option.bind_some, Int.toNat_natCast, PM]
 rw [HQ (by simp; omega)]
 rfl
end
end
section
open Go.Lib (decDigits)
def Ta (u : Nat) : UX := decDigits (u / 1440 + 1) ++ 32 :: (dP 2 (u / 60 % 24) ++ dP 2 (u % 60))
def GE (x : Int) : UX × Int := if 0 <= x /\ x <= 20000 then (Ta x.toNat, 0) else ([], 1)
theorem QO (u k : Nat) (h : u < 4611686018427387904) : W64 (Int.tdiv (u : Int) (k : Int)) = ((u / k : Nat) : Int) := by
 have : Int.tdiv (u : Int) (k : Int) = ((u / k : Nat) : Int) := by rw [Int.tdiv_eq_ediv_of_nonneg (by omega)]; rfl
 have h2 : u / k <= u := Nat.div_le_self _ _
 rw [this]
 generalize u / k = v at h2
 rw [D7 (by omega) (by omega)]
theorem QN (u k : Nat) : Int.tmod (u : Int) (k : Int) = ((u % k : Nat) : Int) := by
 rw [Int.tmod_eq_emod_of_nonneg (by omega)]; rfl
theorem SZ {u : Nat} (h : u < 100000) : (decDigits u).length <= 5 := NG 4 u (by omega)
theorem PZ {u : Nat} (h : u < 100) : (dP 2 u).length = 2 := by
 have h1 := NH 2 u
 have h2 := Jp (k := 2) (j := 1) (u := u) (by omega)
 omega
section
variable {N : Nat}
theorem N7 (x : Int) : CJ N x = some (GE x) := by
 unfold CJ GE
 rw [LU, Option.bind_some]
 by_cases h : 0 <= x /\ x <= 20000
 ·rw [if_pos h, decide_eq_true h.1, decide_eq_true h.2]
  obtain ⟨u, rfl⟩ : ∃ u : Nat, x = u := ⟨x.toNat, by omega⟩
  have hu : u <= 20000 := by omega
  simp only [Bool.and_self, Bool.not_true, cond_false]
  have e1 := QO u 1440 (by omega)
  have e2 := QO u 60 (by omega)
  simp only [Int.cast_ofNat_Int] at e1 e2
  have e3 := QN (u / 60) 24
  have e4 := QN u 60
  simp only [Int.cast_ofNat_Int] at e3 e4
  rw [e1, e2, e3, e4, IC (u / 1440) (by omega), Rm _ (by omega), Option.bind_some]
  have hl1 := SZ (u := u / 1440 + 1) (by omega)
  have hl2 := PZ (u := u / 60 % 24) (by omega)
  have hl3 := PZ (u := u % 60) (by omega)
  have p1 := LV (N := N) (u / 60 % 24) 2 (by omega) (by omega)
  have p2 := LV (N := N) (u % 60) 2 (by omega) (by omega)
  simp only [Int.cast_ofNat_Int] at p1 p2
  rw [HQ (by simp; omega), Option.bind_some, p1, Option.bind_some, HQ (by simp; omega), Option.bind_some, p2, Option.bind_some, HQ (by simp; omega), Option.bind_some]
  unfold Ta
  simp
 ·rw [if_neg h]
  have : (decide (0 <= x) && decide (x <= 20000)) = false := by
   rw [Bool.and_eq_false_iff, decide_eq_false_iff_not, decide_eq_false_iff_not]; omega
  rw [this]; rfl
def Mu (p q : Nat) : Nat := (p - 1) * 1440 + q / 100 * 60 + q % 100
theorem R7 {p q : Nat} (h1 : 1 <= p) (hp : p < 1000000000) (hq : q < 1000000000) : W64 ((W64 ((W64 ((W64 ((p : Int) - 1)) * 1440)) + (W64 ((W64 (Int.tdiv (q : Int) 100)) * 60)))) + (Int.tmod (q : Int) 100)) = (Mu p q : Int) := by
 have e1 := QO q 100 (by omega)
 have e2 := QN q 100
 simp only [Int.cast_ofNat_Int] at e1 e2
 rw [e1, e2, D7 (n := (p : Int) - 1) (by omega) (by omega), D7 (n := ((p : Int) - 1) * 1440) (by omega) (by omega), D7 (n := ((q / 100 : Nat) : Int) * 60) (by omega) (by omega)]
 rw [D7 (n := ((p : Int) - 1) * 1440 + ((q / 100 : Nat) : Int) * 60) (by omega) (by omega), D7 (by omega) (by omega)]
 unfold Mu
 omega
def LR (s a b : UX) : Int × Int := if JW a && JW b && decide (1 <= KE a) && decide (GE (Mu (KE a) (KE b)) = (s, 0)) then ((Mu (KE a) (KE b) : Int), 0) else (0, 13)
def Pl (s : UX) : Int × Int := match pcs 32 s with
 | [a, b] => LR s a b
 | _ => (0, 13)
theorem Qo {s : UX} (h : (32 : UInt8) ∈ s) : JW s = false := by
 cases hh : JW s with
 | false => rfl
 | true =>
  have := List.all_eq_true.1 (Lk hh).2.2.2 _ h
  revert this; decide
theorem Rb : JW [] = false := rfl
theorem Q7 (s t : UX) (e : Int) : ((e != 0) || (t != s)) = !decide ((t, e) = (s, 0)) := by
 by_cases h1 : e = 0
 ·by_cases h2 : t = s
  ·subst h1; subst h2; simp
  ·rw [decide_eq_false (fun h => h2 (by injection h))]; simp [h2]
 ·rw [decide_eq_false (fun h => h1 (by injection h))]; simp [h1]
theorem M1 (s a b : UX) (ha : a.length < N) (hb : b.length < N) :
  ((BX N a).bind fun r9 => ((BX N b).bind fun r17 => (bif ((decide (r9 < 1)) || ((decide (r9 > 20000)) || (decide (r17 < 0)))) then some ((0 : Int), (13 : Int)) else ((CJ N (W64 ((W64 ((W64 ((W64 (r9 - 1)) * 1440)) + (W64 ((W64 (Int.tdiv r17 100)) * 60)))) + (Int.tmod r17 100)))).bind fun r38 => (bif ((r38.2 != 0) || (r38.1 != s)) then some (0, 13) else some ((W64 ((W64 ((W64 ((W64 (r9 - 1)) * 1440)) + (W64 ((W64 (Int.tdiv r17 100)) * 60)))) + (Int.tmod r17 100))), 0)))))) = some (LR s a b) := by
 rw [LW ha, LW hb, Option.bind_some, Option.bind_some]
 unfold SD LR
 cases hA : JW a with
 | false =>
  simp only [Bool.false_eq_true, if_false, Bool.false_and]
  rfl
 | true =>
  cases hB : JW b with
  | false =>
   simp only [Bool.false_eq_true, if_false, if_true, Bool.and_false, Bool.false_and]
   rw [show decide ((-1 : Int) < 0) = true from rfl, Bool.or_true, Bool.or_true]; rfl
  | true =>
   simp only [if_true, Bool.and_self, Bool.true_and]
   have hp := Lk hA
   have hq := Lk hB
   generalize KE a = p at hp ⊢
   generalize KE b = q at hq ⊢
   by_cases h1 : 1 <= p
   ·rw [decide_eq_false (show ¬ (p : Int) < 1 by omega), decide_eq_true h1, decide_eq_false (show ¬ (q : Int) < 0 by omega), Bool.false_or, Bool.or_false, Bool.true_and, R7 h1 hp.1 hq.1]
    by_cases h2 : p <= 20000
    ·rw [decide_eq_false (show ¬ (p : Int) > 20000 by omega), cond_false, N7, Option.bind_some, Q7]
     have : ((GE (Mu p q : Int)).1, (GE (Mu p q : Int)).2) = GE (Mu p q : Int) := rfl
     rw [this]
     by_cases h3 : GE (Mu p q : Int) = (s, 0)
     ·rw [decide_eq_true h3, if_pos rfl]; rfl
     ·rw [decide_eq_false h3]; rfl
    ·rw [decide_eq_true (show (p : Int) > 20000 by omega), cond_true]
     have h3 : ¬ GE (Mu p q : Int) = (s, 0) := by
      unfold GE Mu
      rw [if_neg (by omega)]
      intro h; injection h with h1 h2; exact absurd h2 (by decide)
     rw [decide_eq_false h3]; rfl
   ·rw [decide_eq_true (show (p : Int) < 1 by omega), decide_eq_false h1]; rfl
theorem LQ {s a b : UX} (h : JW b = false) : LR s a b = (0, 13) := by unfold LR; rw [h]; simp
theorem N8 (s : UX) (hs : s.length < 4294967281) (hN : 4294967300 < N) : Fp N s = some (Pl s) := by
 unfold Fp
 have hc : strings_Cut N s [32] = some (Go.Lib.cut s [32]) := by unfold strings_Cut; rw [if_pos hs]
 rw [hc, Option.bind_some]
 unfold Pl
 by_cases h : (32 : UInt8) ∈ s
 ·obtain ⟨a, t, rfl, ha⟩ := DR h
  simp only [List.length_append, List.length_cons] at hs
  rw [RJ ha, Lj ha]
  simp only
  rw [M1 _ a t (by omega) (by omega)]
  by_cases ht : (32 : UInt8) ∈ t
  ·obtain ⟨a', t', rfl, ha'⟩ := DR ht
   rw [Lj ha', LQ (Qo ht)]
   cases hp : pcs 32 t' with
   | nil => exact absurd hp (Q5 32 t')
   | cons x l => rfl
  ·rw [Jc ht]
 ·rw [RK h, Jc h]
  simp only
  rw [M1 _ s [] (by omega) (by simp; omega), LQ Rb]
end
end
theorem Ot {ρ : Type} {body : Int -> Option (Ba ρ Int)} {n : Nat} (ok : Nat -> Bool) (bad : Nat -> ρ)
  (hb : ∀ i, i < n -> body (i : Int) = some (bif ok i then .next ((i + 1 : Nat) : Int) else .ret (bad i))) (he : body (n : Int) = some (.done (n : Int))) {N : Nat} (hN : n < N) :
  ((∀ i, i < n -> ok i = true) /\ AQ body N 0 = some (.done (n : Int))) \/ (∃ i, i < n /\ ok i = false /\ (∀ k, k < i -> ok k = true) /\ AQ body N 0 = some (.ret (bad i))) := by
 obtain ⟨o, ho, hR⟩ := GI (body := body) n (fun i s => s = (i : Int) /\ ∀ k, k < i -> ok k = true) (fun o => ((∀ i, i < n -> ok i = true) /\ o = .done (n : Int)) \/ (∃ i, i < n /\ ok i = false /\ (∀ k, k < i -> ok k = true) /\ o = .ret (bad i))) (by
  rintro i s hi ⟨rfl, hk⟩
  by_cases h : i < n
  ·rw [hb i h]
   cases e : ok i with
   | true =>
    refine .inl ⟨_, rfl, ⟨rfl, fun k hk' => ?_⟩, h⟩
    by_cases hki : k = i
    ·subst hki; exact e
    ·exact hk k (by omega)
   | false => exact .inr ⟨_, rfl, (fun _ h => by cases h), .inr ⟨i, h, e, hk, rfl⟩⟩
  ·have : i = n := by omega
   subst this
   rw [he]
   exact .inr ⟨_, rfl, (fun _ h => by cases h), .inl ⟨hk, rfl⟩⟩) n N 0 0 (by omega) ⟨rfl, fun k hk => by omega⟩ hN
 rcases hR with ⟨h1, rfl⟩ | ⟨i, h1, h2, h3, rfl⟩
 ·exact .inl ⟨h1, ho⟩
 ·exact .inr ⟨i, h1, h2, h3, ho⟩
theorem Tm (i : Nat) (h : i < 4611686018427387904) (h0 : 0 < i) : W64 ((i : Int) - 1) = ((i - 1 : Nat) : Int) := by
 rw [D7 (by omega) (by omega)]; omega
section
open Go.Lib (decDigits)
theorem PT (s : UX) : (s != []) = !decide (s = []) := by
 cases s <;> rfl
def jn (l : List UX) : UX := Go.Lib.join l [32]
theorem Tz : jn [] = [] := rfl
theorem Tx (x : UX) : jn [x] = x := Go.Lib.join_one x [32]
section
variable {N : Nat}
theorem T4 (a b : UX) (hN : 4294967300 < N) : Ev N [a, b] = some (if a = [] then b else a) := by
 obtain ⟨M, rfl⟩ : ∃ M, N = M + 3 := ⟨N - 3, by omega⟩
 unfold Ev
 by_cases ha : a = []
 ·rw [if_pos ha]
  by_cases hb : b = []
  ·subst ha; subst hb; rfl
  ·have e1 : Cl (M + 3) [a, b] 0 = some (.next 1) := by subst ha; rfl
   have e2 : Cl (M + 3) [a, b] 1 = some (.ret b) := by
    show (bif (b != ([] : UX)) then some (.ret b) else some (.next (W64 (1 + 1)))) = some (Ba.ret b)
    rw [PT, decide_eq_false hb]; rfl
   rw [AQ, e1]
   simp only
   rw [AQ, e2]
   rfl
 ·rw [if_neg ha]
  have e1 : Cl (M + 3) [a, b] 0 = some (.ret a) := by
   show (bif (a != ([] : UX)) then some (.ret a) else some (.next (W64 (0 + 1)))) = some (Ba.ret a)
   rw [PT, decide_eq_false ha]; rfl
  rw [AQ, e1]
  rfl
theorem KF {l : List AO} {p : AO -> Option Bool} (F : AO -> Bool) (hp : ∀ x, x ∈ l -> p x = some (F x)) (hl : l.length < 4000000000) (hN : 4294967300 < N) : AX N l p = some (l.any F) := by
 unfold AX Bl
 rcases Ot (body := AN N l p) (n := l.length) (fun i => !((l[i]?.map F).getD false)) (fun i => (i : Int)) (by
   intro i hi
   unfold AN
   rw [Ec hi, cond_true, Cf hi, Option.bind_some, hp _ (List.getElem_mem hi), Option.bind_some, IC i (by omega), List.getElem?_eq_getElem hi]
   simp only [Option.map_some, Option.getD_some]
   cases F l[i] <;> rfl) (by
   unfold AN
   rw [C8, cond_false]) (N := N) (by omega) with ⟨g1, g2⟩ | ⟨i, hi, g1, _, g2⟩
 ·rw [g2]
  have : l.any F = false := by
   rw [List.any_eq_false]
   intro x hx
   obtain ⟨i, hi, rfl⟩ := List.getElem_of_mem hx
   have := g1 i hi
   rw [List.getElem?_eq_getElem hi] at this
   simpa using this
  rw [this]; rfl
 ·rw [g2]
  have : l.any F = true := by
   rw [List.any_eq_true]
   rw [List.getElem?_eq_getElem hi] at g1
   exact ⟨l[i], List.getElem_mem hi, by simpa using g1⟩
  rw [this]
  show some (decide ((i : Int) >= 0)) = some true
  rw [decide_eq_true (by omega)]
def Ps (h : Bool) (n m : Int) : Bool := bif h then (decide (1 <= n) && decide (n <= m)) else n == 0
def E8 (L : Ac) (E : Ad) : Bool := Ps L.Report E.Report 599 && (Ps L.Serial E.Serial 99999 && Ps L.Zone E.Zone 99)
theorem Tv (P : AO) : BR N P = some (!Ps P.has_ P.n_ P.most_) := by
 unfold BR Ps
 rw [LU, Option.bind_some]
 obtain ⟨h, n, m, d⟩ := P
 simp only
 cases h with
 | true => cases (decide (1 <= n) && decide (n <= m)) <;> rfl
 | false =>
  by_cases hn : n = 0
  ·subst hn
   rw [show (decide ((1 : Int) <= 0) && decide (0 <= m)) = false by rw [decide_eq_false (by omega)]; rfl]
   rfl
  ·have e1 : (n != 0) = true := by simpa using hn
   have e2 : (n == 0) = false := by simpa using hn
   rw [e1, e2]
   cases (decide (1 <= n) && decide (n <= m)) <;> rfl
theorem LF (L : Ac) (E : Ad) (hN : 4294967300 < N) : BP N L E = some (E8 L E) := by
 unfold BP
 unfold Co
 rw [Option.bind_some, KF (fun P => !Ps P.has_ P.n_ P.most_) (fun x _ => Tv x) (by simp) hN, Option.bind_some]
 unfold E8
 simp
def fs (L : Ac) (E : Ad) : List UX := (if L.Report = true then [dP 1 E.Report.toNat] else []) ++ ((if L.Serial = true then [dP 3 E.Serial.toNat] else []) ++ (if L.Zone = true then [dP 2 E.Zone.toNat] else []))
def S9 (L : Ac) (E : Ad) : UX := if fs L E = [] then [45] else jn (fs L E)
def LP (L : Ac) (E : Ad) : UX × Int := if E8 L E = true then (S9 L E, 0) else ([], 1)
structure OkE (L : Ac) (E : Ad) : Prop where
 r : if L.Report = true then 1 <= E.Report /\ E.Report <= 599 else E.Report = 0
 s : if L.Serial = true then 1 <= E.Serial /\ E.Serial <= 99999 else E.Serial = 0
 z : if L.Zone = true then 1 <= E.Zone /\ E.Zone <= 99 else E.Zone = 0
theorem okE {L : Ac} {E : Ad} (h : E8 L E = true) : OkE L E := by
 unfold E8 Ps at h
 simp only [Bool.and_eq_true] at h
 obtain ⟨h1, h2, h3⟩ := h
 constructor
 ·cases hL : L.Report <;> rw [hL] at h1 <;> simpa using h1
 ·cases hL : L.Serial <;> rw [hL] at h2 <;> simpa using h2
 ·cases hL : L.Zone <;> rw [hL] at h3 <;> simpa using h3
theorem OkE.le {L : Ac} {E : Ad} (h : OkE L E) : (0 <= E.Report /\ E.Report <= 599) /\ (0 <= E.Serial /\ E.Serial <= 99999) /\ 0 <= E.Zone /\ E.Zone <= 99 := by
 obtain ⟨h1, h2, h3⟩ := h
 refine ⟨?_, ?_, ?_⟩
 ·split at h1 <;> omega
 ·split at h2 <;> omega
 ·split at h3 <;> omega
theorem PY {L : Ac} {E : Ad} (h : OkE L E) : ∀ w, w ∈ fs L E -> w.length <= 5 /\ w.all isD = true /\ 1 <= w.length := by
 obtain ⟨h1, h2, h3⟩ := h.le
 intro w hw
 unfold fs at hw
 simp only [List.mem_append] at hw
 have l1 := Jp (k := 1) (j := 2) (u := E.Report.toNat) (by omega)
 have l2 := Jp (k := 3) (j := 4) (u := E.Serial.toNat) (by omega)
 have l3 := Jp (k := 2) (j := 1) (u := E.Zone.toNat) (by omega)
 rcases hw with hw | hw | hw
 ·split at hw
  ·simp at hw; subst hw; exact ⟨by omega, Px _ _, (NH _ _).2⟩
  ·cases hw
 ·split at hw
  ·simp at hw; subst hw; exact ⟨by omega, Px _ _, (NH _ _).2⟩
  ·cases hw
 ·split at hw
  ·simp at hw; subst hw; exact ⟨by omega, Px _ _, (NH _ _).2⟩
  ·cases hw
theorem RA (L : Ac) (E : Ad) : (fs L E).length <= 3 := by
 unfold fs
 split <;> split <;> split <;> simp
theorem Rr : ∀ l : List UX, (∀ w, w ∈ l -> w.length <= 5) -> (jn l).length <= l.length * 6
 | [], _ => by simp [Tz]
 | [x], h => by rw [Tx]; have := h x (by simp); simp; omega
 | x :: y :: r, h => by
  have ih := Rr (y :: r) (fun w hw => h w (List.mem_cons_of_mem _ hw))
  have hx := h x (by simp)
  have : jn (x :: y :: r) = x ++ 32 :: jn (y :: r) := by
   unfold jn
   rw [Go.Lib.join_cons, Go.Lib.join_cons]
   unfold Go.Lib.joinTail
   simp
  rw [this, List.length_append, List.length_cons, List.length_cons (a := x)]
  omega
theorem Ud {L : Ac} {E : Ad} (h : OkE L E) : (jn (fs L E)).length <= 18 := by
 have := Rr (fs L E) (fun w hw => (PY h w hw).1)
 have := RA L E
 omega
theorem T6 {l : List UX} (h : ∀ w, w ∈ l -> 1 <= w.length) : jn l = [] ↔ l = [] := by
 constructor
 ·intro hj
  match l, h, hj with
  | [], _, _ => rfl
  | x :: r, h, hj =>
   exfalso
   unfold jn at hj
   rw [Go.Lib.join_cons] at hj
   have := h x (by simp)
   rw [List.append_eq_nil_iff] at hj
   rw [hj.1] at this
   exact absurd this (by decide)
 ·rintro rfl; rfl
theorem Tr {n : Int} {k : Nat} (h0 : 0 <= n) (h1 : n <= 1000000000) (hk : k <= 100) : BI N n (k : Int) = some (dP k n.toNat) := by
 obtain ⟨u, rfl⟩ : ∃ u : Nat, n = u := ⟨n.toNat, by omega⟩
 exact LV u k (by omega) hk
def Oy (L : Ac) (E : Ad) (i : Nat) : List UX := if i = 0 then (if L.Report = true then [dP 1 E.Report.toNat] else []) else if i = 1 then (if L.Serial = true then [dP 3 E.Serial.toNat] else []) else (if L.Zone = true then [dP 2 E.Zone.toNat] else [])
theorem TF (L : Ac) (E : Ad) : cat 3 (Oy L E) = fs L E := by
 rw [HF, HF, HF]
 unfold fs
 rw [<- List.append_assoc]
 rfl
theorem RB (L : Ac) (E : Ad) (i : Nat) : (Oy L E i).length <= 1 := by
 unfold Oy
 split
 ·split <;> simp
 ·split <;> split <;> simp
theorem QS (L : Ac) (E : Ad) (hN : 4294967300 < N) : Bx N L E = some (LP L E) := by
 unfold Bx LP
 rw [LF L E hN, Option.bind_some]
 cases hv : E8 L E with
 | false => rfl
 | true =>
  have ok := okE hv
  obtain ⟨h1, h2, h3⟩ := ok.le
  rw [Bool.not_true, cond_false, if_pos rfl]
  unfold Co
  rw [Option.bind_some]
  generalize hP : ([_, _, _] : List AO) = P
  have hstep : ∀ (i : Nat) (s : List UX), i < 3 -> s.length + 1 <= 0 + 3 * 1 -> BM N L E true P (s, (i : Int)) = some (.next (s ++ Oy L E i, ((i + 1 : Nat) : Int))) := by
   intro i s hi hs
   have p1 : BI N E.Report 1 = some (dP 1 E.Report.toNat) := Tr (k := 1) h1.1 (by omega) (by omega)
   have p2 : BI N E.Serial 3 = some (dP 3 E.Serial.toNat) := Tr (k := 3) h2.1 (by omega) (by omega)
   have p3 : BI N E.Zone 2 = some (dP 2 E.Zone.toNat) := Tr (k := 2) h3.1 (by omega) (by omega)
   have ha : ∀ w : UX, CC s [w] = some (s ++ [w]) := fun w => S5 (by simp; omega)
   unfold BM
   subst hP
   simp only
   rw [IC i (by omega)]
   match i, hi with
   | 0, _ =>
    show ((bif L.Report then ((BI N E.Report 1).bind fun r88 => ((CC s [r88]).bind fun r101 => some r101)) else some s).bind fun j78 => some (Ba.next (j78, _))) = _
    rw [p1, Option.bind_some, ha]
    unfold Oy
    cases L.Report <;> simp
   | 1, _ =>
    show ((bif L.Serial then ((BI N E.Serial 3).bind fun r88 => ((CC s [r88]).bind fun r101 => some r101)) else some s).bind fun j78 => some (Ba.next (j78, _))) = _
    rw [p2, Option.bind_some, ha]
    unfold Oy
    cases L.Serial <;> simp
   | 2, _ =>
    show ((bif L.Zone then ((BI N E.Zone 2).bind fun r88 => ((CC s [r88]).bind fun r101 => some r101)) else some s).bind fun j78 => some (Ba.next (j78, _))) = _
    rw [p3, Option.bind_some, ha]
    unfold Oy
    cases L.Zone <;> simp
  have hend : ∀ s : List UX, BM N L E true P (s, ((3 : Nat) : Int)) = some (.done (s, ((3 : Nat) : Int))) := by
   intro s
   subst hP
   rfl
  rw [Qr (n := 3) 1 (Oy L E) (fun i _ => RB L E i) (s0 := []) hstep hend (by omega), TF]
  simp only [List.nil_append, Option.bind_some, Ba.k]
  have hj := Ud ok
  have hl := RA L E
  have e1 : strings_Join N (fs L E) [32] = some (jn (fs L E)) := by
   unfold strings_Join
   exact if_pos ⟨by omega, by unfold jn at hj; omega⟩
  rw [e1, Option.bind_some, T4 _ _ hN, Option.bind_some]
  unfold S9
  have := T6 (fun w hw => (PY ok w hw).2.2)
  by_cases hf : fs L E = []
  ·rw [if_pos hf, if_pos (this.2 hf)]
  ·rw [if_neg hf, if_neg (fun h => hf (this.1 h))]
def Hf (h : Bool) (ws : List UX) : List UX × Int := match h, ws with
 | true, w :: r => (r, SD w)
 | _, _ => (ws, 0)
def JU (L : Ac) (ws : List UX) : Ad := { Report := (Hf L.Report ws).2, Serial := (Hf L.Serial (Hf L.Report ws).1).2, Zone := (Hf L.Zone (Hf L.Serial (Hf L.Report ws).1).1).2 }
def Pk (L : Ac) (s : UX) : Ad × Int := if LP L (JU L (pcs 32 s)) = (s, 0) then (JU L (pcs 32 s), 0) else ({ Report := 0, Serial := 0, Zone := 0 }, 1)
theorem MT (h : Bool) (ws : List UX) : ∀ w, w ∈ (Hf h ws).1 -> w ∈ ws := by
 intro w hw
 match h, ws, hw with
 | true, x :: r, hw => exact List.mem_cons_of_mem _ hw
 | true, [], hw => exact hw
 | false, _, hw => exact hw
theorem Ly (h : Bool) (ws : List UX) (hl : ∀ w, w ∈ ws -> w.length < N) : (bif (h && decide ((ws.length : Int) > 0)) then ((idx ws 0).bind fun x80 => ((BX N x80).bind fun r94 => ((sub ws 1 (ws.length : Int)).bind fun r104 => some (r104, r94)))) else some (ws, (0 : Int))) = some (Hf h ws) := by
 match h, ws, hl with
 | false, _, _ => rfl
 | true, [], _ => rfl
 | true, w :: r, hl =>
  have e0 : idx (w :: r) 0 = some w := rfl
  have e1 : sub (w :: r) 1 ((w :: r).length : Int) = some r := by
   unfold sub
   rw [if_pos ⟨by omega, by simp only [List.length_cons]; omega, by omega⟩]
   simp
  rw [decide_eq_true (by simp only [List.length_cons]; omega), e0, e1, Option.bind_some, LW (hl w (by simp))]
  rfl
theorem QT (L : Ac) (s : UX) (hs : s.length < 4294967281) (hN : 4294967300 < N) : DL N L s = some (Pk L s) := by
 unfold DL Pk
 rw [PX 32 hs, Option.bind_some]
 have hle := Pj 32 s
 generalize pcs 32 s = ws at hle
 have hn : ∀ w, w ∈ ws -> w.length < N := fun w hw => by have := hle w hw; omega
 have c0 : ∀ (E : Ad) (b : Bool), ((Co N L E).bind fun r38 => ((idx r38 0).bind fun x46 => (bif x46.has_ then some b else some false))) = some (L.Report && b) := by
  intro E b
  show (bif L.Report then some b else some false) = _
  cases L.Report <;> rfl
 have c1 : ∀ (E : Ad) (b : Bool), ((Co N L E).bind fun r38 => ((idx r38 1).bind fun x46 => (bif x46.has_ then some b else some false))) = some (L.Serial && b) := by
  intro E b
  show (bif L.Serial then some b else some false) = _
  cases L.Serial <;> rfl
 have c2 : ∀ (E : Ad) (b : Bool), ((Co N L E).bind fun r38 => ((idx r38 2).bind fun x46 => (bif x46.has_ then some b else some false))) = some (L.Zone && b) := by
  intro E b
  show (bif L.Zone then some b else some false) = _
  cases L.Zone <;> rfl
 rw [c0, Option.bind_some, Ly L.Report ws hn, Option.bind_some, c1, Option.bind_some]
 have hn1 : ∀ w, w ∈ (Hf L.Report ws).1 -> w.length < N := fun w hw => hn w (MT _ _ w hw)
 rw [Ly L.Serial _ hn1, Option.bind_some, c2, Option.bind_some]
 have hn2 : ∀ w, w ∈ (Hf L.Serial (Hf L.Report ws).1).1 -> w.length < N := fun w hw => hn1 w (MT _ _ w hw)
 rw [Ly L.Zone _ hn2, Option.bind_some]
 show ((Bx N L (JU L ws)).bind _) = _
 rw [QS L _ hN, Option.bind_some, Q7]
 show (bif (!decide (LP L (JU L ws) = (s, 0))) then _ else some (JU L ws, (0 : Int))) = _
 by_cases h : LP L (JU L ws) = (s, 0)
 ·rw [decide_eq_true h, if_pos h]; rfl
 ·rw [decide_eq_false h, if_neg h]; rfl
end
end
def JM (s : UX) : Bool := (callB s).isSome
section
variable {N : Nat}
theorem Se (s : UX) (hN : 4294967300 < N) : Fo N s = some (JM s) := by
 unfold Fo JM
 rw [SH s hN, Option.bind_some]
 unfold O3
 cases callB s <;> rfl
end
def DA (_N : Nat) (s : UX) : Option Bool := some (JM s)
theorem Eg : Ae Tryz.prog 79 := Jx
theorem ES (N : Nat) (w0 : World) (F0 : Mem) (hF : UZ w0 F0) (hG : Bq F0) (x0 : UX) (r : Bool) (h : DA N x0 = some r) :
  Calls Tryz.prog 79 ([(.string ⟨(x0).toArray⟩)] : List Value).toArray w0 (AD w0 F0 fun F' v => v = (.bool r)) := by
 exact Ke 9223372036854775808 w0 F0 hF hG x0 r ((Se x0 (by decide)).trans h)
def Gb (_N : Nat) (s : UX) : Option (Int × Int) := if s.length < 4294967281 then some (Pl s) else none
theorem J8 : Ae Tryz.prog 96 := Jy
theorem K8 (N : Nat) (w0 : World) (F0 : Mem) (hF : UZ w0 F0) (hG : Bq F0) (x0 : UX) (r : (Int × Int)) (h : Gb N x0 = some r) :
  Calls Tryz.prog 96 ([(.string ⟨(x0).toArray⟩)] : List Value).toArray w0 (AD w0 F0 fun F' v => v = (.tuple #[(.int .i64 r.1), (.int .i64 r.2)])) := by
 unfold Gb at h
 split at h
 ·rename_i hs
  exact Kf 9223372036854775808 w0 F0 hF hG x0 r ((N8 x0 hs (by decide)).trans h)
 ·cases h
def CQ (_N : Nat) (L : Ac) (s : UX) : Option (Ad × Int) := if s.length < 4294967281 then some (Pk L s) else none
theorem Bp : Ae Tryz.prog 97 := G9
theorem BA (N : Nat) (w0 : World) (F0 : Mem) (hF : UZ w0 F0) (hG : Bq F0) (x0 : Ac) (x1 : UX) (r : (Ad × Int)) (h : CQ N x0 x1 = some r) :
  Calls Tryz.prog 97 ([(.agg #[(.bool x0.Report), (.bool x0.Serial), (.bool x0.Zone)]), (.string ⟨(x1).toArray⟩)] : List Value).toArray w0 (AD w0 F0 fun F' v => v = (.tuple #[(.agg #[(.int .i64 r.1.Report), (.int .i64 r.1.Serial), (.int .i64 r.1.Zone)]), (.int .i64 r.2)])) := by
 unfold CQ at h
 split at h
 ·rename_i hs
  exact HK 9223372036854775808 w0 F0 hF hG x0 x1 r ((QT x0 x1 hs (by decide)).trans h)
 ·cases h
section
open Go.Lib (decDigits)
def QC (b : UInt8) : Bool := isL b || isD b || b == 47
def L6 (s : UX) : Bool := wiB s.length 1 16 && s.all QC
def N4 (o : Ac) (x : Line) : Bool := decide (1 <= x.Num /\ x.Num <= 65535) && (decide (1 <= x.Khz /\ x.Khz <= 10000000) && (decide (1 <= x.Mode /\ x.Mode <= 3) && (decide (0 <= x.Minute /\ x.Minute <= 20000) && (L6 x.Call && (E8 o x.Sent && E8 o x.Got)))))
end

section
open Go.Lib (decDigits)
def Qu : List Int -> Bool
 | [] => true
 | [_] => true
 | a :: b :: r => decide (a < b) && Qu (b :: r)
def Qq (l : List Int) : Bool := l.all (fun n => decide (1 <= n /\ n <= 20000)) && (Qu l && decide (l.length <= 16))
def hdV (l : Log) (k : Nat) : Bool := match k with
 | 0 => JM l.Call
 | 1 => decide (1 <= l.Category /\ l.Category <= 9)
 | 2 => decide (1 <= l.Power /\ l.Power <= 9999)
 | 3 => decide (0 <= l.Claimed /\ l.Claimed <= 1000000)
 | _ => Qq l.Jumps
end
section
open Go.Lib (decDigits)
def Oh (o : Ac) (l : List Line) (i : Nat) : Bool := match l[i]? with
 | some x => N4 o x && (decide (i = 0) || match l[i - 1]? with
  | some y => decide (y.Num < x.Num) && decide (y.Minute <= x.Minute)
  | none => true)
 | none => true
def GJ (o : Ac) (l : List Line) : Option Nat := (List.range l.length).find? fun i => !Oh o l i
def Ry (l : Log) : Bool := hdV l 0 && (hdV l 1 && (hdV l 2 && (hdV l 3 && hdV l 4)))
def chk (o : Ac) (l : Log) : Int × Int :=
 if l.Jumps.length > 16 \/ l.Lines.length > 400 then (2, 0)
 else if Ry l = false then (21, 0)
 else match GJ o l.Lines with
  | some i => (21, (i : Int) + 1)
  | none => (0, 0)
end
def AP (N : Nat) (x0 : Int) (x1 : Int) (x2 : Int) : Option Bool :=
 some ((decide (x1 <= x0)) && (decide (x0 <= x2)))
theorem AG : Ae Tryz.prog 73 := fun _ _ => by kernel_rfl
theorem AL (N : Nat) (w0 : World) (F0 : Mem) (hF : UZ w0 F0) (x0 : Int) (x1 : Int) (x2 : Int) (r : Bool) (h : AP N x0 x1 x2 = some r) :
  Calls Tryz.prog 73 ([(vi x0), (vi x1), (vi x2)] : List Value).toArray w0 (AD w0 F0 fun F' v => v = (.bool r)) := by
 have hs0 := UE hF
 refine Go 15 Tryz.func73 <| Sq (Rg [0] ?_)
 refine Vs 1 <| Nss (Rg (rG 9) ?_)
 refine UI (fun f w => ∃ (F1 : Mem), HS w0 F0 w F1 [] /\ UC F0 F1 /\ FI f [] [(6, (.bool ((decide (x1 <= x0)) && (decide (x0 <= x2)))))]) ?_ ?_
 ·refine Vs 4 ?_
  refine UH (decide (x1 <= x0)) (fun hb26 => ?_) (fun hb26 => ?_)
  ·refine Vgs hb26 3 ?_
   refine Pk1 hb26 <| Vs 1 ?_
   exact Uy ⟨rfl, F0, hs0, (UD _), (fJ ⟨(congrArg Value.bool (OR hb26 rfl)), trivial⟩)⟩
  ·refine Ss hb26 3 ?_
   refine Pk0 hb26 <| Vs 1 ?_
   exact Uy ⟨rfl, F0, hs0, (UD _), (fJ ⟨(congrArg Value.bool (OS hb26 rfl)), trivial⟩)⟩
 ·rintro f w21 ⟨F1, hs22, le23, ⟨_, rfl⟩⟩
  refine Ab <| Rt ?_
  obtain rfl := Aa h
  exact Re [(.bool ((decide (x1 <= x0)) && (decide (x0 <= x2))))] hs22 rfl
def Ds (N : Nat) (x0 : UX) (r21 : Bool) : (Bool × Int) -> Option (Ba Bool (Bool × Int)) := fun s32 =>
 (bif (decide (s32.2 < (x0.length : Int))) then ((Qb x0 s32.2).bind fun c56 => ((bif s32.1 then ((AP N (W64 c56) 65 90).bind fun r73 => (bif r73 then some true else ((AP N (W64 c56) 48 57).bind fun r84 => (bif r84 then some true else some (c56 == 47))))) else some false).bind fun j62 => some (.next (j62, (W64 (s32.2 + 1)))))) else some (.done (s32.1, s32.2)))
def GG (N : Nat) (x0 : UX) : Option Bool :=
 ((AP N (x0.length : Int) 1 16).bind fun r21 => ((AQ (Ds N x0 r21) N (r21, 0)).bind fun o => o.k (fun r => some r) (fun s41 => some s41.1)))
theorem ME : Ae Tryz.prog 74 := fun _ _ => by kernel_rfl
theorem NV (N : Nat) (w0 : World) (F0 : Mem) (hF : UZ w0 F0) (x0 : UX) (r : Bool) (h : GG N x0 = some r) :
  Calls Tryz.prog 74 ([(sv x0)] : List Value).toArray w0 (AD w0 F0 fun F' v => v = (.bool r)) := by
 have hs0 := UE hF
 refine Go 34 Tryz.func74 <| Sq (Rg [0] ?_)
 refine Vs 1 <| Nss (Rg (rG 4) ?_)
 refine Vs 2 ?_
 obtain ⟨r21, hr22, h23⟩ := bind_some h
 refine Cl' AG hs0 (AL N w0 F0 hs0.pers ((x0.length : Int)) 1 16 _ hr22) ?_
 rintro _ F1 w25 hs26 le27 rfl
 refine Vs 1 <| Nss <| Sq (Rg [0, 1, 2] ?_)
 refine Vs 3 <| Nt ?_
 obtain ⟨o29, ho30, h31⟩ := bind_some h23
 refine UJ (fun f w => ∃ (s41 : (Bool × Int)) (F3 : Mem), o29 = .done s41 /\ HS w0 F0 w F3 [] /\ UC F1 F3 /\ FI f [] [(3, (.bool s41.1))]) ?_ ?_
 ·refine Bk ?_
  refine UB (by kernel_rfl) (fun m f w => ∃ (s32 : (Bool × Int)) (F2 : Mem), AQ (Ds N x0 r21) m s32 = some o29 /\ HS w0 F0 w F2 [] /\ UC F1 F2 /\ FI f [] [(0, (sv x0)), (3, (.bool s32.1)), (10, (vi (x0.length : Int))), (11, (vi s32.2))]) N ⟨(r21, 0), F1, ho30, hs26, (UD _), fI⟩ ?_
  rintro m47 f w33 ⟨s32, F2, hit48, hs34, le35, ⟨_, rfl⟩⟩
  obtain ⟨m49, fl50, rfl, hb51, hnx52⟩ := AH hit48
  refine Sq (Rg [0] ?_)
  refine Vs 1 <| Nss <| Cd hb51 (fun hb53 h54 => ?_) (fun hb53 h55 => ?_)
  ·refine Sc ?_
   refine Ab <| Sq <| Bk <| Sq (Rg [0, 1] ?_)
   refine Vs 2 <| Nss (Rg (rG 4) ?_)
   refine Vs 2 ?_
   obtain ⟨c56, hr57, h58⟩ := bind_some h54
   refine V 16 5 (N9 (t := 9) (x := (.tmp 14)) (y := (.tmp 15)) (a := x0) (k := .i64) (i := s32.2) (v := c56) rfl rfl (by kernel_rfl) hr57) <| Vs 1 <| Nt <| Rg (rG 16) ?_
   obtain ⟨j62, hj68, h69⟩ := bind_some h58
   refine UI (fun f w => ∃ (F4 : Mem), HS w0 F0 w F4 [] /\ UC F2 F4 /\ FI f [] [(0, (sv x0)), (3, (.bool j62)), (10, (vi (x0.length : Int))), (11, (vi s32.2))]) ?_ ?_
   ·refine Vs 2 ?_
    refine Sp hj68 (fun hb70 h71 => ?_) (fun hb70 h72 => ?_)
    ·refine Vgs hb70 2 ?_
     obtain ⟨r73, hr74, h75⟩ := bind_some h71
     refine Cg hb70 AG hs34 (AL N w33 F2 hs34.pers ((W64 c56)) 65 90 _ hr74) ?_
     rintro _ F5 w77 hs78 le79 rfl
     refine Vgs hb70 1 <| Sp h75 (fun hb81 h82 => ?_) (fun hb81 h83 => ?_)
     ·refine Ss hb81 3 ?_
      refine Pg1 hb70 hb81 <| Vgs hb70 1 <| Ss (rfl : true = true) 2 <| Pg1 hb70 (rfl : true = true) <| Pk1 hb70 <| Vs 1 ?_
      obtain rfl := Aa h82
      exact Uy ⟨rfl, F5, hs78, le79, fI⟩
     ·refine Vgs hb81 2 ?_
      obtain ⟨r84, hr85, h86⟩ := bind_some h83
      refine Cg hb81 AG hs78 (AL N w77 F5 hs78.pers ((W64 c56)) 48 57 _ hr85) ?_
      rintro _ F6 w88 hs89 le90 rfl
      refine Pg0 hb70 hb81 <| Vgs hb70 1 <| Sp h86 (fun hb92 h93 => ?_) (fun hb92 h94 => ?_)
      ·refine Ss hb92 2 ?_
       refine Pg1 hb70 hb92 <| Pk1 hb70 <| Vs 1 ?_
       obtain rfl := Aa h93
       exact Uy ⟨rfl, F6, hs89, (le79.t le90), fI⟩
      ·refine Vgs hb92 2 ?_
       refine Pg0 hb70 hb92 <| Pk1 hb70 <| Vs 1 ?_
       obtain rfl := Aa h94
       exact Uy ⟨rfl, F6, hs89, (le79.t le90), fI⟩
    ·refine Ss hb70 4 ?_
     refine Su' 3 <| Ss hb70 2 <| Su' 2 <| Ss hb70 1 <| Pk0 hb70 <| Vs 1 ?_
     obtain rfl := Aa h72
     exact Uy ⟨rfl, F2, hs34, (UD _), fI⟩
   ·rintro f w59 ⟨F4, hs60, le61, ⟨_, rfl⟩⟩
    refine Ar <| Ab <| Rg [0, 1] <| Vs 2 <| Uy ?_
    have hn95 := AM h69 hnx52
    exact ⟨m49, Nat.lt_succ_self _, (j62, (W64 (s32.2 + 1))), F4, hn95, hs60, (le35.t le61), fI⟩
  ·refine Ex ?_
   refine Aq <| Aq <| Az rfl ?_
   have ho96 := AJ h55 hnx52
   exact .inl ⟨rfl, (s32.1, s32.2), F2, ho96, hs34, le35, fI⟩
 ·rintro f w42 ⟨s41, F3, rfl, hs43, le44, ⟨_, rfl⟩⟩
  have h97 := Bn h31
  refine Ab <| Sq (Rg [0, 1] ?_)
  refine Vs 2 <| Nt <| Rt ?_
  obtain rfl := Aa h97
  exact Re [(.bool s41.1)] hs43 rfl
def CX (N : Nat) (x0 : Ac) (x1 : Line) : Option Bool :=
 (((AP N x1.Num 1 65535).bind fun r35 => (bif r35 then ((AP N x1.Khz 1 10000000).bind fun r46 => (bif r46 then ((AP N x1.Mode 1 3).bind fun r57 => (bif r57 then ((AP N x1.Minute 0 20000).bind fun r68 => (bif r68 then ((GG N x1.Call).bind fun r79 => (bif r79 then ((BP N ({ Report := x0.Report, Serial := x0.Serial, Zone := x0.Zone } : Ac) ({ Report := x1.Sent.Report, Serial := x1.Sent.Serial, Zone := x1.Sent.Zone } : Ad)).bind fun r90 => (bif r90 then ((BP N ({ Report := x0.Report, Serial := x0.Serial, Zone := x0.Zone } : Ac) ({ Report := x1.Got.Report, Serial := x1.Got.Serial, Zone := x1.Got.Zone } : Ad)).bind fun r101 => some r101) else some false)) else some false)) else some false)) else some false)) else some false)) else some false)).bind fun j30 => some j30)
theorem FL : Ae Tryz.prog 21 := fun _ _ => by kernel_rfl
theorem Gw (N : Nat) (w0 : World) (F0 : Mem) (hF : UZ w0 F0) (x0 : Ac) (x1 : Line) (r : Bool) (h : CX N x0 x1 = some r) :
  Calls Tryz.prog 21 ([(.agg (Ai x0)), (.agg (BF x1))] : List Value).toArray w0 (AD w0 F0 fun F' v => v = (.bool r)) := by
 have hs0 := UE hF
 refine Go 40 Tryz.func21 <| Sq (Rg [0, 1, 2] ?_)
 refine Bx' 23 (Ai x0) hs0 (fun b21 w22 hs23 => ?_)
 refine Bx' 34 (BF x1) hs23 (fun b24 w25 hs26 => ?_)
 refine Vs 1 <| Nss (Rg (rG 36) ?_)
 obtain ⟨j30, hj33, h34⟩ := bind_some h
 refine UI (fun f w => ∃ (F1 : Mem), HS w0 F0 w F1 [] /\ UC F0 F1 /\ FI f [] [(4, (.bool j30))]) ?_ ?_
 ·refine Vs 1 ?_
  refine Ld hs26.at0 ?_
  obtain ⟨r35, hr36, h37⟩ := bind_some hj33
  refine Cl' AG hs26 (AL N w25 F0 hs26.pers x1.Num 1 65535 _ hr36) ?_
  rintro _ F2 w39 hs40 le41 rfl
  refine Vs 1 <| Sp h37 (fun hb43 h44 => ?_) (fun hb43 h45 => ?_)
  ·refine Vgs hb43 1 ?_
   refine Lg hb43 hs40.at0 ?_
   obtain ⟨r46, hr47, h48⟩ := bind_some h44
   refine Cg hb43 AG hs40 (AL N w39 F2 hs40.pers x1.Khz 1 10000000 _ hr47) ?_
   rintro _ F3 w50 hs51 le52 rfl
   refine Pk1 hb43 <| Vs 1 <| Sp h48 (fun hb54 h55 => ?_) (fun hb54 h56 => ?_)
   ·refine Vgs hb54 1 ?_
    refine Lg hb54 hs51.at0 ?_
    obtain ⟨r57, hr58, h59⟩ := bind_some h55
    refine Cg hb54 AG hs51 (AL N w50 F3 hs51.pers x1.Mode 1 3 _ hr58) ?_
    rintro _ F4 w61 hs62 le63 rfl
    refine Pk1 hb54 <| Vs 1 <| Sp h59 (fun hb65 h66 => ?_) (fun hb65 h67 => ?_)
    ·refine Vgs hb65 1 ?_
     refine Lg hb65 hs62.at0 ?_
     obtain ⟨r68, hr69, h70⟩ := bind_some h66
     refine Cg hb65 AG hs62 (AL N w61 F4 hs62.pers x1.Minute 0 20000 _ hr69) ?_
     rintro _ F5 w72 hs73 le74 rfl
     refine Pk1 hb65 <| Vs 1 <| Sp h70 (fun hb76 h77 => ?_) (fun hb76 h78 => ?_)
     ·refine Vgs hb76 1 ?_
      refine Lg hb76 hs73.at0 ?_
      obtain ⟨r79, hr80, h81⟩ := bind_some h77
      refine Cg hb76 ME hs73 (NV N w72 F5 hs73.pers x1.Call _ hr80) ?_
      rintro _ F6 w83 hs84 le85 rfl
      refine Pk1 hb76 <| Vs 1 <| Sp h81 (fun hb87 h88 => ?_) (fun hb87 h89 => ?_)
      ·refine Lg hb87 hs84.at1 ?_
       refine Vgs hb87 1 <| Lg hb87 hs84.at0 ?_
       obtain ⟨r90, hr91, h92⟩ := bind_some h88
       refine Cg hb87 CY hs84 (Do N w83 F6 hs84.pers (({ Report := x0.Report, Serial := x0.Serial, Zone := x0.Zone } : Ac)) (({ Report := x1.Sent.Report, Serial := x1.Sent.Serial, Zone := x1.Sent.Zone } : Ad)) _ hr91) ?_
       rintro _ F7 w94 hs95 le96 rfl
       refine Pk1 hb87 <| Vs 1 <| Sp h92 (fun hb98 h99 => ?_) (fun hb98 h100 => ?_)
       ·refine Lg hb98 hs95.at1 ?_
        refine Vgs hb98 1 <| Lg hb98 hs95.at0 ?_
        obtain ⟨r101, hr102, h103⟩ := bind_some h99
        refine Cg hb98 CY hs95 (Do N w94 F7 hs95.pers (({ Report := x0.Report, Serial := x0.Serial, Zone := x0.Zone } : Ac)) (({ Report := x1.Got.Report, Serial := x1.Got.Serial, Zone := x1.Got.Zone } : Ad)) _ hr102) ?_
        rintro _ F8 w105 hs106 le107 rfl
        refine Pk1 hb98 <| Vs 1 ?_
        obtain rfl := Aa h103
        exact Uy ⟨rfl, F8, hs106.dr0.dr0, ((((((le41.t le52).trans le63).trans le74).trans le85).trans le96).trans le107), fI⟩
       ·refine Ss hb98 4 ?_
        refine Pk0 hb98 <| Vs 1 ?_
        obtain rfl := Aa h100
        exact Uy ⟨rfl, F7, hs95.dr0.dr0, (((((le41.t le52).trans le63).trans le74).trans le85).trans le96), fI⟩
      ·refine Ss hb87 4 ?_
       refine Pk0 hb87 <| Vs 1 <| Ss (rfl : false = false) 4 <| Pk0 (rfl : false = false) <| Vs 1 ?_
       obtain rfl := Aa h89
       exact Uy ⟨rfl, F6, hs84.dr0.dr0, ((((le41.t le52).trans le63).trans le74).trans le85), fI⟩
     ·refine Ss hb76 3 ?_
      refine Pk0 hb76 <| Vs 1 <| Ss (rfl : false = false) 4 <| Pk0 (rfl : false = false) <| Vs 1 <| Ss (rfl : false = false) 4 <| Pk0 (rfl : false = false) <| Vs 1 ?_
      obtain rfl := Aa h78
      exact Uy ⟨rfl, F5, hs73.dr0.dr0, (((le41.t le52).trans le63).trans le74), fI⟩
    ·refine Ss hb65 3 ?_
     refine Pk0 hb65 <| Vs 1 <| Ss (rfl : false = false) 3 <| Pk0 (rfl : false = false) <| Vs 1 <| Ss (rfl : false = false) 4 <| Pk0 (rfl : false = false) <| Vs 1 <| Ss (rfl : false = false) 4 <| Pk0 (rfl : false = false) <| Vs 1 ?_
     obtain rfl := Aa h67
     exact Uy ⟨rfl, F4, hs62.dr0.dr0, ((le41.t le52).trans le63), fI⟩
   ·refine Ss hb54 3 ?_
    refine Pk0 hb54 <| Vs 1 <| Ss (rfl : false = false) 3 <| Pk0 (rfl : false = false) <| Vs 1 <| Ss (rfl : false = false) 3 <| Pk0 (rfl : false = false) <| Vs 1 <| Ss (rfl : false = false) 4 <| Pk0 (rfl : false = false) <| Vs 1 <| Ss (rfl : false = false) 4 <| Pk0 (rfl : false = false) <| Vs 1 ?_
    obtain rfl := Aa h56
    exact Uy ⟨rfl, F3, hs51.dr0.dr0, (le41.t le52), fI⟩
  ·refine Ss hb43 3 ?_
   refine Pk0 hb43 <| Vs 1 <| Ss (rfl : false = false) 3 <| Pk0 (rfl : false = false) <| Vs 1 <| Ss (rfl : false = false) 3 <| Pk0 (rfl : false = false) <| Vs 1 <| Ss (rfl : false = false) 3 <| Pk0 (rfl : false = false) <| Vs 1 <| Ss (rfl : false = false) 4 <| Pk0 (rfl : false = false) <| Vs 1 <| Ss (rfl : false = false) 4 <| Pk0 (rfl : false = false) <| Vs 1 ?_
   obtain rfl := Aa h45
   exact Uy ⟨rfl, F2, hs40.dr0.dr0, le41, fI⟩
 ·rintro f w27 ⟨F1, hs28, le29, ⟨_, rfl⟩⟩
  refine Ab <| Rt ?_
  obtain rfl := Aa h34
  exact Re [(.bool j30)] hs28 rfl




def En (N : Nat) (x0 : (List Int)) : Int -> Option (Ba Bool Int) := fun s24 =>
 (bif (decide (s24 < (x0.length : Int))) then ((idx x0 s24).bind fun x48 => (((AP N x48 1 20000).bind fun r74 => (bif (!r74) then some true else (bif (decide (s24 > 0)) then ((idx x0 (W64 (s24 - 1))).bind fun x88 => some (decide (x48 <= x88))) else some false))).bind fun j65 => (bif j65 then some (.ret false) else some (.next (W64 (s24 + 1)))))) else some (.done s24))
def Ee (N : Nat) (x0 : (List Int)) : Option Bool :=
 ((AQ (En N x0) N 0).bind fun o => o.k (fun r => some r) (fun s33 => some (decide ((x0.length : Int) <= 16))))
theorem FU : Ae Tryz.prog 80 := fun _ _ => by kernel_rfl
theorem GP (N : Nat) (w0 : World) (F0 : Mem) (hF : UZ w0 F0) (x0 : (List Int)) (a0_0 : UY) (n0_0 : Nat) (hb0_0 : LC x0.length n0_0) (hs0_0 : SlA AB F0 a0_0 x0) (r : Bool) (h : Ee N x0 = some r) :
  Calls Tryz.prog 80 ([(.slice a0_0 x0.length n0_0)] : List Value).toArray w0 (AD w0 F0 fun F' v => v = (.bool r)) := by
 have hs0 := UE hF
 refine Go 32 Tryz.func80 <| Sq (Rg [0] ?_)
 refine Vs 1 <| Nss <| Sq (Rg [0, 1, 2] ?_)
 refine Vs 3 <| Nt ?_
 obtain ⟨o21, ho22, h23⟩ := bind_some h
 refine UJ (fun f w => ∃ (s33 : Int) (F2 : Mem), o21 = .done s33 /\ HS w0 F0 w F2 [] /\ UC F0 F2 /\ FI f [] [(0, (.slice a0_0 x0.length n0_0))]) ?_ ?_
 ·refine Bk ?_
  refine UB (by kernel_rfl) (fun m f w => ∃ (s24 : Int) (F1 : Mem), AQ (En N x0) m s24 = some o21 /\ HS w0 F0 w F1 [] /\ UC F0 F1 /\ FI f [] [(0, (.slice a0_0 x0.length n0_0)), (5, (.slice a0_0 x0.length n0_0)), (6, (vi (x0.length : Int))), (7, (vi s24))]) N ⟨0, F0, ho22, hs0, (UD _), fI⟩ ?_
  rintro m39 f w25 ⟨s24, F1, hit40, hs26, le27, ⟨_, rfl⟩⟩
  obtain ⟨m41, fl42, rfl, hb43, hnx44⟩ := AH hit40
  refine Sq (Rg [0] ?_)
  refine Vs 1 <| Nss <| Cd hb43 (fun hb45 h46 => ?_) (fun hb45 h47 => ?_)
  ·refine Sc ?_
   refine Ab <| Sq <| Bk <| Sq (Rg (rG 5) ?_)
   refine Vs 1 ?_
   obtain ⟨x48, hx49, h51⟩ := bind_some h46
   obtain ⟨hi50, hx49'⟩ := An hx49
   obtain ⟨b52, o53, C54, E55, fz56, rfl, hF58, hE59⟩ := UK (UF hs0_0 le27) hx49'
   have hc61 := hE59 _ _ hx49'
   refine Ix hi50 <| Lx 0 (hs26.pers _ _ hF58) hc61 <| Vs 2 <| Nss (Rg (rG 16) ?_)
   obtain ⟨j65, hj72, h73⟩ := bind_some h51
   refine UI (fun f w => ∃ (F3 : Mem), HS w0 F0 w F3 [] /\ UC F1 F3 /\ FI f [] [(0, (.slice (some ⟨b52, o53, none⟩) x0.length n0_0)), (5, (.slice (some ⟨b52, o53, none⟩) x0.length n0_0)), (6, (vi (x0.length : Int))), (7, (vi s24)), (27, (.bool j65))]) ?_ ?_
   ·refine Vs 1 ?_
    obtain ⟨r74, hr75, h76⟩ := bind_some hj72
    refine Cl' AG hs26 (AL N w25 F1 hs26.pers x48 1 20000 _ hr75) ?_
    rintro _ F4 w78 hs79 le80 rfl
    refine Vs 2 <| Sp h76 (fun hb82 h83 => ?_) (fun hb82 h84 => ?_)
    ·refine Ss hb82 3 ?_
     refine Su' 7 <| Ss hb82 1 <| Pk1 hb82 ?_
     obtain rfl := Aa h83
     exact Uy ⟨rfl, F4, hs79, le80, fI⟩
    ·refine Vgs hb82 3 ?_
     refine Sp h84 (fun hb85 h86 => ?_) (fun hb85 h87 => ?_)
     ·refine Vgs hb85 4 ?_
      obtain ⟨x88, hx89, h91⟩ := bind_some h86
      obtain ⟨hi90, hx89'⟩ := An hx89
      have hc93 := hE59 _ _ hx89'
      refine Ixg hb85 hi90 <| Lxg hb85 0 (hs79.pers _ _ (le80 _ _ hF58)) hc93 <| Vgs hb85 1 <| Pg1 hb82 hb85 <| Pk0 hb82 ?_
      obtain rfl := Aa h91
      exact Uy ⟨rfl, F4, hs79, le80, fI⟩
     ·refine Ss hb85 7 ?_
      refine Pg0 hb82 hb85 <| Pk0 hb82 ?_
      obtain rfl := Aa h87
      exact Uy ⟨rfl, F4, hs79, le80, fI⟩
   ·rintro f w62 ⟨F3, hs63, le64, ⟨_, rfl⟩⟩
    refine Ab <| Cd h73 (fun hb94 h95 => ?_) (fun hb94 h96 => ?_)
    ·refine Sq (Rg [0] ?_)
     refine Vs 1 <| Nt <| Rt <| Ax <| Af <| Af <| Ax ?_
     have hret := BW h95 hnx44
     subst hret
     refine .inr <| Af ?_
     obtain rfl := Aa h23
     exact Re [(.bool false)] hs63 rfl
    ·refine Sc ?_
     refine Ar <| Ab <| Rg [0, 1] <| Vs 2 <| Uy ?_
     have hn97 := AM h96 hnx44
     exact ⟨m41, Nat.lt_succ_self _, (W64 (s24 + 1)), F3, hn97, hs63, (le27.t le64), fI⟩
  ·refine Ex ?_
   refine Aq <| Aq <| Az rfl ?_
   have ho98 := AJ h47 hnx44
   exact .inl ⟨rfl, s24, F1, ho98, hs26, le27, fI⟩
 ·rintro f w34 ⟨s33, F2, rfl, hs35, le36, ⟨_, rfl⟩⟩
  have h99 := Bn h23
  refine Ab <| Sq (Rg (rG 4) ?_)
  refine Vs 4 <| Nt <| Rt ?_
  obtain rfl := Aa h99
  exact Re [(.bool (decide ((x0.length : Int) <= 16)))] hs35 rfl
def Dw (N : Nat) (x0 : Ac) (x1 : Log) (j41 : Bool) : Int -> Option (Ba (Int × Int) Int) := fun s106 =>
 (bif (decide (s106 < (x1.Lines.length : Int))) then ((idx x1.Lines s106).bind fun x130 => (((CX N ({ Report := x0.Report, Serial := x0.Serial, Zone := x0.Zone } : Ac) x130).bind fun r165 => (bif (!r165) then some true else (bif (decide (s106 > 0)) then ((idx x1.Lines (W64 (s106 - 1))).bind fun x179 => (bif (decide (x130.Num <= x179.Num)) then some true else ((idx x1.Lines (W64 (s106 - 1))).bind fun x188 => some (decide (x130.Minute < x188.Minute))))) else some false))).bind fun j154 => (bif j154 then some (.ret (21, (W64 (s106 + 1)))) else some (.next (W64 (s106 + 1)))))) else some (.done s106))
def DH (N : Nat) (x0 : Ac) (x1 : Log) : Option (Int × Int) :=
 (bif ((decide ((x1.Jumps.length : Int) > 16)) || (decide ((x1.Lines.length : Int) > 400))) then some (2, 0) else (((DA N x1.Call).bind fun r48 => (bif (!r48) then some true else ((AP N x1.Category 1 9).bind fun r59 => (bif (!r59) then some true else ((AP N x1.Power 1 9999).bind fun r70 => (bif (!r70) then some true else ((AP N x1.Claimed 0 1000000).bind fun r81 => (bif (!r81) then some true else ((Ee N x1.Jumps).bind fun r92 => some (!r92)))))))))).bind fun j41 => (bif j41 then some (21, 0) else ((AQ (Dw N x0 x1 j41) N 0).bind fun o => o.k (fun r => some r) (fun s116 => some (0, 0))))))
theorem FX : Ae Tryz.prog 23 := fun _ _ => by kernel_rfl
theorem GQ (N : Nat) (w0 : World) (F0 : Mem) (hF : UZ w0 F0) (hG : Bq F0) (x0 : Ac) (x1 : Log) (a1_4 : UY) (n1_4 : Nat) (hb1_4 : LC x1.Jumps.length n1_4) (hs1_4 : SlA AB F0 a1_4 x1.Jumps) (a1_5 : UY) (n1_5 : Nat) (hb1_5 : LC x1.Lines.length n1_5) (hs1_5 : SlA AF F0 a1_5 x1.Lines) (r : (Int × Int)) (h : DH N x0 x1 = some r) :
  Calls Tryz.prog 23 ([(.agg (Ai x0)), (.agg (AC x1 a1_4 n1_4 a1_5 n1_5))] : List Value).toArray w0 (AD w0 F0 fun F' v => v = (.tuple #[(vi r.1), (vi r.2)])) := by
 have hs0 := UE hF
 refine Go 89 Tryz.func23 <| Sq (Rg (rG 4) ?_)
 refine Bx' 23 (Ai x0) hs0 (fun b21 w22 hs23 => ?_)
 refine Bx' 27 (AC x1 a1_4 n1_4 a1_5 n1_5) hs23 (fun b24 w25 hs26 => ?_)
 refine Vs 2 <| Nss <| Sq (Rg (rG 10) ?_)
 refine UI (fun f w => ∃ (F1 : Mem), HS w0 F0 w F1 [(sb b24 (AC x1 a1_4 n1_4 a1_5 n1_5) 27), (sb b21 (Ai x0) 23)] /\ UC F0 F1 /\ FI f [] [(2, (pt b21 0)), (3, (pt b24 0)), (17, (.bool ((decide ((x1.Jumps.length : Int) > 16)) || (decide ((x1.Lines.length : Int) > 400)))))]) ?_ ?_
 ·refine Vs 1 ?_
  refine Ld hs26.at0 <| Vs 3 <| UH (decide ((x1.Jumps.length : Int) > 16)) (fun hb34 => ?_) (fun hb34 => ?_)
  ·refine Ss hb34 4 ?_
   refine Pk1 hb34 ?_
   exact Uy ⟨rfl, F0, hs26, (UD _), (fJ ⟨rfl, rfl, (congrArg Value.bool (Hl hb34 rfl)), trivial⟩)⟩
  ·refine Vgs hb34 1 ?_
   refine Lg hb34 hs26.at0 <| Vgs hb34 2 <| Pk0 hb34 ?_
   exact Uy ⟨rfl, F0, hs26, (UD _), (fJ ⟨rfl, rfl, (congrArg Value.bool (Dh hb34 rfl)), trivial⟩)⟩
 ·rintro f w27 ⟨F1, hs28, le29, ⟨_, rfl⟩⟩
  refine Ab <| Cd h (fun hb35 h36 => ?_) (fun hb35 h37 => ?_)
  ·refine Sq (Rg [0, 1] ?_)
   refine Vs 2 <| Nt <| Rt <| Af ?_
   obtain rfl := Aa h36
   exact Re [(vi 2), (vi 0)] hs28 rfl
  ·refine Sc ?_
   refine Ab <| Sq <| Sq (Rg (rG 28) ?_)
   obtain ⟨j41, hj46, h47⟩ := bind_some h37
   refine UI (fun f w => ∃ (F2 : Mem), HS w0 F0 w F2 [(sb b24 (AC x1 a1_4 n1_4 a1_5 n1_5) 27), (sb b21 (Ai x0) 23)] /\ UC F1 F2 /\ FI f [] [(2, (pt b21 0)), (3, (pt b24 0)), (45, (.bool j41))]) ?_ ?_
   ·refine Vs 1 ?_
    refine Ld hs28.at0 ?_
    obtain ⟨r48, hr49, h50⟩ := bind_some hj46
    refine Cl' Eg hs28 (ES N w27 F1 hs28.pers (hG.mono le29) x1.Call _ hr49) ?_
    rintro _ F3 w52 hs53 le54 rfl
    refine Vs 2 <| Sp h50 (fun hb56 h57 => ?_) (fun hb56 h58 => ?_)
    ·refine Ss hb56 4 ?_
     refine Pk1 hb56 <| Vs 1 <| Ss (rfl : true = true) 4 <| Pk1 (rfl : true = true) <| Vs 1 <| Ss (rfl : true = true) 4 <| Pk1 (rfl : true = true) <| Vs 1 <| Ss (rfl : true = true) 4 <| Pk1 (rfl : true = true) ?_
     obtain rfl := Aa h57
     exact Uy ⟨rfl, F3, hs53, le54, fI⟩
    ·refine Vgs hb56 1 ?_
     refine Lg hb56 hs53.at0 ?_
     obtain ⟨r59, hr60, h61⟩ := bind_some h58
     refine Cg hb56 AG hs53 (AL N w52 F3 hs53.pers x1.Category 1 9 _ hr60) ?_
     rintro _ F4 w63 hs64 le65 rfl
     refine Vgs hb56 1 <| Pk0 hb56 <| Vs 1 <| Sp h61 (fun hb67 h68 => ?_) (fun hb67 h69 => ?_)
     ·refine Ss hb67 4 ?_
      refine Pk1 hb67 <| Vs 1 <| Ss (rfl : true = true) 4 <| Pk1 (rfl : true = true) <| Vs 1 <| Ss (rfl : true = true) 4 <| Pk1 (rfl : true = true) ?_
      obtain rfl := Aa h68
      exact Uy ⟨rfl, F4, hs64, (le54.t le65), fI⟩
     ·refine Vgs hb67 1 ?_
      refine Lg hb67 hs64.at0 ?_
      obtain ⟨r70, hr71, h72⟩ := bind_some h69
      refine Cg hb67 AG hs64 (AL N w63 F4 hs64.pers x1.Power 1 9999 _ hr71) ?_
      rintro _ F5 w74 hs75 le76 rfl
      refine Vgs hb67 1 <| Pk0 hb67 <| Vs 1 <| Sp h72 (fun hb78 h79 => ?_) (fun hb78 h80 => ?_)
      ·refine Ss hb78 4 ?_
       refine Pk1 hb78 <| Vs 1 <| Ss (rfl : true = true) 4 <| Pk1 (rfl : true = true) ?_
       obtain rfl := Aa h79
       exact Uy ⟨rfl, F5, hs75, ((le54.t le65).trans le76), fI⟩
      ·refine Vgs hb78 1 ?_
       refine Lg hb78 hs75.at0 ?_
       obtain ⟨r81, hr82, h83⟩ := bind_some h80
       refine Cg hb78 AG hs75 (AL N w74 F5 hs75.pers x1.Claimed 0 1000000 _ hr82) ?_
       rintro _ F6 w85 hs86 le87 rfl
       refine Vgs hb78 1 <| Pk0 hb78 <| Vs 1 <| Sp h83 (fun hb89 h90 => ?_) (fun hb89 h91 => ?_)
       ·refine Ss hb89 4 ?_
        refine Pk1 hb89 ?_
        obtain rfl := Aa h90
        exact Uy ⟨rfl, F6, hs86, (((le54.t le65).trans le76).trans le87), fI⟩
       ·refine Vgs hb89 1 ?_
        refine Lg hb89 hs86.at0 ?_
        obtain ⟨r92, hr93, h94⟩ := bind_some h91
        refine Cg hb89 FU hs86 (GP N w85 F6 hs86.pers x1.Jumps a1_4 n1_4 hb1_4 (UF hs1_4 ((((le29.t le54).trans le65).trans le76).trans le87)) _ hr93) ?_
        rintro _ F7 w96 hs97 le98 rfl
        refine Vgs hb89 1 <| Pk0 hb89 ?_
        obtain rfl := Aa h94
        exact Uy ⟨rfl, F7, hs97, ((((le54.t le65).trans le76).trans le87).trans le98), fI⟩
   ·rintro f w38 ⟨F2, hs39, le40, ⟨_, rfl⟩⟩
    refine Ab <| Cd h47 (fun hb100 h101 => ?_) (fun hb100 h102 => ?_)
    ·refine Sq (Rg [0, 1] ?_)
     refine Vs 2 <| Nt <| Rt <| Af ?_
     obtain rfl := Aa h101
     exact Re [(vi 21), (vi 0)] hs39 rfl
    ·refine Sc ?_
     refine Ab <| Sq <| Sq (Rg (rG 4) ?_)
     refine Vs 1 <| Ld hs39.at0 <| Vs 2 <| Nt ?_
     obtain ⟨o103, ho104, h105⟩ := bind_some h102
     refine UJ (fun f w => ∃ (s116 : Int) (F9 : Mem), o103 = .done s116 /\ HS w0 F0 w F9 [] /\ UC F2 F9 /\ FI f [] []) ?_ ?_
     ·refine Bk ?_
      refine UB (by kernel_rfl) (fun m f w => ∃ (s106 : Int) (F8 : Mem), AQ (Dw N x0 x1 j41) m s106 = some o103 /\ HS w0 F0 w F8 [(sb b24 (AC x1 a1_4 n1_4 a1_5 n1_5) 27), (sb b21 (Ai x0) 23)] /\ UC F2 F8 /\ FI f [] [(2, (pt b21 0)), (3, (pt b24 0)), (47, (.slice a1_5 x1.Lines.length n1_5)), (48, (vi (x1.Lines.length : Int))), (49, (vi s106))]) N ⟨0, F2, ho104, hs39, (UD _), fI⟩ ?_
      rintro m121 f w107 ⟨s106, F8, hit122, hs108, le109, ⟨_, rfl⟩⟩
      obtain ⟨m123, fl124, rfl, hb125, hnx126⟩ := AH hit122
      refine Sq (Rg [0] ?_)
      refine Vs 1 <| Nss <| Cd hb125 (fun hb127 h128 => ?_) (fun hb127 h129 => ?_)
      ·refine Sc ?_
       refine Ab <| Sq <| Bk <| Sq (Rg (rG 6) ?_)
       refine Vs 1 ?_
       obtain ⟨x130, hx131, h133⟩ := bind_some h128
       obtain ⟨hi132, hx131'⟩ := An hx131
       obtain ⟨b134, o135, C136, E137, fz138, rfl, hF140, hE141⟩ := UK (UF hs1_5 ((le29.t le40).trans le109)) hx131'
       have hc143 := hE141 _ _ hx131'
       refine Ix hi132 <| Lx 0 (hs108.pers _ _ hF140) hc143 <| Al' 34 #[(vi 0), (vi 0), (vi 0), (vi 0), (sv (([] : UX))), (vi 0), (vi 0), (vi 0), (vi 0), (vi 0), (vi 0)] hs108 (fun b144 w145 hs146 => ?_)
       refine Vs 1 <| St0 (BF x130) hs146 (fun w147 hs148 => ?_)
       refine Nss ?_
       obtain ⟨j154, hj163, h164⟩ := bind_some h133
       refine RD 32 32 [(sb b144 (BF x130) 34), (sb b24 (AC x1 a1_4 n1_4 (some ⟨b134, o135, none⟩) n1_5) 27), (sb b21 (Ai x0) 23)] [] hs148 (fun f w => ∃ (F10 : Mem), HS w0 F0 w F10 [(sb b24 (AC x1 a1_4 n1_4 (some ⟨b134, o135, none⟩) n1_5) 27), (sb b21 (Ai x0) 23)] /\ UC F8 F10 /\ FI f [] [(2, (pt b21 0)), (3, (pt b24 0)), (6, (vi s106)), (47, (.slice (some ⟨b134, o135, none⟩) x1.Lines.length n1_5)), (48, (vi (x1.Lines.length : Int))), (49, (vi s106)), (85, (.bool j154))]) (fun wd149 hw150 => ?_) ?_
       ·refine Dl 0 (fun _ hq => (hq.1.2 2 _ _ rfl)) ?_
        refine Dl 1 (fun _ hq => (hq.1.2 0 _ _ rfl)) <| D1 2 ?_
        obtain ⟨r165, hr166, h167⟩ := bind_some hj163
        refine DCl FL hw150 (Gw N wd149 F8 hw150.pers (({ Report := x0.Report, Serial := x0.Serial, Zone := x0.Zone } : Ac)) x130 _ hr166) ?_
        rintro _ F11 w169 hs170 le171 rfl
        refine Dvl [3, 4] (tf 5 27) <| Sd h167 (fun hb173 h174 => ?_) (fun hb173 h175 => ?_)
        ·refine Dkl [(5, 59), (6, 60), (7, 61)] 4 false 58 hb173 (tf 8 24) ?_
         refine Dul [(8, 62), (9, 63), (10, 64), (11, 65), (12, 66), (13, 67)] 7 true 61 (tf 14 18) <| Dul [(14, 68), (15, 69), (16, 70), (17, 71), (18, 72)] 7 true 61 (tf 19 13) <| Dul [(19, 73), (20, 74), (21, 75), (22, 76), (23, 77), (24, 78)] 18 false 72 (tf 25 7) <| Dul [(25, 79), (26, 80), (27, 81), (28, 82)] 18 false 72 (tf 29 3) <| Dul [(29, 83)] 7 true 61 (tf 30 2) <| Dkl [(30, 84)] 4 false 58 hb173 (tf 31 1) <| Dtl 31 85 4 _ (tf 32 0) (fun _ hq => p1 58 (.const (.bool true)) (.tmp 84) (.bool true) hb173) ?_
         obtain rfl := Aa h174
         exact UP (by kernel_rfl) ⟨F11, hs170.dr0, le171, fI⟩
        ·refine Dgl 5 59 3 _ (tf 6 26) 4 false 58 hb173 (fun _ hq => mv 6 (vi s106)) ?_
         refine Dgl 6 60 4 (.bool (decide (s106 > 0))) (tf 7 25) 4 false 58 hb173 (fun _ hq => Li (t := 3) (t' := 3) (x := (.tmp 59)) (y := (.const (vi 0))) (k := .i64) (a := s106) (b := 0) rfl rfl) <| Dgl 7 61 4 _ (tf 8 24) 4 false 58 hb173 (fun _ hq => mv 60 (.bool (decide (s106 > 0)))) <| Sd h175 (fun hb176 h177 => ?_) (fun hb176 h178 => ?_)
         ·refine Dgl 8 62 0 (pt b144 0) (tf 9 23) 7 true 61 hb176 (fun _ hq => fa 34 7 0 0 1 b144 0 0) ?_
          refine Dgl 9 63 3 _ (tf 10 22) 7 true 61 hb176 (fun _ hq => ld 3 62 b144 0 false 1 (vi x130.Num) (hq.1.2 0 _ _ rfl)) <| Dgl 10 64 0 (pt b24 5) (tf 11 21) 7 true 61 hb176 (fun _ hq => fa 27 3 5 5 1 b24 0 5) <| Dgl 11 65 25 _ (tf 12 20) 7 true 61 hb176 (fun _ hq => ld 25 64 b24 5 false 1 (.slice (some ⟨b134, o135, none⟩) x1.Lines.length n1_5) (hq.1.2 1 _ _ rfl)) <| Dgl 12 66 3 _ (tf 13 19) 7 true 61 hb176 (fun _ hq => mv 6 (vi s106)) <| Dgl 13 67 3 (vi (W64 (s106 - 1))) (tf 14 18) 7 true 61 hb176 (fun _ hq => HR (t := 3) (t' := 3) (x := (.tmp 66)) (y := (.const (vi 1))) (k := .i64) (a := s106) (b := 1) rfl rfl) ?_
          obtain ⟨x179, hx180, h182⟩ := bind_some h177
          obtain ⟨hi181, hx180'⟩ := An hx180
          have hc184 := hE141 _ _ hx180'
          refine Dgl 14 68 0 (.pointer (some ⟨b134, (o135 + ((W64 (s106 - 1)) : Int).toNat * 11), none⟩)) (tf 15 17) 7 true 61 hb176 (fun _ hq => ix 25 65 67 b134 o135 34 11 96 hi181) <| Dgl 15 69 0 (.pointer (some ⟨b134, (o135 + ((W64 (s106 - 1)) : Int).toNat * 11), none⟩)) (tf 16 16) 7 true 61 hb176 (fun _ hq => fa 34 68 0 0 1 b134 (o135 + ((W64 (s106 - 1)) : Int).toNat * 11) (o135 + ((W64 (s106 - 1)) : Int).toNat * 11)) <| Dgl 16 70 3 _ (tf 17 15) 7 true 61 hb176 (fun _ hq => lx 3 69 0 11 false 1 (vi x179.Num) (hq.1.1 _ _ hF140) hc184) <| Dgl 17 71 4 (.bool (decide (x130.Num <= x179.Num))) (tf 18 14) 7 true 61 hb176 (fun _ hq => Lh (t := 3) (t' := 3) (x := (.tmp 63)) (y := (.tmp 70)) (k := .i64) (a := x130.Num) (b := x179.Num) rfl rfl) <| Dgl 18 72 4 _ (tf 19 13) 7 true 61 hb176 (fun _ hq => mv 71 (.bool (decide (x130.Num <= x179.Num)))) <| Sd h182 (fun hb185 h186 => ?_) (fun hb185 h187 => ?_)
          ·refine Dkl [(19, 73), (20, 74), (21, 75), (22, 76), (23, 77), (24, 78)] 18 false 72 hb185 (tf 25 7) ?_
           refine Dkl [(25, 79), (26, 80), (27, 81), (28, 82)] 18 false 72 hb185 (tf 29 3) <| Dgl 29 83 4 _ (tf 30 2) 7 true 61 hb176 (fun _ hq => p1 72 (.const (.bool true)) (.tmp 82) (.bool true) hb185) <| Dgl 30 84 4 _ (tf 31 1) 4 false 58 hb173 (fun _ hq => p1 61 (.tmp 83) (.const (.bool false)) (.bool true) hb176) <| Dtl 31 85 4 _ (tf 32 0) (fun _ hq => p0 58 (.const (.bool true)) (.tmp 84) (.bool true) hb173) ?_
           obtain rfl := Aa h186
           exact UP (by kernel_rfl) ⟨F11, hs170.dr0, le171, fI⟩
          ·refine Dgl 19 73 0 (pt b144 3) (tf 20 12) 18 false 72 hb185 (fun _ hq => fa 34 7 3 3 1 b144 0 3) ?_
           refine Dgl 20 74 3 _ (tf 21 11) 18 false 72 hb185 (fun _ hq => ld 3 73 b144 3 false 1 (vi x130.Minute) (hq.1.2 0 _ _ rfl)) <| Dgl 21 75 0 (pt b24 5) (tf 22 10) 18 false 72 hb185 (fun _ hq => fa 27 3 5 5 1 b24 0 5) <| Dgl 22 76 25 _ (tf 23 9) 18 false 72 hb185 (fun _ hq => ld 25 75 b24 5 false 1 (.slice (some ⟨b134, o135, none⟩) x1.Lines.length n1_5) (hq.1.2 1 _ _ rfl)) <| Dgl 23 77 3 _ (tf 24 8) 18 false 72 hb185 (fun _ hq => mv 6 (vi s106)) <| Dgl 24 78 3 (vi (W64 (s106 - 1))) (tf 25 7) 18 false 72 hb185 (fun _ hq => HR (t := 3) (t' := 3) (x := (.tmp 77)) (y := (.const (vi 1))) (k := .i64) (a := s106) (b := 1) rfl rfl) ?_
           obtain ⟨x188, hx189, h191⟩ := bind_some h187
           obtain ⟨hi190, hx189'⟩ := An hx189
           have hc193 := hE141 _ _ hx189'
           refine Dgl 25 79 0 (.pointer (some ⟨b134, (o135 + ((W64 (s106 - 1)) : Int).toNat * 11), none⟩)) (tf 26 6) 18 false 72 hb185 (fun _ hq => ix 25 76 78 b134 o135 34 11 96 hi190) <| Dgl 26 80 0 (.pointer (some ⟨b134, ((o135 + ((W64 (s106 - 1)) : Int).toNat * 11) + 3), none⟩)) (tf 27 5) 18 false 72 hb185 (fun _ hq => fa 34 79 3 3 1 b134 (o135 + ((W64 (s106 - 1)) : Int).toNat * 11) ((o135 + ((W64 (s106 - 1)) : Int).toNat * 11) + 3)) <| Dgl 27 81 3 _ (tf 28 4) 18 false 72 hb185 (fun _ hq => lx 3 80 3 11 false 1 (vi x188.Minute) (hq.1.1 _ _ hF140) hc193) <| Dgl 28 82 4 (.bool (decide (x130.Minute < x188.Minute))) (tf 29 3) 18 false 72 hb185 (fun _ hq => I7 (t := 3) (t' := 3) (x := (.tmp 74)) (y := (.tmp 81)) (k := .i64) (a := x130.Minute) (b := x188.Minute) rfl rfl) <| Dgl 29 83 4 _ (tf 30 2) 7 true 61 hb176 (fun _ hq => p0 72 (.const (.bool true)) (.tmp 82) (.bool (decide (x130.Minute < x188.Minute))) hb185) <| Dgl 30 84 4 _ (tf 31 1) 4 false 58 hb173 (fun _ hq => p1 61 (.tmp 83) (.const (.bool false)) (.bool (decide (x130.Minute < x188.Minute))) hb176) <| Dtl 31 85 4 _ (tf 32 0) (fun _ hq => p0 58 (.const (.bool true)) (.tmp 84) (.bool (decide (x130.Minute < x188.Minute))) hb173) ?_
           obtain rfl := Aa h191
           exact UP (by kernel_rfl) ⟨F11, hs170.dr0, le171, fI⟩
         ·refine Dkl [(8, 62), (9, 63), (10, 64), (11, 65), (12, 66), (13, 67)] 7 true 61 hb176 (tf 14 18) ?_
          refine Dkl [(14, 68), (15, 69), (16, 70), (17, 71), (18, 72)] 7 true 61 hb176 (tf 19 13) <| Dul [(19, 73), (20, 74), (21, 75), (22, 76), (23, 77), (24, 78)] 18 false 72 (tf 25 7) <| Dul [(25, 79), (26, 80), (27, 81), (28, 82)] 18 false 72 (tf 29 3) <| Dkl [(29, 83)] 7 true 61 hb176 (tf 30 2) <| Dgl 30 84 4 _ (tf 31 1) 4 false 58 hb173 (fun _ hq => p0 61 (.tmp 83) (.const (.bool false)) (.bool false) hb176) <| Dtl 31 85 4 _ (tf 32 0) (fun _ hq => p0 58 (.const (.bool true)) (.tmp 84) (.bool false) hb173) ?_
          obtain rfl := Aa h178
          exact UP (by kernel_rfl) ⟨F11, hs170.dr0, le171, fI⟩
       ·rintro f w151 ⟨F10, hs152, le153, ⟨_, rfl⟩⟩
        refine Ab <| Cd h164 (fun hb194 h195 => ?_) (fun hb194 h196 => ?_)
        ·refine Sq (Rg (rG 4) ?_)
         refine Vs 4 <| Nt <| Rt <| Ax <| Af <| Af <| Ax ?_
         have hret := BW h195 hnx126
         subst hret
         refine .inr <| Af ?_
         obtain rfl := Aa h105
         exact Re [(vi 21), (vi (W64 (s106 + 1)))] hs152 rfl
        ·refine Sc ?_
         refine Ar <| Ab <| Rg [0, 1] <| Vs 2 <| Uy ?_
         have hn197 := AM h196 hnx126
         exact ⟨m123, Nat.lt_succ_self _, (W64 (s106 + 1)), F10, hn197, hs152, (le109.t le153), fI⟩
      ·refine Ex ?_
       refine Aq <| Aq <| Az rfl ?_
       have ho198 := AJ h129 hnx126
       exact .inl ⟨rfl, s106, F8, ho198, hs108.dr0.dr0, le109, fI⟩
     ·rintro f w117 ⟨s116, F9, rfl, hs118, le119, ⟨_, rfl⟩⟩
      have h199 := Bn h105
      refine Ab <| Sq (Rg [0, 1] ?_)
      refine Vs 2 <| Nt <| Rt ?_
      obtain rfl := Aa h199
      exact Re [(vi 0), (vi 0)] hs118 rfl



def CI (N : Nat) (x0 : Ac) (x1 : Log) : Option Bool :=
 ((DH N ({ Report := x0.Report, Serial := x0.Serial, Zone := x0.Zone } : Ac) x1).bind fun r27 => some (r27.1 == 0))
theorem Ef : Ae Tryz.prog 25 := fun _ _ => by kernel_rfl
theorem ER (N : Nat) (w0 : World) (F0 : Mem) (hF : UZ w0 F0) (hG : Bq F0) (x0 : Ac) (x1 : Log) (a1_4 : UY) (n1_4 : Nat) (hb1_4 : LC x1.Jumps.length n1_4) (hs1_4 : SlA AB F0 a1_4 x1.Jumps) (a1_5 : UY) (n1_5 : Nat) (hb1_5 : LC x1.Lines.length n1_5) (hs1_5 : SlA AF F0 a1_5 x1.Lines) (r : Bool) (h : CI N x0 x1 = some r) :
  Calls Tryz.prog 25 ([(.agg (Ai x0)), (.agg (AC x1 a1_4 n1_4 a1_5 n1_5))] : List Value).toArray w0 (AD w0 F0 fun F' v => v = (.bool r)) := by
 have hs0 := UE hF
 refine Go 15 Tryz.func25 <| Sq (Rg [0, 1, 2] ?_)
 refine Bx' 23 (Ai x0) hs0 (fun b21 w22 hs23 => ?_)
 refine Bx' 27 (AC x1 a1_4 n1_4 a1_5 n1_5) hs23 (fun b24 w25 hs26 => ?_)
 refine Vs 1 <| Nss (Rg (rG 8) ?_)
 refine Ld hs26.at1 <| Ld hs26.at0 ?_
 obtain ⟨r27, hr28, h29⟩ := bind_some h
 refine Cl' FX hs26 (GQ N w25 F0 hs26.pers hG (({ Report := x0.Report, Serial := x0.Serial, Zone := x0.Zone } : Ac)) x1 a1_4 n1_4 hb1_4 hs1_4 a1_5 n1_5 hb1_5 hs1_5 _ hr28) ?_
 rintro _ F1 w31 hs32 le33 rfl
 refine Vs 5 <| Nss (Rg [0, 1, 2] ?_)
 refine Vs 3 <| Nt <| Rt ?_
 obtain rfl := Aa h29
 exact Re [(.bool (r27.1 == 0))] hs32 rfl

def DX (N : Nat) (x0 : (List Line)) : Int -> Option (Ba Bool Int) := fun s24 =>
 (bif (decide (s24 < (x0.length : Int))) then ((idx x0 s24).bind fun x45 => (bif (decide ((x45.Call.length : Int) > 40)) then some (.ret false) else some (.next (W64 (s24 + 1))))) else some (.done s24))
def ED (N : Nat) (x0 : (List Line)) : Option Bool :=
 ((AQ (DX N x0) N 0).bind fun o => o.k (fun r => some r) (fun s31 => some true))
theorem HD : Ae Tryz.prog 61 := fun _ _ => by kernel_rfl
theorem IA (N : Nat) (w0 : World) (F0 : Mem) (hF : UZ w0 F0) (x0 : (List Line)) (a0_0 : UY) (n0_0 : Nat) (hb0_0 : LC x0.length n0_0) (hs0_0 : SlA AF F0 a0_0 x0) (r : Bool) (h : ED N x0 = some r) :
  Calls Tryz.prog 61 ([(.slice a0_0 x0.length n0_0)] : List Value).toArray w0 (AD w0 F0 fun F' v => v = (.bool r)) := by
 have hs0 := UE hF
 refine Go 17 Tryz.func61 <| Sq (Rg [0] ?_)
 refine Vs 1 <| Nss <| Sq (Rg [0] ?_)
 refine Vs 1 <| Nt ?_
 obtain ⟨o21, ho22, h23⟩ := bind_some h
 refine UJ (fun f w => ∃ (s31 : Int) (F2 : Mem), o21 = .done s31 /\ HS w0 F0 w F2 [] /\ UC F0 F2 /\ FI f [] []) ?_ ?_
 ·refine Bk ?_
  refine UB (by kernel_rfl) (fun m f w => ∃ (s24 : Int) (F1 : Mem), AQ (DX N x0) m s24 = some o21 /\ HS w0 F0 w F1 [] /\ UC F0 F1 /\ FI f [] [(0, (.slice a0_0 x0.length n0_0)), (3, (vi s24))]) N ⟨0, F0, ho22, hs0, (UD _), fI⟩ ?_
  rintro m36 f w25 ⟨s24, F1, hit37, hs26, le27, ⟨_, rfl⟩⟩
  obtain ⟨m38, fl39, rfl, hb40, hnx41⟩ := AH hit37
  refine Sq <| Sq (Rg (rG 4) ?_)
  refine Vs 4 <| Nt <| Cd hb40 (fun hb42 h43 => ?_) (fun hb42 h44 => ?_)
  ·refine Sc ?_
   refine Ab <| Sq <| Bk <| Sq (Rg (rG 7) ?_)
   refine Vs 2 ?_
   obtain ⟨x45, hx46, h48⟩ := bind_some h43
   obtain ⟨hi47, hx46'⟩ := An hx46
   obtain ⟨b49, o50, C51, E52, fz53, rfl, hF55, hE56⟩ := UK (UF hs0_0 le27) hx46'
   have hc58 := hE56 _ _ hx46'
   refine Ix hi47 <| Vs 1 <| Lx 4 (hs26.pers _ _ hF55) hc58 <| Vs 2 <| Nt <| Cd h48 (fun hb59 h60 => ?_) (fun hb59 h61 => ?_)
   ·refine Sq (Rg [0] ?_)
    refine Vs 1 <| Nt <| Rt <| Ax <| Af <| Af <| Ax ?_
    have hret := BW h60 hnx41
    subst hret
    refine .inr <| Af ?_
    obtain rfl := Aa h23
    exact Re [(.bool false)] hs26 rfl
   ·refine Sc ?_
    refine Ar <| Ab <| Rg [0, 1, 2] <| Vs 3 <| Uy ?_
    have hn62 := AM h61 hnx41
    exact ⟨m38, Nat.lt_succ_self _, (W64 (s24 + 1)), F1, hn62, hs26, le27, fI⟩
  ·refine Ex ?_
   refine Aq <| Aq <| Az rfl ?_
   have ho63 := AJ h44 hnx41
   exact .inl ⟨rfl, s24, F1, ho63, hs26, le27, fI⟩
 ·rintro f w32 ⟨s31, F2, rfl, hs33, le34, ⟨_, rfl⟩⟩
  have h64 := Bn h23
  refine Ab <| Sq (Rg [0] ?_)
  refine Vs 1 <| Nt <| Rt ?_
  obtain rfl := Aa h64
  exact Re [(.bool true)] hs33 rfl
def HV (N : Nat) (x0 : Log) : Option Bool :=
 ((bif (decide ((x0.Lines.length : Int) <= 60)) then (bif (decide ((x0.Jumps.length : Int) <= 40)) then (bif (decide ((x0.Call.length : Int) <= 40)) then ((ED N x0.Lines).bind fun r41 => some r41) else some false) else some false) else (bif (decide ((x0.Lines.length : Int) > 400)) then (bif (decide ((x0.Lines.length : Int) <= 800)) then (bif (decide ((x0.Jumps.length : Int) <= 40)) then (bif (decide ((x0.Call.length : Int) <= 40)) then ((ED N x0.Lines).bind fun r61 => some r61) else some false) else some false) else some false) else some false)).bind fun j27 => some j27)
theorem NN : Ae Tryz.prog 20 := fun _ _ => by kernel_rfl
theorem OH (N : Nat) (w0 : World) (F0 : Mem) (hF : UZ w0 F0) (x0 : Log) (a0_4 : UY) (n0_4 : Nat) (hb0_4 : LC x0.Jumps.length n0_4) (hs0_4 : SlA AB F0 a0_4 x0.Jumps) (a0_5 : UY) (n0_5 : Nat) (hb0_5 : LC x0.Lines.length n0_5) (hs0_5 : SlA AF F0 a0_5 x0.Lines) (r : Bool) (h : HV N x0 = some r) :
  Calls Tryz.prog 20 ([(.agg (AC x0 a0_4 n0_4 a0_5 n0_5))] : List Value).toArray w0 (AD w0 F0 fun F' v => v = (.bool r)) := by
 have hs0 := UE hF
 refine Go 36 Tryz.func20 <| Sq (Rg [0, 1] ?_)
 refine Bx' 27 (AC x0 a0_4 n0_4 a0_5 n0_5) hs0 (fun b21 w22 hs23 => ?_)
 refine Vs 1 <| Nss (Rg (rG 34) ?_)
 obtain ⟨j27, hj30, h31⟩ := bind_some h
 refine UI (fun f w => ∃ (F1 : Mem), HS w0 F0 w F1 [] /\ UC F0 F1 /\ FI f [] [(2, (.bool j27))]) ?_ ?_
 ·refine Vs 1 ?_
  refine Ld hs23.at0 <| Vs 3 <| Sp hj30 (fun hb32 h33 => ?_) (fun hb32 h34 => ?_)
  ·refine Ss hb32 5 ?_
   refine Su' 4 <| Ss hb32 1 <| Pk1 hb32 <| Vs 1 <| Vg 20 0 16 true 19 rfl (fa 27 1 4 4 1 b21 0 4) <| Vg 21 24 16 true 19 rfl (ld 24 20 b21 4 false 1 (.slice a0_4 x0.Jumps.length n0_4) hs23.at0) <| Vg 22 3 16 true 19 rfl (ln 21 24 a0_4 x0.Jumps.length n0_4 3 1 8) <| Vg 23 4 16 true 19 rfl (Lh (t := 3) (t' := 3) (x := (.tmp 22)) (y := (.const (vi 40))) (k := .i64) (a := (x0.Jumps.length : Int)) (b := 40) rfl rfl) <| Pk1 (rfl : true = true) <| Vs 1 <| Sp h33 (fun hb35 h36 => ?_) (fun hb35 h37 => ?_)
   ·refine Vgs hb35 1 ?_
    refine Lg hb35 hs23.at0 <| Vgs hb35 2 <| Pk1 hb35 <| Vs 1 <| Sp h36 (fun hb38 h39 => ?_) (fun hb38 h40 => ?_)
    ·refine Vgs hb38 1 ?_
     refine Lg hb38 hs23.at0 ?_
     obtain ⟨r41, hr42, h43⟩ := bind_some h39
     refine Cg hb38 HD hs23 (IA N w22 F0 hs23.pers x0.Lines a0_5 n0_5 hb0_5 hs0_5 _ hr42) ?_
     rintro _ F2 w45 hs46 le47 rfl
     refine Pk1 hb38 <| Vs 1 ?_
     obtain rfl := Aa h43
     exact Uy ⟨rfl, F2, hs46.dr0, le47, fI⟩
    ·refine Ss hb38 3 ?_
     refine Pk0 hb38 <| Vs 1 ?_
     obtain rfl := Aa h40
     exact Uy ⟨rfl, F0, hs23.dr0, (UD _), fI⟩
   ·refine Ss hb35 4 ?_
    refine Pk0 hb35 <| Vs 1 <| Ss (rfl : false = false) 3 <| Pk0 (rfl : false = false) <| Vs 1 ?_
    obtain rfl := Aa h37
    exact Uy ⟨rfl, F0, hs23.dr0, (UD _), fI⟩
  ·refine Vgs hb32 1 ?_
   refine Lg hb32 hs23.at0 <| Vgs hb32 3 <| Sp h34 (fun hb49 h50 => ?_) (fun hb49 h51 => ?_)
   ·refine Vgs hb49 1 ?_
    refine Lg hb49 hs23.at0 <| Vgs hb49 2 <| Pg1 hb32 hb49 <| Pk0 hb32 <| Vs 1 <| Sp h50 (fun hb52 h53 => ?_) (fun hb52 h54 => ?_)
    ·refine Vgs hb52 1 ?_
     refine Lg hb52 hs23.at0 <| Vgs hb52 2 <| Pk1 hb52 <| Vs 1 <| Sp h53 (fun hb55 h56 => ?_) (fun hb55 h57 => ?_)
     ·refine Vgs hb55 1 ?_
      refine Lg hb55 hs23.at0 <| Vgs hb55 2 <| Pk1 hb55 <| Vs 1 <| Sp h56 (fun hb58 h59 => ?_) (fun hb58 h60 => ?_)
      ·refine Vgs hb58 1 ?_
       refine Lg hb58 hs23.at0 ?_
       obtain ⟨r61, hr62, h63⟩ := bind_some h59
       refine Cg hb58 HD hs23 (IA N w22 F0 hs23.pers x0.Lines a0_5 n0_5 hb0_5 hs0_5 _ hr62) ?_
       rintro _ F3 w65 hs66 le67 rfl
       refine Pk1 hb58 <| Vs 1 ?_
       obtain rfl := Aa h63
       exact Uy ⟨rfl, F3, hs66.dr0, le67, fI⟩
      ·refine Ss hb58 3 ?_
       refine Pk0 hb58 <| Vs 1 ?_
       obtain rfl := Aa h60
       exact Uy ⟨rfl, F0, hs23.dr0, (UD _), fI⟩
     ·refine Ss hb55 4 ?_
      refine Pk0 hb55 <| Vs 1 <| Ss (rfl : false = false) 3 <| Pk0 (rfl : false = false) <| Vs 1 ?_
      obtain rfl := Aa h57
      exact Uy ⟨rfl, F0, hs23.dr0, (UD _), fI⟩
    ·refine Ss hb52 4 ?_
     refine Pk0 hb52 <| Vs 1 <| Ss (rfl : false = false) 4 <| Pk0 (rfl : false = false) <| Vs 1 <| Ss (rfl : false = false) 3 <| Pk0 (rfl : false = false) <| Vs 1 ?_
     obtain rfl := Aa h54
     exact Uy ⟨rfl, F0, hs23.dr0, (UD _), fI⟩
   ·refine Ss hb49 4 ?_
    refine Pg0 hb32 hb49 <| Pk0 hb32 <| Vs 1 <| Ss (rfl : false = false) 4 <| Pk0 (rfl : false = false) <| Vs 1 <| Ss (rfl : false = false) 4 <| Pk0 (rfl : false = false) <| Vs 1 <| Ss (rfl : false = false) 3 <| Pk0 (rfl : false = false) <| Vs 1 ?_
    obtain rfl := Aa h51
    exact Uy ⟨rfl, F0, hs23.dr0, (UD _), fI⟩
 ·rintro f w24 ⟨F1, hs25, le26, ⟨_, rfl⟩⟩
  refine Ab <| Rt ?_
  obtain rfl := Aa h31
  exact Re [(.bool j27)] hs25 rfl
section
open Go.Lib (decDigits)
theorem Er {ρ σ : Type} {body : σ -> Option (Ba ρ σ)} (st : Nat -> σ) {o : Ba ρ σ} (k : Nat) (hb : ∀ i, i < k -> body (st i) = some (.next (st (i + 1)))) (he : body (st k) = some o) (ho : ∀ s', o ≠ .next s') {N : Nat} (hN : k < N) : AQ body N (st 0) = some o := by
 have key : ∀ j i M, i + j = k -> j < M -> AQ body M (st i) = some o := by
  intro j
  induction j with
  | zero =>
   intro i M hi hM
   obtain ⟨m, rfl⟩ : ∃ m, M = m + 1 := ⟨M - 1, by omega⟩
   rw [Nat.add_zero] at hi
   subst hi
   rw [AQ, he]
   cases o with
   | next s => exact absurd rfl (ho s)
   | done s => rfl
   | ret r => rfl
  | succ j ih =>
   intro i M hi hM
   obtain ⟨m, rfl⟩ : ∃ m, M = m + 1 := ⟨M - 1, by omega⟩
   rw [AQ, hb i (by omega)]
   exact ih (i + 1) m (by omega) (by omega)
 exact key k 0 N (by omega) hN
section
variable {N : Nat}
theorem lw (a b c : Int) : AP N a b c = some (decide (b <= a) && decide (a <= c)) := rfl
theorem RX (b : UInt8) : W64 (b.toNat : Int) = (b.toNat : Int) := by
 have := b.toNat_lt
 exact D7 (by omega) (by omega)
theorem S2 (b : UInt8) : QC b = ((decide (65 <= (b.toNat : Int)) && decide ((b.toNat : Int) <= 90)) || ((decide (48 <= (b.toNat : Int)) && decide ((b.toNat : Int) <= 57)) || ((b.toNat : Int) == 47))) := by
 have e1 : isL b = (decide (65 <= (b.toNat : Int)) && decide ((b.toNat : Int) <= 90)) := by
  unfold isL; congr 1 <;> (rw [decide_eq_decide]; omega)
 have e2 : isD b = (decide (48 <= (b.toNat : Int)) && decide ((b.toNat : Int) <= 57)) := by
  unfold isD; congr 1 <;> (rw [decide_eq_decide]; omega)
 have e3 : (b == 47) = ((b.toNat : Int) == 47) := by
  rw [Bool.eq_iff_iff, beq_iff_eq, beq_iff_eq]
  constructor
  ·rintro rfl; rfl
  ·intro h
   have : b.toNat = 47 := by omega
   exact UInt8.toNat_inj.1 this
 unfold QC
 rw [e1, e2, e3, Bool.or_assoc]
theorem SJ (s : UX) (hs : s.length < 4000000000) (hN : 4294967300 < N) : GG N s = some (L6 s) := by
 unfold GG
 rw [lw, Option.bind_some, show (decide ((1 : Int) <= (s.length : Int)) && decide ((s.length : Int) <= (16 : Int))) = wiB s.length 1 16 from Gz _ 1 16]
 have h := Er (body := Ds N s (wiB s.length 1 16)) (fun i => (wiB s.length 1 16 && (s.take i).all QC, (i : Int))) (o := .done (L6 s, (s.length : Int))) s.length (fun i hi => by
  unfold Ds
  simp only
  rw [Ec hi, cond_true, QR hi, Option.bind_some, IC i (by omega), RX, List.take_add_one, List.getElem?_eq_getElem hi, List.all_append]
  simp only [Option.toList_some, List.all_cons, List.all_nil, Bool.and_true]
  rw [S2 s[i], <- Bool.and_assoc]
  cases wiB s.length 1 16 && (s.take i).all QC with
  | false => rfl
  | true =>
   rw [cond_true, lw, Option.bind_some, lw]
   cases (decide (65 <= (s[i].toNat : Int)) && decide ((s[i].toNat : Int) <= 90)) with
   | true => rfl
   | false =>
    rw [cond_false, Option.bind_some]
    cases (decide (48 <= (s[i].toNat : Int)) && decide ((s[i].toNat : Int) <= 57)) with
    | true => rfl
    | false => rfl) (by
  unfold Ds
  simp only
  rw [C8, cond_false, List.take_length]
  rfl) (fun s' h => by cases h) (N := N) (by omega)
 rw [show (wiB s.length 1 16, (0 : Int)) = (wiB s.length 1 16 && (s.take 0).all QC, ((0 : Nat) : Int)) by simp, h]
 rfl
def TI (x : Line) : Prop := x.Call.length < 4000000000
theorem Tn (o : Ac) (x : Line) : N4 o x = ((decide (1 <= x.Num) && decide (x.Num <= 65535)) && ((decide (1 <= x.Khz) && decide (x.Khz <= 10000000)) && ((decide (1 <= x.Mode) && decide (x.Mode <= 3)) && ((decide (0 <= x.Minute) && decide (x.Minute <= 20000)) && (L6 x.Call && (E8 o x.Sent && E8 o x.Got)))))) := by
 unfold N4
 simp only [Bool.decide_and]
theorem SO (o : Ac) (x : Line) (hx : TI x) (hN : 4294967300 < N) : CX N o x = some (N4 o x) := by
 unfold CX
 rw [Tn, lw, lw, lw, lw, SJ x.Call hx hN]
 simp only [Option.bind_some]
 rw [LF _ _ hN, LF _ _ hN]
 simp only [Option.bind_some]
 show _ = some _
 generalize (decide (1 <= x.Num) && decide (x.Num <= 65535)) = a
 generalize (decide (1 <= x.Khz) && decide (x.Khz <= 10000000)) = b
 generalize (decide (1 <= x.Mode) && decide (x.Mode <= 3)) = c
 generalize (decide (0 <= x.Minute) && decide (x.Minute <= 20000)) = d
 generalize L6 x.Call = e
 cases a <;> cases b <;> cases c <;> cases d <;> cases e <;> first | rfl | (simp only [cond_true, cond_false, Bool.true_and]; cases E8 o x.Sent <;> rfl)
def okJ (l : List Int) (i : Nat) : Bool := match l[i]? with
 | some x => decide (1 <= x /\ x <= 20000) && (decide (i = 0) || match l[i - 1]? with
  | some y => decide (y < x)
  | none => true)
 | none => true
theorem OU {n : Nat} {ok : Nat -> Bool} : IZ n ok = true ↔ ∀ i, i < n -> ok i = true := ⟨fun h _ hi => RV h hi, P3⟩
theorem TC : ∀ (l : List Int), Qu l = true ↔ ∀ i, i < l.length -> (i = 0 \/ ∃ x y, l[i]? = some x /\ l[i - 1]? = some y /\ y < x) := by
 intro l
 induction l with
 | nil => simp [Qu]
 | cons a r ih =>
  cases r with
  | nil =>
   simp only [Qu, true_iff]
   intro i hi
   exact .inl (by simpa using hi)
  | cons b r =>
   rw [Qu, Bool.and_eq_true, ih, decide_eq_true_eq]
   constructor
   ·rintro ⟨h1, h2⟩ i hi
    match i with
    | 0 => exact .inl rfl
    | 1 => exact .inr ⟨b, a, rfl, rfl, h1⟩
    | i + 2 =>
     rcases h2 (i + 1) (by simpa using hi) with h | ⟨x, y, e1, e2, h⟩
     ·omega
     ·exact .inr ⟨x, y, e1, e2, h⟩
   ·intro h
    refine ⟨?_, fun i hi => ?_⟩
    ·rcases h 1 (by simp) with h | ⟨x, y, e1, e2, h⟩
     ·omega
     ·cases e1; cases e2; exact h
    ·match i with
     | 0 => exact .inl rfl
     | i + 1 =>
      rcases h (i + 2) (by simpa using hi) with h | ⟨x, y, e1, e2, h⟩
      ·omega
      ·exact .inr ⟨x, y, e1, e2, h⟩
theorem TA (l : List Int) : Qq l = (IZ l.length (okJ l) && decide (l.length <= 16)) := by
 unfold Qq
 rw [<- Bool.and_assoc]
 congr 1
 rw [Bool.eq_iff_iff, Bool.and_eq_true, TC, OU, List.all_eq_true]
 constructor
 ·rintro ⟨h1, h2⟩ i hi
  unfold okJ
  rw [List.getElem?_eq_getElem hi]
  have := h1 l[i] (List.getElem_mem hi)
  simp only [this, Bool.true_and]
  rcases h2 i hi with h | ⟨x, y, e1, e2, h⟩
  ·rw [decide_eq_true h]; rfl
  ·rw [List.getElem?_eq_getElem hi] at e1
   cases e1
   rw [e2]
   simp [h]
 ·intro h
  refine ⟨fun x hx => ?_, fun i hi => ?_⟩
  ·obtain ⟨i, hi, rfl⟩ := List.mem_iff_getElem.1 hx
   have := h i hi
   unfold okJ at this
   rw [List.getElem?_eq_getElem hi] at this
   simp only [Bool.and_eq_true] at this
   exact this.1
  ·by_cases h0 : i = 0
   ·exact .inl h0
   ·have := h i hi
    unfold okJ at this
    rw [List.getElem?_eq_getElem hi] at this
    have hi1 : i - 1 < l.length := by omega
    rw [List.getElem?_eq_getElem hi1] at this
    simp only [Bool.and_eq_true, decide_eq_false h0, Bool.false_or, decide_eq_true_eq] at this
    exact .inr ⟨l[i], l[i - 1], List.getElem?_eq_getElem hi, List.getElem?_eq_getElem hi1, this.2⟩
theorem SI (l : List Int) (hl : l.length < 4000000000) (hN : 4294967300 < N) : Ee N l = some (Qq l) := by
 rw [TA]
 unfold Ee
 rw [Kv (n := l.length) (okJ l) false (fun i hi => by
  unfold En
  rw [Ec hi, cond_true, Cf hi, Option.bind_some, lw, Option.bind_some, IC i (by omega)]
  unfold okJ
  rw [List.getElem?_eq_getElem hi]
  simp only [Bool.decide_and]
  cases (decide (1 <= l[i]) && decide (l[i] <= 20000)) with
  | false => rfl
  | true =>
   rw [Bool.not_true, cond_false, Bool.true_and]
   by_cases h0 : i = 0
   ·subst h0; rfl
   ·have hi1 : i - 1 < l.length := by omega
    rw [decide_eq_true (show (i : Int) > 0 by omega), cond_true, Tm i (by omega) (by omega), Cf hi1, Option.bind_some, List.getElem?_eq_getElem hi1, decide_eq_false h0, Bool.false_or]
    simp only
    rw [show decide (l[i] <= l[i - 1]) = !decide (l[i - 1] < l[i]) by rw [<- decide_not, decide_eq_decide]; omega]
    cases decide (l[i - 1] < l[i]) <;> rfl) (by
  unfold En
  rw [C8, cond_false]) (by omega)]
 cases IZ l.length (okJ l) with
 | false => rfl
 | true => 
  rw [cond_true, Bool.true_and]
  congr 1
  rw [decide_eq_decide]; omega
structure S6 (l : Log) : Prop where
 j : l.Jumps.length < 4000000000
 n : l.Lines.length < 4000000000
 x : ∀ x, x ∈ l.Lines -> TI x
theorem ON {o : Ac} {l : List Line} {k : Nat} (h : GJ o l = some k) : k < l.length /\ Oh o l k = false /\ ∀ i, i < k -> Oh o l i = true := by
 unfold GJ at h
 rw [List.find?_range_eq_some] at h
 obtain ⟨h1, h2, h3⟩ := h
 refine ⟨by simpa using h2, by simpa using h1, fun i hi => ?_⟩
 have := h3 i hi
 simpa using this
theorem OO {o : Ac} {l : List Line} (h : GJ o l = none) : ∀ i, i < l.length -> Oh o l i = true := by
 unfold GJ at h
 rw [List.find?_range_eq_none] at h
 intro i hi
 have := h i hi
 simpa using this
theorem Po {body : Int -> Option (Ba (Int × Int) Int)} (o : Ac) (l : List Line) (hb : ∀ i, i < l.length -> body (i : Int) = some (bif Oh o l i then .next ((i + 1 : Nat) : Int) else .ret (21, ((i + 1 : Nat) : Int))))
  (he : body (l.length : Int) = some (.done (l.length : Int))) (hN : l.length < N) : ((AQ body N 0).bind fun o => o.k (fun r => some r) (fun _ => some ((0 : Int), (0 : Int)))) = some (match GJ o l with | some i => (21, (i : Int) + 1) | none => (0, 0)) := by
 cases h : GJ o l with
 | some k =>
  obtain ⟨h1, h2, h3⟩ := ON h
  have := Er (body := body) (fun i => (i : Int)) (o := .ret (21, ((k + 1 : Nat) : Int))) k (fun i hi => by rw [hb i (by omega), h3 i hi]; rfl) (by rw [hb k h1, h2]; rfl) (fun s' h => by cases h) (N := N) (by omega)
  rw [show (0 : Int) = ((0 : Nat) : Int) from rfl, this]
  rfl
 | none =>
  have h3 := OO h
  have := Er (body := body) (fun i => (i : Int)) (o := .done (l.length : Int)) l.length (fun i hi => by rw [hb i hi, h3 i hi]; rfl) he (fun s' h => by cases h) hN
  rw [show (0 : Int) = ((0 : Nat) : Int) from rfl, this]
  rfl
theorem OX (a b c : Int) : (decide (b <= a) && decide (a <= c)) = decide (b <= a /\ a <= c) := (Bool.decide_and _ _).symm
theorem SQ (o : Ac) (l : Log) (hl : S6 l) (hN : 4294967300 < N) : DH N o l = some (chk o l) := by
 unfold DH chk
 by_cases h1 : l.Jumps.length > 16 \/ l.Lines.length > 400
 ·rw [if_pos h1, show (decide ((l.Jumps.length : Int) > 16) || decide ((l.Lines.length : Int) > 400)) = true by simp; omega]
  rfl
 ·rw [if_neg h1, show (decide ((l.Jumps.length : Int) > 16) || decide ((l.Lines.length : Int) > 400)) = false by simp; omega, cond_false]
  unfold DA
  rw [lw, lw, lw, SI _ hl.j hN, OX, OX, OX]
  simp only [Option.bind_some]
  have e : Ry l = (JM l.Call && (decide (1 <= l.Category /\ l.Category <= 9) && (decide (1 <= l.Power /\ l.Power <= 9999) && (decide (0 <= l.Claimed /\ l.Claimed <= 1000000) && Qq l.Jumps)))) := rfl
  rw [e]
  have key := Po (N := N) (body := Dw N o l false) o l.Lines (fun i hi => by
   unfold Dw
   have hfi := hl.x _ (List.getElem_mem hi)
   have hln := hl.n
   rw [Ec hi, cond_true, Cf hi, Option.bind_some, SO _ _ hfi hN, Option.bind_some, IC i (by omega)]
   unfold Oh
   rw [List.getElem?_eq_getElem hi]
   simp only
   cases N4 o l.Lines[i] with
   | false => rfl
   | true =>
    rw [Bool.not_true, cond_false, Bool.true_and]
    by_cases h0 : i = 0
    ·subst h0; rfl
    ·have hi1 : i - 1 < l.Lines.length := by omega
     rw [decide_eq_true (show (i : Int) > 0 by omega), cond_true, Tm i (by omega) (by omega), Cf hi1, Option.bind_some, List.getElem?_eq_getElem hi1, decide_eq_false h0, Bool.false_or]
     simp only [Option.bind_some]
     rw [show decide (l.Lines[i].Num <= l.Lines[i - 1].Num) = !decide (l.Lines[i - 1].Num < l.Lines[i].Num) by rw [<- decide_not, decide_eq_decide]; omega, show decide (l.Lines[i].Minute < l.Lines[i - 1].Minute) = !decide (l.Lines[i - 1].Minute <= l.Lines[i].Minute) by rw [<- decide_not, decide_eq_decide]; omega]
     cases decide (l.Lines[i - 1].Num < l.Lines[i].Num) <;> cases decide (l.Lines[i - 1].Minute <= l.Lines[i].Minute) <;> rfl) (by
   unfold Dw
   rw [C8, cond_false]) (by have := hl.n; omega)
  generalize JM l.Call = a
  generalize decide (1 <= l.Category /\ l.Category <= 9) = b
  generalize decide (1 <= l.Power /\ l.Power <= 9999) = c
  generalize decide (0 <= l.Claimed /\ l.Claimed <= 1000000) = d
  generalize Qq l.Jumps = e
  cases a <;> cases b <;> cases c <;> cases d <;> cases e <;> first | rfl | exact key
def OZ (o : Ac) (l : Log) : Bool := (chk o l).1 == 0
theorem Rl (o : Ac) (l : Log) (hl : S6 l) (hN : 4294967300 < N) : CI N o l = some (OZ o l) := by
 unfold CI
 show (DH N o l).bind _ = _
 rw [SQ o l hl hN]; rfl
end
end
def Jg (N : Nat) (x0 : Log) : Option UX :=
 ((DF ([67, 65, 76, 76, 32] : UX) x0.Call).bind fun r24 => some r24)
theorem K1 : Ae Tryz.prog 154 := fun _ _ => by kernel_rfl
theorem Mo (N : Nat) (w0 : World) (F0 : Mem) (hF : UZ w0 F0) (x0 : Log) (a0_4 : UY) (n0_4 : Nat) (hb0_4 : LC x0.Jumps.length n0_4) (hs0_4 : SlA AB F0 a0_4 x0.Jumps) (a0_5 : UY) (n0_5 : Nat) (hb0_5 : LC x0.Lines.length n0_5) (hs0_5 : SlA AF F0 a0_5 x0.Lines) (r : UX) (h : Jg N x0 = some r) :
  Calls Tryz.prog 154 ([(.agg (AC x0 a0_4 n0_4 a0_5 n0_5))] : List Value).toArray w0 (AD w0 F0 fun F' v => v = (sv r)) := by
 have hs0 := UE hF
 refine Go 6 Tryz.func154 <| Sq (Rg [0, 1] ?_)
 refine Bx' 27 (AC x0 a0_4 n0_4 a0_5 n0_5) hs0 (fun b21 w22 hs23 => ?_)
 refine Vs 1 <| Nss (Rg (rG 4) ?_)
 refine Vs 1 <| Ld hs23.at0 ?_
 obtain ⟨r24, hr25, h26⟩ := bind_some h
 refine V 5 9 (AY (t := 9) (t' := 9) (x := (.const (sv ([67, 65, 76, 76, 32] : UX)))) (y := (.tmp 4)) (a := ([67, 65, 76, 76, 32] : UX)) (b := x0.Call) (v := r24) rfl rfl hr25) <| Vs 1 <| Nt <| Rt ?_
 obtain rfl := Aa h26
 exact Re [(sv r24)] hs23 rfl
def Fc (N : Nat) (x0 : Log) : (UX × Int) -> Option (Ba UX (UX × Int)) := fun s27 =>
 (bif (decide (s27.2 < (x0.Jumps.length : Int))) then none else some (.done (s27.1, s27.2)))
def GW (N : Nat) (x0 : Log) : Option UX :=
 ((AQ (Fc N x0) N (([74, 85, 77, 80, 83] : UX), 0)).bind fun o => o.k (fun r => some r) (fun s36 => some s36.1))
theorem IK : Ae Tryz.prog 160 := fun _ _ => by kernel_rfl
theorem JB (N : Nat) (w0 : World) (F0 : Mem) (hF : UZ w0 F0) (hG : Bq F0) (x0 : Log) (a0_4 : UY) (n0_4 : Nat) (hb0_4 : LC x0.Jumps.length n0_4) (hs0_4 : SlA AB F0 a0_4 x0.Jumps) (a0_5 : UY) (n0_5 : Nat) (hb0_5 : LC x0.Lines.length n0_5) (hs0_5 : SlA AF F0 a0_5 x0.Lines) (r : UX) (h : GW N x0 = some r) :
  Calls Tryz.prog 160 ([(.agg (AC x0 a0_4 n0_4 a0_5 n0_5))] : List Value).toArray w0 (AD w0 F0 fun F' v => v = (sv r)) := by
 have hs0 := UE hF
 refine Go 20 Tryz.func160 <| Sq (Rg [0, 1] ?_)
 refine Bx' 27 (AC x0 a0_4 n0_4 a0_5 n0_5) hs0 (fun b21 w22 hs23 => ?_)
 refine Vs 1 <| Nss (Rg [0] ?_)
 refine Vs 1 <| Nss <| Sq (Rg (rG 4) ?_)
 refine Vs 1 <| Ld hs23.at0 <| Vs 2 <| Nt ?_
 obtain ⟨o24, ho25, h26⟩ := bind_some h
 refine UJ (fun f w => ∃ (s36 : (UX × Int)) (F2 : Mem), o24 = .done s36 /\ HS w0 F0 w F2 [] /\ UC F0 F2 /\ FI f [] [(3, (sv s36.1))]) ?_ ?_
 ·refine Bk ?_
  refine UB (by kernel_rfl) (fun m f w => ∃ (s27 : (UX × Int)) (F1 : Mem), AQ (Fc N x0) m s27 = some o24 /\ HS w0 F0 w F1 [] /\ UC F0 F1 /\ FI f [] [(3, (sv s27.1)), (7, (.slice a0_4 x0.Jumps.length n0_4)), (8, (vi (x0.Jumps.length : Int))), (9, (vi s27.2))]) N ⟨(([74, 85, 77, 80, 83] : UX), 0), F0, ho25, hs23.dr0, (UD _), fI⟩ ?_
  rintro m42 f w28 ⟨s27, F1, hit43, hs29, le30, ⟨_, rfl⟩⟩
  obtain ⟨m44, fl45, rfl, hb46, hnx47⟩ := AH hit43
  refine Sq (Rg [0] ?_)
  refine Vs 1 <| Nss <| Cd hb46 (fun hb48 h49 => ?_) (fun hb48 h50 => ?_)
  ·cases h49
  ·refine Ex ?_
   refine Aq <| Aq <| Az rfl ?_
   have ho51 := AJ h50 hnx47
   exact .inl ⟨rfl, (s27.1, s27.2), F1, ho51, hs29, le30, fI⟩
 ·rintro f w37 ⟨s36, F2, rfl, hs38, le39, ⟨_, rfl⟩⟩
  have h52 := Bn h26
  refine Ab <| Sq (Rg [0, 1] ?_)
  refine Vs 2 <| Nt <| Rt ?_
  obtain rfl := Aa h52
  exact Re [(sv s36.1)] hs38 rfl
def Ff (N : Nat) (x0 : Ac) (x1 : Line) : Option (UX × Int) :=
 ((CX N ({ Report := x0.Report, Serial := x0.Serial, Zone := x0.Zone } : Ac) x1).bind fun r27 => (bif (!r27) then none else ((CJ N x1.Minute).bind fun r38 => ((Bx N ({ Report := x0.Report, Serial := x0.Serial, Zone := x0.Zone } : Ac) ({ Report := x1.Sent.Report, Serial := x1.Sent.Serial, Zone := x1.Sent.Zone } : Ad)).bind fun r46 => ((Bx N ({ Report := x0.Report, Serial := x0.Serial, Zone := x0.Zone } : Ac) ({ Report := x1.Got.Report, Serial := x1.Got.Serial, Zone := x1.Got.Zone } : Ad)).bind fun r54 => (((Mv ([32, 77, 86, 68] : UX) x1.Mode (W64 (x1.Mode + 1))).bind fun r73 => ((strconv_Itoa N x1.Num).bind fun r76 => ((strconv_Itoa N x1.Khz).bind fun r84 => ((strings_Join N ([([81, 83, 79] : UX), r76, r84, r73, r38.1, x1.Call, ([62] : UX), r46.1, ([60] : UX), r54.1]) ([32] : UX)).bind fun r101 => some r101)))).bind fun j67 => some (j67, 0)))))))
theorem FM : Ae Tryz.prog 27 := fun _ _ => by kernel_rfl
theorem Gx (N : Nat) (w0 : World) (F0 : Mem) (hF : UZ w0 F0) (hG : Bq F0) (x0 : Ac) (x1 : Line) (r : (UX × Int)) (h : Ff N x0 x1 = some r) :
  Calls Tryz.prog 27 ([(.agg (Ai x0)), (.agg (BF x1))] : List Value).toArray w0 (AD w0 F0 fun F' v => v = (.tuple #[(sv r.1), (vi r.2)])) := by
 have hs0 := UE hF
 refine Go 55 Tryz.func27 <| Sq (Rg (rG 4) ?_)
 refine Bx' 23 (Ai x0) hs0 (fun b21 w22 hs23 => ?_)
 refine Bx' 34 (BF x1) hs23 (fun b24 w25 hs26 => ?_)
 refine Vs 2 <| Nss <| Sq (Rg (rG 4) ?_)
 refine Ld hs26.at1 <| Ld hs26.at0 ?_
 obtain ⟨r27, hr28, h29⟩ := bind_some h
 refine Cl' FL hs26 (Gw N w25 F0 hs26.pers (({ Report := x0.Report, Serial := x0.Serial, Zone := x0.Zone } : Ac)) x1 _ hr28) ?_
 rintro _ F1 w31 hs32 le33 rfl
 refine Vs 1 <| Nt <| Cd h29 (fun hb35 h36 => ?_) (fun hb35 h37 => ?_)
 ·cases h36
 ·refine Sc ?_
  refine Ab <| Sq (Rg (rG 8) ?_)
  refine Vs 1 <| Ld hs32.at0 ?_
  obtain ⟨r38, hr39, h40⟩ := bind_some h37
  refine Cl' Gr hs32 (G6 N w31 F1 hs32.pers (hG.mono le33) x1.Minute _ hr39) ?_
  rintro _ F2 w42 hs43 le44 rfl
  refine Vs 5 <| Nss (Rg (rG 9) ?_)
  refine Ld hs43.at1 <| Vs 1 <| Ld hs43.at0 ?_
  obtain ⟨r46, hr47, h48⟩ := bind_some h40
  refine Cl' CZ hs43 (Dp N w42 F2 hs43.pers (hG.mono (le33.t le44)) (({ Report := x0.Report, Serial := x0.Serial, Zone := x0.Zone } : Ac)) (({ Report := x1.Sent.Report, Serial := x1.Sent.Serial, Zone := x1.Sent.Zone } : Ad)) _ hr47) ?_
  rintro _ F3 w50 hs51 le52 rfl
  refine Vs 5 <| Nss (Rg (rG 9) ?_)
  refine Ld hs51.at1 <| Vs 1 <| Ld hs51.at0 ?_
  obtain ⟨r54, hr55, h56⟩ := bind_some h48
  refine Cl' CZ hs51 (Dp N w50 F3 hs51.pers (hG.mono ((le33.t le44).trans le52)) (({ Report := x0.Report, Serial := x0.Serial, Zone := x0.Zone } : Ac)) (({ Report := x1.Got.Report, Serial := x1.Got.Serial, Zone := x1.Got.Zone } : Ad)) _ hr55) ?_
  rintro _ F4 w58 hs59 le60 rfl
  refine Vs 5 <| Nss ?_
  obtain ⟨j67, hj71, h72⟩ := bind_some h56
  refine RD 21 21 [(sb b24 (BF x1) 34), (sb b21 (Ai x0) 23)] [] hs59 (fun f w => ∃ (F5 : Mem), HS w0 F0 w F5 [] /\ UC F4 F5 /\ FI f [] [(4, (sv j67)), (5, (vi 0))]) (fun wd62 hw63 => ?_) ?_
  ·refine Dvl [0] (tf 1 20) ?_
   refine Dl 1 (fun _ hq => (hq.1.2 0 _ _ rfl)) <| Dvl [3] [tt, tt, ff, tt, ff, ff, ff, ff, ff, ff, ff, ff, ff, ff, ff, ff, ff, ff, ff, ff, ff] <| Dl 4 (fun _ hq => (hq.1.2 0 _ _ rfl)) <| Dvl [6] [tt, tt, ff, tt, tt, ff, tt, ff, ff, ff, ff, ff, ff, ff, ff, ff, ff, ff, ff, ff, ff] <| Dl 7 (fun _ hq => (hq.1.2 0 _ _ rfl)) <| Dvl [8] [tt, tt, ff, tt, tt, ff, tt, tt, tt, ff, ff, ff, ff, ff, ff, ff, ff, ff, ff, ff, ff] <| Dl 9 (fun _ hq => (hq.1.2 0 _ _ rfl)) <| Dvl [10] [tt, tt, ff, tt, tt, ff, tt, tt, tt, tt, tt, ff, ff, ff, ff, ff, ff, ff, ff, ff, ff] ?_
   obtain ⟨r73, hr74, h75⟩ := bind_some hj71
   refine Dtl 11 47 9 (sv r73) [tt, tt, ff, tt, tt, ff, tt, tt, tt, tt, tt, tt, ff, ff, ff, ff, ff, ff, ff, ff, ff] (fun _ hq => I6 (t := 9) (x := (.const (sv ([32, 77, 86, 68] : UX)))) (lo := (some (.tmp 43))) (hi := (some (.tmp 46))) (a := ([32, 77, 86, 68] : UX)) (il := x1.Mode) (ih := (W64 (x1.Mode + 1))) (v := r73) rfl (by kernel_rfl) rfl rfl hr74) <| Dvl [12, 13] [tt, tt, ff, tt, tt, ff, tt, tt, tt, tt, tt, tt, tt, tt, ff, ff, ff, ff, ff, ff, ff] <| Dl 14 (fun _ hq => (hq.1.2 0 _ _ rfl)) <| Dvl [15, 16] [tt, tt, ff, tt, tt, ff, tt, tt, tt, tt, tt, tt, tt, tt, tt, tt, tt, ff, ff, ff, ff] <| D1 2 ?_
   obtain ⟨r76, hr77, h78⟩ := bind_some h75
   refine DCl BC hw63 (BL N wd62 F4 hw63.pers (hG.mono (((le33.t le44).trans le52).trans le60)) x1.Num _ hr77) ?_
   rintro _ F6 w80 hs81 le82 rfl
   refine D1 5 ?_
   obtain ⟨r84, hr85, h86⟩ := bind_some h78
   refine DCl BC hs81 (BL N w80 F6 hs81.pers (hG.mono ((((le33.t le44).trans le52).trans le60).trans le82)) x1.Khz _ hr85) ?_
   rintro _ F7 w88 hs89 le90 rfl
   refine D1 17 <| DBs 9 [(sv (([81, 83, 79] : UX))), (sv r76), (sv r84), (sv r73), (sv r38.1), (sv x1.Call), (sv (([62] : UX))), (sv r46.1), (sv (([60] : UX))), (sv r54.1)] hs89 (le82.t le90) (fun b92 w93 hs94 => ?_)
   have hr96 : Ap AK 9 F7 (some ⟨b92, 0, none⟩) 10 [([81, 83, 79] : UX), r76, r84, r73, r38.1, x1.Call, ([62] : UX), r46.1, ([60] : UX), r54.1] (some b92, .cells ([(sv (([81, 83, 79] : UX))), (sv r76), (sv r84), (sv r73), (sv r38.1), (sv x1.Call), (sv (([62] : UX))), (sv r46.1), (sv (([60] : UX))), (sv r54.1)] : List Value).toArray 9 (0, 0)) := US ⟨rfl, ⟨rfl, ⟨rfl, ⟨rfl, ⟨rfl, ⟨rfl, ⟨rfl, ⟨rfl, ⟨rfl, ⟨rfl, rfl⟩⟩⟩⟩⟩⟩⟩⟩⟩⟩ (by simp)
   refine D1 18 ?_
   have hb100 := UQ hr96
   obtain ⟨F8, hs97, le98, hs99⟩ := hs94.fr0 hr96
   obtain ⟨r101, hr102, h103⟩ := bind_some h86
   refine DCl B5 hs97 (Cm N w93 F8 hs97.pers ([([81, 83, 79] : UX), r76, r84, r73, r38.1, x1.Call, ([62] : UX), r46.1, ([60] : UX), r54.1]) (some ⟨b92, 0, none⟩) 10 hb100 hs99 (([32] : UX)) _ hr102) ?_
   rintro _ F9 w105 hs106 le107 rfl
   refine Dvl [19, 20] (tf 21 0) ?_
   obtain rfl := Aa h103
   exact UP (by kernel_rfl) ⟨F9, hs106.dr0.dr0, (((le82.t le90).trans le98).trans le107), fI⟩
  ·rintro f w64 ⟨F5, hs65, le66, ⟨_, rfl⟩⟩
   refine Ab <| Rt ?_
   obtain rfl := Aa h72
   exact Re [(sv j67), (vi 0)] hs65 rfl
theorem J4 : Ae Tryz.prog 156 := fun _ _ => by kernel_rfl
set_option maxRecDepth 100000 in
theorem Mn (w0 : World) (F0 : Mem) (hF : UZ w0 F0) (b o : Nat) : Calls Tryz.prog 156 ([(.pointer (some ⟨b, o, none⟩))] : List Value).toArray w0 (AD w0 F0 fun _ v => v = .pointer (some ⟨b, o + 1, none⟩)) := by
 have hs0 := UE hF
 refine Go 6 Tryz.func156 <| Sq <| Rg [0] <| V 2 194 (GB (x := .const (.pointer none)) (v := .pointer none) rfl) <| Uy <| Ab <| Sq <| Rg [0, 1, 2, 3] <| Vs 2 <| V 5 0 (CH (s := 27) (x := .tmp 4) (i := 1) (b := b) (o0 := o) (o := 1) (k := 1) rfl (by kernel_rfl) (by decide) rfl) <| Vs 1 <| Uy <| Ab <| Rt ?_
 exact Re [(.pointer (some ⟨b, o + 1, none⟩))] hs0 rfl
theorem J3 : Ae Tryz.prog 157 := fun _ _ => by kernel_rfl
set_option maxRecDepth 100000 in
theorem Mm (w0 : World) (F0 : Mem) (hF : UZ w0 F0) (b o : Nat) : Calls Tryz.prog 157 ([(.pointer (some ⟨b, o, none⟩))] : List Value).toArray w0 (AD w0 F0 fun _ v => v = .pointer (some ⟨b, o + 2, none⟩)) := by
 have hs0 := UE hF
 refine Go 6 Tryz.func157 <| Sq <| Rg [0] <| V 2 194 (GB (x := .const (.pointer none)) (v := .pointer none) rfl) <| Uy <| Ab <| Sq <| Rg [0, 1, 2, 3] <| Vs 2 <| V 5 0 (CH (s := 27) (x := .tmp 4) (i := 2) (b := b) (o0 := o) (o := 2) (k := 1) rfl (by kernel_rfl) (by decide) rfl) <| Vs 1 <| Uy <| Ab <| Rt ?_
 exact Re [(.pointer (some ⟨b, o + 2, none⟩))] hs0 rfl
theorem J2 : Ae Tryz.prog 158 := fun _ _ => by kernel_rfl
set_option maxRecDepth 100000 in
theorem Ml (w0 : World) (F0 : Mem) (hF : UZ w0 F0) (b o : Nat) : Calls Tryz.prog 158 ([(.pointer (some ⟨b, o, none⟩))] : List Value).toArray w0 (AD w0 F0 fun _ v => v = .pointer (some ⟨b, o + 3, none⟩)) := by
 have hs0 := UE hF
 refine Go 6 Tryz.func158 <| Sq <| Rg [0] <| V 2 194 (GB (x := .const (.pointer none)) (v := .pointer none) rfl) <| Uy <| Ab <| Sq <| Rg [0, 1, 2, 3] <| Vs 2 <| V 5 0 (CH (s := 27) (x := .tmp 4) (i := 3) (b := b) (o0 := o) (o := 3) (k := 1) rfl (by kernel_rfl) (by decide) rfl) <| Vs 1 <| Uy <| Ab <| Rt ?_
 exact Re [(.pointer (some ⟨b, o + 3, none⟩))] hs0 rfl
def Gj (N : Nat) (x0 : Log) (z0 : UX) : Option UX :=
 (((DF z0 ([32] : UX)).bind fun r34 => ((strconv_Itoa N x0.Category).bind fun r40 => ((DF r34 r40).bind fun r48 => some r48))).bind fun j29 => some j29)
theorem H7 : Ae Tryz.prog 191 := fun _ _ => by kernel_rfl
theorem IR (N : Nat) (w0 : World) (F0 : Mem) (hF : UZ w0 F0) (hG : Bq F0) (x0 : Log) (a0_4 : UY) (n0_4 : Nat) (hb0_4 : LC x0.Jumps.length n0_4) (hs0_4 : SlA AB F0 a0_4 x0.Jumps) (a0_5 : UY) (n0_5 : Nat) (hb0_5 : LC x0.Lines.length n0_5) (hs0_5 : SlA AF F0 a0_5 x0.Lines) (bz0 : Nat) (z0 : UX) (hz0 : F0 bz0 = some (oc #[(sv z0)] 9)) (bz1 : Nat) (hz1 : F0 bz1 = some (oc #[(fV 156 #[])] 195)) (r : UX) (h : Gj N x0 z0 = some r) :
  Calls Tryz.prog 191 ([(.agg (AC x0 a0_4 n0_4 a0_5 n0_5)), (pt bz0 0), (pt bz1 0)] : List Value).toArray w0 (AD w0 F0 fun F' v => v = (sv r)) := by
 have hs0 := UE hF
 refine Go 13 Tryz.func191 <| Sq (Rg [0, 1] ?_)
 refine Bx' 27 (AC x0 a0_4 n0_4 a0_5 n0_5) hs0 (fun b21 w22 hs23 => ?_)
 refine Vs 1 <| Nss ?_
 obtain ⟨j29, hj32, h33⟩ := bind_some h
 refine RD 9 9 [(sb b21 (AC x0 a0_4 n0_4 a0_5 n0_5) 27)] [] hs23 (fun f w => ∃ (F1 : Mem), HS w0 F0 w F1 [] /\ UC F0 F1 /\ FI f [] [(4, (sv j29))]) (fun wd24 hw25 => ?_) ?_
 ·refine Dl 0 (fun _ hq => (hq.1.1 _ _ hz0)) ?_
  obtain ⟨r34, hr35, h36⟩ := bind_some hj32
  refine Dt 1 6 9 (sv r34) (fun _ hq => AY (t := 9) (t' := 9) (x := (.tmp 5)) (y := (.const (sv ([32] : UX)))) (a := z0) (b := ([32] : UX)) (v := r34) rfl rfl hr35) <| Dl 2 (fun _ hq => (hq.1.1 _ _ hz1)) <| D1 3 <| DCl J4 hw25 (Mn wd24 F0 hw25.pers b21 0) ?_
  rintro _ F2 w37 hs38 le39 rfl
  refine Dv [4] <| Dl 5 (fun _ hq => (hq.1.2 0 _ _ rfl)) <| D1 6 ?_
  obtain ⟨r40, hr41, h42⟩ := bind_some h36
  refine DCl BC hs38 (BL N w37 F2 hs38.pers (hG.mono le39) x0.Category _ hr41) ?_
  rintro _ F3 w44 hs45 le46 rfl
  obtain ⟨r48, hr49, h50⟩ := bind_some h42
  refine Dt 7 12 9 (sv r48) (fun _ hq => AY (t := 9) (t' := 9) (x := (.tmp 6)) (y := (.tmp 11)) (a := r34) (b := r40) (v := r48) rfl rfl hr49) <| Dv [8] ?_
  obtain rfl := Aa h50
  exact UP (by kernel_rfl) ⟨F3, hs45.dr0, (le39.t le46), fI⟩
 ·rintro f w26 ⟨F1, hs27, le28, ⟨_, rfl⟩⟩
  refine Ab <| Rt ?_
  obtain rfl := Aa h33
  exact Re [(sv j29)] hs27 rfl
def Gh (N : Nat) (x0 : Log) (z0 : UX) : Option UX :=
 (((DF z0 ([32] : UX)).bind fun r34 => ((strconv_Itoa N x0.Power).bind fun r40 => ((DF r34 r40).bind fun r48 => some r48))).bind fun j29 => some j29)
theorem H1 : Ae Tryz.prog 191 := fun _ _ => by kernel_rfl
theorem IP (N : Nat) (w0 : World) (F0 : Mem) (hF : UZ w0 F0) (hG : Bq F0) (x0 : Log) (a0_4 : UY) (n0_4 : Nat) (hb0_4 : LC x0.Jumps.length n0_4) (hs0_4 : SlA AB F0 a0_4 x0.Jumps) (a0_5 : UY) (n0_5 : Nat) (hb0_5 : LC x0.Lines.length n0_5) (hs0_5 : SlA AF F0 a0_5 x0.Lines) (bz0 : Nat) (z0 : UX) (hz0 : F0 bz0 = some (oc #[(sv z0)] 9)) (bz1 : Nat) (hz1 : F0 bz1 = some (oc #[(fV 157 #[])] 195)) (r : UX) (h : Gh N x0 z0 = some r) :
  Calls Tryz.prog 191 ([(.agg (AC x0 a0_4 n0_4 a0_5 n0_5)), (pt bz0 0), (pt bz1 0)] : List Value).toArray w0 (AD w0 F0 fun F' v => v = (sv r)) := by
 have hs0 := UE hF
 refine Go 13 Tryz.func191 <| Sq (Rg [0, 1] ?_)
 refine Bx' 27 (AC x0 a0_4 n0_4 a0_5 n0_5) hs0 (fun b21 w22 hs23 => ?_)
 refine Vs 1 <| Nss ?_
 obtain ⟨j29, hj32, h33⟩ := bind_some h
 refine RD 9 9 [(sb b21 (AC x0 a0_4 n0_4 a0_5 n0_5) 27)] [] hs23 (fun f w => ∃ (F1 : Mem), HS w0 F0 w F1 [] /\ UC F0 F1 /\ FI f [] [(4, (sv j29))]) (fun wd24 hw25 => ?_) ?_
 ·refine Dl 0 (fun _ hq => (hq.1.1 _ _ hz0)) ?_
  obtain ⟨r34, hr35, h36⟩ := bind_some hj32
  refine Dt 1 6 9 (sv r34) (fun _ hq => AY (t := 9) (t' := 9) (x := (.tmp 5)) (y := (.const (sv ([32] : UX)))) (a := z0) (b := ([32] : UX)) (v := r34) rfl rfl hr35) <| Dl 2 (fun _ hq => (hq.1.1 _ _ hz1)) <| D1 3 <| DCl J3 hw25 (Mm wd24 F0 hw25.pers b21 0) ?_
  rintro _ F2 w37 hs38 le39 rfl
  refine Dv [4] <| Dl 5 (fun _ hq => (hq.1.2 0 _ _ rfl)) <| D1 6 ?_
  obtain ⟨r40, hr41, h42⟩ := bind_some h36
  refine DCl BC hs38 (BL N w37 F2 hs38.pers (hG.mono le39) x0.Power _ hr41) ?_
  rintro _ F3 w44 hs45 le46 rfl
  obtain ⟨r48, hr49, h50⟩ := bind_some h42
  refine Dt 7 12 9 (sv r48) (fun _ hq => AY (t := 9) (t' := 9) (x := (.tmp 6)) (y := (.tmp 11)) (a := r34) (b := r40) (v := r48) rfl rfl hr49) <| Dv [8] ?_
  obtain rfl := Aa h50
  exact UP (by kernel_rfl) ⟨F3, hs45.dr0, (le39.t le46), fI⟩
 ·rintro f w26 ⟨F1, hs27, le28, ⟨_, rfl⟩⟩
  refine Ab <| Rt ?_
  obtain rfl := Aa h33
  exact Re [(sv j29)] hs27 rfl
def Gi (N : Nat) (x0 : Log) (z0 : UX) : Option UX :=
 (((DF z0 ([32] : UX)).bind fun r34 => ((strconv_Itoa N x0.Claimed).bind fun r40 => ((DF r34 r40).bind fun r48 => some r48))).bind fun j29 => some j29)
theorem H6 : Ae Tryz.prog 191 := fun _ _ => by kernel_rfl
theorem IQ (N : Nat) (w0 : World) (F0 : Mem) (hF : UZ w0 F0) (hG : Bq F0) (x0 : Log) (a0_4 : UY) (n0_4 : Nat) (hb0_4 : LC x0.Jumps.length n0_4) (hs0_4 : SlA AB F0 a0_4 x0.Jumps) (a0_5 : UY) (n0_5 : Nat) (hb0_5 : LC x0.Lines.length n0_5) (hs0_5 : SlA AF F0 a0_5 x0.Lines) (bz0 : Nat) (z0 : UX) (hz0 : F0 bz0 = some (oc #[(sv z0)] 9)) (bz1 : Nat) (hz1 : F0 bz1 = some (oc #[(fV 158 #[])] 195)) (r : UX) (h : Gi N x0 z0 = some r) :
  Calls Tryz.prog 191 ([(.agg (AC x0 a0_4 n0_4 a0_5 n0_5)), (pt bz0 0), (pt bz1 0)] : List Value).toArray w0 (AD w0 F0 fun F' v => v = (sv r)) := by
 have hs0 := UE hF
 refine Go 13 Tryz.func191 <| Sq (Rg [0, 1] ?_)
 refine Bx' 27 (AC x0 a0_4 n0_4 a0_5 n0_5) hs0 (fun b21 w22 hs23 => ?_)
 refine Vs 1 <| Nss ?_
 obtain ⟨j29, hj32, h33⟩ := bind_some h
 refine RD 9 9 [(sb b21 (AC x0 a0_4 n0_4 a0_5 n0_5) 27)] [] hs23 (fun f w => ∃ (F1 : Mem), HS w0 F0 w F1 [] /\ UC F0 F1 /\ FI f [] [(4, (sv j29))]) (fun wd24 hw25 => ?_) ?_
 ·refine Dl 0 (fun _ hq => (hq.1.1 _ _ hz0)) ?_
  obtain ⟨r34, hr35, h36⟩ := bind_some hj32
  refine Dt 1 6 9 (sv r34) (fun _ hq => AY (t := 9) (t' := 9) (x := (.tmp 5)) (y := (.const (sv ([32] : UX)))) (a := z0) (b := ([32] : UX)) (v := r34) rfl rfl hr35) <| Dl 2 (fun _ hq => (hq.1.1 _ _ hz1)) <| D1 3 <| DCl J2 hw25 (Ml wd24 F0 hw25.pers b21 0) ?_
  rintro _ F2 w37 hs38 le39 rfl
  refine Dv [4] <| Dl 5 (fun _ hq => (hq.1.2 0 _ _ rfl)) <| D1 6 ?_
  obtain ⟨r40, hr41, h42⟩ := bind_some h36
  refine DCl BC hs38 (BL N w37 F2 hs38.pers (hG.mono le39) x0.Claimed _ hr41) ?_
  rintro _ F3 w44 hs45 le46 rfl
  obtain ⟨r48, hr49, h50⟩ := bind_some h42
  refine Dt 7 12 9 (sv r48) (fun _ hq => AY (t := 9) (t' := 9) (x := (.tmp 6)) (y := (.tmp 11)) (a := r34) (b := r40) (v := r48) rfl rfl hr49) <| Dv [8] ?_
  obtain rfl := Aa h50
  exact UP (by kernel_rfl) ⟨F3, hs45.dr0, (le39.t le46), fI⟩
 ·rintro f w26 ⟨F1, hs27, le28, ⟨_, rfl⟩⟩
  refine Ab <| Rt ?_
  obtain rfl := Aa h33
  exact Re [(sv j29)] hs27 rfl
section
open Go.Proofs Go.Lib
def R6 (a : UY) (cap : Nat) (t : UX) (e : Option Nat × Obj) : Prop :=
 (a = none /\ cap = 0 /\ t = [] /\ e.1 = none) \/ ∃ g cur, a = some ⟨g, 0, none⟩ /\ e = (some g, .cells cur 5 (0, 0)) /\ t ≠ [] /\ t.length <= cap /\ cap <= maxLen /\ cur.size = cap /\ cur.toList.take t.length = byteCells t
def IY (t s : UX) : Option UX := if t.length + s.length <= 140737488355328 then some (t ++ s) else none
theorem QE {t s r : UX} (h : IY t s = some r) : t.length + s.length <= 140737488355328 /\ r = t ++ s := by
 unfold IY at h; split at h
 ·rename_i h1; exact ⟨h1, by cases h; rfl⟩
 ·cases h
section
variable {w w0 : World} {F0 F : Mem} {L : Own}
theorem D6 (l : UX) : (byteCells l).length = l.length := by simp [byteCells]
theorem RS (l m : UX) : byteCells (l ++ m) = byteCells l ++ byteCells m := by simp [byteCells]
theorem O5 {g : Nat} {cur cs : Array Value} {e : TypeId} {fz : Nat × Nat} (hg : w.heap[g]? = some (.cells cur e fz)) : w.setRow g cs = BV w g (.cells cs e fz) := by
 have hlt : g < w.heap.size := (Array.getElem?_eq_some_iff.1 hg).1
 have hv : w.heap[g] = .cells cur e fz := (Array.getElem?_eq_some_iff.1 hg).2
 unfold World.setRow BV
 congr 1
 apply Array.ext_getElem?
 intro i
 rw [Array.getElem?_modify, Array.getElem?_setIfInBounds]
 by_cases hi : g = i
 ·subst hi; simp [hlt, hv]
 ·simp [hi]
theorem LK {ty : TypeId} (hs : HS w0 F0 w F L) {k : Nat} {e : Option Nat × Obj} (hk : L[k]? = some e) {a : UY} {cap : Nat} {t s r : UX} (hr : R6 a cap t e) (hap : IY t s = some r) :
  ∃ a' cap' e' w', (Builtin.append_ #[103, 9] ty #[.slice a t.length cap, .string ⟨s.toArray⟩]).run Tryz.prog w = .ok (.slice a' r.length cap') w' /\ HS w0 F0 w' F (L.set k e') /\ R6 a' cap' r e' := by
 obtain ⟨hlen, rfl⟩ := QE hap
 have hu9 : Tryz.prog.underlying 9 = some .string := Tryz.underlying9
 have hu42 : Tryz.prog.underlying 103 = some (.slice 5) := Tryz.underlying103
 obtain ⟨i0, hi, hz0, hz1, hz2⟩ := info_parts (show (Tryz.prog.info? 5).map (fun i => (i.zero, i.size, i.bytes)) = some (some (.int .u8 0), 1, 1) by kernel_rfl)
 have hss : (⟨s.toArray⟩ : ByteArray).size = s.length := by simp [ByteArray.size]
 have hsc : strCells ⟨s.toArray⟩ = byteCells s := by simp [strCells, byteCells]
 have hm : maxLen = 9223372036854775807 := rfl
 rcases hr with ⟨rfl, rfl, rfl, he⟩ | ⟨g, cur, rfl, rfl, hne, hlc, hcm, hcs, htk⟩
 ·by_cases h0 : s = []
  ·subst h0
   refine ⟨none, 0, e, w, ?_, by rw [LD hk]; exact hs, .inl ⟨rfl, rfl, rfl, he⟩⟩
   simp [Builtin.append_, run_underlying hu42, run_underlying hu9, sizeOf, typeInfo, hi, hz1, Builtin.lenOf, Builtin.firstCells, ByteArray.size]
  ·have hpos : 0 < s.length := List.length_pos_iff.2 h0
   have hrun := run_append_nil_string (P := Tryz.prog) w 103 9 ty 5 i0 (.int .u8 0) hu42 hu9 hi hz0 ⟨s.toArray⟩ (by rw [hss]; exact hpos) (by rw [hss]; simp at hlen; omega) (by rw [hss, hz2]; simp at hlen; omega)
   rw [hss] at hrun
   refine ⟨_, _, _, _, hrun, (hs.heap (w' := w.drew) rfl).renew k _, .inr ⟨_, _, rfl, rfl, by simpa using h0, by simpa using grownCap_ge w s.length 0 5, grownCap_le_maxLen w s.length 0 5 (by rw [hm]; simp at hlen; omega), ?_, ?_⟩⟩
   ·have := grownCap_ge w s.length 0 5
    simp [Builtin.zeroCells, Value.cells]; omega
   ·rw [List.nil_append]
    have e1 : (s.toArray.map fun b => Value.int .u8 (b.toNat : Int)).toList = byteCells s := by simp [byteCells]
    rw [Array.toList_append, e1, List.take_append_of_le_length (by rw [D6]; exact Nat.le_refl _), <- D6 s, List.take_length]
 ·have hg : w.heap[g]? = some (.cells cur 5 (0, 0)) := hs.ownAt hk
  by_cases hfit : t.length + s.length <= cap
  ·have hrun := run_append_room_string (P := Tryz.prog) w 103 9 ty 5 i0 hu42 hu9 hi hz1 g t.length cap cur hg ⟨s.toArray⟩ (by rw [hss]; exact hfit) (by rw [hss, hcs]; exact hfit)
   rw [hss, hsc, O5 hg] at hrun
   refine ⟨some ⟨g, 0, none⟩, cap, _, _, by rw [List.length_append]; exact hrun, hs.put hk _, .inr ⟨g, _, rfl, rfl, by simp [hne], by simpa using hfit, hcm, ?_, ?_⟩⟩
   ·simp [D6, hcs]; omega
   ·rw [htk, List.length_append, RS]
    rw [List.take_append_of_le_length (by simp [D6])]
    have : t.length + s.length = (byteCells t ++ byteCells s).length := by simp [D6]
    rw [this, List.take_length]
  ·have hholds : ∀ j v, (byteCells t)[j]? = some v -> w.cell? ((⟨g, 0, none⟩ : Addr).add j) = some v := fun j v hj => by
    have hjl : j < t.length := by
     rcases Nat.lt_or_ge j t.length with h' | h'
     ·exact h'
     ·rw [List.getElem?_eq_none (by rw [D6]; exact h')] at hj; cases hj
    have : cur[j]? = some v := by
     rw [<- htk, List.getElem?_take_of_lt hjl, Array.getElem?_toList] at hj; exact hj
    rw [Addr.add_lit]; simp [World.cell?, hg, this]
   have hrun := run_append_grow_string (P := Tryz.prog) w 103 9 ty 5 i0 (.int .u8 0) hu42 hu9 hi hz0 ⟨g, 0, none⟩ t.length cap (byteCells t) (by rw [D6, hz1, Nat.mul_one]) hholds ⟨s.toArray⟩ (by rw [hss]; omega) (by rw [hss]; omega) (by rw [hss, hz2]; exact growslice_fits (by omega) (by omega))
   rw [hss, hsc] at hrun
   refine ⟨_, _, _, _, by rw [List.length_append]; exact hrun, (hs.heap (w' := w.drew) rfl).renew k _, .inr ⟨_, _, rfl, rfl, by simp [hne], by simpa using grownCap_ge w (t.length + s.length) cap 5, grownCap_le_maxLen w (t.length + s.length) cap 5 (by rw [hm]; omega), ?_, ?_⟩⟩
   ·have := grownCap_ge w (t.length + s.length) cap 5
    simp [Builtin.zeroCells, Value.cells, D6]; omega
   ·rw [Array.toList_append, Array.toList_append, RS, List.length_append]
    have : t.length + s.length = (byteCells t ++ byteCells s).length := by simp [D6]
    rw [List.take_append_of_le_length (by simp [D6]), this]
    simp only [List.take_length]
end
section
variable {ρ : Operand -> Value} {w : World}
theorem Hw (op : BinOp) (t : TypeId) (x y : Operand) (p q : UY) : (eqGuard op t x y (.pointer p) (.pointer q)).run Tryz.prog w = .ok () w := by
 unfold eqGuard; cases op <;> simp
theorem Nn (p : UY) (d : Nat) : (Op.equalIn (d + 1) 102 (.pointer p) (.pointer none)).run Tryz.prog w = .ok p.isNone w := by
 unfold Op.equalIn
 simp only [Sem.run_bind, run_underlying Tryz.underlying102, Result.andThen_ok]
 cases p <;> rfl
theorem Oe {x y : Operand} {p : UY} {ty : TypeId} (hx : ρ x = .pointer p) (hy : ρ y = .pointer none) : (Aj ρ (.binOp .eql 102 x y 102) ty).run Tryz.prog w = .ok (.value (.bool p.isNone)) w := by
 have e : Aj ρ (.binOp .eql 102 x y 102) ty = (do pure (Next.value (<- (do eqGuard .eql 102 x y (ρ x) (ρ y); binOp .eql 102 (ρ x) (ρ y))))) := rfl
 have e2 : binOp .eql 102 (.pointer p) (.pointer none) = (do pure (Value.bool (<- Op.equalIn (9999 + 1) 102 (.pointer p) (.pointer none)))) := rfl
 rw [e, hx, hy, e2]
 simp only [Sem.run_bind, Hw, Result.andThen_ok, Nn, Sem.run_pure]
theorem Nk {x y : Operand} {a : Addr} {ty : TypeId} (hx : ρ x = .pointer (some a)) (hy : ρ y = .pointer (some a)) : (Aj ρ (.binOp .neq 102 x y 102) ty).run Tryz.prog w = .ok (.value (.bool false)) w := by
 have e : Aj ρ (.binOp .neq 102 x y 102) ty = (do pure (Next.value (<- (do eqGuard .neq 102 x y (ρ x) (ρ y); binOp .neq 102 (ρ x) (ρ y))))) := rfl
 obtain ⟨j, hj, _⟩ := Option.map_eq_some_iff.1 (show (Tryz.prog.info? 105).map (·.size) = some 2 by kernel_rfl)
 rw [e, hx, hy]
 simp only [Sem.run_bind, Hw, Result.andThen_ok, run_neq_ptr_same w a Tryz.underlying102 hj, Sem.run_pure]
theorem Og {x : Operand} {v u : Value} {s d ty : TypeId} (hx : ρ x = v) (h : (convert s d v).run Tryz.prog w = .ok u w) : (Aj ρ (.convert s d x) ty).run Tryz.prog w = .ok (.value u) w := by
 have e : Aj ρ (.convert s d x) ty = (do pure (Next.value (<- convert s d (ρ x)))) := rfl
 rw [e, hx, Sem.run_bind, h]; rfl
theorem Qe {x : Operand} {v : Value} {ty : TypeId} (hx : ρ x = v) (hf : ρ (.func 192) = .func (.func 192) #[] #[]) : (Aj ρ (.call { callee := .value (.func 192), args := #[x], argTypes := #[235] }) ty).run Tryz.prog w = .ok (.value v) w := by
 have e : Aj ρ (.call { callee := .value (.func 192), args := #[x], argTypes := #[235] }) ty = (do let d <- Deferred.ofValue (ρ (.func 192)) (#[x].map ρ); invoke d.target d.args) := rfl
 rw [e, hf]
 simp only [Deferred.ofValue, Sem.run_bind, Sem.run_pure, Result.andThen_ok, invoke]
 rw [run_callFunc_extern Tryz.func192 (by kernel_rfl) (by kernel_rfl) (by kernel_rfl) (e := Extern.AbiNoEscape.same) (by kernel_rfl)]
 have : (#[] ++ Array.map ρ #[x] ++ #[] : Array Value) = #[v] := by simp [hx]
 rw [this, run_noEscape]; rfl
end
theorem NO : Ae Tryz.prog 161 := fun _ _ => by kernel_rfl
theorem OI {wb w0 : World} {Fb F0 : Mem} {Lf : Own} (b : Nat) (p : UY) (hp : p = none \/ p = some ⟨b, 0, none⟩) (v : Value) (hv : v.oneCell' = true) (hs0 : HS wb Fb w0 F0 ((some b, .cells #[.pointer p, v] 105 (0, 0)) :: Lf)) :
  Calls Tryz.prog 161 ([(.pointer (some ⟨b, 0, none⟩))] : List Value).toArray w0 (Ej wb Fb F0 fun _ r L' => r = .tuple #[] /\ L' = (some b, .cells #[.pointer (some ⟨b, 0, none⟩), v] 105 (0, 0)) :: Lf) := by
 have hsh : w0.shape? b = some (105, 2) := by simp [World.shape?, hs0.at0]
 refine Go 20 Tryz.func161 <| Sq <| Rg [0, 1, 2, 3, 4] <| Vs 3 <| Ld hs0.at0 <| V 6 4 (Oe (x := .tmp 5) (y := .const (.pointer none)) (p := p) rfl rfl) <| Uy <| Ab ?_
 rcases hp with rfl | rfl
 ·refine C1 (t := true) rfl ?_
  refine Rg [0, 1, 2, 3, 4, 5, 6, 7] ?_
  obtain ⟨j, hj, hjs⟩ := Option.map_eq_some_iff.1 (show (Tryz.prog.info? 105).map (·.size) = some 2 by kernel_rfl)
  refine Vs 2 <| V 9 235 (Og (s := 102) (d := 235) (x := .tmp 8) rfl (run_to_unsafe w0 ⟨b, 0, none⟩ Tryz.underlying102 Tryz.underlying235 hj (by rw [hjs]; decide) hsh (Nat.zero_lt_succ 1))) <| V 10 235 (Qe (x := .tmp 9) rfl rfl) <| V 11 102 (Og (s := 235) (d := 102) (x := .tmp 10) rfl (run_from_unsafe w0 ⟨b, 0, none⟩ Tryz.underlying235 Tryz.underlying102 hj hsh (by kernel_rfl))) <| Vs 2 <| St0 #[.pointer (some ⟨b, 0, none⟩), v] hs0 (fun w1 hs1 => ?_)
  refine Uy ?_
  exact ReB [] hs1 (UD _) ⟨rfl, rfl⟩
 ·refine C0 (t := false) rfl ?_
  refine Sq <| Rg [0, 1, 2, 3, 4, 5] <| Vs 3 <| Ld hs0.at0 <| Vs 1 <| V 19 4 (Nk (x := .tmp 17) (y := .tmp 18) rfl rfl) <| Uy <| Ab <| C0 (t := false) rfl <| CWP.skip (by kernel_rfl) ?_
  exact ReB [] hs0 (UD _) ⟨rfl, rfl⟩
theorem Bg : Ae Tryz.prog 90 := fun _ _ => by kernel_rfl
theorem MQ {wb w0 : World} {Fb F0 : Mem} {Lf : Own} (b : Nat) (p : UY) (hp : p = none \/ p = some ⟨b, 0, none⟩) (a : UY) (cap : Nat) (e : Option Nat × Obj) (t s r : UX) (hb : R6 a cap t e) (hap : IY t s = some r)
  (hs0 : HS wb Fb w0 F0 ((some b, .cells #[.pointer p, .slice a t.length cap] 105 (0, 0)) :: e :: Lf)) :
  Calls Tryz.prog 90 ([(.pointer (some ⟨b, 0, none⟩)), (.string ⟨s.toArray⟩)] : List Value).toArray w0 (Ej wb Fb F0 fun _ v L' => v = .tuple #[.int .i64 (s.length : Int), .nilIface] /\ ∃ a' cap' e', L' = (some b, .cells #[.pointer (some ⟨b, 0, none⟩), .slice a' r.length cap'] 105 (0, 0)) :: e' :: Lf /\ R6 a' cap' r e') := by
 refine Go 19 Tryz.func90 <| Sq <| Rg [0, 1] <| Vs 2 <| Uy <| Ab <| Sq <| Rg [0, 1] <| Vs 1 <| CB NO (OI b p hp (.slice a t.length cap) rfl hs0) ?_
 rintro _ F1 w1 _ hs1 le1 ⟨rfl, rfl⟩
 refine Uy <| Ab <| Sq <| Rg [0, 1, 2, 3, 4, 5, 6, 7, 8, 9] <| Vs 4 <| Ld hs1.at0 <| Vs 1 ?_
 obtain ⟨a', cap', e', w2, hrun, hs2, hb2⟩ := LK (ty := 103) hs1 (k := 1) rfl hb hap
 refine Uz (dst := some 14) (ty := 103) (g := none) (v := .slice a' r.length cap') (by kernel_rfl) rfl (by
  have e : ∀ ρ : Operand -> Value, Aj ρ (.call { callee := .builtin .append, args := #[.tmp 12, .tmp 13], argTypes := #[103, 9] }) 103 = (do pure (Next.value (<- Builtin.append_ #[103, 9] 103 (#[.tmp 12, .tmp 13].map ρ)))) := fun _ => rfl
  rw [e]
  simp only [List.map_toArray, List.map_cons, List.map_nil]
  rw [Sem.run_bind]
  refine Eq.trans (congrArg (fun x => Result.andThen x _) (show _ = _ from hrun)) rfl) ?_
 have hs2 : HS wb Fb w2 F1 ((some b, .cells #[.pointer (some ⟨b, 0, none⟩), .slice a t.length cap] 105 (0, 0)) :: e' :: Lf) := hs2
 refine Vs 2 <| St0 #[.pointer (some ⟨b, 0, none⟩), .slice a' r.length cap'] hs2 (fun w3 hs3 => ?_)
 refine Uy <| Ab <| Sq <| Rg [0, 1, 2, 3] <| Vs 4 <| Uy <| Ab <| Rt ?_
 exact ReB [.int .i64 (s.length : Int), .nilIface] hs3 le1 ⟨rfl, a', cap', e', rfl, hb2⟩
def E5 (b : Nat) (t : UX) (_ : Mem) (Lf : Own) : Prop := ∃ p a n e, (p = none \/ p = some ⟨b, 0, none⟩) /\ Lf = [e, (some b, .cells #[.pointer p, .slice a t.length n] 105 (0, 0))] /\ R6 a n t e
theorem E5.mono {b : Nat} : Nb (E5 b) := fun _ _ _ _ h _ => h
section
variable {w w0 : World} {F0 F : Mem} {L : Own} {b : Nat}
theorem E5.new (hs : HS w0 F0 w F ((some b, .cells #[.pointer none, .slice none 0 0] 105 (0, 0)) :: L)) : ∃ Lf, HS w0 F0 w F (L ++ Lf) /\ E5 b [] F Lf :=
 ⟨_, HS.swap (A := [(none, .cells #[] 0 (0, 0)), _]) (hs.dummy (.cells #[] 0 (0, 0))), none, none, 0, _, .inl rfl, rfl, .inl ⟨rfl, rfl, rfl, rfl⟩⟩
theorem Dz {Lf : Own} {t s r : UX} (hap : IY t s = some r) (hJ : E5 b t F Lf) (hs : HS w0 F0 w F (L ++ Lf)) :
  Calls Tryz.prog 90 ([(.pointer (some ⟨b, 0, none⟩)), (.string ⟨s.toArray⟩)] : List Value).toArray w (Ej w0 F0 F fun F' v L' => v = .tuple #[.int .i64 (s.length : Int), .nilIface] /\ ∃ Lf', L' = L ++ Lf' /\ E5 b r F' Lf') := by
 obtain ⟨p, a, n, e, hp, rfl, hb⟩ := hJ
 have h1 : HS w0 F0 w F (e :: (some b, .cells #[.pointer p, .slice a t.length n] 105 (0, 0)) :: L) := HS.swap hs
 refine (MQ b p hp a n e t s r hb hap h1.pk1).mono ?_
 rintro _ w' ⟨F', v, _, rfl, h2, h3, rfl, a', n', e', rfl, hb'⟩
 exact ⟨F', _, L ++ [e', _], rfl, HS.swap (A := [e', _]) h2.pk1, h3, rfl, _, rfl, _, a', n', e', .inr rfl, rfl, hb'⟩
theorem Me : Ae Tryz.prog 91 := fun _ _ => by kernel_rfl
theorem Na {Lf : Own} {t : UX} (hJ : E5 b t F Lf) (hs : HS w0 F0 w F (L ++ Lf)) : Calls Tryz.prog 91 ([(.pointer (some ⟨b, 0, none⟩))] : List Value).toArray w (Ej w0 F0 F0 fun F' v L' => v = .string ⟨t.toArray⟩ /\ L' = [] /\ F' = F0) := by
 obtain ⟨p, a, n, e, hp, rfl, hb⟩ := hJ
 have h1 : HS w0 F0 w F (e :: (some b, .cells #[.pointer p, .slice a t.length n] 105 (0, 0)) :: L) := HS.swap hs
 have hB : w0.heap.size <= b := (h1.own b _ (.tail _ (.head _))).2.2
 have hbk := h1.at1
 have hbuf : IsBuilder 105 5 w0.heap.size b (byteCells t) w := by
  have : BuilderAt 105 5 w0.heap.size b (.pointer p) (byteCells t) w := by
   refine ⟨hB, .slice a t.length n, hbk, ?_, ?_⟩
   ·rcases hb with ⟨rfl, rfl, rfl, _⟩ | ⟨g, cur, rfl, rfl, hne, hlc, hcm, hcs, htk⟩
    ·exact ⟨rfl, .inl ⟨rfl, rfl⟩⟩
    ·exact ⟨by simp [D6], .inr ⟨g, n, cur, by rw [D6], (h1.own g _ (.head _)).2.2, h1.at0, by rw [D6]; exact hlc, hcm, by simpa using hcs, by rw [D6, Nat.mul_one]; exact htk⟩⟩
   ·rcases hb with ⟨rfl, rfl, rfl, _⟩ | ⟨g, cur, rfl, rfl, hne, hlc, hcm, hcs, htk⟩
    ·simp [Value.ownBlock]
    ·have := h1.nd
     simp only [Value.ownBlock]
     intro e
     simp at e
     subst e
     simp at this
  rcases hp with rfl | rfl
  ·exact .inl this
  ·exact .inr this
 refine (Tryz.Builder_String_any w0.heap.size b t w hbuf h1.size).mono ?_
 rintro _ w' ⟨rfl, hbel⟩
 refine ⟨F0, _, [], rfl, ?_, UD _, rfl, rfl, rfl⟩
 exact ⟨h1.base, h1.fix.trans ⟨hbel.os, hbel.output, hbel.tape⟩, Nat.le_trans h1.size hbel.size, fun c hc => (hbel.block c hc).trans (h1.keep c hc), fun _ _ => rfl, fun c o hc => (hbel.block c (AZ (h1.base c o hc))).trans ((h1.keep c (AZ (h1.base c o hc))).trans (h1.base c o hc)), fun _ _ h => (by cases h), List.nodup_nil⟩
end
end
theorem Gf {P : Program} {w : World} {ρ : Operand -> Value} {ty t E : TypeId} {len s : Nat} {x y : Operand} {k : IntKind} {i : Int} {cs C : List Value} (hx : ρ x = .agg cs.toArray) (hy : ρ y = .int k i) (hu : P.underlying t = some (.array len E)) (ht : DE P E = some (true, s)) (hi : 0 <= i /\ i < (len : Int)) (hc : Ao cs.toArray (i.toNat * s) s = C) (hl : C.length = s) :
  (Aj ρ (.index t x y) ty).run P w = .ok (.value (.agg C.toArray)) w := by
 have hp := Gd (P := P) (t := E) (C := cs.toArray) (o := i.toNat * s) ht (by rw [hc]; exact hl) (.inl rfl) w
 rw [hc] at hp
 simp only [Aj, execOp, hx, hy, Instr.index, asIntOf, Sem.run_bind, Sem.run_pure, Result.andThen_ok, run_underlying hu, Ct ht]
 rw [if_pos hi]
 simp only [Sem.run_bind, Ct ht, Result.andThen_ok]
 rw [hp]
 rfl
theorem Ge {P : Program} {w : World} {ρ : Operand -> Value} {ty t E : TypeId} {len s : Nat} {x y : Operand} {k : IntKind} {i n : Int} {cs C : List Value} (hx : ρ x = .agg cs.toArray) (hy : ρ y = .int k i) (hu : P.underlying t = some (.array len E)) (ht : DE P E = some (true, s)) (hd : decide (i = n) = true) (hi : 0 <= n /\ n < (len : Int)) (hc : Ao cs.toArray (n.toNat * s) s = C) (hl : C.length = s) :
  (Aj ρ (.index t x y) ty).run P w = .ok (.value (.agg C.toArray)) w := by
 have e := of_decide_eq_true hd
 subst e
 exact Gf hx hy hu ht hi hc hl
theorem I8 {P : Program} {w : World} {ρ : Operand -> Value} {ty t E : TypeId} {len s b o0 o1 : Nat} {g : Bool} {x y : Operand} {k : IntKind} {i n : Int} (hx : ρ x = .pointer (some ⟨b, o0, none⟩)) (hy : ρ y = .int k i) (hu : P.underlying t = some (.array len E)) (ht : DE P E = some (g, s)) (hd : decide (i = n) = true) (hi : 0 <= n /\ n < (len : Int)) (ho : o0 + n.toNat * s = o1) :
  (Aj ρ (.indexAddr t x y) ty).run P w = .ok (.value (.pointer (some ⟨b, o1, none⟩))) w := by
 have e := of_decide_eq_true hd
 subst e
 subst ho
 have hdo : Aj ρ (.indexAddr t x y) ty = (do pure (Next.value (<- Instr.indexAt t (ρ x) (ρ y)))) := rfl
 rw [hdo, hx, hy]
 have e2 : (Instr.sureAddr (.pointer (some ⟨b, o0, none⟩))).run P w = .ok ⟨b, o0, none⟩ w := rfl
 simp only [Instr.indexAt, asIntOf, Sem.run_bind, Sem.run_pure, Result.andThen_ok, run_underlying hu, e2, hi, and_self, if_true, Ct ht, Addr.add]
 first | rfl | (split <;> simp_all)
section
variable {P : Program} {n : Nat} {Q : Exit -> Fr -> World -> Prop} {f : Fr} {w w0 : World} {F0 F : Mem} {L : Own}
theorem CWP.rangeRet {X α σ : Type} {enc : X -> List Value} {ok : Mem -> X -> Prop} {px : X -> α} {m : ∀ {σ : Type}, (σ -> α -> Option (Bool × σ)) -> σ -> Option σ} {c : Code} (hk : ST c = 1) {gf : FuncId} {cap : List Value} {B : Own}
  (hg : fev f (Sr c) = .func (.func gf) #[] cap.toArray) (hgf : Ae P gf) (hd : f.d = []) {ps : List Nat} (hps0 : rps c = ps) (hps : ps.all (· < n) = true) (hlen : ∀ x, (enc x).length = ps.length) (hs : HS w0 F0 w F (B ++ L)) (hseq : P5 P gf cap F B enc ok px m)
  (lp : σ -> α -> Option (σ × Bool)) (J : σ -> Mem -> Own -> Prop) (hJm : Nb J) {s : σ} {r : σ × Bool} (hJ : J s F L) (hm : m (RQ lp) (s, true) = some r)
  (hround : ∀ (l : Nat) (s : σ) (x : X) (w' : World) (F' : Mem) (Lf Rf : Own) (t : σ × Bool), UC F F' -> ok F' x -> J s F' Lf -> HS w0 F0 w' F' (Lf ++ Rf) -> lp s (px x) = some t ->
   CWP P (some l) n (St c) (fun e f1 w1 => e = .normal /\ ∃ F1 Lu, HS w0 F0 w1 F1 (Lu ++ Rf) /\ ∀ w2 Rg, HS w0 F0 w2 F1 (Lu ++ Rg) -> CWP P (some l) n (PN c) (fun e f2 w3 => ((e = .normal /\ t.2 = true) \/ (e = .ret /\ t.2 = false)) /\ ∃ F2 Lf2, HS w0 F0 w3 F2 (Lf2 ++ Rg) /\ UC F' F2 /\ J t.1 F2 Lf2) f1 w2) (setps f ps (enc x)) w')
  (hdone : r.2 = true -> ∀ (D : Nat) (w' : World) (F' : Mem) (Lf : Own), HS w0 F0 w' F' ((some D, .deferred (some [])) :: Lf) -> UC F F' -> J r.1 F' Lf -> Q .normal ⟨f.v, [{ target := .collected D, args := #[] }]⟩ w')
  (hstop : r.2 = false -> ∀ (D : Nat) (w' : World) (F' : Mem) (Lf : Own), HS w0 F0 w' F' ((some D, .deferred (some [])) :: Lf) -> UC F F' -> J r.1 F' Lf -> Q .ret ⟨f.v, [{ target := .collected D, args := #[] }]⟩ w') : CWP P none n c Q f w := by
 refine CWP.rangeFunc2 hk hg hgf hd hps0 hps hlen hs hseq (RQ lp) (fun s => s.2) (fun s F L => J s.1 F L) (fun s F F' L h hl => hJm s.1 F F' L h hl) (s := (s, true)) (r := r) hJ rfl hm (fun s x q h => ⟨(Kg h).1, (Kg h).2.1⟩) ?_ (fun D w' F' Lf h0 h1 h2 h3 => hdone h0 D w' F' Lf h1 h2 h3) (fun D w' F' Lf h0 h1 h2 h3 => hstop h0 D w' F' Lf h1 h2 h3)
 intro l s x w' F' Lf Rf q hle hok hJ hs hyq
 obtain ⟨h1, h2, h3⟩ := Kg hyq
 refine (hround l s.1 x w' F' Lf Rf q.2 hle hok hJ hs h3).mono ?_
 rintro e f1 w1 ⟨rfl, F1, Lu, hs1, h⟩
 refine ⟨rfl, F1, Lu, hs1, fun w2 Rg hs2 => (h w2 Rg hs2).mono ?_⟩
 rintro e f2 w3 ⟨he, h⟩
 rw [h2]
 exact ⟨he, h⟩
end
def osk {α τ : Type} (q : Option α) (f : τ) (g : α -> τ) : τ := match q with
 | none => f
 | some a => g a
theorem Tf {α τ : Type} {f : τ} {g : α -> τ} {r : τ} (h : osk none f g = r) : f = r := h
theorem Te {α τ : Type} {x : α} {f : τ} {g : α -> τ} {r : τ} (h : osk (some x) f g = r) : g x = r := h
structure As where
 o_ : Ac
 l_ : Log
 done_ : Int
 ended_ : Bool
abbrev rdv (b1 b2 b3 b4 : Nat) : Value := .func (.func 190) #[] #[.pointer (some ⟨b1, 0, none⟩), .pointer (some ⟨b2, 0, none⟩), .pointer (some ⟨b3, 0, none⟩), .pointer (some ⟨b4, 0, none⟩)]
abbrev wrv (b1 b4 : Nat) : Value := .func (.func 191) #[] #[.pointer (some ⟨b1, 0, none⟩), .pointer (some ⟨b4, 0, none⟩)]
abbrev fcv (k : FuncId) : Value := .func (.func k) #[] #[]
theorem EP : Ae Tryz.prog 155 := fun _ _ => by kernel_rfl
set_option maxRecDepth 100000 in
theorem Fi (w0 : World) (F0 : Mem) (hF : UZ w0 F0) (s : UX) (lo hi : Int) (k : FuncId) : Calls Tryz.prog 155 ([(.string ⟨s.toArray⟩), (.int .i64 lo), (.int .i64 hi), fcv k] : List Value).toArray w0 (AD w0 F0 fun F' v => ∃ b1 b2 b3 b4, v = .agg #[rdv b1 b2 b3 b4, wrv b1 b4] /\
  F' b1 = some (.cells #[.string ⟨s.toArray⟩] 9 (0, 0)) /\ F' b2 = some (.cells #[.int .i64 lo] 3 (0, 0)) /\ F' b3 = some (.cells #[.int .i64 hi] 3 (0, 0)) /\ F' b4 = some (.cells #[fcv k] 195 (0, 0))) := by
 have hs0 := UE hF
 refine Go 12 Tryz.func155 <| Sq <| Rg [0, 1, 2, 3, 4] <| Bx' 9 #[(.string ⟨s.toArray⟩)] hs0 (fun b1 w1 hs1 => ?_)
 refine Bx' 3 #[(.int .i64 lo)] hs1 (fun b2 w2 hs2 => ?_)
 refine Bx' 3 #[(.int .i64 hi)] hs2 (fun b3 w3 hs3 => ?_)
 refine Bx' 195 #[fcv k] hs3 (fun b4 w4 hs4 => ?_)
 refine Al' 109 #[.nilFunc, .nilFunc] hs4 (fun b5 w5 hs5 => ?_)
 refine Uy <| Ab <| Sq <| Rg [0, 1, 2, 3] <| Vs 3 <| St0 #[rdv b1 b2 b3 b4, wrv b1 b4] hs5 (fun w6 hs6 => ?_)
 refine Uy <| Ab <| Rt ?_
 obtain ⟨F1, hs7, le1, f4⟩ := hs6.fc1
 obtain ⟨F2, hs8, le2, f3⟩ := hs7.fc1
 obtain ⟨F3, hs9, le3, f2⟩ := hs8.fc1
 obtain ⟨F4, hs10, le4, f1⟩ := hs9.fc1
 exact ⟨rfl, (.agg #[rdv b1 b2 b3 b4, wrv b1 b4]), AW (l := [.cell 8 109]) (by kernel_rfl) (vs := [(.agg #[rdv b1 b2 b3 b4, wrv b1 b4])]) ⟨b5, 0, rfl, Al (t := 109) (g := true) (s := 2) (by kernel_rfl) hs10.at0 rfl (by decide), trivial⟩, (.agg #[rdv b1 b2 b3 b4, wrv b1 b4]), F4, rfl, hs10.clear, b1, b2, b3, b4, rfl, f1, le4 _ _ f2, le4 _ _ (le3 _ _ f3), le4 _ _ (le3 _ _ (le2 _ _ f4))⟩
theorem Es : Ae Tryz.prog 89 := fun _ _ => by kernel_rfl
set_option maxRecDepth 100000 in
theorem E1 (w0 : World) (F0 : Mem) (hF : UZ w0 F0) : Calls Tryz.prog 89 ([] : List Value).toArray w0 (AD w0 F0 fun F' v => ∃ (b1 b2 b3 b4 b5 b6 b7 b8 b9 b10 b11 b12 : Nat), v = .agg #[fcv 153, fcv 154, rdv b1 b2 b3 b4, wrv b1 b4, rdv b5 b6 b7 b8, wrv b5 b8, rdv b9 b10 b11 b12, wrv b9 b12, fcv 159, fcv 160] /\ F' b1 = some (.cells #[(.string ⟨([67, 65, 84, 69, 71, 79, 82, 89] : UX).toArray⟩)] 9 (0, 0)) /\ F' b2 = some (.cells #[.int .i64 1] 3 (0, 0)) /\ F' b3 = some (.cells #[.int .i64 9] 3 (0, 0)) /\ F' b4 = some (.cells #[fcv 156] 195 (0, 0)) /\ F' b5 = some (.cells #[(.string ⟨([80, 79, 87, 69, 82] : UX).toArray⟩)] 9 (0, 0)) /\ F' b6 = some (.cells #[.int .i64 1] 3 (0, 0)) /\ F' b7 = some (.cells #[.int .i64 9999] 3 (0, 0)) /\ F' b8 = some (.cells #[fcv 157] 195 (0, 0)) /\ F' b9 = some (.cells #[(.string ⟨([67, 76, 65, 73, 77, 69, 68] : UX).toArray⟩)] 9 (0, 0)) /\ F' b10 = some (.cells #[.int .i64 0] 3 (0, 0)) /\ F' b11 = some (.cells #[.int .i64 1000000] 3 (0, 0)) /\ F' b12 = some (.cells #[fcv 158] 195 (0, 0))) := by
 have hs0 := UE hF
 refine Go 7 Tryz.func89 <| Sq <| Rg [0] <| Al' 110 #[.nilFunc, .nilFunc, .nilFunc, .nilFunc, .nilFunc, .nilFunc, .nilFunc, .nilFunc, .nilFunc, .nilFunc] hs0 (fun b0 w1 hs1 => ?_)
 refine Uy <| Ab <| Sq <| Rg [0, 1, 2, 3, 4, 5, 6] <| Vs 1 <| Cl' EP hs1 (Fi w1 F0 hs1.pers [67, 65, 84, 69, 71, 79, 82, 89] 1 9 156) ?_
 rintro _ F1 w2 hs2 le1 ⟨b1, b2, b3, b4, rfl, f1, f2, f3, f4⟩
 refine Cl' EP hs2 (Fi w2 F1 hs2.pers [80, 79, 87, 69, 82] 1 9999 157) ?_
 rintro _ F2 w3 hs3 le2 ⟨b5, b6, b7, b8, rfl, f5, f6, f7, f8⟩
 refine Cl' EP hs3 (Fi w3 F2 hs3.pers [67, 76, 65, 73, 77, 69, 68] 0 1000000 158) ?_
 rintro _ F3 w4 hs4 le3 ⟨b9, b10, b11, b12, rfl, f9, f10, f11, f12⟩
 refine Vs 1 <| V 6 110 (IF (t := 110) (parts := #[(0, .tmp 1), (1, .tmp 2), (2, .tmp 3), (3, .tmp 4), (4, .tmp 5)]) (vs := [(0, .agg #[fcv 153, fcv 154]), (1, .agg #[rdv b1 b2 b3 b4, wrv b1 b4]), (2, .agg #[rdv b5 b6 b7 b8, wrv b5 b8]), (3, .agg #[rdv b9 b10 b11 b12, wrv b9 b12]), (4, .agg #[fcv 159, fcv 160])]) rfl (cs := [fcv 153, fcv 154, rdv b1 b2 b3 b4, wrv b1 b4, rdv b5 b6 b7 b8, wrv b5 b8, rdv b9 b10 b11 b12, wrv b9 b12, fcv 159, fcv 160]) (by kernel_rfl)) <| St0 #[fcv 153, fcv 154, rdv b1 b2 b3 b4, wrv b1 b4, rdv b5 b6 b7 b8, wrv b5 b8, rdv b9 b10 b11 b12, wrv b9 b12, fcv 159, fcv 160] hs4 (fun w5 hs5 => ?_)
 refine Uy <| Ab <| Rt ?_
 exact ⟨rfl, (.agg #[fcv 153, fcv 154, rdv b1 b2 b3 b4, wrv b1 b4, rdv b5 b6 b7 b8, wrv b5 b8, rdv b9 b10 b11 b12, wrv b9 b12, fcv 159, fcv 160]), AW (l := [.cell 0 110]) (by kernel_rfl) (vs := [(.agg #[fcv 153, fcv 154, rdv b1 b2 b3 b4, wrv b1 b4, rdv b5 b6 b7 b8, wrv b5 b8, rdv b9 b10 b11 b12, wrv b9 b12, fcv 159, fcv 160])]) ⟨b0, 0, rfl, Al (t := 110) (g := true) (s := 10) (by kernel_rfl) hs5.at0 rfl (by decide), trivial⟩, (.agg #[fcv 153, fcv 154, rdv b1 b2 b3 b4, wrv b1 b4, rdv b5 b6 b7 b8, wrv b5 b8, rdv b9 b10 b11 b12, wrv b9 b12, fcv 159, fcv 160]), F3, rfl, hs5.clear, b1, b2, b3, b4, b5, b6, b7, b8, b9, b10, b11, b12, rfl, le3 _ _ (le2 _ _ f1), le3 _ _ (le2 _ _ f2), le3 _ _ (le2 _ _ f3), le3 _ _ (le2 _ _ f4), le3 _ _ f5, le3 _ _ f6, le3 _ _ f7, le3 _ _ f8, f9, f10, f11, f12⟩
def Ip (N : Nat) (x0 : Ac) (x1 : Log) (r27 : (Int × Int)) (r54 : UX) (r62 : UX) (t68 : UX) (r79 : UX) (r87 : UX) (t93 : UX) (r104 : UX) (r112 : UX) (t118 : UX) (r129 : UX) (r137 : UX) (t143 : UX) (r154 : UX) (r162 : UX) (t168 : UX) : (Int × UX) -> Option (Ba (UX × Int) (Int × UX)) := fun s178 =>
 (bif (decide (s178.1 < (x1.Lines.length : Int))) then ((idx x1.Lines s178.1).bind fun x207 => ((Ff N ({ Report := x0.Report, Serial := x0.Serial, Zone := x0.Zone } : Ac) x207).bind fun r226 => ((DF r226.1 ([10] : UX)).bind fun r234 => ((IY s178.2 r234).bind fun t240 => some (.next ((W64 (s178.1 + 1)), t240)))))) else some (.done (s178.1, s178.2)))
def LX (N : Nat) (x0 : Ac) (x1 : Log) : Option (UX × Int) :=
 ((DH N ({ Report := x0.Report, Serial := x0.Serial, Zone := x0.Zone } : Ac) x1).bind fun r27 => (bif (r27.1 != 0) then none else ((Jg N x1).bind fun r54 => ((DF r54 ([10] : UX)).bind fun r62 => ((IY ([] : UX) r62).bind fun t68 => ((Gj N x1 ([67, 65, 84, 69, 71, 79, 82, 89] : UX)).bind fun r79 => ((DF r79 ([10] : UX)).bind fun r87 => ((IY t68 r87).bind fun t93 => ((Gh N x1 ([80, 79, 87, 69, 82] : UX)).bind fun r104 => ((DF r104 ([10] : UX)).bind fun r112 => ((IY t93 r112).bind fun t118 => ((Gi N x1 ([67, 76, 65, 73, 77, 69, 68] : UX)).bind fun r129 => ((DF r129 ([10] : UX)).bind fun r137 => ((IY t118 r137).bind fun t143 => ((GW N x1).bind fun r154 => ((DF r154 ([10] : UX)).bind fun r162 => ((IY t143 r162).bind fun t168 => ((AQ (Ip N x0 x1 r27 r54 r62 t68 r79 r87 t93 r104 r112 t118 r129 r137 t143 r154 r162 t168) N (0, t168)).bind fun o => o.k (fun r => some r) (fun s190 => ((IY s190.2 ([69, 78, 68, 10] : UX)).bind fun t252 => some (t252, 0)))))))))))))))))))))
theorem MF : Ae Tryz.prog 29 := fun _ _ => by kernel_rfl
theorem NW (N : Nat) (w0 : World) (F0 : Mem) (hF : UZ w0 F0) (hG : Bq F0) (x0 : Ac) (x1 : Log) (a1_4 : UY) (n1_4 : Nat) (hb1_4 : LC x1.Jumps.length n1_4) (hs1_4 : SlA AB F0 a1_4 x1.Jumps) (a1_5 : UY) (n1_5 : Nat) (hb1_5 : LC x1.Lines.length n1_5) (hs1_5 : SlA AF F0 a1_5 x1.Lines) (r : (UX × Int)) (h : LX N x0 x1 = some r) :
  Calls Tryz.prog 29 ([(.agg (Ai x0)), (.agg (AC x1 a1_4 n1_4 a1_5 n1_5))] : List Value).toArray w0 (AD w0 F0 fun F' v => v = (.tuple #[(sv r.1), (vi r.2)])) := by
 have hs0 := UE hF
 refine Go 54 Tryz.func29 <| Sq (Rg (rG 4) ?_)
 refine Bx' 23 (Ai x0) hs0 (fun b21 w22 hs23 => ?_)
 refine Bx' 27 (AC x1 a1_4 n1_4 a1_5 n1_5) hs23 (fun b24 w25 hs26 => ?_)
 refine Vs 2 <| Nss <| Sq (Rg (rG 8) ?_)
 refine Ld hs26.at1 <| Ld hs26.at0 ?_
 obtain ⟨r27, hr28, h29⟩ := bind_some h
 refine Cl' FX hs26 (GQ N w25 F0 hs26.pers hG (({ Report := x0.Report, Serial := x0.Serial, Zone := x0.Zone } : Ac)) x1 a1_4 n1_4 hb1_4 hs1_4 a1_5 n1_5 hb1_5 hs1_5 _ hr28) ?_
 rintro _ F1 w31 hs32 le33 rfl
 refine Vs 5 <| Nss (Rg [0, 1] ?_)
 refine Vs 2 <| Nt <| Cd h29 (fun hb35 h36 => ?_) (fun hb35 h37 => ?_)
 ·cases h36
 ·refine Sc ?_
  refine Ab <| Sq (Rg [0] ?_)
  refine Al' 105 #[.pointer none, .slice none 0 0] hs32 (fun b38 w39 hs40 => ?_)
  obtain ⟨Lf41, hs42, hJ43⟩ := E5.new hs40
  have hs44 : HS w0 F0 w39 F1 ((sb b24 (AC x1 a1_4 n1_4 a1_5 n1_5) 27) :: (sb b21 (Ai x0) 23) :: Lf41) := hs42
  refine Nss <| Sq (Rg [0, 1] ?_)
  refine Cl' Es hs44 (E1 w39 F1 hs44.pers) ?_
  rintro _ F2 w45 hs46 le47 ⟨tbt48_0_0, tbt48_0_1, tbt48_0_2, tbt48_0_3, tbt48_0_4, tbt48_0_5, tbt48_0_6, tbt48_0_7, tbt48_0_8, tbt48_0_9, tbt48_0_10, tbt48_0_11, rfl, htbt48_0_0, htbt48_0_1, htbt48_0_2, htbt48_0_3, htbt48_0_4, htbt48_0_5, htbt48_0_6, htbt48_0_7, htbt48_0_8, htbt48_0_9, htbt48_0_10, htbt48_0_11⟩
  refine Vs 1 <| Nt <| Bk <| CWP.unroll (by kernel_rfl) 6 <| URL.step <| Sq (Rg [0] ?_)
  refine Vs 1 <| Nss <| C1 (rfl : true = true) <| Sc <| Ab <| Sq <| Bk <| Sq (Rg [0, 1, 2] ?_)
  refine V 27 109 (Gf (t := 110) (E := 109) (len := 5) (s := 2) (x := (.tmp 24)) (y := (.tmp 25)) (k := .i64) (i := 0) (cs := [(fV 153 #[]), (fV 154 #[]), (fV 190 #[(pt tbt48_0_0 0), (pt tbt48_0_1 0), (pt tbt48_0_2 0), (pt tbt48_0_3 0)]), (fV 191 #[(pt tbt48_0_0 0), (pt tbt48_0_3 0)]), (fV 190 #[(pt tbt48_0_4 0), (pt tbt48_0_5 0), (pt tbt48_0_6 0), (pt tbt48_0_7 0)]), (fV 191 #[(pt tbt48_0_4 0), (pt tbt48_0_7 0)]), (fV 190 #[(pt tbt48_0_8 0), (pt tbt48_0_9 0), (pt tbt48_0_10 0), (pt tbt48_0_11 0)]), (fV 191 #[(pt tbt48_0_8 0), (pt tbt48_0_11 0)]), (fV 159 #[]), (fV 160 #[])]) (C := [(fV 153 #[]), (fV 154 #[])]) rfl rfl (by kernel_rfl) (by kernel_rfl) (by decide) rfl rfl) <| Al' 109 #[.nilFunc, .nilFunc] hs46 (fun b49 w50 hs51 => ?_)
  refine St0 #[(fV 153 #[]), (fV 154 #[])] hs51 (fun w52 hs53 => ?_)
  refine Nt <| Rg (rG 6) <| Vs 1 <| Ld hs53.at0 <| Ld hs53.at1 ?_
  obtain ⟨r54, hr55, h56⟩ := bind_some h37
  refine Cl' K1 hs53 (Mo N w52 F2 hs53.pers x1 a1_4 n1_4 hb1_4 (UF hs1_4 (le33.t le47)) a1_5 n1_5 hb1_5 (UF hs1_5 (le33.t le47)) _ hr55) ?_
  rintro _ F3 w58 hs59 le60 rfl
  obtain ⟨r62, hr63, h64⟩ := bind_some h56
  refine V 32 9 (AY (t := 9) (t' := 9) (x := (.tmp 31)) (y := (.const (sv ([10] : UX)))) (a := r54) (b := ([10] : UX)) (v := r62) rfl rfl hr63) ?_
  obtain ⟨t68, ht69, h70⟩ := bind_some h64
  refine CB Bg (Dz (L := [(sb b49 #[(fV 153 #[]), (fV 154 #[])] 109), (sb b24 (AC x1 a1_4 n1_4 a1_5 n1_5) 27), (sb b21 (Ai x0) 23)]) ht69 (E5.mono _ _ _ _ hJ43 (le47.t le60)) hs59) ?_
  rintro _ F4 w65 _ hs66 le67 ⟨rfl, Lf71, rfl, hJ72⟩
  have hs73 : HS w0 F0 w65 F4 ((sb b49 #[(fV 153 #[]), (fV 154 #[])] 109) :: (sb b24 (AC x1 a1_4 n1_4 a1_5 n1_5) 27) :: (sb b21 (Ai x0) 23) :: Lf71) := hs66
  refine Uy <| Ar <| Ab <| Rg [0, 1] <| Vs 2 <| Nt <| URL.step <| Sq (Rg [0] ?_)
  refine Vs 1 <| Nss <| C1 (rfl : true = true) <| Sc <| Ab <| Sq <| Bk <| Sq (Rg [0, 1, 2] ?_)
  refine V 27 109 (Gf (t := 110) (E := 109) (len := 5) (s := 2) (x := (.tmp 24)) (y := (.tmp 25)) (k := .i64) (i := 1) (cs := [(fV 153 #[]), (fV 154 #[]), (fV 190 #[(pt tbt48_0_0 0), (pt tbt48_0_1 0), (pt tbt48_0_2 0), (pt tbt48_0_3 0)]), (fV 191 #[(pt tbt48_0_0 0), (pt tbt48_0_3 0)]), (fV 190 #[(pt tbt48_0_4 0), (pt tbt48_0_5 0), (pt tbt48_0_6 0), (pt tbt48_0_7 0)]), (fV 191 #[(pt tbt48_0_4 0), (pt tbt48_0_7 0)]), (fV 190 #[(pt tbt48_0_8 0), (pt tbt48_0_9 0), (pt tbt48_0_10 0), (pt tbt48_0_11 0)]), (fV 191 #[(pt tbt48_0_8 0), (pt tbt48_0_11 0)]), (fV 159 #[]), (fV 160 #[])]) (C := [(fV 190 #[(pt tbt48_0_0 0), (pt tbt48_0_1 0), (pt tbt48_0_2 0), (pt tbt48_0_3 0)]), (fV 191 #[(pt tbt48_0_0 0), (pt tbt48_0_3 0)])]) rfl rfl (by kernel_rfl) (by kernel_rfl) (by decide) rfl rfl) <| Al' 109 #[.nilFunc, .nilFunc] hs73 (fun b74 w75 hs76 => ?_)
  refine St0 #[(fV 190 #[(pt tbt48_0_0 0), (pt tbt48_0_1 0), (pt tbt48_0_2 0), (pt tbt48_0_3 0)]), (fV 191 #[(pt tbt48_0_0 0), (pt tbt48_0_3 0)])] hs76 (fun w77 hs78 => ?_)
  refine Nt <| Rg (rG 6) <| Vs 1 <| Ld hs78.at0 <| Ld hs78.at2 ?_
  obtain ⟨r79, hr80, h81⟩ := bind_some h70
  refine Cl' H7 hs78 (IR N w77 F4 hs78.pers (hG.mono (((le33.t le47).trans le60).trans le67)) x1 a1_4 n1_4 hb1_4 (UF hs1_4 (((le33.t le47).trans le60).trans le67)) a1_5 n1_5 hb1_5 (UF hs1_5 (((le33.t le47).trans le60).trans le67)) tbt48_0_0 ([67, 65, 84, 69, 71, 79, 82, 89] : UX) ((le60.t le67) _ _ htbt48_0_0) tbt48_0_3 ((le60.t le67) _ _ htbt48_0_3) _ hr80) ?_
  rintro _ F5 w83 hs84 le85 rfl
  obtain ⟨r87, hr88, h89⟩ := bind_some h81
  refine V 32 9 (AY (t := 9) (t' := 9) (x := (.tmp 31)) (y := (.const (sv ([10] : UX)))) (a := r79) (b := ([10] : UX)) (v := r87) rfl rfl hr88) ?_
  obtain ⟨t93, ht94, h95⟩ := bind_some h89
  refine CB Bg (Dz (L := [(sb b74 #[(fV 190 #[(pt tbt48_0_0 0), (pt tbt48_0_1 0), (pt tbt48_0_2 0), (pt tbt48_0_3 0)]), (fV 191 #[(pt tbt48_0_0 0), (pt tbt48_0_3 0)])] 109), (sb b49 #[(fV 153 #[]), (fV 154 #[])] 109), (sb b24 (AC x1 a1_4 n1_4 a1_5 n1_5) 27), (sb b21 (Ai x0) 23)]) ht94 (E5.mono _ _ _ _ hJ72 le85) hs84) ?_
  rintro _ F6 w90 _ hs91 le92 ⟨rfl, Lf96, rfl, hJ97⟩
  have hs98 : HS w0 F0 w90 F6 ((sb b74 #[(fV 190 #[(pt tbt48_0_0 0), (pt tbt48_0_1 0), (pt tbt48_0_2 0), (pt tbt48_0_3 0)]), (fV 191 #[(pt tbt48_0_0 0), (pt tbt48_0_3 0)])] 109) :: (sb b49 #[(fV 153 #[]), (fV 154 #[])] 109) :: (sb b24 (AC x1 a1_4 n1_4 a1_5 n1_5) 27) :: (sb b21 (Ai x0) 23) :: Lf96) := hs91
  refine Uy <| Ar <| Ab <| Rg [0, 1] <| Vs 2 <| Nt <| URL.step <| Sq (Rg [0] ?_)
  refine Vs 1 <| Nss <| C1 (rfl : true = true) <| Sc <| Ab <| Sq <| Bk <| Sq (Rg [0, 1, 2] ?_)
  refine V 27 109 (Gf (t := 110) (E := 109) (len := 5) (s := 2) (x := (.tmp 24)) (y := (.tmp 25)) (k := .i64) (i := 2) (cs := [(fV 153 #[]), (fV 154 #[]), (fV 190 #[(pt tbt48_0_0 0), (pt tbt48_0_1 0), (pt tbt48_0_2 0), (pt tbt48_0_3 0)]), (fV 191 #[(pt tbt48_0_0 0), (pt tbt48_0_3 0)]), (fV 190 #[(pt tbt48_0_4 0), (pt tbt48_0_5 0), (pt tbt48_0_6 0), (pt tbt48_0_7 0)]), (fV 191 #[(pt tbt48_0_4 0), (pt tbt48_0_7 0)]), (fV 190 #[(pt tbt48_0_8 0), (pt tbt48_0_9 0), (pt tbt48_0_10 0), (pt tbt48_0_11 0)]), (fV 191 #[(pt tbt48_0_8 0), (pt tbt48_0_11 0)]), (fV 159 #[]), (fV 160 #[])]) (C := [(fV 190 #[(pt tbt48_0_4 0), (pt tbt48_0_5 0), (pt tbt48_0_6 0), (pt tbt48_0_7 0)]), (fV 191 #[(pt tbt48_0_4 0), (pt tbt48_0_7 0)])]) rfl rfl (by kernel_rfl) (by kernel_rfl) (by decide) rfl rfl) <| Al' 109 #[.nilFunc, .nilFunc] hs98 (fun b99 w100 hs101 => ?_)
  refine St0 #[(fV 190 #[(pt tbt48_0_4 0), (pt tbt48_0_5 0), (pt tbt48_0_6 0), (pt tbt48_0_7 0)]), (fV 191 #[(pt tbt48_0_4 0), (pt tbt48_0_7 0)])] hs101 (fun w102 hs103 => ?_)
  refine Nt <| Rg (rG 6) <| Vs 1 <| Ld hs103.at0 <| Ld hs103.at3 ?_
  obtain ⟨r104, hr105, h106⟩ := bind_some h95
  refine Cl' H1 hs103 (IP N w102 F6 hs103.pers (hG.mono (((((le33.t le47).trans le60).trans le67).trans le85).trans le92)) x1 a1_4 n1_4 hb1_4 (UF hs1_4 (((((le33.t le47).trans le60).trans le67).trans le85).trans le92)) a1_5 n1_5 hb1_5 (UF hs1_5 (((((le33.t le47).trans le60).trans le67).trans le85).trans le92)) tbt48_0_4 ([80, 79, 87, 69, 82] : UX) ((((le60.t le67).trans le85).trans le92) _ _ htbt48_0_4) tbt48_0_7 ((((le60.t le67).trans le85).trans le92) _ _ htbt48_0_7) _ hr105) ?_
  rintro _ F7 w108 hs109 le110 rfl
  obtain ⟨r112, hr113, h114⟩ := bind_some h106
  refine V 32 9 (AY (t := 9) (t' := 9) (x := (.tmp 31)) (y := (.const (sv ([10] : UX)))) (a := r104) (b := ([10] : UX)) (v := r112) rfl rfl hr113) ?_
  obtain ⟨t118, ht119, h120⟩ := bind_some h114
  refine CB Bg (Dz (L := [(sb b99 #[(fV 190 #[(pt tbt48_0_4 0), (pt tbt48_0_5 0), (pt tbt48_0_6 0), (pt tbt48_0_7 0)]), (fV 191 #[(pt tbt48_0_4 0), (pt tbt48_0_7 0)])] 109), (sb b74 #[(fV 190 #[(pt tbt48_0_0 0), (pt tbt48_0_1 0), (pt tbt48_0_2 0), (pt tbt48_0_3 0)]), (fV 191 #[(pt tbt48_0_0 0), (pt tbt48_0_3 0)])] 109), (sb b49 #[(fV 153 #[]), (fV 154 #[])] 109), (sb b24 (AC x1 a1_4 n1_4 a1_5 n1_5) 27), (sb b21 (Ai x0) 23)]) ht119 (E5.mono _ _ _ _ hJ97 le110) hs109) ?_
  rintro _ F8 w115 _ hs116 le117 ⟨rfl, Lf121, rfl, hJ122⟩
  have hs123 : HS w0 F0 w115 F8 ((sb b99 #[(fV 190 #[(pt tbt48_0_4 0), (pt tbt48_0_5 0), (pt tbt48_0_6 0), (pt tbt48_0_7 0)]), (fV 191 #[(pt tbt48_0_4 0), (pt tbt48_0_7 0)])] 109) :: (sb b74 #[(fV 190 #[(pt tbt48_0_0 0), (pt tbt48_0_1 0), (pt tbt48_0_2 0), (pt tbt48_0_3 0)]), (fV 191 #[(pt tbt48_0_0 0), (pt tbt48_0_3 0)])] 109) :: (sb b49 #[(fV 153 #[]), (fV 154 #[])] 109) :: (sb b24 (AC x1 a1_4 n1_4 a1_5 n1_5) 27) :: (sb b21 (Ai x0) 23) :: Lf121) := hs116
  refine Uy <| Ar <| Ab <| Rg [0, 1] <| Vs 2 <| Nt <| URL.step <| Sq (Rg [0] ?_)
  refine Vs 1 <| Nss <| C1 (rfl : true = true) <| Sc <| Ab <| Sq <| Bk <| Sq (Rg [0, 1, 2] ?_)
  refine V 27 109 (Gf (t := 110) (E := 109) (len := 5) (s := 2) (x := (.tmp 24)) (y := (.tmp 25)) (k := .i64) (i := 3) (cs := [(fV 153 #[]), (fV 154 #[]), (fV 190 #[(pt tbt48_0_0 0), (pt tbt48_0_1 0), (pt tbt48_0_2 0), (pt tbt48_0_3 0)]), (fV 191 #[(pt tbt48_0_0 0), (pt tbt48_0_3 0)]), (fV 190 #[(pt tbt48_0_4 0), (pt tbt48_0_5 0), (pt tbt48_0_6 0), (pt tbt48_0_7 0)]), (fV 191 #[(pt tbt48_0_4 0), (pt tbt48_0_7 0)]), (fV 190 #[(pt tbt48_0_8 0), (pt tbt48_0_9 0), (pt tbt48_0_10 0), (pt tbt48_0_11 0)]), (fV 191 #[(pt tbt48_0_8 0), (pt tbt48_0_11 0)]), (fV 159 #[]), (fV 160 #[])]) (C := [(fV 190 #[(pt tbt48_0_8 0), (pt tbt48_0_9 0), (pt tbt48_0_10 0), (pt tbt48_0_11 0)]), (fV 191 #[(pt tbt48_0_8 0), (pt tbt48_0_11 0)])]) rfl rfl (by kernel_rfl) (by kernel_rfl) (by decide) rfl rfl) <| Al' 109 #[.nilFunc, .nilFunc] hs123 (fun b124 w125 hs126 => ?_)
  refine St0 #[(fV 190 #[(pt tbt48_0_8 0), (pt tbt48_0_9 0), (pt tbt48_0_10 0), (pt tbt48_0_11 0)]), (fV 191 #[(pt tbt48_0_8 0), (pt tbt48_0_11 0)])] hs126 (fun w127 hs128 => ?_)
  refine Nt <| Rg (rG 6) <| Vs 1 <| Ld hs128.at0 <| Ld hs128.at4 ?_
  obtain ⟨r129, hr130, h131⟩ := bind_some h120
  refine Cl' H6 hs128 (IQ N w127 F8 hs128.pers (hG.mono (((((((le33.t le47).trans le60).trans le67).trans le85).trans le92).trans le110).trans le117)) x1 a1_4 n1_4 hb1_4 (UF hs1_4 (((((((le33.t le47).trans le60).trans le67).trans le85).trans le92).trans le110).trans le117)) a1_5 n1_5 hb1_5 (UF hs1_5 (((((((le33.t le47).trans le60).trans le67).trans le85).trans le92).trans le110).trans le117)) tbt48_0_8 ([67, 76, 65, 73, 77, 69, 68] : UX) ((((((le60.t le67).trans le85).trans le92).trans le110).trans le117) _ _ htbt48_0_8) tbt48_0_11 ((((((le60.t le67).trans le85).trans le92).trans le110).trans le117) _ _ htbt48_0_11) _ hr130) ?_
  rintro _ F9 w133 hs134 le135 rfl
  obtain ⟨r137, hr138, h139⟩ := bind_some h131
  refine V 32 9 (AY (t := 9) (t' := 9) (x := (.tmp 31)) (y := (.const (sv ([10] : UX)))) (a := r129) (b := ([10] : UX)) (v := r137) rfl rfl hr138) ?_
  obtain ⟨t143, ht144, h145⟩ := bind_some h139
  refine CB Bg (Dz (L := [(sb b124 #[(fV 190 #[(pt tbt48_0_8 0), (pt tbt48_0_9 0), (pt tbt48_0_10 0), (pt tbt48_0_11 0)]), (fV 191 #[(pt tbt48_0_8 0), (pt tbt48_0_11 0)])] 109), (sb b99 #[(fV 190 #[(pt tbt48_0_4 0), (pt tbt48_0_5 0), (pt tbt48_0_6 0), (pt tbt48_0_7 0)]), (fV 191 #[(pt tbt48_0_4 0), (pt tbt48_0_7 0)])] 109), (sb b74 #[(fV 190 #[(pt tbt48_0_0 0), (pt tbt48_0_1 0), (pt tbt48_0_2 0), (pt tbt48_0_3 0)]), (fV 191 #[(pt tbt48_0_0 0), (pt tbt48_0_3 0)])] 109), (sb b49 #[(fV 153 #[]), (fV 154 #[])] 109), (sb b24 (AC x1 a1_4 n1_4 a1_5 n1_5) 27), (sb b21 (Ai x0) 23)]) ht144 (E5.mono _ _ _ _ hJ122 le135) hs134) ?_
  rintro _ F10 w140 _ hs141 le142 ⟨rfl, Lf146, rfl, hJ147⟩
  have hs148 : HS w0 F0 w140 F10 ((sb b124 #[(fV 190 #[(pt tbt48_0_8 0), (pt tbt48_0_9 0), (pt tbt48_0_10 0), (pt tbt48_0_11 0)]), (fV 191 #[(pt tbt48_0_8 0), (pt tbt48_0_11 0)])] 109) :: (sb b99 #[(fV 190 #[(pt tbt48_0_4 0), (pt tbt48_0_5 0), (pt tbt48_0_6 0), (pt tbt48_0_7 0)]), (fV 191 #[(pt tbt48_0_4 0), (pt tbt48_0_7 0)])] 109) :: (sb b74 #[(fV 190 #[(pt tbt48_0_0 0), (pt tbt48_0_1 0), (pt tbt48_0_2 0), (pt tbt48_0_3 0)]), (fV 191 #[(pt tbt48_0_0 0), (pt tbt48_0_3 0)])] 109) :: (sb b49 #[(fV 153 #[]), (fV 154 #[])] 109) :: (sb b24 (AC x1 a1_4 n1_4 a1_5 n1_5) 27) :: (sb b21 (Ai x0) 23) :: Lf146) := hs141
  refine Uy <| Ar <| Ab <| Rg [0, 1] <| Vs 2 <| Nt <| URL.step <| Sq (Rg [0] ?_)
  refine Vs 1 <| Nss <| C1 (rfl : true = true) <| Sc <| Ab <| Sq <| Bk <| Sq (Rg [0, 1, 2] ?_)
  refine V 27 109 (Gf (t := 110) (E := 109) (len := 5) (s := 2) (x := (.tmp 24)) (y := (.tmp 25)) (k := .i64) (i := 4) (cs := [(fV 153 #[]), (fV 154 #[]), (fV 190 #[(pt tbt48_0_0 0), (pt tbt48_0_1 0), (pt tbt48_0_2 0), (pt tbt48_0_3 0)]), (fV 191 #[(pt tbt48_0_0 0), (pt tbt48_0_3 0)]), (fV 190 #[(pt tbt48_0_4 0), (pt tbt48_0_5 0), (pt tbt48_0_6 0), (pt tbt48_0_7 0)]), (fV 191 #[(pt tbt48_0_4 0), (pt tbt48_0_7 0)]), (fV 190 #[(pt tbt48_0_8 0), (pt tbt48_0_9 0), (pt tbt48_0_10 0), (pt tbt48_0_11 0)]), (fV 191 #[(pt tbt48_0_8 0), (pt tbt48_0_11 0)]), (fV 159 #[]), (fV 160 #[])]) (C := [(fV 159 #[]), (fV 160 #[])]) rfl rfl (by kernel_rfl) (by kernel_rfl) (by decide) rfl rfl) <| Al' 109 #[.nilFunc, .nilFunc] hs148 (fun b149 w150 hs151 => ?_)
  refine St0 #[(fV 159 #[]), (fV 160 #[])] hs151 (fun w152 hs153 => ?_)
  refine Nt <| Rg (rG 6) <| Vs 1 <| Ld hs153.at0 <| Ld hs153.at5 ?_
  obtain ⟨r154, hr155, h156⟩ := bind_some h145
  refine Cl' IK hs153 (JB N w152 F10 hs153.pers (hG.mono (((((((((le33.t le47).trans le60).trans le67).trans le85).trans le92).trans le110).trans le117).trans le135).trans le142)) x1 a1_4 n1_4 hb1_4 (UF hs1_4 (((((((((le33.t le47).trans le60).trans le67).trans le85).trans le92).trans le110).trans le117).trans le135).trans le142)) a1_5 n1_5 hb1_5 (UF hs1_5 (((((((((le33.t le47).trans le60).trans le67).trans le85).trans le92).trans le110).trans le117).trans le135).trans le142)) _ hr155) ?_
  rintro _ F11 w158 hs159 le160 rfl
  obtain ⟨r162, hr163, h164⟩ := bind_some h156
  refine V 32 9 (AY (t := 9) (t' := 9) (x := (.tmp 31)) (y := (.const (sv ([10] : UX)))) (a := r154) (b := ([10] : UX)) (v := r162) rfl rfl hr163) ?_
  obtain ⟨t168, ht169, h170⟩ := bind_some h164
  refine CB Bg (Dz (L := [(sb b149 #[(fV 159 #[]), (fV 160 #[])] 109), (sb b124 #[(fV 190 #[(pt tbt48_0_8 0), (pt tbt48_0_9 0), (pt tbt48_0_10 0), (pt tbt48_0_11 0)]), (fV 191 #[(pt tbt48_0_8 0), (pt tbt48_0_11 0)])] 109), (sb b99 #[(fV 190 #[(pt tbt48_0_4 0), (pt tbt48_0_5 0), (pt tbt48_0_6 0), (pt tbt48_0_7 0)]), (fV 191 #[(pt tbt48_0_4 0), (pt tbt48_0_7 0)])] 109), (sb b74 #[(fV 190 #[(pt tbt48_0_0 0), (pt tbt48_0_1 0), (pt tbt48_0_2 0), (pt tbt48_0_3 0)]), (fV 191 #[(pt tbt48_0_0 0), (pt tbt48_0_3 0)])] 109), (sb b49 #[(fV 153 #[]), (fV 154 #[])] 109), (sb b24 (AC x1 a1_4 n1_4 a1_5 n1_5) 27), (sb b21 (Ai x0) 23)]) ht169 (E5.mono _ _ _ _ hJ147 le160) hs159) ?_
  rintro _ F12 w165 _ hs166 le167 ⟨rfl, Lf171, rfl, hJ172⟩
  have hs173 : HS w0 F0 w165 F12 ((sb b149 #[(fV 159 #[]), (fV 160 #[])] 109) :: (sb b124 #[(fV 190 #[(pt tbt48_0_8 0), (pt tbt48_0_9 0), (pt tbt48_0_10 0), (pt tbt48_0_11 0)]), (fV 191 #[(pt tbt48_0_8 0), (pt tbt48_0_11 0)])] 109) :: (sb b99 #[(fV 190 #[(pt tbt48_0_4 0), (pt tbt48_0_5 0), (pt tbt48_0_6 0), (pt tbt48_0_7 0)]), (fV 191 #[(pt tbt48_0_4 0), (pt tbt48_0_7 0)])] 109) :: (sb b74 #[(fV 190 #[(pt tbt48_0_0 0), (pt tbt48_0_1 0), (pt tbt48_0_2 0), (pt tbt48_0_3 0)]), (fV 191 #[(pt tbt48_0_0 0), (pt tbt48_0_3 0)])] 109) :: (sb b49 #[(fV 153 #[]), (fV 154 #[])] 109) :: (sb b24 (AC x1 a1_4 n1_4 a1_5 n1_5) 27) :: (sb b21 (Ai x0) 23) :: Lf171) := hs166
  refine Uy <| Ar <| Ab <| Rg [0, 1] <| Vs 2 <| Nt <| URL.step <| Sq (Rg [0] ?_)
  refine Vs 1 <| Nss <| C0 (rfl : false = false) <| Ex <| Aq <| Aq <| Az rfl <| Ab <| Sq <| Sq (Rg (rG 4) ?_)
  refine Vs 1 <| Ld hs173.at5 <| Vs 2 <| Nt ?_
  have hs174 := hs173.dr0.dr0.dr0.dr0.dr0
  obtain ⟨o175, ho176, h177⟩ := bind_some h170
  refine UJ (fun f w => ∃ (s190 : (Int × UX)) (F14 : Mem) (Lf194 : Own), o175 = .done s190 /\ HS w0 F0 w F14 Lf194 /\ UC F12 F14 /\ FI f [] [(8, (pt b38 0))] /\ E5 b38 s190.2 F14 Lf194) ?_ ?_
  ·refine Bk ?_
   refine UB (by kernel_rfl) (fun m f w => ∃ (s178 : (Int × UX)) (F13 : Mem) (Lf182 : Own), AQ (Ip N x0 x1 r27 r54 r62 t68 r79 r87 t93 r104 r112 t118 r129 r137 t143 r154 r162 t168) m s178 = some o175 /\ HS w0 F0 w F13 ((sb b21 (Ai x0) 23) :: Lf182) /\ UC F12 F13 /\ FI f [] [(2, (pt b21 0)), (8, (pt b38 0)), (36, (.slice a1_5 x1.Lines.length n1_5)), (37, (vi (x1.Lines.length : Int))), (38, (vi s178.1))] /\ E5 b38 s178.2 F13 Lf182) N ⟨(0, t168), F12, Lf171, ho176, hs174.dr0, (UD _), fI, hJ172⟩ ?_
   rintro m198 f w179 ⟨s178, F13, Lf182, hit199, hs180, le181, ⟨_, rfl⟩, hJ183⟩
   obtain ⟨m200, fl201, rfl, hb202, hnx203⟩ := AH hit199
   refine Sq (Rg [0] ?_)
   refine Vs 1 <| Nss <| Cd hb202 (fun hb204 h205 => ?_) (fun hb204 h206 => ?_)
   ·refine Sc ?_
    refine Ab <| Sq <| Bk <| Sq (Rg (rG 4) ?_)
    obtain ⟨x207, hx208, h210⟩ := bind_some h205
    obtain ⟨hi209, hx208'⟩ := An hx208
    obtain ⟨b211, o212, C213, E214, fz215, rfl, hF217, hE218⟩ := UK (UF hs1_5 ((((((((((((le33.t le47).trans le60).trans le67).trans le85).trans le92).trans le110).trans le117).trans le135).trans le142).trans le160).trans le167).trans le181)) hx208'
    have hc220 := hE218 _ _ hx208'
    refine Ix hi209 <| Lx 0 (hs180.pers _ _ hF217) hc220 <| Al' 34 #[(vi 0), (vi 0), (vi 0), (vi 0), (sv (([] : UX))), (vi 0), (vi 0), (vi 0), (vi 0), (vi 0), (vi 0)] hs180 (fun b221 w222 hs223 => ?_)
    refine St0 (BF x207) hs223 (fun w224 hs225 => ?_)
    refine Nss (Rg (rG 8) ?_)
    refine Ld hs225.at1 <| Ld hs225.at0 ?_
    obtain ⟨r226, hr227, h228⟩ := bind_some h210
    refine Cl' FM hs225 (Gx N w224 F13 hs225.pers (hG.mono ((((((((((((le33.t le47).trans le60).trans le67).trans le85).trans le92).trans le110).trans le117).trans le135).trans le142).trans le160).trans le167).trans le181)) (({ Report := x0.Report, Serial := x0.Serial, Zone := x0.Zone } : Ac)) x207 _ hr227) ?_
    rintro _ F15 w230 hs231 le232 rfl
    refine Vs 5 <| Nt <| Rg [0, 1, 2] <| Vs 1 ?_
    obtain ⟨r234, hr235, h236⟩ := bind_some h228
    refine V 49 9 (AY (t := 9) (t' := 9) (x := (.tmp 48)) (y := (.const (sv ([10] : UX)))) (a := r226.1) (b := ([10] : UX)) (v := r234) rfl rfl hr235) ?_
    obtain ⟨t240, ht241, h242⟩ := bind_some h236
    refine CB Bg (Dz (L := [(sb b221 (BF x207) 34), (sb b21 (Ai x0) 23)]) ht241 (E5.mono _ _ _ _ hJ183 le232) hs231) ?_
    rintro _ F16 w237 _ hs238 le239 ⟨rfl, Lf243, rfl, hJ244⟩
    have hs245 : HS w0 F0 w237 F16 ((sb b221 (BF x207) 34) :: (sb b21 (Ai x0) 23) :: Lf243) := hs238
    refine Uy <| Ar <| Ab <| Rg [0, 1] <| Vs 2 <| Uy ?_
    have hn246 := AM h242 hnx203
    exact ⟨m200, Nat.lt_succ_self _, ((W64 (s178.1 + 1)), t240), F16, Lf243, hn246, hs245.dr0, ((le181.t le232).trans le239), fI, hJ244⟩
   ·refine Ex ?_
    refine Aq <| Aq <| Az rfl ?_
    have ho247 := AJ h206 hnx203
    exact .inl ⟨rfl, (s178.1, s178.2), F13, Lf182, ho247, hs180.dr0, le181, fI, hJ183⟩
  ·rintro f w191 ⟨s190, F14, Lf194, rfl, hs192, le193, ⟨_, rfl⟩, hJ195⟩
   have h248 := Bn h177
   refine Ab <| Sq (Rg [0] ?_)
   obtain ⟨t252, ht253, h254⟩ := bind_some h248
   refine CB Bg (Dz (L := []) ht253 hJ195 hs192) ?_
   rintro _ F17 w249 Lf255 hs250 le251 ⟨rfl, _, rfl, hJ256⟩
   have hs257 : HS w0 F0 w249 F17 Lf255 := hs250
   refine Nss (Rg [0, 1, 2] ?_)
   refine CB Me (Na (L := []) hJ256 hs257) ?_
   rintro _ _ w258 _ hs259 _ ⟨rfl, rfl, rfl⟩
   refine Vs 2 <| Nt <| Rt ?_
   obtain rfl := Aa h254
   exact Re [(sv t252), (vi 0)] hs259 rfl
def BK (N : Nat) (x0 : UX) : Option (Int × Bool) :=
 ((DQ N x0).bind fun r21 => ((bif (!r21.2) then ((strconv_Itoa N r21.1).bind fun r41 => some (r41 == x0)) else some false).bind fun j32 => some (r21.1, j32)))
theorem Bh : Ae Tryz.prog 95 := fun _ _ => by kernel_rfl
theorem Bv (N : Nat) (w0 : World) (F0 : Mem) (hF : UZ w0 F0) (hG : Bq F0) (x0 : UX) (r : (Int × Bool)) (h : BK N x0 = some r) :
  Calls Tryz.prog 95 ([(sv x0)] : List Value).toArray w0 (AD w0 F0 fun F' v => v = (.tuple #[(vi r.1), (.bool r.2)])) := by
 have hs0 := UE hF
 refine Go 20 Tryz.func95 <| Sq (Rg [0, 1] ?_)
 refine Vs 2 <| Nss (Rg (rG 7) ?_)
 refine Vs 1 ?_
 obtain ⟨r21, hr22, h23⟩ := bind_some h
 refine Cl' G0 hs0 (HH N w0 F0 hs0.pers hG x0 _ hr22) ?_
 rintro _ F1 w25 hs26 le27 ⟨vr21_1_0, rfl, her21_1_0⟩
 refine Vs 5 <| Nss (Rg (rG 11) ?_)
 obtain ⟨j32, hj36, h37⟩ := bind_some h23
 refine UI (fun f w => ∃ (F2 : Mem), HS w0 F0 w F2 [] /\ UC F1 F2 /\ FI f [] [(2, (vi r21.1)), (3, (.bool j32))]) ?_ ?_
 ·refine Vs 2 ?_
  refine V 13 4 (Pe (t := 113) (t' := 113) (x := (.tmp 12)) (c := .nilIface) her21_1_0 rfl rfl (by kernel_rfl)) <| Vs 1 <| Sp hj36 (fun hb38 h39 => ?_) (fun hb38 h40 => ?_)
  ·refine Vgs hb38 1 ?_
   obtain ⟨r41, hr42, h43⟩ := bind_some h39
   refine Cg hb38 BC hs26 (BL N w25 F1 hs26.pers (hG.mono le27) r21.1 _ hr42) ?_
   rintro _ F3 w45 hs46 le47 rfl
   refine Vgs hb38 2 <| Pk1 hb38 <| Vs 2 ?_
   obtain rfl := Aa h43
   exact Uy ⟨rfl, F3, hs46, le47, fI⟩
  ·refine Ss hb38 4 ?_
   refine Pk0 hb38 <| Vs 2 ?_
   obtain rfl := Aa h40
   exact Uy ⟨rfl, F1, hs26, (UD _), fI⟩
 ·rintro f w29 ⟨F2, hs30, le31, ⟨_, rfl⟩⟩
  refine Ab <| Rt ?_
  obtain rfl := Aa h37
  exact Re [(vi r21.1), (.bool j32)] hs30 rfl
def Fg (N : Nat) (x0 : Ac) (x1 : UX) : Option (Line × Int) :=
 ((strings_Split N x1 ([32] : UX)).bind fun r27 => ((BU N r27 ([60] : UX)).bind fun r35 => ((bif (decide ((r27.length : Int) < 9)) then some true else (bif (decide (r35 < 8)) then none else ((idx r27 7).bind fun x62 => some (x62 != ([62] : UX))))).bind fun j46 => (bif j46 then some (({ Num := 0, Khz := 0, Mode := 0, Minute := 0, Call := ([] : UX), Sent := ({ Report := 0, Serial := 0, Zone := 0 } : Ad), Got := ({ Report := 0, Serial := 0, Zone := 0 } : Ad) } : Line), 20) else ((idx r27 1).bind fun x81 => ((BK N x81).bind fun r95 => ((idx r27 2).bind fun x103 => ((BK N x103).bind fun r109 => (((idx r27 4).bind fun x134 => ((DF x134 ([32] : UX)).bind fun r140 => ((idx r27 5).bind fun x143 => ((DF r140 x143).bind fun r149 => ((Gb N r149).bind fun r152 => some r152.1))))).bind fun j122 => (((sub r27 8 r35).bind fun r179 => ((strings_Join N r179 ([32] : UX)).bind fun r187 => ((CQ N ({ Report := x0.Report, Serial := x0.Serial, Zone := x0.Zone } : Ac) r187).bind fun r195 => some (r195.1.Report, r195.1.Serial, r195.1.Zone)))).bind fun j166 => (((sub r27 (W64 (r35 + 1)) (r27.length : Int)).bind fun r261 => ((strings_Join N r261 ([32] : UX)).bind fun r269 => ((CQ N ({ Report := x0.Report, Serial := x0.Serial, Zone := x0.Zone } : Ac) r269).bind fun r277 => some (r277.1.Report, r277.1.Serial, r277.1.Zone)))).bind fun j248 => (((idx r27 3).bind fun x338 => ((idx r27 6).bind fun x344 => ((strings_Index N ([32, 77, 86, 68] : UX) x338).bind fun r350 => some (r350, x344)))).bind fun j330 => ((Ff N ({ Report := x0.Report, Serial := x0.Serial, Zone := x0.Zone } : Ac) ({ Num := r95.1, Khz := r109.1, Mode := j330.1, Minute := j122, Call := j330.2, Sent := ({ Report := j166.1, Serial := j166.2.1, Zone := j166.2.2 } : Ad), Got := ({ Report := j248.1, Serial := j248.2.1, Zone := j248.2.2 } : Ad) } : Line)).bind fun r376 => (bif ((r376.2 != 0) || (r376.1 != x1)) then none else some (({ Num := r95.1, Khz := r109.1, Mode := j330.1, Minute := j122, Call := j330.2, Sent := ({ Report := j166.1, Serial := j166.2.1, Zone := j166.2.2 } : Ad), Got := ({ Report := j248.1, Serial := j248.2.1, Zone := j248.2.2 } : Ad) } : Line), 0)))))))))))))))
theorem FN : Ae Tryz.prog 31 := fun _ _ => by kernel_rfl
theorem Gy (N : Nat) (w0 : World) (F0 : Mem) (hF : UZ w0 F0) (hG : Bq F0) (x0 : Ac) (x1 : UX) (r : (Line × Int)) (h : Fg N x0 x1 = some r) :
  Calls Tryz.prog 31 ([(.agg (Ai x0)), (sv x1)] : List Value).toArray w0 (AD w0 F0 fun F' v => v = (.tuple #[(.agg (BF r.1)), (vi r.2)])) := by
 have hs0 := UE hF
 refine Go 112 Tryz.func31 <| Sq (Rg [0, 1, 2] ?_)
 refine Bx' 23 (Ai x0) hs0 (fun b21 w22 hs23 => ?_)
 refine Al' 34 #[(vi 0), (vi 0), (vi 0), (vi 0), (sv (([] : UX))), (vi 0), (vi 0), (vi 0), (vi 0), (vi 0), (vi 0)] hs23 (fun b24 w25 hs26 => ?_)
 refine Vs 1 <| Nss (Rg [0, 1, 2] ?_)
 refine Vs 1 ?_
 obtain ⟨r27, hr28, h29⟩ := bind_some h
 refine Cl' Cj hs26 (CE N w25 F0 hs26.pers hG x1 (([32] : UX)) _ hr28) ?_
 rintro _ F1 w31 hs32 le33 ⟨ar27_0_0, nr27_0_0, rfl, hbr27_0_0, hsr27_0_0⟩
 refine Vs 1 <| Nss (Rg [0, 1, 2] ?_)
 refine Vs 1 ?_
 obtain ⟨r35, hr36, h37⟩ := bind_some h29
 refine Cl' Cu hs32 (CF N w31 F1 hs32.pers r27 ar27_0_0 nr27_0_0 hbr27_0_0 hsr27_0_0 (([60] : UX)) _ hr36) ?_
 rintro _ F2 w39 hs40 le41 rfl
 refine Vs 1 <| Nss <| Sq (Rg (rG 13) ?_)
 obtain ⟨j46, hj54, h55⟩ := bind_some h37
 refine UI (fun f w => ∃ (F3 : Mem), HS w0 F0 w F3 [(sb b24 #[(vi 0), (vi 0), (vi 0), (vi 0), (sv (([] : UX))), (vi 0), (vi 0), (vi 0), (vi 0), (vi 0), (vi 0)] 34), (sb b21 (Ai x0) 23)] /\ UC F2 F3 /\ FI f [] [(1, (sv x1)), (2, (pt b21 0)), (4, (pt b24 0)), (6, (.slice ar27_0_0 r27.length nr27_0_0)), (7, (vi r35)), (37, (.bool j46))]) ?_ ?_
 ·refine Vs 4 ?_
  refine Sp hj54 (fun hb56 h57 => ?_) (fun hb56 h58 => ?_)
  ·refine Ss hb56 2 ?_
   refine Pk1 hb56 <| Vs 1 <| Ss (rfl : true = true) 4 <| Pk1 (rfl : true = true) ?_
   obtain rfl := Aa h57
   exact Uy ⟨rfl, F2, hs40, (UD _), fI⟩
  ·refine Vgs hb56 2 ?_
   refine Pk0 hb56 <| Vs 1 <| Sp h58 (fun hb59 h60 => ?_) (fun hb59 h61 => ?_)
   ·cases h60
   ·refine Vgs hb59 1 ?_
    obtain ⟨x62, hx63, h65⟩ := bind_some h61
    obtain ⟨hi64, hx63'⟩ := An hx63
    obtain ⟨b66, o67, C68, E69, fz70, rfl, hF72, hE73⟩ := UK (UF hsr27_0_0 le41) hx63'
    have hc75 := hE73 _ _ hx63'
    refine Ixg hb59 hi64 <| Lxg hb59 0 (hs40.pers _ _ hF72) hc75 <| Vgs hb59 1 <| Pk0 hb59 ?_
    obtain rfl := Aa h65
    exact Uy ⟨rfl, F2, hs40, (UD _), fI⟩
 ·rintro f w43 ⟨F3, hs44, le45, ⟨_, rfl⟩⟩
  refine Ab <| Cd h55 (fun hb76 h77 => ?_) (fun hb76 h78 => ?_)
  ·refine Sq (Rg [0, 1, 2] ?_)
   refine Vs 1 <| St0 #[(vi 0), (vi 0), (vi 0), (vi 0), (sv (([] : UX))), (vi 0), (vi 0), (vi 0), (vi 0), (vi 0), (vi 0)] hs44 (fun w79 hs80 => ?_)
   refine Vs 1 <| Nt <| Rt <| Af ?_
   obtain rfl := Aa h77
   exact ⟨rfl, (.tuple #[(.agg #[(vi 0), (vi 0), (vi 0), (vi 0), (sv (([] : UX))), (vi 0), (vi 0), (vi 0), (vi 0), (vi 0), (vi 0)]), (vi 20)]), AW (l := [.cell 4 34, .tmp 5]) (by kernel_rfl) (vs := [(.agg #[(vi 0), (vi 0), (vi 0), (vi 0), (sv (([] : UX))), (vi 0), (vi 0), (vi 0), (vi 0), (vi 0), (vi 0)]), (vi 20)]) ⟨b24, 0, rfl, Al (t := 34) (g := true) (s := 11) (by kernel_rfl) hs80.at0 rfl (by decide), ⟨rfl, trivial⟩⟩, (.tuple #[(.agg #[(vi 0), (vi 0), (vi 0), (vi 0), (sv (([] : UX))), (vi 0), (vi 0), (vi 0), (vi 0), (vi 0), (vi 0)]), (vi 20)]), F3, rfl, hs80.clear, rfl⟩
  ·refine Sc ?_
   refine Ab <| Sq (Rg (rG 9) ?_)
   refine Vs 1 ?_
   obtain ⟨x81, hx82, h84⟩ := bind_some h78
   obtain ⟨hi83, hx82'⟩ := An hx82
   obtain ⟨b85, o86, C87, E88, fz89, rfl, hF91, hE92⟩ := UK (UF hsr27_0_0 (le41.t le45)) hx82'
   have hc94 := hE92 _ _ hx82'
   refine Ix hi83 <| Lx 0 (hs44.pers _ _ hF91) hc94 ?_
   obtain ⟨r95, hr96, h97⟩ := bind_some h84
   refine Cl' Bh hs44 (Bv N w43 F3 hs44.pers (hG.mono ((le33.t le41).trans le45)) x81 _ hr96) ?_
   rintro _ F4 w99 hs100 le101 rfl
   refine Vs 5 <| Nss (Rg (rG 9) ?_)
   refine Vs 1 ?_
   obtain ⟨x103, hx104, h106⟩ := bind_some h97
   obtain ⟨hi105, hx104'⟩ := An hx104
   have hc108 := hE92 _ _ hx104'
   refine Ix hi105 <| Lx 0 (hs100.pers _ _ (le101 _ _ hF91)) hc108 ?_
   obtain ⟨r109, hr110, h111⟩ := bind_some h106
   refine Cl' Bh hs100 (Bv N w99 F4 hs100.pers (hG.mono (((le33.t le41).trans le45).trans le101)) x103 _ hr110) ?_
   rintro _ F5 w113 hs114 le115 rfl
   refine Vs 5 <| Nss ?_
   obtain ⟨j122, hj132, h133⟩ := bind_some h111
   refine RD 14 14 [(sb b24 #[(vi 0), (vi 0), (vi 0), (vi 0), (sv (([] : UX))), (vi 0), (vi 0), (vi 0), (vi 0), (vi 0), (vi 0)] 34), (sb b21 (Ai x0) 23)] [] hs114 (fun f w => ∃ (F6 : Mem), HS w0 F0 w F6 [(sb b24 #[(vi 0), (vi 0), (vi 0), (vi 0), (sv (([] : UX))), (vi 0), (vi 0), (vi 0), (vi 0), (vi 0), (vi 0)] 34), (sb b21 (Ai x0) 23)] /\ UC F5 F6 /\ FI f [] [(1, (sv x1)), (2, (pt b21 0)), (4, (pt b24 0)), (6, (.slice (some ⟨b85, o86, none⟩) r27.length nr27_0_0)), (7, (vi r35)), (8, (vi r95.1)), (10, (vi r109.1)), (12, (vi j122))]) (fun wd117 hw118 => ?_) ?_
   ·refine Dv [0] ?_
    obtain ⟨x134, hx135, h137⟩ := bind_some hj132
    obtain ⟨hi136, hx135'⟩ := An hx135
    have hc139 := hE92 _ _ hx135'
    refine Di 1 hi136 <| Dx 2 0 (fun _ hq => hq.1.1 _ _ ((le101.t le115) _ _ hF91)) hc139 ?_
    obtain ⟨r140, hr141, h142⟩ := bind_some h137
    refine Dt 3 57 9 (sv r140) (fun _ hq => AY (t := 9) (t' := 9) (x := (.tmp 56)) (y := (.const (sv ([32] : UX)))) (a := x134) (b := ([32] : UX)) (v := r140) rfl rfl hr141) <| Dv [4] ?_
    obtain ⟨x143, hx144, h146⟩ := bind_some h142
    obtain ⟨hi145, hx144'⟩ := An hx144
    have hc148 := hE92 _ _ hx144'
    refine Di 5 hi145 <| Dx 6 0 (fun _ hq => hq.1.1 _ _ ((le101.t le115) _ _ hF91)) hc148 ?_
    obtain ⟨r149, hr150, h151⟩ := bind_some h146
    refine Dt 7 61 9 (sv r149) (fun _ hq => AY (t := 9) (t' := 9) (x := (.tmp 57)) (y := (.tmp 60)) (a := r140) (b := x143) (v := r149) rfl rfl hr150) <| D1 8 ?_
    obtain ⟨r152, hr153, h154⟩ := bind_some h151
    refine DCl J8 hw118 (K8 N wd117 F5 hw118.pers (hG.mono ((((le33.t le41).trans le45).trans le101).trans le115)) r149 _ hr153) ?_
    rintro _ F7 w156 hs157 le158 rfl
    refine Dv [9, 10, 11, 12, 13] ?_
    obtain rfl := Aa h154
    exact UP (by kernel_rfl) ⟨F7, hs157, le158, fI⟩
   ·rintro f w119 ⟨F6, hs120, le121, ⟨_, rfl⟩⟩
    refine Ab <| Sq ?_
    obtain ⟨j166, hj177, h178⟩ := bind_some h133
    refine RD 12 12 [(sb b24 #[(vi 0), (vi 0), (vi 0), (vi 0), (sv (([] : UX))), (vi 0), (vi 0), (vi 0), (vi 0), (vi 0), (vi 0)] 34), (sb b21 (Ai x0) 23)] [] hs120 (fun f w => ∃ (F8 : Mem) (b165 : Nat), HS w0 F0 w F8 [(sb b165 #[(vi j166.1), (vi j166.2.1), (vi j166.2.2)] 32), (sb b24 #[(vi 0), (vi 0), (vi 0), (vi 0), (sv (([] : UX))), (vi 0), (vi 0), (vi 0), (vi 0), (vi 0), (vi 0)] 34), (sb b21 (Ai x0) 23)] /\ UC F6 F8 /\ FI f [] [(1, (sv x1)), (2, (pt b21 0)), (4, (pt b24 0)), (6, (.slice (some ⟨b85, o86, none⟩) r27.length nr27_0_0)), (7, (vi r35)), (8, (vi r95.1)), (10, (vi r109.1)), (12, (vi j122)), (14, (pt b165 0))]) (fun wd160 hw161 => ?_) ?_
    ·refine Dl 0 (fun _ hq => (hq.1.2 1 _ _ rfl)) ?_
     refine Dv [1, 2] ?_
     obtain ⟨r179, hr180, h181⟩ := bind_some hj177
     obtain ⟨a182, n183, hb184, hs185, hrun186⟩ := Fa (P := Tryz.prog) (T := AK) (lo := (some (.const (vi 8)))) (hi := (some (.tmp 68))) (mx := none) (t := 55) (E := 9) (by_ := 16) (c := nr27_0_0) (a := (some ⟨b85, o86, none⟩)) (l := r27) (r := r179) (il := 8) (ih := r35) (im := 0) (by kernel_rfl) (by kernel_rfl) hbr27_0_0 (UF hsr27_0_0 ((((le41.t le45).trans le101).trans le115).trans le121)) (fun h => by first | rfl | cases h) hr180
     refine Dt 3 69 55 (.slice a182 r179.length n183) (fun _ hq => hrun186 (x := (.tmp 67)) rfl rfl rfl trivial) <| UL (i := 4) (j := 9) (by kernel_rfl) ?_ ?_
     ·obtain ⟨r187, hr188, h189⟩ := bind_some h181
      refine DCl B5 hw161 (Cm N wd160 F6 hw161.pers r179 a182 n183 hb184 hs185 (([32] : UX)) _ hr188) ?_
      rintro _ F9 w191 hs192 le193 rfl
      refine UL (i := 5) (j := 9) (by kernel_rfl) ?_ ?_
      ·obtain ⟨r195, hr196, h197⟩ := bind_some h189
       refine DCl Bp hs192 (BA N w191 F9 hs192.pers (hG.mono ((((((le33.t le41).trans le45).trans le101).trans le115).trans le121).trans le193)) (({ Report := x0.Report, Serial := x0.Serial, Zone := x0.Zone } : Ac)) r187 _ hr196) ?_
       rintro _ F10 w199 hs200 le201 rfl
       refine Dv [6, 7, 8] <| D1 9 <| DAl 32 #[(vi 0), (vi 0), (vi 0)] hs200 (le193.t le201) (fun b203 w204 hs205 => ?_)
       refine D1 10 <| Gc (BS r195.1) hs205 (le193.t le201) (fun w206 hs207 => ?_)
       refine Dv [11] ?_
       obtain rfl := Aa h197
       exact UP (by kernel_rfl) ⟨F10, b203, hs207, (le193.t le201), fI⟩
      ·refine DAl 32 #[(vi 0), (vi 0), (vi 0)] hs192 le193 (fun b208 w209 hs210 => ?_)
       refine D1 5 ?_
       obtain ⟨r211, hr212, h213⟩ := bind_some h189
       refine DCl Bp hs210 (BA N w209 F9 hs210.pers (hG.mono ((((((le33.t le41).trans le45).trans le101).trans le115).trans le121).trans le193)) (({ Report := x0.Report, Serial := x0.Serial, Zone := x0.Zone } : Ac)) r187 _ hr212) ?_
       rintro _ F11 w215 hs216 le217 rfl
       refine Dv [6, 7, 8] <| D1 10 <| Gc (BS r211.1) hs216 (le193.t le217) (fun w219 hs220 => ?_)
       refine Dv [11] ?_
       obtain rfl := Aa h213
       exact UP (by kernel_rfl) ⟨F11, b208, hs220, (le193.t le217), fI⟩
     ·refine DAl 32 #[(vi 0), (vi 0), (vi 0)] hw161 (UD _) (fun b221 w222 hs223 => ?_)
      refine D1 4 ?_
      obtain ⟨r224, hr225, h226⟩ := bind_some h181
      refine DCl B5 hs223 (Cm N w222 F6 hs223.pers r179 a182 n183 hb184 hs185 (([32] : UX)) _ hr225) ?_
      rintro _ F12 w228 hs229 le230 rfl
      refine D1 5 ?_
      obtain ⟨r232, hr233, h234⟩ := bind_some h226
      refine DCl Bp hs229 (BA N w228 F12 hs229.pers (hG.mono ((((((le33.t le41).trans le45).trans le101).trans le115).trans le121).trans le230)) (({ Report := x0.Report, Serial := x0.Serial, Zone := x0.Zone } : Ac)) r224 _ hr233) ?_
      rintro _ F13 w236 hs237 le238 rfl
      refine Dv [6, 7, 8] <| D1 10 <| Gc (BS r232.1) hs237 (le230.t le238) (fun w240 hs241 => ?_)
      refine Dv [11] ?_
      obtain rfl := Aa h234
      exact UP (by kernel_rfl) ⟨F13, b221, hs241, (le230.t le238), fI⟩
    ·rintro f w162 ⟨F8, b165, hs163, le164, ⟨_, rfl⟩⟩
     refine Ab <| Sq ?_
     obtain ⟨j248, hj259, h260⟩ := bind_some h178
     refine RD 13 13 [(sb b165 #[(vi j166.1), (vi j166.2.1), (vi j166.2.2)] 32), (sb b24 #[(vi 0), (vi 0), (vi 0), (vi 0), (sv (([] : UX))), (vi 0), (vi 0), (vi 0), (vi 0), (vi 0), (vi 0)] 34), (sb b21 (Ai x0) 23)] [] hs163 (fun f w => ∃ (F14 : Mem) (b247 : Nat), HS w0 F0 w F14 [(sb b247 #[(vi j248.1), (vi j248.2.1), (vi j248.2.2)] 32), (sb b165 #[(vi j166.1), (vi j166.2.1), (vi j166.2.2)] 32), (sb b24 #[(vi 0), (vi 0), (vi 0), (vi 0), (sv (([] : UX))), (vi 0), (vi 0), (vi 0), (vi 0), (vi 0), (vi 0)] 34), (sb b21 (Ai x0) 23)] /\ UC F8 F14 /\ FI f [] [(1, (sv x1)), (2, (pt b21 0)), (4, (pt b24 0)), (6, (.slice (some ⟨b85, o86, none⟩) r27.length nr27_0_0)), (8, (vi r95.1)), (10, (vi r109.1)), (12, (vi j122)), (14, (pt b165 0)), (16, (pt b247 0))]) (fun wd242 hw243 => ?_) ?_
     ·refine Dl 0 (fun _ hq => (hq.1.2 2 _ _ rfl)) ?_
      refine Dv [1, 2, 3] ?_
      obtain ⟨r261, hr262, h263⟩ := bind_some hj259
      obtain ⟨a264, n265, hb266, hs267, hrun268⟩ := Fa (P := Tryz.prog) (T := AK) (lo := (some (.tmp 78))) (hi := none) (mx := none) (t := 55) (E := 9) (by_ := 16) (c := nr27_0_0) (a := (some ⟨b85, o86, none⟩)) (l := r27) (r := r261) (il := (W64 (r35 + 1))) (ih := (r27.length : Int)) (im := 0) (by kernel_rfl) (by kernel_rfl) hbr27_0_0 (UF hsr27_0_0 (((((le41.t le45).trans le101).trans le115).trans le121).trans le164)) (fun h => by first | rfl | cases h) hr262
      refine Dt 4 79 55 (.slice a264 r261.length n265) (fun _ hq => hrun268 (x := (.tmp 76)) rfl rfl rfl trivial) <| UL (i := 5) (j := 10) (by kernel_rfl) ?_ ?_
      ·obtain ⟨r269, hr270, h271⟩ := bind_some h263
       refine DCl B5 hw243 (Cm N wd242 F8 hw243.pers r261 a264 n265 hb266 hs267 (([32] : UX)) _ hr270) ?_
       rintro _ F15 w273 hs274 le275 rfl
       refine UL (i := 6) (j := 10) (by kernel_rfl) ?_ ?_
       ·obtain ⟨r277, hr278, h279⟩ := bind_some h271
        refine DCl Bp hs274 (BA N w273 F15 hs274.pers (hG.mono (((((((le33.t le41).trans le45).trans le101).trans le115).trans le121).trans le164).trans le275)) (({ Report := x0.Report, Serial := x0.Serial, Zone := x0.Zone } : Ac)) r269 _ hr278) ?_
        rintro _ F16 w281 hs282 le283 rfl
        refine Dv [7, 8, 9] <| D1 10 <| DAl 32 #[(vi 0), (vi 0), (vi 0)] hs282 (le275.t le283) (fun b285 w286 hs287 => ?_)
        refine D1 11 <| Gc (BS r277.1) hs287 (le275.t le283) (fun w288 hs289 => ?_)
        refine Dv [12] ?_
        obtain rfl := Aa h279
        exact UP (by kernel_rfl) ⟨F16, b285, hs289, (le275.t le283), fI⟩
       ·refine DAl 32 #[(vi 0), (vi 0), (vi 0)] hs274 le275 (fun b290 w291 hs292 => ?_)
        refine D1 6 ?_
        obtain ⟨r293, hr294, h295⟩ := bind_some h271
        refine DCl Bp hs292 (BA N w291 F15 hs292.pers (hG.mono (((((((le33.t le41).trans le45).trans le101).trans le115).trans le121).trans le164).trans le275)) (({ Report := x0.Report, Serial := x0.Serial, Zone := x0.Zone } : Ac)) r269 _ hr294) ?_
        rintro _ F17 w297 hs298 le299 rfl
        refine Dv [7, 8, 9] <| D1 11 <| Gc (BS r293.1) hs298 (le275.t le299) (fun w301 hs302 => ?_)
        refine Dv [12] ?_
        obtain rfl := Aa h295
        exact UP (by kernel_rfl) ⟨F17, b290, hs302, (le275.t le299), fI⟩
      ·refine DAl 32 #[(vi 0), (vi 0), (vi 0)] hw243 (UD _) (fun b303 w304 hs305 => ?_)
       refine D1 5 ?_
       obtain ⟨r306, hr307, h308⟩ := bind_some h263
       refine DCl B5 hs305 (Cm N w304 F8 hs305.pers r261 a264 n265 hb266 hs267 (([32] : UX)) _ hr307) ?_
       rintro _ F18 w310 hs311 le312 rfl
       refine D1 6 ?_
       obtain ⟨r314, hr315, h316⟩ := bind_some h308
       refine DCl Bp hs311 (BA N w310 F18 hs311.pers (hG.mono (((((((le33.t le41).trans le45).trans le101).trans le115).trans le121).trans le164).trans le312)) (({ Report := x0.Report, Serial := x0.Serial, Zone := x0.Zone } : Ac)) r306 _ hr315) ?_
       rintro _ F19 w318 hs319 le320 rfl
       refine Dv [7, 8, 9] <| D1 11 <| Gc (BS r314.1) hs319 (le312.t le320) (fun w322 hs323 => ?_)
       refine Dv [12] ?_
       obtain rfl := Aa h316
       exact UP (by kernel_rfl) ⟨F19, b303, hs323, (le312.t le320), fI⟩
     ·rintro f w244 ⟨F14, b247, hs245, le246, ⟨_, rfl⟩⟩
      refine Ab <| Sq ?_
      obtain ⟨j330, hj336, h337⟩ := bind_some h260
      refine RD 14 15 [(sb b247 #[(vi j248.1), (vi j248.2.1), (vi j248.2.2)] 32), (sb b165 #[(vi j166.1), (vi j166.2.1), (vi j166.2.2)] 32), (sb b24 #[(vi 0), (vi 0), (vi 0), (vi 0), (sv (([] : UX))), (vi 0), (vi 0), (vi 0), (vi 0), (vi 0), (vi 0)] 34), (sb b21 (Ai x0) 23)] [] hs245 (fun f w => ∃ (F20 : Mem) (b329 : Nat), HS w0 F0 w F20 [(sb b329 #[(vi r95.1), (vi r109.1), (vi j330.1), (vi j122), (sv j330.2), (vi j166.1), (vi j166.2.1), (vi j166.2.2), (vi j248.1), (vi j248.2.1), (vi j248.2.2)] 34), (sb b24 #[(vi 0), (vi 0), (vi 0), (vi 0), (sv (([] : UX))), (vi 0), (vi 0), (vi 0), (vi 0), (vi 0), (vi 0)] 34), (sb b21 (Ai x0) 23)] /\ UC F14 F20 /\ FI f [] [(1, (sv x1)), (2, (pt b21 0)), (4, (pt b24 0)), (18, (pt b329 0))]) (fun wd324 hw325 => ?_) ?_
      ·refine Dv [0, 1, 2] ?_
       obtain ⟨x338, hx339, h341⟩ := bind_some hj336
       obtain ⟨hi340, hx339'⟩ := An hx339
       have hc343 := hE92 _ _ hx339'
       refine Di 3 hi340 <| Dx 4 0 (fun _ hq => hq.1.1 _ _ (((((le101.t le115).trans le121).trans le164).trans le246) _ _ hF91)) hc343 <| Dv [6, 7] ?_
       obtain ⟨x344, hx345, h347⟩ := bind_some h341
       obtain ⟨hi346, hx345'⟩ := An hx345
       have hc349 := hE92 _ _ hx345'
       refine Di 8 hi346 <| Dx 9 0 (fun _ hq => hq.1.1 _ _ (((((le101.t le115).trans le121).trans le164).trans le246) _ _ hF91)) hc349 <| Dl 10 (fun _ hq => (hq.1.2 1 _ _ rfl)) <| Dl 11 (fun _ hq => (hq.1.2 0 _ _ rfl)) <| UL (i := 5) (j := 13) (by kernel_rfl) ?_ ?_
       ·obtain ⟨r350, hr351, h352⟩ := bind_some h347
        refine DCl Gp hw325 (G4 N wd324 F14 hw325.pers (hG.mono (((((((le33.t le41).trans le45).trans le101).trans le115).trans le121).trans le164).trans le246)) (([32, 77, 86, 68] : UX)) x338 _ hr351) ?_
        rintro _ F21 w354 hs355 le356 rfl
        refine Dv [12] <| D1 13 <| DAl 34 #[(vi 0), (vi 0), (vi 0), (vi 0), (sv (([] : UX))), (vi 0), (vi 0), (vi 0), (vi 0), (vi 0), (vi 0)] hs355 le356 (fun b358 w359 hs360 => ?_)
        refine D1 14 <| Gc #[(vi r95.1), (vi r109.1), (vi r350), (vi j122), (sv x344), (vi j166.1), (vi j166.2.1), (vi j166.2.2), (vi j248.1), (vi j248.2.1), (vi j248.2.2)] hs360 le356 (fun w361 hs362 => ?_)
        obtain rfl := Aa h352
        exact UP (by kernel_rfl) ⟨F21, b358, hs362.dr1.dr1, le356, fI⟩
       ·refine DAl 34 #[(vi 0), (vi 0), (vi 0), (vi 0), (sv (([] : UX))), (vi 0), (vi 0), (vi 0), (vi 0), (vi 0), (vi 0)] hw325 (UD _) (fun b363 w364 hs365 => ?_)
        refine D1 5 ?_
        obtain ⟨r366, hr367, h368⟩ := bind_some h347
        refine DCl Gp hs365 (G4 N w364 F14 hs365.pers (hG.mono (((((((le33.t le41).trans le45).trans le101).trans le115).trans le121).trans le164).trans le246)) (([32, 77, 86, 68] : UX)) x338 _ hr367) ?_
        rintro _ F22 w370 hs371 le372 rfl
        refine Dv [12] <| D1 14 <| Gc #[(vi r95.1), (vi r109.1), (vi r366), (vi j122), (sv x344), (vi j166.1), (vi j166.2.1), (vi j166.2.2), (vi j248.1), (vi j248.2.1), (vi j248.2.2)] hs371 le372 (fun w374 hs375 => ?_)
        obtain rfl := Aa h368
        exact UP (by kernel_rfl) ⟨F22, b363, hs375.dr1.dr1, le372, fI⟩
      ·rintro f w326 ⟨F20, b329, hs327, le328, ⟨_, rfl⟩⟩
       refine Ab <| Sq <| Sq (Rg (rG 8) ?_)
       refine Ld hs327.at2 <| Ld hs327.at0 ?_
       obtain ⟨r376, hr377, h378⟩ := bind_some h337
       refine Cl' FM hs327 (Gx N w326 F20 hs327.pers (hG.mono ((((((((le33.t le41).trans le45).trans le101).trans le115).trans le121).trans le164).trans le246).trans le328)) (({ Report := x0.Report, Serial := x0.Serial, Zone := x0.Zone } : Ac)) (({ Num := r95.1, Khz := r109.1, Mode := j330.1, Minute := j122, Call := j330.2, Sent := ({ Report := j166.1, Serial := j166.2.1, Zone := j166.2.2 } : Ad), Got := ({ Report := j248.1, Serial := j248.2.1, Zone := j248.2.2 } : Ad) } : Line)) _ hr377) ?_
       rintro _ F23 w380 hs381 le382 rfl
       refine Vs 5 <| Nss (Rg (rG 7) ?_)
       refine UI (fun f w => ∃ (F24 : Mem), HS w0 F0 w F24 [(sb b329 #[(vi r95.1), (vi r109.1), (vi j330.1), (vi j122), (sv j330.2), (vi j166.1), (vi j166.2.1), (vi j166.2.2), (vi j248.1), (vi j248.2.1), (vi j248.2.2)] 34), (sb b24 #[(vi 0), (vi 0), (vi 0), (vi 0), (sv (([] : UX))), (vi 0), (vi 0), (vi 0), (vi 0), (vi 0), (vi 0)] 34)] /\ UC F23 F24 /\ FI f [] [(4, (pt b24 0)), (18, (pt b329 0)), (109, (.bool ((r376.2 != 0) || (r376.1 != x1))))]) ?_ ?_
       ·refine Vs 3 ?_
        refine UH (r376.2 != 0) (fun hb391 => ?_) (fun hb391 => ?_)
        ·refine Ss hb391 3 ?_
         refine Pk1 hb391 ?_
         exact Uy ⟨rfl, F23, hs381.dr2, (UD _), (fJ ⟨rfl, rfl, (congrArg Value.bool (Hl hb391 rfl)), trivial⟩)⟩
        ·refine Vgs hb391 3 ?_
         refine Pk0 hb391 ?_
         exact Uy ⟨rfl, F23, hs381.dr2, (UD _), (fJ ⟨rfl, rfl, (congrArg Value.bool (Dh hb391 rfl)), trivial⟩)⟩
       ·rintro f w384 ⟨F24, hs385, le386, ⟨_, rfl⟩⟩
        refine Ab <| Cd h378 (fun hb392 h393 => ?_) (fun hb392 h394 => ?_)
        ·cases h393
        ·refine Sc ?_
         refine Ab <| Sq (Rg [0, 1, 2] ?_)
         refine Ld hs385.at0 <| St1 #[(vi r95.1), (vi r109.1), (vi j330.1), (vi j122), (sv j330.2), (vi j166.1), (vi j166.2.1), (vi j166.2.2), (vi j248.1), (vi j248.2.1), (vi j248.2.2)] hs385 (fun w395 hs396 => ?_)
         refine Vs 1 <| Nt <| Rt ?_
         obtain rfl := Aa h394
         exact ⟨rfl, (.tuple #[(.agg #[(vi r95.1), (vi r109.1), (vi j330.1), (vi j122), (sv j330.2), (vi j166.1), (vi j166.2.1), (vi j166.2.2), (vi j248.1), (vi j248.2.1), (vi j248.2.2)]), (vi 0)]), AW (l := [.cell 4 34, .tmp 5]) (by kernel_rfl) (vs := [(.agg #[(vi r95.1), (vi r109.1), (vi j330.1), (vi j122), (sv j330.2), (vi j166.1), (vi j166.2.1), (vi j166.2.2), (vi j248.1), (vi j248.2.1), (vi j248.2.2)]), (vi 0)]) ⟨b24, 0, rfl, Al (t := 34) (g := true) (s := 11) (by kernel_rfl) hs396.at1 rfl (by decide), ⟨rfl, trivial⟩⟩, (.tuple #[(.agg #[(vi r95.1), (vi r109.1), (vi j330.1), (vi j122), (sv j330.2), (vi j166.1), (vi j166.2.1), (vi j166.2.2), (vi j248.1), (vi j248.2.1), (vi j248.2.2)]), (vi 0)]), F24, rfl, hs396.clear, rfl⟩
def Hn (N : Nat) (x0 : As) (x1 : UX) : Option (As × Bool) :=
 ((strings_CutPrefix N x1 ([67, 65, 76, 76, 32] : UX)).bind fun r21 => (bif r21.2 then ((DA N r21.1).bind fun r34 => some (({ o_ := ({ Report := x0.o_.Report, Serial := x0.o_.Serial, Zone := x0.o_.Zone } : Ac), l_ := ({ Call := r21.1, Category := x0.l_.Category, Power := x0.l_.Power, Claimed := x0.l_.Claimed, Jumps := x0.l_.Jumps, Lines := x0.l_.Lines } : Log), done_ := x0.done_, ended_ := x0.ended_ } : As), r34)) else none))
theorem Js : Ae Tryz.prog 153 := fun _ _ => by kernel_rfl
theorem Kb (N : Nat) {wb w0 : World} {Fb F0 : Mem} {Lf : Own} (hG : Bq F0) (bp0 : Nat) (x0 : As) (a0_7 : UY) (n0_7 : Nat) (tb0_9_0 : Nat) (tb0_9_1 : Nat) (tb0_9_2 : Nat) (tb0_9_3 : Nat) (tb0_9_4 : Nat) (tb0_9_5 : Nat) (tb0_9_6 : Nat) (tb0_9_7 : Nat) (tb0_9_8 : Nat) (tb0_9_9 : Nat) (tb0_9_10 : Nat) (tb0_9_11 : Nat) (a0_8 : UY) (n0_8 : Nat) (e0_8 : Option Nat × Obj) (hb0_7 : LC x0.l_.Jumps.length n0_7) (hs0_7 : SlA AB F0 a0_7 x0.l_.Jumps) (htb0_9_0 : F0 tb0_9_0 = some (oc #[(sv (([67, 65, 84, 69, 71, 79, 82, 89] : UX)))] 9)) (htb0_9_1 : F0 tb0_9_1 = some (oc #[(vi 1)] 3)) (htb0_9_2 : F0 tb0_9_2 = some (oc #[(vi 9)] 3)) (htb0_9_3 : F0 tb0_9_3 = some (oc #[(fV 156 #[])] 195)) (htb0_9_4 : F0 tb0_9_4 = some (oc #[(sv (([80, 79, 87, 69, 82] : UX)))] 9)) (htb0_9_5 : F0 tb0_9_5 = some (oc #[(vi 1)] 3)) (htb0_9_6 : F0 tb0_9_6 = some (oc #[(vi 9999)] 3)) (htb0_9_7 : F0 tb0_9_7 = some (oc #[(fV 157 #[])] 195)) (htb0_9_8 : F0 tb0_9_8 = some (oc #[(sv (([67, 76, 65, 73, 77, 69, 68] : UX)))] 9)) (htb0_9_9 : F0 tb0_9_9 = some (oc #[(vi 0)] 3)) (htb0_9_10 : F0 tb0_9_10 = some (oc #[(vi 1000000)] 3)) (htb0_9_11 : F0 tb0_9_11 = some (oc #[(fV 158 #[])] 195)) (hr0_8 : Ap AF 34 F0 a0_8 n0_8 x0.l_.Lines e0_8) (x1 : UX) (hs0 : HS wb Fb w0 F0 ((sb bp0 #[(.bool x0.o_.Report), (.bool x0.o_.Serial), (.bool x0.o_.Zone), (sv x0.l_.Call), (vi x0.l_.Category), (vi x0.l_.Power), (vi x0.l_.Claimed), (.slice a0_7 x0.l_.Jumps.length n0_7), (.slice a0_8 x0.l_.Lines.length n0_8), (fV 153 #[]), (fV 154 #[]), (fV 190 #[(pt tb0_9_0 0), (pt tb0_9_1 0), (pt tb0_9_2 0), (pt tb0_9_3 0)]), (fV 191 #[(pt tb0_9_0 0), (pt tb0_9_3 0)]), (fV 190 #[(pt tb0_9_4 0), (pt tb0_9_5 0), (pt tb0_9_6 0), (pt tb0_9_7 0)]), (fV 191 #[(pt tb0_9_4 0), (pt tb0_9_7 0)]), (fV 190 #[(pt tb0_9_8 0), (pt tb0_9_9 0), (pt tb0_9_10 0), (pt tb0_9_11 0)]), (fV 191 #[(pt tb0_9_8 0), (pt tb0_9_11 0)]), (fV 159 #[]), (fV 160 #[]), (vi x0.done_), (.bool x0.ended_)] 130) :: e0_8 :: Lf)) (r : (As × Bool)) (h : Hn N x0 x1 = some r) :
  Calls Tryz.prog 153 ([(pt bp0 3), (sv x1)] : List Value).toArray w0 (Ej wb Fb F0 fun F' v L' => ∃ (aq0_7 : UY) (nq0_7 : Nat) (aq0_8 : UY) (nq0_8 : Nat) (eq0_8 : Option Nat × Obj), v = (.bool r.2) /\ L' = (sb bp0 #[(.bool r.1.o_.Report), (.bool r.1.o_.Serial), (.bool r.1.o_.Zone), (sv r.1.l_.Call), (vi r.1.l_.Category), (vi r.1.l_.Power), (vi r.1.l_.Claimed), (.slice aq0_7 r.1.l_.Jumps.length nq0_7), (.slice aq0_8 r.1.l_.Lines.length nq0_8), (fV 153 #[]), (fV 154 #[]), (fV 190 #[(pt tb0_9_0 0), (pt tb0_9_1 0), (pt tb0_9_2 0), (pt tb0_9_3 0)]), (fV 191 #[(pt tb0_9_0 0), (pt tb0_9_3 0)]), (fV 190 #[(pt tb0_9_4 0), (pt tb0_9_5 0), (pt tb0_9_6 0), (pt tb0_9_7 0)]), (fV 191 #[(pt tb0_9_4 0), (pt tb0_9_7 0)]), (fV 190 #[(pt tb0_9_8 0), (pt tb0_9_9 0), (pt tb0_9_10 0), (pt tb0_9_11 0)]), (fV 191 #[(pt tb0_9_8 0), (pt tb0_9_11 0)]), (fV 159 #[]), (fV 160 #[]), (vi r.1.done_), (.bool r.1.ended_)] 130) :: eq0_8 :: Lf /\ LC r.1.l_.Jumps.length nq0_7 /\ SlA AB F' aq0_7 r.1.l_.Jumps /\ Ap AF 34 F' aq0_8 nq0_8 r.1.l_.Lines eq0_8) := by
 refine Go 21 Tryz.func153 <| Sq (Rg [0] ?_)
 refine Vs 1 <| Nss (Rg (rG 7) ?_)
 refine Vs 1 ?_
 obtain ⟨r21, hr22, h23⟩ := bind_some h
 refine Cl' A0 hs0 (A6 N w0 F0 hs0.pers x1 (([67, 65, 76, 76, 32] : UX)) _ hr22) ?_
 rintro _ F1 w25 hs26 le27 rfl
 refine Vs 5 <| Nss (Rg (rG 5) ?_)
 refine Vs 4 <| St0 #[(.bool x0.o_.Report), (.bool x0.o_.Serial), (.bool x0.o_.Zone), (sv r21.1), (vi x0.l_.Category), (vi x0.l_.Power), (vi x0.l_.Claimed), (.slice a0_7 x0.l_.Jumps.length n0_7), (.slice a0_8 x0.l_.Lines.length n0_8), (fV 153 #[]), (fV 154 #[]), (fV 190 #[(pt tb0_9_0 0), (pt tb0_9_1 0), (pt tb0_9_2 0), (pt tb0_9_3 0)]), (fV 191 #[(pt tb0_9_0 0), (pt tb0_9_3 0)]), (fV 190 #[(pt tb0_9_4 0), (pt tb0_9_5 0), (pt tb0_9_6 0), (pt tb0_9_7 0)]), (fV 191 #[(pt tb0_9_4 0), (pt tb0_9_7 0)]), (fV 190 #[(pt tb0_9_8 0), (pt tb0_9_9 0), (pt tb0_9_10 0), (pt tb0_9_11 0)]), (fV 191 #[(pt tb0_9_8 0), (pt tb0_9_11 0)]), (fV 159 #[]), (fV 160 #[]), (vi x0.done_), (.bool x0.ended_)] hs26 (fun w29 hs30 => ?_)
 refine Nss (Rg (rG 6) ?_)
 refine Vs 2 <| Sp h23 (fun hb31 h32 => ?_) (fun hb31 h33 => ?_)
 ·refine Vgs hb31 1 ?_
  obtain ⟨r34, hr35, h36⟩ := bind_some h32
  refine Cg hb31 Eg hs30 (ES N w29 F1 hs30.pers (hG.mono le27) r21.1 _ hr35) ?_
  rintro _ F2 w38 hs39 le40 rfl
  refine Pk1 hb31 <| Vs 1 <| Nt <| Rt ?_
  obtain rfl := Aa h36
  exact ReB [(.bool r34)] hs39 (le27.t le40) ⟨a0_7, n0_7, a0_8, n0_8, e0_8, rfl, rfl, hb0_7, (UF hs0_7 (le27.t le40)), (hr0_8.mono (le27.t le40))⟩
 ·cases h33
def Fe (N : Nat) (x0 : As) (x1 : UX) (r21 : (List UX)) (r29 : List UX) : (List Int × Int) -> Option (Ba (As × Bool) (List Int × Int)) := fun s40 =>
 (bif (decide (s40.2 < (r29.length : Int))) then none else some (.done (s40.1, s40.2)))
def GX (N : Nat) (x0 : As) (x1 : UX) : Option (As × Bool) :=
 ((strings_Split N x1 ([32] : UX)).bind fun r21 => ((sub r21 1 (r21.length : Int)).bind fun r29 => ((AQ (Fe N x0 x1 r21 r29) N (([] : List Int), 0)).bind fun o => o.k (fun r => some r) (fun s51 => ((idx r21 0).bind fun x72 => (bif (x72 == ([74, 85, 77, 80, 83] : UX)) then ((Ee N s51.1).bind fun r89 => some (({ o_ := ({ Report := x0.o_.Report, Serial := x0.o_.Serial, Zone := x0.o_.Zone } : Ac), l_ := ({ Call := x0.l_.Call, Category := x0.l_.Category, Power := x0.l_.Power, Claimed := x0.l_.Claimed, Jumps := s51.1, Lines := x0.l_.Lines } : Log), done_ := x0.done_, ended_ := x0.ended_ } : As), r89)) else none))))))
theorem IL : Ae Tryz.prog 159 := fun _ _ => by kernel_rfl
theorem JE (N : Nat) {wb w0 : World} {Fb F0 : Mem} {Lf : Own} (hG : Bq F0) (bp0 : Nat) (x0 : As) (a0_7 : UY) (n0_7 : Nat) (tb0_9_0 : Nat) (tb0_9_1 : Nat) (tb0_9_2 : Nat) (tb0_9_3 : Nat) (tb0_9_4 : Nat) (tb0_9_5 : Nat) (tb0_9_6 : Nat) (tb0_9_7 : Nat) (tb0_9_8 : Nat) (tb0_9_9 : Nat) (tb0_9_10 : Nat) (tb0_9_11 : Nat) (a0_8 : UY) (n0_8 : Nat) (e0_8 : Option Nat × Obj) (hb0_7 : LC x0.l_.Jumps.length n0_7) (hs0_7 : SlA AB F0 a0_7 x0.l_.Jumps) (htb0_9_0 : F0 tb0_9_0 = some (oc #[(sv (([67, 65, 84, 69, 71, 79, 82, 89] : UX)))] 9)) (htb0_9_1 : F0 tb0_9_1 = some (oc #[(vi 1)] 3)) (htb0_9_2 : F0 tb0_9_2 = some (oc #[(vi 9)] 3)) (htb0_9_3 : F0 tb0_9_3 = some (oc #[(fV 156 #[])] 195)) (htb0_9_4 : F0 tb0_9_4 = some (oc #[(sv (([80, 79, 87, 69, 82] : UX)))] 9)) (htb0_9_5 : F0 tb0_9_5 = some (oc #[(vi 1)] 3)) (htb0_9_6 : F0 tb0_9_6 = some (oc #[(vi 9999)] 3)) (htb0_9_7 : F0 tb0_9_7 = some (oc #[(fV 157 #[])] 195)) (htb0_9_8 : F0 tb0_9_8 = some (oc #[(sv (([67, 76, 65, 73, 77, 69, 68] : UX)))] 9)) (htb0_9_9 : F0 tb0_9_9 = some (oc #[(vi 0)] 3)) (htb0_9_10 : F0 tb0_9_10 = some (oc #[(vi 1000000)] 3)) (htb0_9_11 : F0 tb0_9_11 = some (oc #[(fV 158 #[])] 195)) (hr0_8 : Ap AF 34 F0 a0_8 n0_8 x0.l_.Lines e0_8) (x1 : UX) (hs0 : HS wb Fb w0 F0 ((sb bp0 #[(.bool x0.o_.Report), (.bool x0.o_.Serial), (.bool x0.o_.Zone), (sv x0.l_.Call), (vi x0.l_.Category), (vi x0.l_.Power), (vi x0.l_.Claimed), (.slice a0_7 x0.l_.Jumps.length n0_7), (.slice a0_8 x0.l_.Lines.length n0_8), (fV 153 #[]), (fV 154 #[]), (fV 190 #[(pt tb0_9_0 0), (pt tb0_9_1 0), (pt tb0_9_2 0), (pt tb0_9_3 0)]), (fV 191 #[(pt tb0_9_0 0), (pt tb0_9_3 0)]), (fV 190 #[(pt tb0_9_4 0), (pt tb0_9_5 0), (pt tb0_9_6 0), (pt tb0_9_7 0)]), (fV 191 #[(pt tb0_9_4 0), (pt tb0_9_7 0)]), (fV 190 #[(pt tb0_9_8 0), (pt tb0_9_9 0), (pt tb0_9_10 0), (pt tb0_9_11 0)]), (fV 191 #[(pt tb0_9_8 0), (pt tb0_9_11 0)]), (fV 159 #[]), (fV 160 #[]), (vi x0.done_), (.bool x0.ended_)] 130) :: e0_8 :: Lf)) (r : (As × Bool)) (h : GX N x0 x1 = some r) :
  Calls Tryz.prog 159 ([(pt bp0 3), (sv x1)] : List Value).toArray w0 (Ej wb Fb F0 fun F' v L' => ∃ (aq0_7 : UY) (nq0_7 : Nat) (aq0_8 : UY) (nq0_8 : Nat) (eq0_8 : Option Nat × Obj), v = (.bool r.2) /\ L' = (sb bp0 #[(.bool r.1.o_.Report), (.bool r.1.o_.Serial), (.bool r.1.o_.Zone), (sv r.1.l_.Call), (vi r.1.l_.Category), (vi r.1.l_.Power), (vi r.1.l_.Claimed), (.slice aq0_7 r.1.l_.Jumps.length nq0_7), (.slice aq0_8 r.1.l_.Lines.length nq0_8), (fV 153 #[]), (fV 154 #[]), (fV 190 #[(pt tb0_9_0 0), (pt tb0_9_1 0), (pt tb0_9_2 0), (pt tb0_9_3 0)]), (fV 191 #[(pt tb0_9_0 0), (pt tb0_9_3 0)]), (fV 190 #[(pt tb0_9_4 0), (pt tb0_9_5 0), (pt tb0_9_6 0), (pt tb0_9_7 0)]), (fV 191 #[(pt tb0_9_4 0), (pt tb0_9_7 0)]), (fV 190 #[(pt tb0_9_8 0), (pt tb0_9_9 0), (pt tb0_9_10 0), (pt tb0_9_11 0)]), (fV 191 #[(pt tb0_9_8 0), (pt tb0_9_11 0)]), (fV 159 #[]), (fV 160 #[]), (vi r.1.done_), (.bool r.1.ended_)] 130) :: eq0_8 :: Lf /\ LC r.1.l_.Jumps.length nq0_7 /\ SlA AB F' aq0_7 r.1.l_.Jumps /\ Ap AF 34 F' aq0_8 nq0_8 r.1.l_.Lines eq0_8) := by
 refine Go 44 Tryz.func159 <| Sq (Rg [0] ?_)
 refine Vs 1 <| Nss (Rg [0, 1, 2] ?_)
 refine Vs 1 ?_
 obtain ⟨r21, hr22, h23⟩ := bind_some h
 refine Cl' Cj hs0 (CE N w0 F0 hs0.pers hG x1 (([32] : UX)) _ hr22) ?_
 rintro _ F1 w25 hs26 le27 ⟨ar21_0_0, nr21_0_0, rfl, hbr21_0_0, hsr21_0_0⟩
 refine Vs 1 <| Nss (Rg [0] ?_)
 refine Vs 1 <| Nss <| Sq (Rg (rG 4) ?_)
 refine Vs 1 ?_
 obtain ⟨r29, hr30, h31⟩ := bind_some h23
 obtain ⟨a32, n33, hb34, hs35, hrun36⟩ := Fa (P := Tryz.prog) (T := AK) (lo := (some (.const (vi 1)))) (hi := none) (mx := none) (t := 55) (E := 9) (by_ := 16) (c := nr21_0_0) (a := ar21_0_0) (l := r21) (r := r29) (il := 1) (ih := (r21.length : Int)) (im := 0) (by kernel_rfl) (by kernel_rfl) hbr21_0_0 hsr21_0_0 (fun h => by first | rfl | cases h) hr30
 refine V 14 55 (hrun36 (x := (.tmp 13)) rfl rfl rfl trivial) <| Vs 2 <| Nt ?_
 obtain ⟨o37, ho38, h39⟩ := bind_some h31
 refine UJ (fun f w => ∃ (s51 : (List Int × Int)) (F3 : Mem) (as51_0 : UY) (ns51_0 : Nat), o37 = .done s51 /\ HS wb Fb w F3 ((sb bp0 #[(.bool x0.o_.Report), (.bool x0.o_.Serial), (.bool x0.o_.Zone), (sv x0.l_.Call), (vi x0.l_.Category), (vi x0.l_.Power), (vi x0.l_.Claimed), (.slice a0_7 x0.l_.Jumps.length n0_7), (.slice a0_8 x0.l_.Lines.length n0_8), (fV 153 #[]), (fV 154 #[]), (fV 190 #[(pt tb0_9_0 0), (pt tb0_9_1 0), (pt tb0_9_2 0), (pt tb0_9_3 0)]), (fV 191 #[(pt tb0_9_0 0), (pt tb0_9_3 0)]), (fV 190 #[(pt tb0_9_4 0), (pt tb0_9_5 0), (pt tb0_9_6 0), (pt tb0_9_7 0)]), (fV 191 #[(pt tb0_9_4 0), (pt tb0_9_7 0)]), (fV 190 #[(pt tb0_9_8 0), (pt tb0_9_9 0), (pt tb0_9_10 0), (pt tb0_9_11 0)]), (fV 191 #[(pt tb0_9_8 0), (pt tb0_9_11 0)]), (fV 159 #[]), (fV 160 #[]), (vi x0.done_), (.bool x0.ended_)] 130) :: e0_8 :: Lf) /\ UC F1 F3 /\ FI f [] [(0, (pt bp0 3)), (5, (.slice ar21_0_0 r21.length nr21_0_0)), (6, (.slice as51_0 s51.1.length ns51_0))] /\ LC s51.1.length ns51_0 /\ SlA AB F3 as51_0 s51.1) ?_ ?_
 ·refine Bk ?_
  refine UB (by kernel_rfl) (fun m f w => ∃ (s40 : (List Int × Int)) (F2 : Mem) (as40_0 : UY) (ns40_0 : Nat), AQ (Fe N x0 x1 r21 r29) m s40 = some o37 /\ HS wb Fb w F2 ((sb bp0 #[(.bool x0.o_.Report), (.bool x0.o_.Serial), (.bool x0.o_.Zone), (sv x0.l_.Call), (vi x0.l_.Category), (vi x0.l_.Power), (vi x0.l_.Claimed), (.slice a0_7 x0.l_.Jumps.length n0_7), (.slice a0_8 x0.l_.Lines.length n0_8), (fV 153 #[]), (fV 154 #[]), (fV 190 #[(pt tb0_9_0 0), (pt tb0_9_1 0), (pt tb0_9_2 0), (pt tb0_9_3 0)]), (fV 191 #[(pt tb0_9_0 0), (pt tb0_9_3 0)]), (fV 190 #[(pt tb0_9_4 0), (pt tb0_9_5 0), (pt tb0_9_6 0), (pt tb0_9_7 0)]), (fV 191 #[(pt tb0_9_4 0), (pt tb0_9_7 0)]), (fV 190 #[(pt tb0_9_8 0), (pt tb0_9_9 0), (pt tb0_9_10 0), (pt tb0_9_11 0)]), (fV 191 #[(pt tb0_9_8 0), (pt tb0_9_11 0)]), (fV 159 #[]), (fV 160 #[]), (vi x0.done_), (.bool x0.ended_)] 130) :: e0_8 :: Lf) /\ UC F1 F2 /\ FI f [] [(0, (pt bp0 3)), (5, (.slice ar21_0_0 r21.length nr21_0_0)), (6, (.slice as40_0 s40.1.length ns40_0)), (14, (.slice a32 r29.length n33)), (15, (vi (r29.length : Int))), (16, (vi s40.2))] /\ LC s40.1.length ns40_0 /\ SlA AB F2 as40_0 s40.1) N ⟨(([] : List Int), 0), F1, none, 0, ho38, hs26, (UD _), fI, UG, (.inl rfl)⟩ ?_
  rintro m59 f w41 ⟨s40, F2, as40_0, ns40_0, hit60, hs42, le43, ⟨_, rfl⟩, hbs40_0, hss40_0⟩
  obtain ⟨m61, fl62, rfl, hb63, hnx64⟩ := AH hit60
  refine Sq (Rg [0] ?_)
  refine Vs 1 <| Nss <| Cd hb63 (fun hb65 h66 => ?_) (fun hb65 h67 => ?_)
  ·cases h66
  ·refine Ex ?_
   refine Aq <| Aq <| Az rfl ?_
   have ho68 := AJ h67 hnx64
   exact .inl ⟨rfl, (s40.1, s40.2), F2, as40_0, ns40_0, ho68, hs42, le43, fI, hbs40_0, hss40_0⟩
 ·rintro f w52 ⟨s51, F3, as51_0, ns51_0, rfl, hs53, le54, ⟨_, rfl⟩, hbs51_0, hss51_0⟩
  have h69 := Bn h39
  refine Ab <| Sq (Rg (rG 5) ?_)
  refine Vs 4 <| St0 #[(.bool x0.o_.Report), (.bool x0.o_.Serial), (.bool x0.o_.Zone), (sv x0.l_.Call), (vi x0.l_.Category), (vi x0.l_.Power), (vi x0.l_.Claimed), (.slice as51_0 s51.1.length ns51_0), (.slice a0_8 x0.l_.Lines.length n0_8), (fV 153 #[]), (fV 154 #[]), (fV 190 #[(pt tb0_9_0 0), (pt tb0_9_1 0), (pt tb0_9_2 0), (pt tb0_9_3 0)]), (fV 191 #[(pt tb0_9_0 0), (pt tb0_9_3 0)]), (fV 190 #[(pt tb0_9_4 0), (pt tb0_9_5 0), (pt tb0_9_6 0), (pt tb0_9_7 0)]), (fV 191 #[(pt tb0_9_4 0), (pt tb0_9_7 0)]), (fV 190 #[(pt tb0_9_8 0), (pt tb0_9_9 0), (pt tb0_9_10 0), (pt tb0_9_11 0)]), (fV 191 #[(pt tb0_9_8 0), (pt tb0_9_11 0)]), (fV 159 #[]), (fV 160 #[]), (vi x0.done_), (.bool x0.ended_)] hs53 (fun w70 hs71 => ?_)
  refine Nss (Rg (rG 9) ?_)
  refine Vs 1 ?_
  obtain ⟨x72, hx73, h75⟩ := bind_some h69
  obtain ⟨hi74, hx73'⟩ := An hx73
  obtain ⟨b76, o77, C78, E79, fz80, rfl, hF82, hE83⟩ := UK (UF hsr21_0_0 le54) hx73'
  have hc85 := hE83 _ _ hx73'
  refine Ix hi74 <| Lx 0 (hs71.pers _ _ hF82) hc85 <| Vs 2 <| Sp h75 (fun hb86 h87 => ?_) (fun hb86 h88 => ?_)
  ·refine Vgs hb86 1 ?_
   obtain ⟨r89, hr90, h91⟩ := bind_some h87
   refine Cg hb86 FU hs71 (GP N w70 F3 hs71.pers s51.1 as51_0 ns51_0 hbs51_0 hss51_0 _ hr90) ?_
   rintro _ F4 w93 hs94 le95 rfl
   refine Pk1 hb86 <| Vs 1 <| Nt <| Rt ?_
   obtain rfl := Aa h91
   exact ReB [(.bool r89)] hs94 ((le27.t le54).trans le95) ⟨as51_0, ns51_0, a0_8, n0_8, e0_8, rfl, rfl, hbs51_0, (UF hss51_0 le95), (hr0_8.mono ((le27.t le54).trans le95))⟩
  ·cases h88
def FG (N : Nat) (x0 : As) (x1 : UX) (z0 : UX) (z1 : Int) (z2 : Int) : Option (As × Bool) :=
 ((DF z0 ([32] : UX)).bind fun r21 => ((strings_CutPrefix N x1 r21).bind fun r24 => ((BK N r24.1).bind fun r32 => (bif (!r24.2) then none else (bif (!r32.2) then none else ((AP N r32.1 z1 z2).bind fun r46 => (bif (!r46) then some (x0, false) else some (({ o_ := ({ Report := x0.o_.Report, Serial := x0.o_.Serial, Zone := x0.o_.Zone } : Ac), l_ := ({ Call := x0.l_.Call, Category := r32.1, Power := x0.l_.Power, Claimed := x0.l_.Claimed, Jumps := x0.l_.Jumps, Lines := x0.l_.Lines } : Log), done_ := x0.done_, ended_ := x0.ended_ } : As), true))))))))
theorem HC : Ae Tryz.prog 190 := fun _ _ => by kernel_rfl
theorem Ih (N : Nat) {wb w0 : World} {Fb F0 : Mem} {Lf : Own} (hG : Bq F0) (bp0 : Nat) (x0 : As) (a0_7 : UY) (n0_7 : Nat) (tb0_9_0 : Nat) (tb0_9_1 : Nat) (tb0_9_2 : Nat) (tb0_9_3 : Nat) (tb0_9_4 : Nat) (tb0_9_5 : Nat) (tb0_9_6 : Nat) (tb0_9_7 : Nat) (tb0_9_8 : Nat) (tb0_9_9 : Nat) (tb0_9_10 : Nat) (tb0_9_11 : Nat) (a0_8 : UY) (n0_8 : Nat) (e0_8 : Option Nat × Obj) (hb0_7 : LC x0.l_.Jumps.length n0_7) (hs0_7 : SlA AB F0 a0_7 x0.l_.Jumps) (htb0_9_0 : F0 tb0_9_0 = some (oc #[(sv (([67, 65, 84, 69, 71, 79, 82, 89] : UX)))] 9)) (htb0_9_1 : F0 tb0_9_1 = some (oc #[(vi 1)] 3)) (htb0_9_2 : F0 tb0_9_2 = some (oc #[(vi 9)] 3)) (htb0_9_3 : F0 tb0_9_3 = some (oc #[(fV 156 #[])] 195)) (htb0_9_4 : F0 tb0_9_4 = some (oc #[(sv (([80, 79, 87, 69, 82] : UX)))] 9)) (htb0_9_5 : F0 tb0_9_5 = some (oc #[(vi 1)] 3)) (htb0_9_6 : F0 tb0_9_6 = some (oc #[(vi 9999)] 3)) (htb0_9_7 : F0 tb0_9_7 = some (oc #[(fV 157 #[])] 195)) (htb0_9_8 : F0 tb0_9_8 = some (oc #[(sv (([67, 76, 65, 73, 77, 69, 68] : UX)))] 9)) (htb0_9_9 : F0 tb0_9_9 = some (oc #[(vi 0)] 3)) (htb0_9_10 : F0 tb0_9_10 = some (oc #[(vi 1000000)] 3)) (htb0_9_11 : F0 tb0_9_11 = some (oc #[(fV 158 #[])] 195)) (hr0_8 : Ap AF 34 F0 a0_8 n0_8 x0.l_.Lines e0_8) (x1 : UX) (bz0 : Nat) (z0 : UX) (hz0 : F0 bz0 = some (oc #[(sv z0)] 9)) (bz1 : Nat) (z1 : Int) (hz1 : F0 bz1 = some (oc #[(vi z1)] 3)) (bz2 : Nat) (z2 : Int) (hz2 : F0 bz2 = some (oc #[(vi z2)] 3)) (bz3 : Nat) (hz3 : F0 bz3 = some (oc #[(fV 156 #[])] 195)) (hs0 : HS wb Fb w0 F0 ((sb bp0 #[(.bool x0.o_.Report), (.bool x0.o_.Serial), (.bool x0.o_.Zone), (sv x0.l_.Call), (vi x0.l_.Category), (vi x0.l_.Power), (vi x0.l_.Claimed), (.slice a0_7 x0.l_.Jumps.length n0_7), (.slice a0_8 x0.l_.Lines.length n0_8), (fV 153 #[]), (fV 154 #[]), (fV 190 #[(pt tb0_9_0 0), (pt tb0_9_1 0), (pt tb0_9_2 0), (pt tb0_9_3 0)]), (fV 191 #[(pt tb0_9_0 0), (pt tb0_9_3 0)]), (fV 190 #[(pt tb0_9_4 0), (pt tb0_9_5 0), (pt tb0_9_6 0), (pt tb0_9_7 0)]), (fV 191 #[(pt tb0_9_4 0), (pt tb0_9_7 0)]), (fV 190 #[(pt tb0_9_8 0), (pt tb0_9_9 0), (pt tb0_9_10 0), (pt tb0_9_11 0)]), (fV 191 #[(pt tb0_9_8 0), (pt tb0_9_11 0)]), (fV 159 #[]), (fV 160 #[]), (vi x0.done_), (.bool x0.ended_)] 130) :: e0_8 :: Lf)) (r : (As × Bool)) (h : FG N x0 x1 z0 z1 z2 = some r) :
  Calls Tryz.prog 190 ([(pt bp0 3), (sv x1), (pt bz0 0), (pt bz1 0), (pt bz2 0), (pt bz3 0)] : List Value).toArray w0 (Ej wb Fb F0 fun F' v L' => ∃ (aq0_7 : UY) (nq0_7 : Nat) (aq0_8 : UY) (nq0_8 : Nat) (eq0_8 : Option Nat × Obj), v = (.bool r.2) /\ L' = (sb bp0 #[(.bool r.1.o_.Report), (.bool r.1.o_.Serial), (.bool r.1.o_.Zone), (sv r.1.l_.Call), (vi r.1.l_.Category), (vi r.1.l_.Power), (vi r.1.l_.Claimed), (.slice aq0_7 r.1.l_.Jumps.length nq0_7), (.slice aq0_8 r.1.l_.Lines.length nq0_8), (fV 153 #[]), (fV 154 #[]), (fV 190 #[(pt tb0_9_0 0), (pt tb0_9_1 0), (pt tb0_9_2 0), (pt tb0_9_3 0)]), (fV 191 #[(pt tb0_9_0 0), (pt tb0_9_3 0)]), (fV 190 #[(pt tb0_9_4 0), (pt tb0_9_5 0), (pt tb0_9_6 0), (pt tb0_9_7 0)]), (fV 191 #[(pt tb0_9_4 0), (pt tb0_9_7 0)]), (fV 190 #[(pt tb0_9_8 0), (pt tb0_9_9 0), (pt tb0_9_10 0), (pt tb0_9_11 0)]), (fV 191 #[(pt tb0_9_8 0), (pt tb0_9_11 0)]), (fV 159 #[]), (fV 160 #[]), (vi r.1.done_), (.bool r.1.ended_)] 130) :: eq0_8 :: Lf /\ LC r.1.l_.Jumps.length nq0_7 /\ SlA AB F' aq0_7 r.1.l_.Jumps /\ Ap AF 34 F' aq0_8 nq0_8 r.1.l_.Lines eq0_8) := by
 refine Go 43 Tryz.func190 <| Sq (Rg [0] ?_)
 refine Vs 1 <| Nss (Rg (rG 9) ?_)
 refine Vs 1 <| Ld (hs0.pers _ _ hz0) ?_
 obtain ⟨r21, hr22, h23⟩ := bind_some h
 refine V 16 9 (AY (t := 9) (t' := 9) (x := (.tmp 15)) (y := (.const (sv ([32] : UX)))) (a := z0) (b := ([32] : UX)) (v := r21) rfl rfl hr22) ?_
 obtain ⟨r24, hr25, h26⟩ := bind_some h23
 refine Cl' A0 hs0 (A6 N w0 F0 hs0.pers x1 r21 _ hr25) ?_
 rintro _ F1 w28 hs29 le30 rfl
 refine Vs 5 <| Nss (Rg (rG 7) ?_)
 refine Vs 1 ?_
 obtain ⟨r32, hr33, h34⟩ := bind_some h26
 refine Cl' Bh hs29 (Bv N w28 F1 hs29.pers (hG.mono le30) r24.1 _ hr33) ?_
 rintro _ F2 w36 hs37 le38 rfl
 refine Vs 5 <| Nss <| Sq (Rg (rG 13) ?_)
 refine Vs 3 <| Sp h34 (fun hb40 h41 => ?_) (fun hb40 h42 => ?_)
 ·cases h41
 ·refine Vgs hb40 2 ?_
  refine Pk0 hb40 <| Vs 1 <| Sp h42 (fun hb43 h44 => ?_) (fun hb43 h45 => ?_)
  ·cases h44
  ·refine Vgs hb43 1 ?_
   refine Lg hb43 (hs37.pers _ _ ((le30.t le38) _ _ hz1)) <| Lg hb43 (hs37.pers _ _ ((le30.t le38) _ _ hz2)) ?_
   obtain ⟨r46, hr47, h48⟩ := bind_some h45
   refine Cg hb43 AG hs37 (AL N w36 F2 hs37.pers r32.1 z1 z2 _ hr47) ?_
   rintro _ F3 w50 hs51 le52 rfl
   refine Vgs hb43 1 <| Pk0 hb43 <| Nt <| Cd h48 (fun hb54 h55 => ?_) (fun hb54 h56 => ?_)
   ·refine Sq (Rg [0] ?_)
    refine Vs 1 <| Nt <| Rt <| Af ?_
    obtain rfl := Aa h55
    exact ReB [(.bool false)] hs51 ((le30.t le38).trans le52) ⟨a0_7, n0_7, a0_8, n0_8, e0_8, rfl, rfl, hb0_7, (UF hs0_7 ((le30.t le38).trans le52)), (hr0_8.mono ((le30.t le38).trans le52))⟩
   ·refine Sc ?_
    refine Ab <| Sq (Rg (rG 6) ?_)
    refine Ld (hs51.pers _ _ (((le30.t le38).trans le52) _ _ hz3)) <| Vs 1 <| Cl' J4 hs51 (Mn w50 F3 hs51.pers bp0 3) ?_
    rintro _ F4 w57 hs58 le59 rfl
    refine Vs 2 <| St0 #[(.bool x0.o_.Report), (.bool x0.o_.Serial), (.bool x0.o_.Zone), (sv x0.l_.Call), (vi r32.1), (vi x0.l_.Power), (vi x0.l_.Claimed), (.slice a0_7 x0.l_.Jumps.length n0_7), (.slice a0_8 x0.l_.Lines.length n0_8), (fV 153 #[]), (fV 154 #[]), (fV 190 #[(pt tb0_9_0 0), (pt tb0_9_1 0), (pt tb0_9_2 0), (pt tb0_9_3 0)]), (fV 191 #[(pt tb0_9_0 0), (pt tb0_9_3 0)]), (fV 190 #[(pt tb0_9_4 0), (pt tb0_9_5 0), (pt tb0_9_6 0), (pt tb0_9_7 0)]), (fV 191 #[(pt tb0_9_4 0), (pt tb0_9_7 0)]), (fV 190 #[(pt tb0_9_8 0), (pt tb0_9_9 0), (pt tb0_9_10 0), (pt tb0_9_11 0)]), (fV 191 #[(pt tb0_9_8 0), (pt tb0_9_11 0)]), (fV 159 #[]), (fV 160 #[]), (vi x0.done_), (.bool x0.ended_)] hs58 (fun w60 hs61 => ?_)
    refine Nss (Rg [0] ?_)
    refine Vs 1 <| Nt <| Rt ?_
    obtain rfl := Aa h56
    exact ReB [(.bool true)] hs61 (((le30.t le38).trans le52).trans le59) ⟨a0_7, n0_7, a0_8, n0_8, e0_8, rfl, rfl, hb0_7, (UF hs0_7 (((le30.t le38).trans le52).trans le59)), (hr0_8.mono (((le30.t le38).trans le52).trans le59))⟩
def FE (N : Nat) (x0 : As) (x1 : UX) (z0 : UX) (z1 : Int) (z2 : Int) : Option (As × Bool) :=
 ((DF z0 ([32] : UX)).bind fun r21 => ((strings_CutPrefix N x1 r21).bind fun r24 => ((BK N r24.1).bind fun r32 => (bif (!r24.2) then none else (bif (!r32.2) then none else ((AP N r32.1 z1 z2).bind fun r46 => (bif (!r46) then some (x0, false) else some (({ o_ := ({ Report := x0.o_.Report, Serial := x0.o_.Serial, Zone := x0.o_.Zone } : Ac), l_ := ({ Call := x0.l_.Call, Category := x0.l_.Category, Power := r32.1, Claimed := x0.l_.Claimed, Jumps := x0.l_.Jumps, Lines := x0.l_.Lines } : Log), done_ := x0.done_, ended_ := x0.ended_ } : As), true))))))))
theorem HA : Ae Tryz.prog 190 := fun _ _ => by kernel_rfl
theorem Ie (N : Nat) {wb w0 : World} {Fb F0 : Mem} {Lf : Own} (hG : Bq F0) (bp0 : Nat) (x0 : As) (a0_7 : UY) (n0_7 : Nat) (tb0_9_0 : Nat) (tb0_9_1 : Nat) (tb0_9_2 : Nat) (tb0_9_3 : Nat) (tb0_9_4 : Nat) (tb0_9_5 : Nat) (tb0_9_6 : Nat) (tb0_9_7 : Nat) (tb0_9_8 : Nat) (tb0_9_9 : Nat) (tb0_9_10 : Nat) (tb0_9_11 : Nat) (a0_8 : UY) (n0_8 : Nat) (e0_8 : Option Nat × Obj) (hb0_7 : LC x0.l_.Jumps.length n0_7) (hs0_7 : SlA AB F0 a0_7 x0.l_.Jumps) (htb0_9_0 : F0 tb0_9_0 = some (oc #[(sv (([67, 65, 84, 69, 71, 79, 82, 89] : UX)))] 9)) (htb0_9_1 : F0 tb0_9_1 = some (oc #[(vi 1)] 3)) (htb0_9_2 : F0 tb0_9_2 = some (oc #[(vi 9)] 3)) (htb0_9_3 : F0 tb0_9_3 = some (oc #[(fV 156 #[])] 195)) (htb0_9_4 : F0 tb0_9_4 = some (oc #[(sv (([80, 79, 87, 69, 82] : UX)))] 9)) (htb0_9_5 : F0 tb0_9_5 = some (oc #[(vi 1)] 3)) (htb0_9_6 : F0 tb0_9_6 = some (oc #[(vi 9999)] 3)) (htb0_9_7 : F0 tb0_9_7 = some (oc #[(fV 157 #[])] 195)) (htb0_9_8 : F0 tb0_9_8 = some (oc #[(sv (([67, 76, 65, 73, 77, 69, 68] : UX)))] 9)) (htb0_9_9 : F0 tb0_9_9 = some (oc #[(vi 0)] 3)) (htb0_9_10 : F0 tb0_9_10 = some (oc #[(vi 1000000)] 3)) (htb0_9_11 : F0 tb0_9_11 = some (oc #[(fV 158 #[])] 195)) (hr0_8 : Ap AF 34 F0 a0_8 n0_8 x0.l_.Lines e0_8) (x1 : UX) (bz0 : Nat) (z0 : UX) (hz0 : F0 bz0 = some (oc #[(sv z0)] 9)) (bz1 : Nat) (z1 : Int) (hz1 : F0 bz1 = some (oc #[(vi z1)] 3)) (bz2 : Nat) (z2 : Int) (hz2 : F0 bz2 = some (oc #[(vi z2)] 3)) (bz3 : Nat) (hz3 : F0 bz3 = some (oc #[(fV 157 #[])] 195)) (hs0 : HS wb Fb w0 F0 ((sb bp0 #[(.bool x0.o_.Report), (.bool x0.o_.Serial), (.bool x0.o_.Zone), (sv x0.l_.Call), (vi x0.l_.Category), (vi x0.l_.Power), (vi x0.l_.Claimed), (.slice a0_7 x0.l_.Jumps.length n0_7), (.slice a0_8 x0.l_.Lines.length n0_8), (fV 153 #[]), (fV 154 #[]), (fV 190 #[(pt tb0_9_0 0), (pt tb0_9_1 0), (pt tb0_9_2 0), (pt tb0_9_3 0)]), (fV 191 #[(pt tb0_9_0 0), (pt tb0_9_3 0)]), (fV 190 #[(pt tb0_9_4 0), (pt tb0_9_5 0), (pt tb0_9_6 0), (pt tb0_9_7 0)]), (fV 191 #[(pt tb0_9_4 0), (pt tb0_9_7 0)]), (fV 190 #[(pt tb0_9_8 0), (pt tb0_9_9 0), (pt tb0_9_10 0), (pt tb0_9_11 0)]), (fV 191 #[(pt tb0_9_8 0), (pt tb0_9_11 0)]), (fV 159 #[]), (fV 160 #[]), (vi x0.done_), (.bool x0.ended_)] 130) :: e0_8 :: Lf)) (r : (As × Bool)) (h : FE N x0 x1 z0 z1 z2 = some r) :
  Calls Tryz.prog 190 ([(pt bp0 3), (sv x1), (pt bz0 0), (pt bz1 0), (pt bz2 0), (pt bz3 0)] : List Value).toArray w0 (Ej wb Fb F0 fun F' v L' => ∃ (aq0_7 : UY) (nq0_7 : Nat) (aq0_8 : UY) (nq0_8 : Nat) (eq0_8 : Option Nat × Obj), v = (.bool r.2) /\ L' = (sb bp0 #[(.bool r.1.o_.Report), (.bool r.1.o_.Serial), (.bool r.1.o_.Zone), (sv r.1.l_.Call), (vi r.1.l_.Category), (vi r.1.l_.Power), (vi r.1.l_.Claimed), (.slice aq0_7 r.1.l_.Jumps.length nq0_7), (.slice aq0_8 r.1.l_.Lines.length nq0_8), (fV 153 #[]), (fV 154 #[]), (fV 190 #[(pt tb0_9_0 0), (pt tb0_9_1 0), (pt tb0_9_2 0), (pt tb0_9_3 0)]), (fV 191 #[(pt tb0_9_0 0), (pt tb0_9_3 0)]), (fV 190 #[(pt tb0_9_4 0), (pt tb0_9_5 0), (pt tb0_9_6 0), (pt tb0_9_7 0)]), (fV 191 #[(pt tb0_9_4 0), (pt tb0_9_7 0)]), (fV 190 #[(pt tb0_9_8 0), (pt tb0_9_9 0), (pt tb0_9_10 0), (pt tb0_9_11 0)]), (fV 191 #[(pt tb0_9_8 0), (pt tb0_9_11 0)]), (fV 159 #[]), (fV 160 #[]), (vi r.1.done_), (.bool r.1.ended_)] 130) :: eq0_8 :: Lf /\ LC r.1.l_.Jumps.length nq0_7 /\ SlA AB F' aq0_7 r.1.l_.Jumps /\ Ap AF 34 F' aq0_8 nq0_8 r.1.l_.Lines eq0_8) := by
 refine Go 43 Tryz.func190 <| Sq (Rg [0] ?_)
 refine Vs 1 <| Nss (Rg (rG 9) ?_)
 refine Vs 1 <| Ld (hs0.pers _ _ hz0) ?_
 obtain ⟨r21, hr22, h23⟩ := bind_some h
 refine V 16 9 (AY (t := 9) (t' := 9) (x := (.tmp 15)) (y := (.const (sv ([32] : UX)))) (a := z0) (b := ([32] : UX)) (v := r21) rfl rfl hr22) ?_
 obtain ⟨r24, hr25, h26⟩ := bind_some h23
 refine Cl' A0 hs0 (A6 N w0 F0 hs0.pers x1 r21 _ hr25) ?_
 rintro _ F1 w28 hs29 le30 rfl
 refine Vs 5 <| Nss (Rg (rG 7) ?_)
 refine Vs 1 ?_
 obtain ⟨r32, hr33, h34⟩ := bind_some h26
 refine Cl' Bh hs29 (Bv N w28 F1 hs29.pers (hG.mono le30) r24.1 _ hr33) ?_
 rintro _ F2 w36 hs37 le38 rfl
 refine Vs 5 <| Nss <| Sq (Rg (rG 13) ?_)
 refine Vs 3 <| Sp h34 (fun hb40 h41 => ?_) (fun hb40 h42 => ?_)
 ·cases h41
 ·refine Vgs hb40 2 ?_
  refine Pk0 hb40 <| Vs 1 <| Sp h42 (fun hb43 h44 => ?_) (fun hb43 h45 => ?_)
  ·cases h44
  ·refine Vgs hb43 1 ?_
   refine Lg hb43 (hs37.pers _ _ ((le30.t le38) _ _ hz1)) <| Lg hb43 (hs37.pers _ _ ((le30.t le38) _ _ hz2)) ?_
   obtain ⟨r46, hr47, h48⟩ := bind_some h45
   refine Cg hb43 AG hs37 (AL N w36 F2 hs37.pers r32.1 z1 z2 _ hr47) ?_
   rintro _ F3 w50 hs51 le52 rfl
   refine Vgs hb43 1 <| Pk0 hb43 <| Nt <| Cd h48 (fun hb54 h55 => ?_) (fun hb54 h56 => ?_)
   ·refine Sq (Rg [0] ?_)
    refine Vs 1 <| Nt <| Rt <| Af ?_
    obtain rfl := Aa h55
    exact ReB [(.bool false)] hs51 ((le30.t le38).trans le52) ⟨a0_7, n0_7, a0_8, n0_8, e0_8, rfl, rfl, hb0_7, (UF hs0_7 ((le30.t le38).trans le52)), (hr0_8.mono ((le30.t le38).trans le52))⟩
   ·refine Sc ?_
    refine Ab <| Sq (Rg (rG 6) ?_)
    refine Ld (hs51.pers _ _ (((le30.t le38).trans le52) _ _ hz3)) <| Vs 1 <| Cl' J3 hs51 (Mm w50 F3 hs51.pers bp0 3) ?_
    rintro _ F4 w57 hs58 le59 rfl
    refine Vs 2 <| St0 #[(.bool x0.o_.Report), (.bool x0.o_.Serial), (.bool x0.o_.Zone), (sv x0.l_.Call), (vi x0.l_.Category), (vi r32.1), (vi x0.l_.Claimed), (.slice a0_7 x0.l_.Jumps.length n0_7), (.slice a0_8 x0.l_.Lines.length n0_8), (fV 153 #[]), (fV 154 #[]), (fV 190 #[(pt tb0_9_0 0), (pt tb0_9_1 0), (pt tb0_9_2 0), (pt tb0_9_3 0)]), (fV 191 #[(pt tb0_9_0 0), (pt tb0_9_3 0)]), (fV 190 #[(pt tb0_9_4 0), (pt tb0_9_5 0), (pt tb0_9_6 0), (pt tb0_9_7 0)]), (fV 191 #[(pt tb0_9_4 0), (pt tb0_9_7 0)]), (fV 190 #[(pt tb0_9_8 0), (pt tb0_9_9 0), (pt tb0_9_10 0), (pt tb0_9_11 0)]), (fV 191 #[(pt tb0_9_8 0), (pt tb0_9_11 0)]), (fV 159 #[]), (fV 160 #[]), (vi x0.done_), (.bool x0.ended_)] hs58 (fun w60 hs61 => ?_)
    refine Nss (Rg [0] ?_)
    refine Vs 1 <| Nt <| Rt ?_
    obtain rfl := Aa h56
    exact ReB [(.bool true)] hs61 (((le30.t le38).trans le52).trans le59) ⟨a0_7, n0_7, a0_8, n0_8, e0_8, rfl, rfl, hb0_7, (UF hs0_7 (((le30.t le38).trans le52).trans le59)), (hr0_8.mono (((le30.t le38).trans le52).trans le59))⟩
def FF (N : Nat) (x0 : As) (x1 : UX) (z0 : UX) (z1 : Int) (z2 : Int) : Option (As × Bool) :=
 ((DF z0 ([32] : UX)).bind fun r21 => ((strings_CutPrefix N x1 r21).bind fun r24 => ((BK N r24.1).bind fun r32 => (bif (!r24.2) then none else (bif (!r32.2) then none else ((AP N r32.1 z1 z2).bind fun r46 => (bif (!r46) then some (x0, false) else some (({ o_ := ({ Report := x0.o_.Report, Serial := x0.o_.Serial, Zone := x0.o_.Zone } : Ac), l_ := ({ Call := x0.l_.Call, Category := x0.l_.Category, Power := x0.l_.Power, Claimed := r32.1, Jumps := x0.l_.Jumps, Lines := x0.l_.Lines } : Log), done_ := x0.done_, ended_ := x0.ended_ } : As), true))))))))
theorem HB : Ae Tryz.prog 190 := fun _ _ => by kernel_rfl
theorem Ig (N : Nat) {wb w0 : World} {Fb F0 : Mem} {Lf : Own} (hG : Bq F0) (bp0 : Nat) (x0 : As) (a0_7 : UY) (n0_7 : Nat) (tb0_9_0 : Nat) (tb0_9_1 : Nat) (tb0_9_2 : Nat) (tb0_9_3 : Nat) (tb0_9_4 : Nat) (tb0_9_5 : Nat) (tb0_9_6 : Nat) (tb0_9_7 : Nat) (tb0_9_8 : Nat) (tb0_9_9 : Nat) (tb0_9_10 : Nat) (tb0_9_11 : Nat) (a0_8 : UY) (n0_8 : Nat) (e0_8 : Option Nat × Obj) (hb0_7 : LC x0.l_.Jumps.length n0_7) (hs0_7 : SlA AB F0 a0_7 x0.l_.Jumps) (htb0_9_0 : F0 tb0_9_0 = some (oc #[(sv (([67, 65, 84, 69, 71, 79, 82, 89] : UX)))] 9)) (htb0_9_1 : F0 tb0_9_1 = some (oc #[(vi 1)] 3)) (htb0_9_2 : F0 tb0_9_2 = some (oc #[(vi 9)] 3)) (htb0_9_3 : F0 tb0_9_3 = some (oc #[(fV 156 #[])] 195)) (htb0_9_4 : F0 tb0_9_4 = some (oc #[(sv (([80, 79, 87, 69, 82] : UX)))] 9)) (htb0_9_5 : F0 tb0_9_5 = some (oc #[(vi 1)] 3)) (htb0_9_6 : F0 tb0_9_6 = some (oc #[(vi 9999)] 3)) (htb0_9_7 : F0 tb0_9_7 = some (oc #[(fV 157 #[])] 195)) (htb0_9_8 : F0 tb0_9_8 = some (oc #[(sv (([67, 76, 65, 73, 77, 69, 68] : UX)))] 9)) (htb0_9_9 : F0 tb0_9_9 = some (oc #[(vi 0)] 3)) (htb0_9_10 : F0 tb0_9_10 = some (oc #[(vi 1000000)] 3)) (htb0_9_11 : F0 tb0_9_11 = some (oc #[(fV 158 #[])] 195)) (hr0_8 : Ap AF 34 F0 a0_8 n0_8 x0.l_.Lines e0_8) (x1 : UX) (bz0 : Nat) (z0 : UX) (hz0 : F0 bz0 = some (oc #[(sv z0)] 9)) (bz1 : Nat) (z1 : Int) (hz1 : F0 bz1 = some (oc #[(vi z1)] 3)) (bz2 : Nat) (z2 : Int) (hz2 : F0 bz2 = some (oc #[(vi z2)] 3)) (bz3 : Nat) (hz3 : F0 bz3 = some (oc #[(fV 158 #[])] 195)) (hs0 : HS wb Fb w0 F0 ((sb bp0 #[(.bool x0.o_.Report), (.bool x0.o_.Serial), (.bool x0.o_.Zone), (sv x0.l_.Call), (vi x0.l_.Category), (vi x0.l_.Power), (vi x0.l_.Claimed), (.slice a0_7 x0.l_.Jumps.length n0_7), (.slice a0_8 x0.l_.Lines.length n0_8), (fV 153 #[]), (fV 154 #[]), (fV 190 #[(pt tb0_9_0 0), (pt tb0_9_1 0), (pt tb0_9_2 0), (pt tb0_9_3 0)]), (fV 191 #[(pt tb0_9_0 0), (pt tb0_9_3 0)]), (fV 190 #[(pt tb0_9_4 0), (pt tb0_9_5 0), (pt tb0_9_6 0), (pt tb0_9_7 0)]), (fV 191 #[(pt tb0_9_4 0), (pt tb0_9_7 0)]), (fV 190 #[(pt tb0_9_8 0), (pt tb0_9_9 0), (pt tb0_9_10 0), (pt tb0_9_11 0)]), (fV 191 #[(pt tb0_9_8 0), (pt tb0_9_11 0)]), (fV 159 #[]), (fV 160 #[]), (vi x0.done_), (.bool x0.ended_)] 130) :: e0_8 :: Lf)) (r : (As × Bool)) (h : FF N x0 x1 z0 z1 z2 = some r) :
  Calls Tryz.prog 190 ([(pt bp0 3), (sv x1), (pt bz0 0), (pt bz1 0), (pt bz2 0), (pt bz3 0)] : List Value).toArray w0 (Ej wb Fb F0 fun F' v L' => ∃ (aq0_7 : UY) (nq0_7 : Nat) (aq0_8 : UY) (nq0_8 : Nat) (eq0_8 : Option Nat × Obj), v = (.bool r.2) /\ L' = (sb bp0 #[(.bool r.1.o_.Report), (.bool r.1.o_.Serial), (.bool r.1.o_.Zone), (sv r.1.l_.Call), (vi r.1.l_.Category), (vi r.1.l_.Power), (vi r.1.l_.Claimed), (.slice aq0_7 r.1.l_.Jumps.length nq0_7), (.slice aq0_8 r.1.l_.Lines.length nq0_8), (fV 153 #[]), (fV 154 #[]), (fV 190 #[(pt tb0_9_0 0), (pt tb0_9_1 0), (pt tb0_9_2 0), (pt tb0_9_3 0)]), (fV 191 #[(pt tb0_9_0 0), (pt tb0_9_3 0)]), (fV 190 #[(pt tb0_9_4 0), (pt tb0_9_5 0), (pt tb0_9_6 0), (pt tb0_9_7 0)]), (fV 191 #[(pt tb0_9_4 0), (pt tb0_9_7 0)]), (fV 190 #[(pt tb0_9_8 0), (pt tb0_9_9 0), (pt tb0_9_10 0), (pt tb0_9_11 0)]), (fV 191 #[(pt tb0_9_8 0), (pt tb0_9_11 0)]), (fV 159 #[]), (fV 160 #[]), (vi r.1.done_), (.bool r.1.ended_)] 130) :: eq0_8 :: Lf /\ LC r.1.l_.Jumps.length nq0_7 /\ SlA AB F' aq0_7 r.1.l_.Jumps /\ Ap AF 34 F' aq0_8 nq0_8 r.1.l_.Lines eq0_8) := by
 refine Go 43 Tryz.func190 <| Sq (Rg [0] ?_)
 refine Vs 1 <| Nss (Rg (rG 9) ?_)
 refine Vs 1 <| Ld (hs0.pers _ _ hz0) ?_
 obtain ⟨r21, hr22, h23⟩ := bind_some h
 refine V 16 9 (AY (t := 9) (t' := 9) (x := (.tmp 15)) (y := (.const (sv ([32] : UX)))) (a := z0) (b := ([32] : UX)) (v := r21) rfl rfl hr22) ?_
 obtain ⟨r24, hr25, h26⟩ := bind_some h23
 refine Cl' A0 hs0 (A6 N w0 F0 hs0.pers x1 r21 _ hr25) ?_
 rintro _ F1 w28 hs29 le30 rfl
 refine Vs 5 <| Nss (Rg (rG 7) ?_)
 refine Vs 1 ?_
 obtain ⟨r32, hr33, h34⟩ := bind_some h26
 refine Cl' Bh hs29 (Bv N w28 F1 hs29.pers (hG.mono le30) r24.1 _ hr33) ?_
 rintro _ F2 w36 hs37 le38 rfl
 refine Vs 5 <| Nss <| Sq (Rg (rG 13) ?_)
 refine Vs 3 <| Sp h34 (fun hb40 h41 => ?_) (fun hb40 h42 => ?_)
 ·cases h41
 ·refine Vgs hb40 2 ?_
  refine Pk0 hb40 <| Vs 1 <| Sp h42 (fun hb43 h44 => ?_) (fun hb43 h45 => ?_)
  ·cases h44
  ·refine Vgs hb43 1 ?_
   refine Lg hb43 (hs37.pers _ _ ((le30.t le38) _ _ hz1)) <| Lg hb43 (hs37.pers _ _ ((le30.t le38) _ _ hz2)) ?_
   obtain ⟨r46, hr47, h48⟩ := bind_some h45
   refine Cg hb43 AG hs37 (AL N w36 F2 hs37.pers r32.1 z1 z2 _ hr47) ?_
   rintro _ F3 w50 hs51 le52 rfl
   refine Vgs hb43 1 <| Pk0 hb43 <| Nt <| Cd h48 (fun hb54 h55 => ?_) (fun hb54 h56 => ?_)
   ·refine Sq (Rg [0] ?_)
    refine Vs 1 <| Nt <| Rt <| Af ?_
    obtain rfl := Aa h55
    exact ReB [(.bool false)] hs51 ((le30.t le38).trans le52) ⟨a0_7, n0_7, a0_8, n0_8, e0_8, rfl, rfl, hb0_7, (UF hs0_7 ((le30.t le38).trans le52)), (hr0_8.mono ((le30.t le38).trans le52))⟩
   ·refine Sc ?_
    refine Ab <| Sq (Rg (rG 6) ?_)
    refine Ld (hs51.pers _ _ (((le30.t le38).trans le52) _ _ hz3)) <| Vs 1 <| Cl' J2 hs51 (Ml w50 F3 hs51.pers bp0 3) ?_
    rintro _ F4 w57 hs58 le59 rfl
    refine Vs 2 <| St0 #[(.bool x0.o_.Report), (.bool x0.o_.Serial), (.bool x0.o_.Zone), (sv x0.l_.Call), (vi x0.l_.Category), (vi x0.l_.Power), (vi r32.1), (.slice a0_7 x0.l_.Jumps.length n0_7), (.slice a0_8 x0.l_.Lines.length n0_8), (fV 153 #[]), (fV 154 #[]), (fV 190 #[(pt tb0_9_0 0), (pt tb0_9_1 0), (pt tb0_9_2 0), (pt tb0_9_3 0)]), (fV 191 #[(pt tb0_9_0 0), (pt tb0_9_3 0)]), (fV 190 #[(pt tb0_9_4 0), (pt tb0_9_5 0), (pt tb0_9_6 0), (pt tb0_9_7 0)]), (fV 191 #[(pt tb0_9_4 0), (pt tb0_9_7 0)]), (fV 190 #[(pt tb0_9_8 0), (pt tb0_9_9 0), (pt tb0_9_10 0), (pt tb0_9_11 0)]), (fV 191 #[(pt tb0_9_8 0), (pt tb0_9_11 0)]), (fV 159 #[]), (fV 160 #[]), (vi x0.done_), (.bool x0.ended_)] hs58 (fun w60 hs61 => ?_)
    refine Nss (Rg [0] ?_)
    refine Vs 1 <| Nt <| Rt ?_
    obtain rfl := Aa h56
    exact ReB [(.bool true)] hs61 (((le30.t le38).trans le52).trans le59) ⟨a0_7, n0_7, a0_8, n0_8, e0_8, rfl, rfl, hb0_7, (UF hs0_7 (((le30.t le38).trans le52).trans le59)), (hr0_8.mono (((le30.t le38).trans le52).trans le59))⟩
def FC (N : Nat) (x0 : As) (x1 : UX) : Option (As × Bool × Bool) :=
 (bif x0.ended_ then some (x0, false, false) else (bif (decide (x0.done_ < 5)) then ((bif (decide (x0.done_ = 0)) then ((Hn N x0 x1).bind fun r41 => some (r41.2, r41.1.o_.Report, r41.1.o_.Serial, r41.1.o_.Zone, r41.1.l_.Call, r41.1.l_.Category, r41.1.l_.Power, r41.1.l_.Claimed, r41.1.l_.Jumps, r41.1.l_.Lines, r41.1.done_, r41.1.ended_)) else (bif (decide (x0.done_ = 1)) then ((FG N x0 x1 ([67, 65, 84, 69, 71, 79, 82, 89] : UX) 1 9).bind fun r51 => some (r51.2, r51.1.o_.Report, r51.1.o_.Serial, r51.1.o_.Zone, r51.1.l_.Call, r51.1.l_.Category, r51.1.l_.Power, r51.1.l_.Claimed, r51.1.l_.Jumps, r51.1.l_.Lines, r51.1.done_, r51.1.ended_)) else (bif (decide (x0.done_ = 2)) then ((FE N x0 x1 ([80, 79, 87, 69, 82] : UX) 1 9999).bind fun r61 => some (r61.2, r61.1.o_.Report, r61.1.o_.Serial, r61.1.o_.Zone, r61.1.l_.Call, r61.1.l_.Category, r61.1.l_.Power, r61.1.l_.Claimed, r61.1.l_.Jumps, r61.1.l_.Lines, r61.1.done_, r61.1.ended_)) else (bif (decide (x0.done_ = 3)) then ((FF N x0 x1 ([67, 76, 65, 73, 77, 69, 68] : UX) 0 1000000).bind fun r71 => some (r71.2, r71.1.o_.Report, r71.1.o_.Serial, r71.1.o_.Zone, r71.1.l_.Call, r71.1.l_.Category, r71.1.l_.Power, r71.1.l_.Claimed, r71.1.l_.Jumps, r71.1.l_.Lines, r71.1.done_, r71.1.ended_)) else (bif (decide (x0.done_ = 4)) then ((GX N x0 x1).bind fun r81 => some (r81.2, r81.1.o_.Report, r81.1.o_.Serial, r81.1.o_.Zone, r81.1.l_.Call, r81.1.l_.Category, r81.1.l_.Power, r81.1.l_.Claimed, r81.1.l_.Jumps, r81.1.l_.Lines, r81.1.done_, r81.1.ended_)) else none))))).bind fun j32 => ((bif j32.1 then some (W64 (j32.2.2.2.2.2.2.2.2.2.2.1 + 1)) else some j32.2.2.2.2.2.2.2.2.2.2.1).bind fun j91 => some (({ o_ := ({ Report := j32.2.1, Serial := j32.2.2.1, Zone := j32.2.2.2.1 } : Ac), l_ := ({ Call := j32.2.2.2.2.1, Category := j32.2.2.2.2.2.1, Power := j32.2.2.2.2.2.2.1, Claimed := j32.2.2.2.2.2.2.2.1, Jumps := j32.2.2.2.2.2.2.2.2.1, Lines := j32.2.2.2.2.2.2.2.2.2.1 } : Log), done_ := j91, ended_ := j32.2.2.2.2.2.2.2.2.2.2.2 } : As), j32.1, false))) else (bif (x1 == ([69, 78, 68] : UX)) then some (({ o_ := ({ Report := x0.o_.Report, Serial := x0.o_.Serial, Zone := x0.o_.Zone } : Ac), l_ := x0.l_, done_ := x0.done_, ended_ := true } : As), true, false) else ((Fg N ({ Report := x0.o_.Report, Serial := x0.o_.Serial, Zone := x0.o_.Zone } : Ac) x1).bind fun r106 => ((bif (decide ((x0.l_.Lines.length : Int) > 0)) then ((idx x0.l_.Lines (W64 ((x0.l_.Lines.length : Int) - 1))).bind fun x134 => (bif (decide (r106.1.Num <= x134.Num)) then some true else ((idx x0.l_.Lines (W64 ((x0.l_.Lines.length : Int) - 1))).bind fun x149 => (bif (decide (r106.1.Minute < x149.Minute)) then some true else some (r106.2 != 0))))) else some (r106.2 != 0)).bind fun j124 => (bif j124 then some (x0, false, false) else (bif ((x0.l_.Lines.length : Int) == 400) then some (x0, false, true) else (((CC x0.l_.Lines [r106.1]).bind fun r183 => some r183).bind fun j174 => some (({ o_ := ({ Report := x0.o_.Report, Serial := x0.o_.Serial, Zone := x0.o_.Zone } : Ac), l_ := ({ Call := x0.l_.Call, Category := x0.l_.Category, Power := x0.l_.Power, Claimed := x0.l_.Claimed, Jumps := x0.l_.Jumps, Lines := j174 } : Log), done_ := x0.done_, ended_ := x0.ended_ } : As), true, false)))))))))
theorem Hz : Ae Tryz.prog 106 := fun _ _ => by kernel_rfl
theorem Ic (N : Nat) {wb w0 : World} {Fb F0 : Mem} {Lf : Own} (hG : Bq F0) (bp0 : Nat) (x0 : As) (a0_7 : UY) (n0_7 : Nat) (tb0_9_0 : Nat) (tb0_9_1 : Nat) (tb0_9_2 : Nat) (tb0_9_3 : Nat) (tb0_9_4 : Nat) (tb0_9_5 : Nat) (tb0_9_6 : Nat) (tb0_9_7 : Nat) (tb0_9_8 : Nat) (tb0_9_9 : Nat) (tb0_9_10 : Nat) (tb0_9_11 : Nat) (a0_8 : UY) (n0_8 : Nat) (e0_8 : Option Nat × Obj) (hb0_7 : LC x0.l_.Jumps.length n0_7) (hs0_7 : SlA AB F0 a0_7 x0.l_.Jumps) (htb0_9_0 : F0 tb0_9_0 = some (oc #[(sv (([67, 65, 84, 69, 71, 79, 82, 89] : UX)))] 9)) (htb0_9_1 : F0 tb0_9_1 = some (oc #[(vi 1)] 3)) (htb0_9_2 : F0 tb0_9_2 = some (oc #[(vi 9)] 3)) (htb0_9_3 : F0 tb0_9_3 = some (oc #[(fV 156 #[])] 195)) (htb0_9_4 : F0 tb0_9_4 = some (oc #[(sv (([80, 79, 87, 69, 82] : UX)))] 9)) (htb0_9_5 : F0 tb0_9_5 = some (oc #[(vi 1)] 3)) (htb0_9_6 : F0 tb0_9_6 = some (oc #[(vi 9999)] 3)) (htb0_9_7 : F0 tb0_9_7 = some (oc #[(fV 157 #[])] 195)) (htb0_9_8 : F0 tb0_9_8 = some (oc #[(sv (([67, 76, 65, 73, 77, 69, 68] : UX)))] 9)) (htb0_9_9 : F0 tb0_9_9 = some (oc #[(vi 0)] 3)) (htb0_9_10 : F0 tb0_9_10 = some (oc #[(vi 1000000)] 3)) (htb0_9_11 : F0 tb0_9_11 = some (oc #[(fV 158 #[])] 195)) (hr0_8 : Ap AF 34 F0 a0_8 n0_8 x0.l_.Lines e0_8) (x1 : UX) (hs0 : HS wb Fb w0 F0 ((sb bp0 #[(.bool x0.o_.Report), (.bool x0.o_.Serial), (.bool x0.o_.Zone), (sv x0.l_.Call), (vi x0.l_.Category), (vi x0.l_.Power), (vi x0.l_.Claimed), (.slice a0_7 x0.l_.Jumps.length n0_7), (.slice a0_8 x0.l_.Lines.length n0_8), (fV 153 #[]), (fV 154 #[]), (fV 190 #[(pt tb0_9_0 0), (pt tb0_9_1 0), (pt tb0_9_2 0), (pt tb0_9_3 0)]), (fV 191 #[(pt tb0_9_0 0), (pt tb0_9_3 0)]), (fV 190 #[(pt tb0_9_4 0), (pt tb0_9_5 0), (pt tb0_9_6 0), (pt tb0_9_7 0)]), (fV 191 #[(pt tb0_9_4 0), (pt tb0_9_7 0)]), (fV 190 #[(pt tb0_9_8 0), (pt tb0_9_9 0), (pt tb0_9_10 0), (pt tb0_9_11 0)]), (fV 191 #[(pt tb0_9_8 0), (pt tb0_9_11 0)]), (fV 159 #[]), (fV 160 #[]), (vi x0.done_), (.bool x0.ended_)] 130) :: e0_8 :: Lf)) (r : (As × Bool × Bool)) (h : FC N x0 x1 = some r) :
  Calls Tryz.prog 106 ([(pt bp0 0), (sv x1)] : List Value).toArray w0 (Ej wb Fb F0 fun F' v L' => ∃ (aq0_7 : UY) (nq0_7 : Nat) (aq0_8 : UY) (nq0_8 : Nat) (eq0_8 : Option Nat × Obj), v = (.tuple #[(.bool r.2.1), (.bool r.2.2)]) /\ L' = (sb bp0 #[(.bool r.1.o_.Report), (.bool r.1.o_.Serial), (.bool r.1.o_.Zone), (sv r.1.l_.Call), (vi r.1.l_.Category), (vi r.1.l_.Power), (vi r.1.l_.Claimed), (.slice aq0_7 r.1.l_.Jumps.length nq0_7), (.slice aq0_8 r.1.l_.Lines.length nq0_8), (fV 153 #[]), (fV 154 #[]), (fV 190 #[(pt tb0_9_0 0), (pt tb0_9_1 0), (pt tb0_9_2 0), (pt tb0_9_3 0)]), (fV 191 #[(pt tb0_9_0 0), (pt tb0_9_3 0)]), (fV 190 #[(pt tb0_9_4 0), (pt tb0_9_5 0), (pt tb0_9_6 0), (pt tb0_9_7 0)]), (fV 191 #[(pt tb0_9_4 0), (pt tb0_9_7 0)]), (fV 190 #[(pt tb0_9_8 0), (pt tb0_9_9 0), (pt tb0_9_10 0), (pt tb0_9_11 0)]), (fV 191 #[(pt tb0_9_8 0), (pt tb0_9_11 0)]), (fV 159 #[]), (fV 160 #[]), (vi r.1.done_), (.bool r.1.ended_)] 130) :: eq0_8 :: Lf /\ LC r.1.l_.Jumps.length nq0_7 /\ SlA AB F' aq0_7 r.1.l_.Jumps /\ Ap AF 34 F' aq0_8 nq0_8 r.1.l_.Lines eq0_8) := by
 refine Go 120 Tryz.func106 <| Sq (Rg [0, 1] ?_)
 refine Vs 2 <| Nss <| Bk <| Sq (Rg (rG 5) ?_)
 refine Vs 3 <| Ld hs0.at0 <| Vs 1 <| Nt <| Cd h (fun hb21 h22 => ?_) (fun hb21 h23 => ?_)
 ·refine Sq (Rg [0, 1] ?_)
  refine Vs 2 <| Nt <| Rt <| Ax <| Af ?_
  obtain rfl := Aa h22
  exact ReB [(.bool false), (.bool false)] hs0 (UD _) ⟨a0_7, n0_7, a0_8, n0_8, e0_8, rfl, rfl, hb0_7, hs0_7, hr0_8⟩
 ·refine Sq (Rg (rG 6) ?_)
  refine Vs 3 <| Ld hs0.at0 <| Vs 2 <| Nt <| Cd h23 (fun hb24 h25 => ?_) (fun hb24 h26 => ?_)
  ·refine Sq ?_
   refine Sq ?_
   obtain ⟨j32, hj36, h37⟩ := bind_some h25
   refine RD 16 16 [] [] hs0 (fun f w => ∃ (F1 : Mem) (aj32_8 : UY) (nj32_8 : Nat) (aj32_9 : UY) (nj32_9 : Nat) (ej32_9 : Option Nat × Obj), HS wb Fb w F1 ((sb bp0 #[(.bool j32.2.1), (.bool j32.2.2.1), (.bool j32.2.2.2.1), (sv j32.2.2.2.2.1), (vi j32.2.2.2.2.2.1), (vi j32.2.2.2.2.2.2.1), (vi j32.2.2.2.2.2.2.2.1), (.slice aj32_8 j32.2.2.2.2.2.2.2.2.1.length nj32_8), (.slice aj32_9 j32.2.2.2.2.2.2.2.2.2.1.length nj32_9), (fV 153 #[]), (fV 154 #[]), (fV 190 #[(pt tb0_9_0 0), (pt tb0_9_1 0), (pt tb0_9_2 0), (pt tb0_9_3 0)]), (fV 191 #[(pt tb0_9_0 0), (pt tb0_9_3 0)]), (fV 190 #[(pt tb0_9_4 0), (pt tb0_9_5 0), (pt tb0_9_6 0), (pt tb0_9_7 0)]), (fV 191 #[(pt tb0_9_4 0), (pt tb0_9_7 0)]), (fV 190 #[(pt tb0_9_8 0), (pt tb0_9_9 0), (pt tb0_9_10 0), (pt tb0_9_11 0)]), (fV 191 #[(pt tb0_9_8 0), (pt tb0_9_11 0)]), (fV 159 #[]), (fV 160 #[]), (vi j32.2.2.2.2.2.2.2.2.2.2.1), (.bool j32.2.2.2.2.2.2.2.2.2.2.2)] 130) :: ej32_9 :: Lf) /\ UC F0 F1 /\ FI f [] [(0, (pt bp0 0)), (4, (.bool j32.1))] /\ LC j32.2.2.2.2.2.2.2.2.1.length nj32_8 /\ SlA AB F1 aj32_8 j32.2.2.2.2.2.2.2.2.1 /\ Ap AF 34 F1 aj32_9 nj32_9 j32.2.2.2.2.2.2.2.2.2.1 ej32_9) (fun wd27 hw28 => ?_) ?_
   ·refine Dv [0, 1, 2, 3, 5, 6, 10, 11, 12, 13] ?_
    refine D1 4 <| UM (l' := [true, true, true, true, true, true, true, false, false, false, true, true, true, true, false, false]) (zd := true) (by kernel_rfl) (by kernel_rfl) (dst := (some 24)) (ty := 3) (g := none) (by kernel_rfl) rfl (Bz (t := 3) (x := (.tmp 23)) (b := bp0) (o := 19) (g := false) (s := 1) (C := #[(.bool x0.o_.Report), (.bool x0.o_.Serial), (.bool x0.o_.Zone), (sv x0.l_.Call), (vi x0.l_.Category), (vi x0.l_.Power), (vi x0.l_.Claimed), (.slice a0_7 x0.l_.Jumps.length n0_7), (.slice a0_8 x0.l_.Lines.length n0_8), (fV 153 #[]), (fV 154 #[]), (fV 190 #[(pt tb0_9_0 0), (pt tb0_9_1 0), (pt tb0_9_2 0), (pt tb0_9_3 0)]), (fV 191 #[(pt tb0_9_0 0), (pt tb0_9_3 0)]), (fV 190 #[(pt tb0_9_4 0), (pt tb0_9_5 0), (pt tb0_9_6 0), (pt tb0_9_7 0)]), (fV 191 #[(pt tb0_9_4 0), (pt tb0_9_7 0)]), (fV 190 #[(pt tb0_9_8 0), (pt tb0_9_9 0), (pt tb0_9_10 0), (pt tb0_9_11 0)]), (fV 191 #[(pt tb0_9_8 0), (pt tb0_9_11 0)]), (fV 159 #[]), (fV 160 #[]), (vi x0.done_), (.bool x0.ended_)]) (v := (vi x0.done_)) rfl (by kernel_rfl) hw28.at0 rfl rfl rfl) (A8 hw28 (UD _) (by simp) (fun e => by cases e)) <| Sd hj36 (fun hb38 h39 => ?_) (fun hb38 h40 => ?_)
    ·refine Dt 7 27 0 (pt bp0 9) (fun _ hq => I8 (t := 110) (E := 109) (len := 5) (s := 2) (g := true) (x := (.tmp 26)) (y := (.tmp 24)) (k := .i64) (b := bp0) (o0 := 9) (o1 := 9) (i := x0.done_) (n := 0) rfl rfl (by kernel_rfl) (by kernel_rfl) hb38 (by decide) rfl) ?_
     refine Dv [8] <| D1 9 <| UM (l' := [true, true, true, true, true, true, true, true, true, true, true, true, true, true, false, false]) (zd := true) (by kernel_rfl) (by kernel_rfl) (dst := (some 29)) (ty := 106) (g := none) (by kernel_rfl) rfl (Bz (t := 106) (x := (.tmp 28)) (b := bp0) (o := 9) (g := false) (s := 1) (C := #[(.bool x0.o_.Report), (.bool x0.o_.Serial), (.bool x0.o_.Zone), (sv x0.l_.Call), (vi x0.l_.Category), (vi x0.l_.Power), (vi x0.l_.Claimed), (.slice a0_7 x0.l_.Jumps.length n0_7), (.slice a0_8 x0.l_.Lines.length n0_8), (fV 153 #[]), (fV 154 #[]), (fV 190 #[(pt tb0_9_0 0), (pt tb0_9_1 0), (pt tb0_9_2 0), (pt tb0_9_3 0)]), (fV 191 #[(pt tb0_9_0 0), (pt tb0_9_3 0)]), (fV 190 #[(pt tb0_9_4 0), (pt tb0_9_5 0), (pt tb0_9_6 0), (pt tb0_9_7 0)]), (fV 191 #[(pt tb0_9_4 0), (pt tb0_9_7 0)]), (fV 190 #[(pt tb0_9_8 0), (pt tb0_9_9 0), (pt tb0_9_10 0), (pt tb0_9_11 0)]), (fV 191 #[(pt tb0_9_8 0), (pt tb0_9_11 0)]), (fV 159 #[]), (fV 160 #[]), (vi x0.done_), (.bool x0.ended_)]) (v := (fV 153 #[])) rfl (by kernel_rfl) hw28.at0 rfl rfl rfl) (A8 hw28 (UD _) (by simp) (fun e => by cases e)) <| D1 14 ?_
     obtain ⟨r41, hr42, h43⟩ := bind_some h39
     refine DCB Js (Kb N hG bp0 x0 a0_7 n0_7 tb0_9_0 tb0_9_1 tb0_9_2 tb0_9_3 tb0_9_4 tb0_9_5 tb0_9_6 tb0_9_7 tb0_9_8 tb0_9_9 tb0_9_10 tb0_9_11 a0_8 n0_8 e0_8 hb0_7 hs0_7 htb0_9_0 htb0_9_1 htb0_9_2 htb0_9_3 htb0_9_4 htb0_9_5 htb0_9_6 htb0_9_7 htb0_9_8 htb0_9_9 htb0_9_10 htb0_9_11 hr0_8 x1 hw28 _ hr42) ?_
     rintro _ F2 w44 _ hs45 le46 ⟨ar41_0_7, nr41_0_7, ar41_0_8, nr41_0_8, er41_0_8, rfl, rfl, hbr41_0_7, hsr41_0_7, hrr41_0_8⟩
     refine ⟨A8 hs45 le46 (by simp) (zdT (by kernel_rfl)), ?_⟩
     refine Dv [15] ?_
     obtain rfl := Aa h43
     exact UP (by kernel_rfl) ⟨F2, ar41_0_7, nr41_0_7, ar41_0_8, nr41_0_8, er41_0_8, hs45, le46, fI, hbr41_0_7, hsr41_0_7, hrr41_0_8⟩
    ·refine Sd h40 (fun hb48 h49 => ?_) (fun hb48 h50 => ?_)
     ·refine Dt 7 27 0 (pt bp0 11) (fun _ hq => I8 (t := 110) (E := 109) (len := 5) (s := 2) (g := true) (x := (.tmp 26)) (y := (.tmp 24)) (k := .i64) (b := bp0) (o0 := 9) (o1 := 11) (i := x0.done_) (n := 1) rfl rfl (by kernel_rfl) (by kernel_rfl) hb48 (by decide) rfl) ?_
      refine Dv [8] <| D1 9 <| UM (l' := [true, true, true, true, true, true, true, true, true, true, true, true, true, true, false, false]) (zd := true) (by kernel_rfl) (by kernel_rfl) (dst := (some 29)) (ty := 106) (g := none) (by kernel_rfl) rfl (Bz (t := 106) (x := (.tmp 28)) (b := bp0) (o := 11) (g := false) (s := 1) (C := #[(.bool x0.o_.Report), (.bool x0.o_.Serial), (.bool x0.o_.Zone), (sv x0.l_.Call), (vi x0.l_.Category), (vi x0.l_.Power), (vi x0.l_.Claimed), (.slice a0_7 x0.l_.Jumps.length n0_7), (.slice a0_8 x0.l_.Lines.length n0_8), (fV 153 #[]), (fV 154 #[]), (fV 190 #[(pt tb0_9_0 0), (pt tb0_9_1 0), (pt tb0_9_2 0), (pt tb0_9_3 0)]), (fV 191 #[(pt tb0_9_0 0), (pt tb0_9_3 0)]), (fV 190 #[(pt tb0_9_4 0), (pt tb0_9_5 0), (pt tb0_9_6 0), (pt tb0_9_7 0)]), (fV 191 #[(pt tb0_9_4 0), (pt tb0_9_7 0)]), (fV 190 #[(pt tb0_9_8 0), (pt tb0_9_9 0), (pt tb0_9_10 0), (pt tb0_9_11 0)]), (fV 191 #[(pt tb0_9_8 0), (pt tb0_9_11 0)]), (fV 159 #[]), (fV 160 #[]), (vi x0.done_), (.bool x0.ended_)]) (v := (fV 190 #[(pt tb0_9_0 0), (pt tb0_9_1 0), (pt tb0_9_2 0), (pt tb0_9_3 0)])) rfl (by kernel_rfl) hw28.at0 rfl rfl rfl) (A8 hw28 (UD _) (by simp) (fun e => by cases e)) <| D1 14 ?_
      obtain ⟨r51, hr52, h53⟩ := bind_some h49
      refine DCB HC (Ih N hG bp0 x0 a0_7 n0_7 tb0_9_0 tb0_9_1 tb0_9_2 tb0_9_3 tb0_9_4 tb0_9_5 tb0_9_6 tb0_9_7 tb0_9_8 tb0_9_9 tb0_9_10 tb0_9_11 a0_8 n0_8 e0_8 hb0_7 hs0_7 htb0_9_0 htb0_9_1 htb0_9_2 htb0_9_3 htb0_9_4 htb0_9_5 htb0_9_6 htb0_9_7 htb0_9_8 htb0_9_9 htb0_9_10 htb0_9_11 hr0_8 x1 tb0_9_0 ([67, 65, 84, 69, 71, 79, 82, 89] : UX) htb0_9_0 tb0_9_1 1 htb0_9_1 tb0_9_2 9 htb0_9_2 tb0_9_3 htb0_9_3 hw28 _ hr52) ?_
      rintro _ F3 w54 _ hs55 le56 ⟨ar51_0_7, nr51_0_7, ar51_0_8, nr51_0_8, er51_0_8, rfl, rfl, hbr51_0_7, hsr51_0_7, hrr51_0_8⟩
      refine ⟨A8 hs55 le56 (by simp) (zdT (by kernel_rfl)), ?_⟩
      refine Dv [15] ?_
      obtain rfl := Aa h53
      exact UP (by kernel_rfl) ⟨F3, ar51_0_7, nr51_0_7, ar51_0_8, nr51_0_8, er51_0_8, hs55, le56, fI, hbr51_0_7, hsr51_0_7, hrr51_0_8⟩
     ·refine Sd h50 (fun hb58 h59 => ?_) (fun hb58 h60 => ?_)
      ·refine Dt 7 27 0 (pt bp0 13) (fun _ hq => I8 (t := 110) (E := 109) (len := 5) (s := 2) (g := true) (x := (.tmp 26)) (y := (.tmp 24)) (k := .i64) (b := bp0) (o0 := 9) (o1 := 13) (i := x0.done_) (n := 2) rfl rfl (by kernel_rfl) (by kernel_rfl) hb58 (by decide) rfl) ?_
       refine Dv [8] <| D1 9 <| UM (l' := [true, true, true, true, true, true, true, true, true, true, true, true, true, true, false, false]) (zd := true) (by kernel_rfl) (by kernel_rfl) (dst := (some 29)) (ty := 106) (g := none) (by kernel_rfl) rfl (Bz (t := 106) (x := (.tmp 28)) (b := bp0) (o := 13) (g := false) (s := 1) (C := #[(.bool x0.o_.Report), (.bool x0.o_.Serial), (.bool x0.o_.Zone), (sv x0.l_.Call), (vi x0.l_.Category), (vi x0.l_.Power), (vi x0.l_.Claimed), (.slice a0_7 x0.l_.Jumps.length n0_7), (.slice a0_8 x0.l_.Lines.length n0_8), (fV 153 #[]), (fV 154 #[]), (fV 190 #[(pt tb0_9_0 0), (pt tb0_9_1 0), (pt tb0_9_2 0), (pt tb0_9_3 0)]), (fV 191 #[(pt tb0_9_0 0), (pt tb0_9_3 0)]), (fV 190 #[(pt tb0_9_4 0), (pt tb0_9_5 0), (pt tb0_9_6 0), (pt tb0_9_7 0)]), (fV 191 #[(pt tb0_9_4 0), (pt tb0_9_7 0)]), (fV 190 #[(pt tb0_9_8 0), (pt tb0_9_9 0), (pt tb0_9_10 0), (pt tb0_9_11 0)]), (fV 191 #[(pt tb0_9_8 0), (pt tb0_9_11 0)]), (fV 159 #[]), (fV 160 #[]), (vi x0.done_), (.bool x0.ended_)]) (v := (fV 190 #[(pt tb0_9_4 0), (pt tb0_9_5 0), (pt tb0_9_6 0), (pt tb0_9_7 0)])) rfl (by kernel_rfl) hw28.at0 rfl rfl rfl) (A8 hw28 (UD _) (by simp) (fun e => by cases e)) <| D1 14 ?_
       obtain ⟨r61, hr62, h63⟩ := bind_some h59
       refine DCB HA (Ie N hG bp0 x0 a0_7 n0_7 tb0_9_0 tb0_9_1 tb0_9_2 tb0_9_3 tb0_9_4 tb0_9_5 tb0_9_6 tb0_9_7 tb0_9_8 tb0_9_9 tb0_9_10 tb0_9_11 a0_8 n0_8 e0_8 hb0_7 hs0_7 htb0_9_0 htb0_9_1 htb0_9_2 htb0_9_3 htb0_9_4 htb0_9_5 htb0_9_6 htb0_9_7 htb0_9_8 htb0_9_9 htb0_9_10 htb0_9_11 hr0_8 x1 tb0_9_4 ([80, 79, 87, 69, 82] : UX) htb0_9_4 tb0_9_5 1 htb0_9_5 tb0_9_6 9999 htb0_9_6 tb0_9_7 htb0_9_7 hw28 _ hr62) ?_
       rintro _ F4 w64 _ hs65 le66 ⟨ar61_0_7, nr61_0_7, ar61_0_8, nr61_0_8, er61_0_8, rfl, rfl, hbr61_0_7, hsr61_0_7, hrr61_0_8⟩
       refine ⟨A8 hs65 le66 (by simp) (zdT (by kernel_rfl)), ?_⟩
       refine Dv [15] ?_
       obtain rfl := Aa h63
       exact UP (by kernel_rfl) ⟨F4, ar61_0_7, nr61_0_7, ar61_0_8, nr61_0_8, er61_0_8, hs65, le66, fI, hbr61_0_7, hsr61_0_7, hrr61_0_8⟩
      ·refine Sd h60 (fun hb68 h69 => ?_) (fun hb68 h70 => ?_)
       ·refine Dt 7 27 0 (pt bp0 15) (fun _ hq => I8 (t := 110) (E := 109) (len := 5) (s := 2) (g := true) (x := (.tmp 26)) (y := (.tmp 24)) (k := .i64) (b := bp0) (o0 := 9) (o1 := 15) (i := x0.done_) (n := 3) rfl rfl (by kernel_rfl) (by kernel_rfl) hb68 (by decide) rfl) ?_
        refine Dv [8] <| D1 9 <| UM (l' := [true, true, true, true, true, true, true, true, true, true, true, true, true, true, false, false]) (zd := true) (by kernel_rfl) (by kernel_rfl) (dst := (some 29)) (ty := 106) (g := none) (by kernel_rfl) rfl (Bz (t := 106) (x := (.tmp 28)) (b := bp0) (o := 15) (g := false) (s := 1) (C := #[(.bool x0.o_.Report), (.bool x0.o_.Serial), (.bool x0.o_.Zone), (sv x0.l_.Call), (vi x0.l_.Category), (vi x0.l_.Power), (vi x0.l_.Claimed), (.slice a0_7 x0.l_.Jumps.length n0_7), (.slice a0_8 x0.l_.Lines.length n0_8), (fV 153 #[]), (fV 154 #[]), (fV 190 #[(pt tb0_9_0 0), (pt tb0_9_1 0), (pt tb0_9_2 0), (pt tb0_9_3 0)]), (fV 191 #[(pt tb0_9_0 0), (pt tb0_9_3 0)]), (fV 190 #[(pt tb0_9_4 0), (pt tb0_9_5 0), (pt tb0_9_6 0), (pt tb0_9_7 0)]), (fV 191 #[(pt tb0_9_4 0), (pt tb0_9_7 0)]), (fV 190 #[(pt tb0_9_8 0), (pt tb0_9_9 0), (pt tb0_9_10 0), (pt tb0_9_11 0)]), (fV 191 #[(pt tb0_9_8 0), (pt tb0_9_11 0)]), (fV 159 #[]), (fV 160 #[]), (vi x0.done_), (.bool x0.ended_)]) (v := (fV 190 #[(pt tb0_9_8 0), (pt tb0_9_9 0), (pt tb0_9_10 0), (pt tb0_9_11 0)])) rfl (by kernel_rfl) hw28.at0 rfl rfl rfl) (A8 hw28 (UD _) (by simp) (fun e => by cases e)) <| D1 14 ?_
        obtain ⟨r71, hr72, h73⟩ := bind_some h69
        refine DCB HB (Ig N hG bp0 x0 a0_7 n0_7 tb0_9_0 tb0_9_1 tb0_9_2 tb0_9_3 tb0_9_4 tb0_9_5 tb0_9_6 tb0_9_7 tb0_9_8 tb0_9_9 tb0_9_10 tb0_9_11 a0_8 n0_8 e0_8 hb0_7 hs0_7 htb0_9_0 htb0_9_1 htb0_9_2 htb0_9_3 htb0_9_4 htb0_9_5 htb0_9_6 htb0_9_7 htb0_9_8 htb0_9_9 htb0_9_10 htb0_9_11 hr0_8 x1 tb0_9_8 ([67, 76, 65, 73, 77, 69, 68] : UX) htb0_9_8 tb0_9_9 0 htb0_9_9 tb0_9_10 1000000 htb0_9_10 tb0_9_11 htb0_9_11 hw28 _ hr72) ?_
        rintro _ F5 w74 _ hs75 le76 ⟨ar71_0_7, nr71_0_7, ar71_0_8, nr71_0_8, er71_0_8, rfl, rfl, hbr71_0_7, hsr71_0_7, hrr71_0_8⟩
        refine ⟨A8 hs75 le76 (by simp) (zdT (by kernel_rfl)), ?_⟩
        refine Dv [15] ?_
        obtain rfl := Aa h73
        exact UP (by kernel_rfl) ⟨F5, ar71_0_7, nr71_0_7, ar71_0_8, nr71_0_8, er71_0_8, hs75, le76, fI, hbr71_0_7, hsr71_0_7, hrr71_0_8⟩
       ·refine Sd h70 (fun hb78 h79 => ?_) (fun hb78 h80 => ?_)
        ·refine Dt 7 27 0 (pt bp0 17) (fun _ hq => I8 (t := 110) (E := 109) (len := 5) (s := 2) (g := true) (x := (.tmp 26)) (y := (.tmp 24)) (k := .i64) (b := bp0) (o0 := 9) (o1 := 17) (i := x0.done_) (n := 4) rfl rfl (by kernel_rfl) (by kernel_rfl) hb78 (by decide) rfl) ?_
         refine Dv [8] <| D1 9 <| UM (l' := [true, true, true, true, true, true, true, true, true, true, true, true, true, true, false, false]) (zd := true) (by kernel_rfl) (by kernel_rfl) (dst := (some 29)) (ty := 106) (g := none) (by kernel_rfl) rfl (Bz (t := 106) (x := (.tmp 28)) (b := bp0) (o := 17) (g := false) (s := 1) (C := #[(.bool x0.o_.Report), (.bool x0.o_.Serial), (.bool x0.o_.Zone), (sv x0.l_.Call), (vi x0.l_.Category), (vi x0.l_.Power), (vi x0.l_.Claimed), (.slice a0_7 x0.l_.Jumps.length n0_7), (.slice a0_8 x0.l_.Lines.length n0_8), (fV 153 #[]), (fV 154 #[]), (fV 190 #[(pt tb0_9_0 0), (pt tb0_9_1 0), (pt tb0_9_2 0), (pt tb0_9_3 0)]), (fV 191 #[(pt tb0_9_0 0), (pt tb0_9_3 0)]), (fV 190 #[(pt tb0_9_4 0), (pt tb0_9_5 0), (pt tb0_9_6 0), (pt tb0_9_7 0)]), (fV 191 #[(pt tb0_9_4 0), (pt tb0_9_7 0)]), (fV 190 #[(pt tb0_9_8 0), (pt tb0_9_9 0), (pt tb0_9_10 0), (pt tb0_9_11 0)]), (fV 191 #[(pt tb0_9_8 0), (pt tb0_9_11 0)]), (fV 159 #[]), (fV 160 #[]), (vi x0.done_), (.bool x0.ended_)]) (v := (fV 159 #[])) rfl (by kernel_rfl) hw28.at0 rfl rfl rfl) (A8 hw28 (UD _) (by simp) (fun e => by cases e)) <| D1 14 ?_
         obtain ⟨r81, hr82, h83⟩ := bind_some h79
         refine DCB IL (JE N hG bp0 x0 a0_7 n0_7 tb0_9_0 tb0_9_1 tb0_9_2 tb0_9_3 tb0_9_4 tb0_9_5 tb0_9_6 tb0_9_7 tb0_9_8 tb0_9_9 tb0_9_10 tb0_9_11 a0_8 n0_8 e0_8 hb0_7 hs0_7 htb0_9_0 htb0_9_1 htb0_9_2 htb0_9_3 htb0_9_4 htb0_9_5 htb0_9_6 htb0_9_7 htb0_9_8 htb0_9_9 htb0_9_10 htb0_9_11 hr0_8 x1 hw28 _ hr82) ?_
         rintro _ F6 w84 _ hs85 le86 ⟨ar81_0_7, nr81_0_7, ar81_0_8, nr81_0_8, er81_0_8, rfl, rfl, hbr81_0_7, hsr81_0_7, hrr81_0_8⟩
         refine ⟨A8 hs85 le86 (by simp) (zdT (by kernel_rfl)), ?_⟩
         refine Dv [15] ?_
         obtain rfl := Aa h83
         exact UP (by kernel_rfl) ⟨F6, ar81_0_7, nr81_0_7, ar81_0_8, nr81_0_8, er81_0_8, hs85, le86, fI, hbr81_0_7, hsr81_0_7, hrr81_0_8⟩
        ·cases h80
   ·rintro f w29 ⟨F1, aj32_8, nj32_8, aj32_9, nj32_9, ej32_9, hs30, le31, ⟨_, rfl⟩, hbj32_8, hsj32_8, hrj32_9⟩
    refine Ab <| Sq (Rg [0] ?_)
    refine Vs 1 <| Nt ?_
    obtain ⟨j91, hj94, h95⟩ := bind_some h37
    refine UJ (fun f w => ∃ (F7 : Mem), HS wb Fb w F7 ((sb bp0 #[(.bool j32.2.1), (.bool j32.2.2.1), (.bool j32.2.2.2.1), (sv j32.2.2.2.2.1), (vi j32.2.2.2.2.2.1), (vi j32.2.2.2.2.2.2.1), (vi j32.2.2.2.2.2.2.2.1), (.slice aj32_8 j32.2.2.2.2.2.2.2.2.1.length nj32_8), (.slice aj32_9 j32.2.2.2.2.2.2.2.2.2.1.length nj32_9), (fV 153 #[]), (fV 154 #[]), (fV 190 #[(pt tb0_9_0 0), (pt tb0_9_1 0), (pt tb0_9_2 0), (pt tb0_9_3 0)]), (fV 191 #[(pt tb0_9_0 0), (pt tb0_9_3 0)]), (fV 190 #[(pt tb0_9_4 0), (pt tb0_9_5 0), (pt tb0_9_6 0), (pt tb0_9_7 0)]), (fV 191 #[(pt tb0_9_4 0), (pt tb0_9_7 0)]), (fV 190 #[(pt tb0_9_8 0), (pt tb0_9_9 0), (pt tb0_9_10 0), (pt tb0_9_11 0)]), (fV 191 #[(pt tb0_9_8 0), (pt tb0_9_11 0)]), (fV 159 #[]), (fV 160 #[]), (vi j91), (.bool j32.2.2.2.2.2.2.2.2.2.2.2)] 130) :: ej32_9 :: Lf) /\ UC F1 F7 /\ FI f [] [(4, (.bool j32.1))]) ?_ ?_
    ·refine Cd hj94 (fun hb96 h97 => ?_) (fun hb96 h98 => ?_)
     ·refine Rg (rG 8) ?_
      refine Vs 3 <| Ld hs30.at0 <| Vs 3 <| St0 #[(.bool j32.2.1), (.bool j32.2.2.1), (.bool j32.2.2.2.1), (sv j32.2.2.2.2.1), (vi j32.2.2.2.2.2.1), (vi j32.2.2.2.2.2.2.1), (vi j32.2.2.2.2.2.2.2.1), (.slice aj32_8 j32.2.2.2.2.2.2.2.2.1.length nj32_8), (.slice aj32_9 j32.2.2.2.2.2.2.2.2.2.1.length nj32_9), (fV 153 #[]), (fV 154 #[]), (fV 190 #[(pt tb0_9_0 0), (pt tb0_9_1 0), (pt tb0_9_2 0), (pt tb0_9_3 0)]), (fV 191 #[(pt tb0_9_0 0), (pt tb0_9_3 0)]), (fV 190 #[(pt tb0_9_4 0), (pt tb0_9_5 0), (pt tb0_9_6 0), (pt tb0_9_7 0)]), (fV 191 #[(pt tb0_9_4 0), (pt tb0_9_7 0)]), (fV 190 #[(pt tb0_9_8 0), (pt tb0_9_9 0), (pt tb0_9_10 0), (pt tb0_9_11 0)]), (fV 191 #[(pt tb0_9_8 0), (pt tb0_9_11 0)]), (fV 159 #[]), (fV 160 #[]), (vi (W64 (j32.2.2.2.2.2.2.2.2.2.2.1 + 1))), (.bool j32.2.2.2.2.2.2.2.2.2.2.2)] hs30 (fun w99 hs100 => ?_)
      refine Uy ?_
      obtain rfl := Aa h97
      exact .inl ⟨rfl, F1, hs100, (UD _), fI⟩
     ·refine Sc ?_
      obtain rfl := Aa h98
      exact .inl ⟨rfl, F1, hs30, (UD _), fI⟩
    ·rintro f w88 ⟨F7, hs89, le90, ⟨_, rfl⟩⟩
     refine Ab <| Sq (Rg [0, 1, 2] ?_)
     refine Vs 3 <| Nt <| Rt <| Ax <| Af ?_
     obtain rfl := Aa h95
     exact ReB [(.bool j32.1), (.bool false)] hs89 (le31.t le90) ⟨aj32_8, nj32_8, aj32_9, nj32_9, ej32_9, rfl, rfl, hbj32_8, (UF hsj32_8 le90), (hrj32_9.mono le90)⟩
  ·refine Sq (Rg [0, 1, 2] ?_)
   refine Vs 3 <| Nt <| Cd h26 (fun hb101 h102 => ?_) (fun hb101 h103 => ?_)
   ·refine Sq (Rg (rG 4) ?_)
    refine Vs 3 <| St0 #[(.bool x0.o_.Report), (.bool x0.o_.Serial), (.bool x0.o_.Zone), (sv x0.l_.Call), (vi x0.l_.Category), (vi x0.l_.Power), (vi x0.l_.Claimed), (.slice a0_7 x0.l_.Jumps.length n0_7), (.slice a0_8 x0.l_.Lines.length n0_8), (fV 153 #[]), (fV 154 #[]), (fV 190 #[(pt tb0_9_0 0), (pt tb0_9_1 0), (pt tb0_9_2 0), (pt tb0_9_3 0)]), (fV 191 #[(pt tb0_9_0 0), (pt tb0_9_3 0)]), (fV 190 #[(pt tb0_9_4 0), (pt tb0_9_5 0), (pt tb0_9_6 0), (pt tb0_9_7 0)]), (fV 191 #[(pt tb0_9_4 0), (pt tb0_9_7 0)]), (fV 190 #[(pt tb0_9_8 0), (pt tb0_9_9 0), (pt tb0_9_10 0), (pt tb0_9_11 0)]), (fV 191 #[(pt tb0_9_8 0), (pt tb0_9_11 0)]), (fV 159 #[]), (fV 160 #[]), (vi x0.done_), (.bool true)] hs0 (fun w104 hs105 => ?_)
    refine Nss (Rg [0, 1] ?_)
    refine Vs 2 <| Nt <| Rt <| Ax <| Af ?_
    obtain rfl := Aa h102
    exact ReB [(.bool true), (.bool false)] hs105 (UD _) ⟨a0_7, n0_7, a0_8, n0_8, e0_8, rfl, rfl, hb0_7, hs0_7, hr0_8⟩
   ·refine Sc ?_
    refine Ar <| Ab <| Sq (Rg (rG 12) ?_)
    refine Vs 3 <| Ld hs0.at0 <| Vs 1 ?_
    obtain ⟨r106, hr107, h108⟩ := bind_some h103
    refine Cl' FN hs0 (Gy N w0 F0 hs0.pers hG (({ Report := x0.o_.Report, Serial := x0.o_.Serial, Zone := x0.o_.Zone } : Ac)) x1 _ hr107) ?_
    rintro _ F8 w110 hs111 le112 rfl
    refine Vs 3 <| Al' 34 #[(vi 0), (vi 0), (vi 0), (vi 0), (sv (([] : UX))), (vi 0), (vi 0), (vi 0), (vi 0), (vi 0), (vi 0)] hs111 (fun b114 w115 hs116 => ?_)
    refine St0 (BF r106.1) hs116 (fun w117 hs118 => ?_)
    refine Vs 1 <| Nss <| Sq (Rg (rG 7) ?_)
    refine Vs 4 <| Ld hs118.at1 <| Vs 2 <| Nss ?_
    obtain ⟨j124, hj129, h130⟩ := bind_some h108
    refine RD 36 36 [(sb b114 (BF r106.1) 34), (sb bp0 #[(.bool x0.o_.Report), (.bool x0.o_.Serial), (.bool x0.o_.Zone), (sv x0.l_.Call), (vi x0.l_.Category), (vi x0.l_.Power), (vi x0.l_.Claimed), (.slice a0_7 x0.l_.Jumps.length n0_7), (.slice a0_8 x0.l_.Lines.length n0_8), (fV 153 #[]), (fV 154 #[]), (fV 190 #[(pt tb0_9_0 0), (pt tb0_9_1 0), (pt tb0_9_2 0), (pt tb0_9_3 0)]), (fV 191 #[(pt tb0_9_0 0), (pt tb0_9_3 0)]), (fV 190 #[(pt tb0_9_4 0), (pt tb0_9_5 0), (pt tb0_9_6 0), (pt tb0_9_7 0)]), (fV 191 #[(pt tb0_9_4 0), (pt tb0_9_7 0)]), (fV 190 #[(pt tb0_9_8 0), (pt tb0_9_9 0), (pt tb0_9_10 0), (pt tb0_9_11 0)]), (fV 191 #[(pt tb0_9_8 0), (pt tb0_9_11 0)]), (fV 159 #[]), (fV 160 #[]), (vi x0.done_), (.bool x0.ended_)] 130), e0_8] [] hs118 (fun f w => ∃ (F9 : Mem), HS wb Fb w F9 ((sb b114 (BF r106.1) 34) :: (sb bp0 #[(.bool x0.o_.Report), (.bool x0.o_.Serial), (.bool x0.o_.Zone), (sv x0.l_.Call), (vi x0.l_.Category), (vi x0.l_.Power), (vi x0.l_.Claimed), (.slice a0_7 x0.l_.Jumps.length n0_7), (.slice a0_8 x0.l_.Lines.length n0_8), (fV 153 #[]), (fV 154 #[]), (fV 190 #[(pt tb0_9_0 0), (pt tb0_9_1 0), (pt tb0_9_2 0), (pt tb0_9_3 0)]), (fV 191 #[(pt tb0_9_0 0), (pt tb0_9_3 0)]), (fV 190 #[(pt tb0_9_4 0), (pt tb0_9_5 0), (pt tb0_9_6 0), (pt tb0_9_7 0)]), (fV 191 #[(pt tb0_9_4 0), (pt tb0_9_7 0)]), (fV 190 #[(pt tb0_9_8 0), (pt tb0_9_9 0), (pt tb0_9_10 0), (pt tb0_9_11 0)]), (fV 191 #[(pt tb0_9_8 0), (pt tb0_9_11 0)]), (fV 159 #[]), (fV 160 #[]), (vi x0.done_), (.bool x0.ended_)] 130) :: e0_8 :: Lf) /\ UC F8 F9 /\ FI f [] [(0, (pt bp0 0)), (6, (pt b114 0)), (100, (.bool j124))]) (fun wd119 hw120 => ?_) ?_
    ·refine Dvl [0, 1, 2] (tf 3 33) ?_
     refine Sd hj129 (fun hb131 h132 => ?_) (fun hb131 h133 => ?_)
     ·refine Dgl 3 68 0 (pt b114 0) (tf 4 32) 2 true 67 hb131 (fun _ hq => fa 34 6 0 0 1 b114 0 0) ?_
      refine Dgl 4 69 3 _ (tf 5 31) 2 true 67 hb131 (fun _ hq => ld 3 68 b114 0 false 1 (vi r106.1.Num) (hq.1.2 0 _ _ rfl)) <| Dgl 5 70 128 _ (tf 6 30) 2 true 67 hb131 (fun _ hq => mv 0 (pt bp0 0)) <| Dgl 6 71 0 (pt bp0 0) (tf 7 29) 2 true 67 hb131 (fun _ hq => DT (x := (.tmp 70)) (a := ⟨bp0, 0, none⟩) rfl) <| Dgl 7 72 0 (pt bp0 3) (tf 8 28) 2 true 67 hb131 (fun _ hq => fa 130 71 1 3 6 bp0 0 3) <| Dgl 8 73 0 (pt bp0 8) (tf 9 27) 2 true 67 hb131 (fun _ hq => fa 27 72 5 5 1 bp0 3 8) <| Dgl 9 74 25 _ (tf 10 26) 2 true 67 hb131 (fun _ hq => ld 25 73 bp0 8 false 1 (.slice a0_8 x0.l_.Lines.length n0_8) (hq.1.2 1 _ _ rfl)) <| Dgl 10 75 3 _ (tf 11 25) 2 true 67 hb131 (fun _ hq => mv 8 (vi (x0.l_.Lines.length : Int))) <| Dgl 11 76 3 (vi (W64 ((x0.l_.Lines.length : Int) - 1))) (tf 12 24) 2 true 67 hb131 (fun _ hq => HR (t := 3) (t' := 3) (x := (.tmp 75)) (y := (.const (vi 1))) (k := .i64) (a := (x0.l_.Lines.length : Int)) (b := 1) rfl rfl) ?_
      obtain ⟨x134, hx135, h137⟩ := bind_some h132
      obtain ⟨hi136, hx135'⟩ := An hx135
      obtain ⟨b138, C139, rfl, rfl, hE142⟩ := Ap.open (hr0_8.mono le112) hx135'
      have hr143 := (hr0_8.mono le112)
      have hc145 := hE142 _ _ hx135'
      refine Dgl 12 77 0 (.pointer (some ⟨b138, (((W64 ((x0.l_.Lines.length : Int) - 1)) : Int).toNat * 11), none⟩)) (tf 13 23) 2 true 67 hb131 (fun _ hq => DG (t := 25) (x := (.tmp 74)) (y := (.tmp 76)) (b := b138) (E := 34) (s := 11) (by_ := 96) rfl rfl (by kernel_rfl) hi136) <| Dgl 13 78 0 (.pointer (some ⟨b138, (((W64 ((x0.l_.Lines.length : Int) - 1)) : Int).toNat * 11), none⟩)) (tf 14 22) 2 true 67 hb131 (fun _ hq => fa 34 77 0 0 1 b138 (((W64 ((x0.l_.Lines.length : Int) - 1)) : Int).toNat * 11) (((W64 ((x0.l_.Lines.length : Int) - 1)) : Int).toNat * 11)) <| Dgl 14 79 3 _ (tf 15 21) 2 true 67 hb131 (fun _ hq => lx 3 78 0 11 false 1 (vi x134.Num) (hq.1.2 2 _ _ rfl) hc145) <| Dgl 15 80 4 (.bool (decide (r106.1.Num <= x134.Num))) (tf 16 20) 2 true 67 hb131 (fun _ hq => Lh (t := 3) (t' := 3) (x := (.tmp 69)) (y := (.tmp 79)) (k := .i64) (a := r106.1.Num) (b := x134.Num) rfl rfl) <| Dgl 16 81 4 _ (tf 17 19) 2 true 67 hb131 (fun _ hq => mv 80 (.bool (decide (r106.1.Num <= x134.Num)))) <| Sd h137 (fun hb146 h147 => ?_) (fun hb146 h148 => ?_)
      ·refine Dkl [(17, 82), (18, 83), (19, 84), (20, 85), (21, 86), (22, 87)] 16 false 81 hb146 (tf 23 13) ?_
       refine Dkl [(23, 88), (24, 89), (25, 90), (26, 91), (27, 92), (28, 93)] 16 false 81 hb146 (tf 29 7) <| Dkl [(29, 94)] 16 false 81 hb146 (tf 30 6) <| Dgl 30 95 4 _ (tf 31 5) 2 true 67 hb131 (fun _ hq => p1 81 (.const (.bool true)) (.tmp 94) (.bool true) hb146) <| Dtl 31 96 4 _ (tf 32 4) (fun _ hq => p1 67 (.tmp 95) (.const (.bool false)) (.bool true) hb131) <| Dvl [32] (tf 33 3) <| Dkl [(33, 98), (34, 99)] 32 false 97 rfl (tf 35 1) <| Dtl 35 100 4 _ (tf 36 0) (fun _ hq => p1 97 (.const (.bool true)) (.tmp 99) (.bool true) rfl) ?_
       obtain rfl := Aa h147
       exact UP (by kernel_rfl) ⟨F8, hw120, (UD _), fI⟩
      ·refine Dgl 17 82 0 (pt b114 3) (tf 18 18) 16 false 81 hb146 (fun _ hq => fa 34 6 3 3 1 b114 0 3) ?_
       refine Dgl 18 83 3 _ (tf 19 17) 16 false 81 hb146 (fun _ hq => ld 3 82 b114 3 false 1 (vi r106.1.Minute) (hq.1.2 0 _ _ rfl)) <| Dgl 19 84 128 _ (tf 20 16) 16 false 81 hb146 (fun _ hq => mv 0 (pt bp0 0)) <| Dgl 20 85 0 (pt bp0 0) (tf 21 15) 16 false 81 hb146 (fun _ hq => DT (x := (.tmp 84)) (a := ⟨bp0, 0, none⟩) rfl) <| Dgl 21 86 0 (pt bp0 3) (tf 22 14) 16 false 81 hb146 (fun _ hq => fa 130 85 1 3 6 bp0 0 3) <| Dgl 22 87 0 (pt bp0 8) (tf 23 13) 16 false 81 hb146 (fun _ hq => fa 27 86 5 5 1 bp0 3 8) <| Dgl 23 88 25 _ (tf 24 12) 16 false 81 hb146 (fun _ hq => ld 25 87 bp0 8 false 1 (.slice (some ⟨b138, 0, none⟩) x0.l_.Lines.length n0_8) (hq.1.2 1 _ _ rfl)) <| Dgl 24 89 3 _ (tf 25 11) 16 false 81 hb146 (fun _ hq => mv 8 (vi (x0.l_.Lines.length : Int))) <| Dgl 25 90 3 (vi (W64 ((x0.l_.Lines.length : Int) - 1))) (tf 26 10) 16 false 81 hb146 (fun _ hq => HR (t := 3) (t' := 3) (x := (.tmp 89)) (y := (.const (vi 1))) (k := .i64) (a := (x0.l_.Lines.length : Int)) (b := 1) rfl rfl) ?_
       obtain ⟨x149, hx150, h152⟩ := bind_some h148
       obtain ⟨hi151, hx150'⟩ := An hx150
       obtain ⟨b153, C154, ha155, he156, hE157⟩ := Ap.open hr143 hx150'
       cases ha155
       cases he156
       have hc159 := hE157 _ _ hx150'
       refine Dgl 26 91 0 (.pointer (some ⟨b138, (((W64 ((x0.l_.Lines.length : Int) - 1)) : Int).toNat * 11), none⟩)) (tf 27 9) 16 false 81 hb146 (fun _ hq => DG (t := 25) (x := (.tmp 88)) (y := (.tmp 90)) (b := b138) (E := 34) (s := 11) (by_ := 96) rfl rfl (by kernel_rfl) hi151) <| Dgl 27 92 0 (.pointer (some ⟨b138, ((((W64 ((x0.l_.Lines.length : Int) - 1)) : Int).toNat * 11) + 3), none⟩)) (tf 28 8) 16 false 81 hb146 (fun _ hq => fa 34 91 3 3 1 b138 (((W64 ((x0.l_.Lines.length : Int) - 1)) : Int).toNat * 11) ((((W64 ((x0.l_.Lines.length : Int) - 1)) : Int).toNat * 11) + 3)) <| Dgl 28 93 3 _ (tf 29 7) 16 false 81 hb146 (fun _ hq => lx 3 92 3 11 false 1 (vi x149.Minute) (hq.1.2 2 _ _ rfl) hc159) <| Dgl 29 94 4 (.bool (decide (r106.1.Minute < x149.Minute))) (tf 30 6) 16 false 81 hb146 (fun _ hq => I7 (t := 3) (t' := 3) (x := (.tmp 83)) (y := (.tmp 93)) (k := .i64) (a := r106.1.Minute) (b := x149.Minute) rfl rfl) <| Dgl 30 95 4 _ (tf 31 5) 2 true 67 hb131 (fun _ hq => p0 81 (.const (.bool true)) (.tmp 94) (.bool (decide (r106.1.Minute < x149.Minute))) hb146) <| Dtl 31 96 4 _ (tf 32 4) (fun _ hq => p1 67 (.tmp 95) (.const (.bool false)) (.bool (decide (r106.1.Minute < x149.Minute))) hb131) <| Dvl [32] (tf 33 3) <| Sd h152 (fun hb160 h161 => ?_) (fun hb160 h162 => ?_)
       ·refine Dkl [(33, 98), (34, 99)] 32 false 97 hb160 (tf 35 1) ?_
        refine Dtl 35 100 4 _ (tf 36 0) (fun _ hq => p1 97 (.const (.bool true)) (.tmp 99) (.bool true) hb160) ?_
        obtain rfl := Aa h161
        exact UP (by kernel_rfl) ⟨F8, hw120, (UD _), fI⟩
       ·refine Dgl 33 98 35 _ (tf 34 2) 32 false 97 hb160 (fun _ hq => mv 7 (vi r106.2)) ?_
        refine Dgl 34 99 4 (.bool (r106.2 != 0)) (tf 35 1) 32 false 97 hb160 (fun _ hq => Lb (t := 35) (t' := 35) (x := (.tmp 98)) (y := (.const (vi 0))) (k := .i64) (a := r106.2) (b := 0) rfl rfl) <| Dtl 35 100 4 _ (tf 36 0) (fun _ hq => p0 97 (.const (.bool true)) (.tmp 99) (.bool (r106.2 != 0)) hb160) ?_
        obtain rfl := Aa h162
        exact UP (by kernel_rfl) ⟨F8, hw120, (UD _), fI⟩
     ·refine Dkl [(3, 68), (4, 69), (5, 70), (6, 71), (7, 72), (8, 73)] 2 true 67 hb131 (tf 9 27) ?_
      refine Dkl [(9, 74), (10, 75), (11, 76), (12, 77), (13, 78), (14, 79)] 2 true 67 hb131 (tf 15 21) <| Dkl [(15, 80), (16, 81)] 2 true 67 hb131 (tf 17 19) <| Dul [(17, 82), (18, 83), (19, 84), (20, 85), (21, 86), (22, 87)] 16 false 81 (tf 23 13) <| Dul [(23, 88), (24, 89), (25, 90), (26, 91), (27, 92), (28, 93)] 16 false 81 (tf 29 7) <| Dul [(29, 94)] 16 false 81 (tf 30 6) <| Dkl [(30, 95)] 2 true 67 hb131 (tf 31 5) <| Dtl 31 96 4 _ (tf 32 4) (fun _ hq => p0 67 (.tmp 95) (.const (.bool false)) (.bool false) hb131) <| Dvl [32] (tf 33 3) <| Dgl 33 98 35 _ (tf 34 2) 32 false 97 rfl (fun _ hq => mv 7 (vi r106.2)) <| Dgl 34 99 4 (.bool (r106.2 != 0)) (tf 35 1) 32 false 97 rfl (fun _ hq => Lb (t := 35) (t' := 35) (x := (.tmp 98)) (y := (.const (vi 0))) (k := .i64) (a := r106.2) (b := 0) rfl rfl) <| Dtl 35 100 4 _ (tf 36 0) (fun _ hq => p0 97 (.const (.bool true)) (.tmp 99) (.bool (r106.2 != 0)) rfl) ?_
      obtain rfl := Aa h133
      exact UP (by kernel_rfl) ⟨F8, hw120, (UD _), fI⟩
    ·rintro f w121 ⟨F9, hs122, le123, ⟨_, rfl⟩⟩
     refine Ab <| Cd h130 (fun hb163 h164 => ?_) (fun hb163 h165 => ?_)
     ·refine Sq (Rg [0, 1] ?_)
      refine Vs 2 <| Nt <| Rt <| Af ?_
      obtain rfl := Aa h164
      exact ReB [(.bool false), (.bool false)] hs122.dr0 (le112.t le123) ⟨a0_7, n0_7, a0_8, n0_8, e0_8, rfl, rfl, hb0_7, (UF hs0_7 (le112.t le123)), (hr0_8.mono (le112.t le123))⟩
     ·refine Sc ?_
      refine Ab <| Sq <| Sq (Rg (rG 7) ?_)
      refine Vs 4 <| Ld hs122.at1 <| Vs 2 <| Nt <| Cd h165 (fun hb166 h167 => ?_) (fun hb166 h168 => ?_)
      ·refine Sq (Rg [0, 1] ?_)
       refine Vs 2 <| Nt <| Rt <| Af ?_
       obtain rfl := Aa h167
       exact ReB [(.bool false), (.bool true)] hs122.dr0 (le112.t le123) ⟨a0_7, n0_7, a0_8, n0_8, e0_8, rfl, rfl, hb0_7, (UF hs0_7 (le112.t le123)), (hr0_8.mono (le112.t le123))⟩
      ·refine Sc ?_
       refine Ab <| Sq ?_
       obtain ⟨j174, hj176, h177⟩ := bind_some h168
       refine RD 12 13 [(sb b114 (BF r106.1) 34)] [(sb bp0 #[(.bool x0.o_.Report), (.bool x0.o_.Serial), (.bool x0.o_.Zone), (sv x0.l_.Call), (vi x0.l_.Category), (vi x0.l_.Power), (vi x0.l_.Claimed), (.slice a0_7 x0.l_.Jumps.length n0_7), (.slice a0_8 x0.l_.Lines.length n0_8), (fV 153 #[]), (fV 154 #[]), (fV 190 #[(pt tb0_9_0 0), (pt tb0_9_1 0), (pt tb0_9_2 0), (pt tb0_9_3 0)]), (fV 191 #[(pt tb0_9_0 0), (pt tb0_9_3 0)]), (fV 190 #[(pt tb0_9_4 0), (pt tb0_9_5 0), (pt tb0_9_6 0), (pt tb0_9_7 0)]), (fV 191 #[(pt tb0_9_4 0), (pt tb0_9_7 0)]), (fV 190 #[(pt tb0_9_8 0), (pt tb0_9_9 0), (pt tb0_9_10 0), (pt tb0_9_11 0)]), (fV 191 #[(pt tb0_9_8 0), (pt tb0_9_11 0)]), (fV 159 #[]), (fV 160 #[]), (vi x0.done_), (.bool x0.ended_)] 130)] hs122 (fun f w => ∃ (F10 : Mem) (aj174_0 : UY) (nj174_0 : Nat) (ej174_0 : Option Nat × Obj), HS wb Fb w F10 ((sb bp0 #[(.bool x0.o_.Report), (.bool x0.o_.Serial), (.bool x0.o_.Zone), (sv x0.l_.Call), (vi x0.l_.Category), (vi x0.l_.Power), (vi x0.l_.Claimed), (.slice a0_7 x0.l_.Jumps.length n0_7), (.slice aj174_0 j174.length nj174_0), (fV 153 #[]), (fV 154 #[]), (fV 190 #[(pt tb0_9_0 0), (pt tb0_9_1 0), (pt tb0_9_2 0), (pt tb0_9_3 0)]), (fV 191 #[(pt tb0_9_0 0), (pt tb0_9_3 0)]), (fV 190 #[(pt tb0_9_4 0), (pt tb0_9_5 0), (pt tb0_9_6 0), (pt tb0_9_7 0)]), (fV 191 #[(pt tb0_9_4 0), (pt tb0_9_7 0)]), (fV 190 #[(pt tb0_9_8 0), (pt tb0_9_9 0), (pt tb0_9_10 0), (pt tb0_9_11 0)]), (fV 191 #[(pt tb0_9_8 0), (pt tb0_9_11 0)]), (fV 159 #[]), (fV 160 #[]), (vi x0.done_), (.bool x0.ended_)] 130) :: ej174_0 :: Lf) /\ UC F9 F10 /\ FI f [] [] /\ Ap AF 34 F10 aj174_0 nj174_0 j174 ej174_0) (fun wd169 hw170 => ?_) ?_
       ·refine Dv [0, 1, 2, 3, 4] ?_
        refine Dl 5 (fun _ hq => ((hq.2 rfl).2 0 _ _ rfl)) <| Dl 6 (fun _ hq => (hq.1.2 0 _ _ rfl)) <| D1 7 <| DBs 34 [(vi r106.1.Num), (vi r106.1.Khz), (vi r106.1.Mode), (vi r106.1.Minute), (sv r106.1.Call), (vi r106.1.Sent.Report), (vi r106.1.Sent.Serial), (vi r106.1.Sent.Zone), (vi r106.1.Got.Report), (vi r106.1.Got.Serial), (vi r106.1.Got.Zone)] hw170 (UD _) (fun b178 w179 hs180 => ?_)
        have hr182 : Ap AF 34 F9 (some ⟨b178, 0, none⟩) 1 [r106.1] (some b178, .cells ([(vi r106.1.Num), (vi r106.1.Khz), (vi r106.1.Mode), (vi r106.1.Minute), (sv r106.1.Call), (vi r106.1.Sent.Report), (vi r106.1.Sent.Serial), (vi r106.1.Sent.Zone), (vi r106.1.Got.Report), (vi r106.1.Got.Serial), (vi r106.1.Got.Zone)] : List Value).toArray 34 (0, 0)) := US ⟨rfl, rfl⟩ (by simp)
        refine D1 8 ?_
        obtain ⟨r183, hap184, h185⟩ := bind_some hj176
        refine Uw Q9 hs180 (hr0_8.mono (le112.t le123)) (hs180.rd0 hr182) hap184 (UD _) (fun a186 n187 e188 w189 hs190 hr191 => ?_)
        refine D1 9 <| UM (l' := [true, true, true, true, true, true, true, true, true, true, false, false, false]) (zd := false) (by kernel_rfl) (by kernel_rfl) (dst := (some 117)) (ty := 0) (g := none) (by kernel_rfl) rfl (DT (x := (.tmp 108)) (a := ⟨bp0, 0, none⟩) rfl) (A8 hs190 (UD _) (by simp) (fun _ => by simp)) <| D1 10 <| UM (l' := [true, true, true, true, true, true, true, true, true, true, true, false, false]) (zd := false) (by kernel_rfl) (by kernel_rfl) (dst := (some 118)) (ty := 0) (g := none) (by kernel_rfl) rfl (CH (s := 130) (x := (.tmp 117)) (i := 1) (o := 3) (k := 6) (b := bp0) (o0 := 0) rfl (by kernel_rfl) rfl (o1 := 3) rfl) (A8 hs190 (UD _) (by simp) (fun _ => by simp)) <| Dv [11] <| D1 12 <| MR #[(.bool x0.o_.Report), (.bool x0.o_.Serial), (.bool x0.o_.Zone), (sv x0.l_.Call), (vi x0.l_.Category), (vi x0.l_.Power), (vi x0.l_.Claimed), (.slice a0_7 x0.l_.Jumps.length n0_7), (.slice a186 r183.length n187), (fV 153 #[]), (fV 154 #[]), (fV 190 #[(pt tb0_9_0 0), (pt tb0_9_1 0), (pt tb0_9_2 0), (pt tb0_9_3 0)]), (fV 191 #[(pt tb0_9_0 0), (pt tb0_9_3 0)]), (fV 190 #[(pt tb0_9_4 0), (pt tb0_9_5 0), (pt tb0_9_6 0), (pt tb0_9_7 0)]), (fV 191 #[(pt tb0_9_4 0), (pt tb0_9_7 0)]), (fV 190 #[(pt tb0_9_8 0), (pt tb0_9_9 0), (pt tb0_9_10 0), (pt tb0_9_11 0)]), (fV 191 #[(pt tb0_9_8 0), (pt tb0_9_11 0)]), (fV 159 #[]), (fV 160 #[]), (vi x0.done_), (.bool x0.ended_)] hs190 (UD _) (fun w192 hs193 => ?_)
        obtain rfl := Aa h185
        exact UP (by kernel_rfl) ⟨F9, a186, n187, e188, hs193.dr0.dr0, (UD _), fI, hr191⟩
       ·rintro f w171 ⟨F10, aj174_0, nj174_0, ej174_0, hs172, le173, ⟨_, rfl⟩, hrj174_0⟩
        refine Ab <| Sq (Rg [0, 1] ?_)
        refine Vs 2 <| Nt <| Rt ?_
        obtain rfl := Aa h177
        exact ReB [(.bool true), (.bool false)] hs172 ((le112.t le123).trans le173) ⟨a0_7, n0_7, aj174_0, nj174_0, ej174_0, rfl, rfl, hb0_7, (UF hs0_7 ((le112.t le123).trans le173)), hrj174_0⟩
end Go.Proofs.YthljkpeimofbbaaGreatDoor
