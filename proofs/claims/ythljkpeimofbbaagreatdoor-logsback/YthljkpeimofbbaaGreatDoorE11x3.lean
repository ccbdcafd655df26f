/- Lemmas of the claim LogsBack, printed by a program of the claimant and by hand. No statement of the seat is proved here. -/
import Derived.Test.YthljkpeimofbbaaGreatDoorE11x2
set_option linter.unusedVariables false
set_option linter.unusedSimpArgs false
set_option linter.unusedSectionVars false
set_option maxHeartbeats 4000000
set_option maxRecDepth 100000
namespace Go.Proofs.YthljkpeimofbbaaGreatDoor
theorem RL {α ρ τ : Type} {body : Int -> Option (Bt ρ Int)} {l : List α} (ok : α -> Bool) (bad : ρ) (hb : ∀ i (h : i < l.length), body (i : Int) = some (bif ok l[i] then .next ((i + 1 : Nat) : Int) else .ret bad))
  (he : body (l.length : Int) = some (.done (l.length : Int))) {N : Nat} (hN : l.length < N) (fd : Int -> Option τ) (fr : ρ -> Option τ) : ((AX body N 0).bind fun o => o.k fr fd) = bif l.all ok then fd l.length else fr bad := by
 obtain ⟨o, ho, hR⟩ := FY (body := body) l.length (fun i s => s = (i : Int) /\ (l.take i).all ok = true) (fun o => (l.all ok = true /\ o = .done (l.length : Int)) \/ (l.all ok = false /\ o = .ret bad)) (by
  rintro i s hi ⟨rfl, hk⟩
  by_cases h : i < l.length
  ·rw [hb i h]
   cases e : ok l[i] with
   | true => exact .inl ⟨_, rfl, ⟨rfl, by rw [List.take_add_one, List.getElem?_eq_getElem h, List.all_append, hk]; simp [e]⟩, h⟩
   | false => exact .inr ⟨_, rfl, (fun _ h => by cases h), .inr ⟨by rw [List.all_eq_false]; exact ⟨l[i], List.getElem_mem h, by rw [e]; simp⟩, rfl⟩⟩
  ·have : i = l.length := by omega
   subst this
   rw [he]
   exact .inr ⟨_, rfl, (fun _ h => by cases h), .inl ⟨by simpa using hk, rfl⟩⟩) l.length N 0 0 (by omega) ⟨rfl, rfl⟩ hN
 rw [ho]
 rcases hR with ⟨h1, rfl⟩ | ⟨h1, rfl⟩ <;> rw [h1] <;> rfl
section
variable {N : Nat} {s : WE}
theorem Ez {i n : Nat} (h : i < n) : decide ((i : Int) < (n : Int)) = true := decide_eq_true (by omega)
theorem Dr {n : Nat} : decide ((n : Int) < (n : Int)) = false := decide_eq_false (by omega)
def wiB (n lo hi : Nat) : Bool := decide (lo <= n) && decide (n <= hi)
def CT (s : WE) : Bool := s.all isE && wiB s.length 1 4 && s.any isL
def Bn (s : WE) : Bool := s.all isE && wiB (B2 s) 1 4 && (s.take (B2 s)).any isL && wiB (s.length - B2 s) 1 4
def BO (s : WE) : Bool := (s.all isL && wiB s.length 1 4) || (s.all isD && wiB s.length 1 1)
theorem GN (n lo hi : Nat) : (decide (((lo : Nat) : Int) <= (n : Int)) && decide ((n : Int) <= ((hi : Nat) : Int))) = wiB n lo hi := by
 unfold wiB
 congr 1 <;> (rw [decide_eq_decide]; omega)
theorem w14 (n : Nat) : (decide ((1 : Int) <= (n : Int)) && decide ((n : Int) <= (4 : Int))) = wiB n 1 4 := GN n 1 4
theorem w11 (n : Nat) : (decide ((1 : Int) <= (n : Int)) && decide ((n : Int) <= (1 : Int))) = wiB n 1 1 := GN n 1 1
theorem Qf (hs : s.length < 4611686018427387904) (hN : s.length < N) : E1 N s = some (CT s) := by
 unfold E1 CT
 rw [Gv (VC N) s 4 hN, Option.bind_some, w14]
 cases h : (s.all isE && wiB s.length 1 4) with
 | false => rfl
 | true =>
  rw [Bool.and_eq_true] at h
  obtain ⟨r, h1, h2⟩ := RO (N := N) (St N) s (fun b hb => Oj (List.all_eq_true.1 h.1 b hb))
  rw [cond_true, h1, Option.bind_some, h2]
  rfl
theorem O7 (hs : s.length < 4611686018427387904) (hN : s.length < N) : D4 N s = some (BO s) := by
 unfold D4 BO
 rw [Gv (St N) s 4 hN, Gv (QN N) s 1 hN, w14, w11]
 cases s.all isL && wiB s.length 1 4 <;> rfl
theorem PK (s : WE) : s.all isL = (s.all isE && !s.any isD) := by
 induction s with
 | nil => rfl
 | cons b s ih =>
  simp only [List.all_cons, List.any_cons, ih, isE]
  cases hL : isL b with
  | true => rw [V4 hL]; simp
  | false => cases isD b <;> cases s.all isE <;> cases s.any isD <;> rfl
theorem SV (p : Nat -> Bool) (tr : Bool) (s : WE) : ∀ (f i : Nat), i <= s.length -> Go.Lib.lastIdxFuncFrom p tr ⟨s.toArray⟩ f i = -1 \/ (0 <= Go.Lib.lastIdxFuncFrom p tr ⟨s.toArray⟩ f i /\ Go.Lib.lastIdxFuncFrom p tr ⟨s.toArray⟩ f i < (i : Int))
 | 0, _, _ => .inl rfl
 | f + 1, i, hi => by
  unfold Go.Lib.lastIdxFuncFrom
  split
  ·rename_i h0
   have hw := Go.Lib.decodeLastL_width (s.take i) (by rw [List.length_take]; omega)
   simp only [List.toList_toArray] at *
   split
   ·exact .inr ⟨by omega, by omega⟩
   ·rcases SV p tr s f (i - (Go.Lib.decodeLastL (s.take i)).2) (by omega) with h | h
    ·exact .inl h
    ·exact .inr ⟨h.1, by omega⟩
  ·exact .inl rfl
theorem U1 (hs : s.length < 4611686018427387904) (hN : s.length < N) : ∃ x y, Kk N s = some (x, y, Bn s) /\ (Bn s = true -> x = s.take (B2 s) /\ y = s.drop (B2 s)) := by
 have hr : ∃ k : Nat, BJ N s (fun y0 => Bl N y0) = some ((k : Int) - 1) /\ k <= s.length /\ ((∀ b, b ∈ s -> b.toNat < 128) -> k = B2 s) := by
  have hsz : (⟨s.toArray⟩ : ByteArray).size = s.length := by simp [ByteArray.size]
  have e : BJ N s (fun y0 => Bl N y0) = some (Go.Lib.lastIdxFunc (E3 fun y0 => Bl N y0) true ⟨s.toArray⟩) := by
   unfold BJ B0
   rw [if_pos ⟨(QN N).all, by omega⟩]
   rfl
  rw [e]
  unfold Go.Lib.lastIdxFunc
  rw [hsz]
  have hrange := SV (E3 fun y0 => Bl N y0) true s s.length s.length (Nat.le_refl _)
  refine ⟨(Go.Lib.lastIdxFuncFrom (E3 fun y0 => Bl N y0) true ⟨s.toArray⟩ s.length s.length + 1).toNat, ?_, ?_, fun ha => ?_⟩
  ·exact congrArg some (by rcases hrange with h | ⟨h, _⟩ <;> omega)
  ·rcases hrange with h | ⟨h1, h2⟩
   ·omega
   ·omega
  ·have := I1 N s ha s.length s.length (Nat.le_refl _) (Nat.le_refl _)
   rw [List.take_length] at this
   omega
 obtain ⟨k, h1, h2, h3⟩ := hr
 have e1 : W64 ((k : Int) - 1 + 1) = (k : Int) := by rw [E7 (by omega) (by omega)]; omega
 have e2 : LR s 0 (k : Int) = some (s.take k) := by
  have := OQ (a := s) (lo := 0) (hi := k) (Nat.zero_le _) h2
  simpa using this
 have e3 : LR s (k : Int) (s.length : Int) = some (s.drop k) := by
  rw [OQ h2 (Nat.le_refl _), List.take_of_length_le (by simp)]
 have e4 := Qf (N := N) (s := s.take k) (by rw [List.length_take]; omega) (by rw [List.length_take]; omega)
 have e5 := Gv (St N) (s.drop k) 4 (N := N) (by rw [List.length_drop]; omega)
 refine ⟨s.take k, s.drop k, ?_, ?_⟩
 ·unfold Kk
  rw [h1, Option.bind_some, e1, e2, Option.bind_some, e3, Option.bind_some, Option.bind_some, e4, Option.bind_some, e5, w14]
  have hbase : (decide ((k : Int) > 0) && (CT (s.take k) && ((s.drop k).all isL && wiB (s.drop k).length 1 4))) = Bn s := by
   by_cases ha : s.all isE = true
   ·have hk : k = B2 s := h3 fun b hb => Oj (List.all_eq_true.1 ha b hb)
    subst hk
    have hle := Uq s
    have e6 : (s.take (B2 s)).all isE = true := List.all_eq_true.2 fun b hb => List.all_eq_true.1 ha b (List.mem_of_mem_take hb)
    have e7 : (s.drop (B2 s)).all isL = true := by
     rw [PK]
     rw [Bool.and_eq_true]
     refine ⟨List.all_eq_true.2 fun b hb => List.all_eq_true.1 ha b (List.mem_of_mem_drop hb), ?_⟩
     rw [Bool.not_eq_true', List.any_eq_false]
     intro b hb
     rw [RV s b hb]; simp
    unfold CT Bn
    rw [ha, e6, e7, List.length_take, Nat.min_eq_left hle, List.length_drop]
    have e8 : (decide ((B2 s : Int) > 0) && wiB (B2 s) 1 4) = wiB (B2 s) 1 4 := by
     unfold wiB
     cases hd : decide (1 <= B2 s) with
     | false => simp
     | true => rw [decide_eq_true (by have := of_decide_eq_true hd; omega)]; rfl
    rw [<- e8]
    cases decide ((B2 s : Int) > 0) <;> cases wiB (B2 s) 1 4 <;> cases (s.take (B2 s)).any isL <;> rfl
   ·have ha' : s.all isE = false := by simpa using ha
    unfold CT Bn
    rw [ha']
    have e9 : (s.take k).all isE = false \/ (s.drop k).all isL = false := by
     rw [<- List.take_append_drop k s, List.all_append] at ha'
     cases h5 : (s.take k).all isE with
     | false => exact .inl rfl
     | true =>
      right
      rw [h5, Bool.true_and] at ha'
      rw [PK, ha']
      rfl
    rcases e9 with e9 | e9 <;> rw [e9] <;> simp
  rw [<- hbase]
  cases decide ((k : Int) > 0) <;> cases CT (s.take k) <;> rfl
 ·intro hb
  have ha : s.all isE = true := by
   unfold Bn at hb
   simp only [Bool.and_eq_true] at hb
   exact hb.1.1.1
  rw [h3 fun b hb => Oj (List.all_eq_true.1 ha b hb)]
  exact ⟨rfl, rfl⟩
end
theorem Ql {α ρ τ : Type} {body : Int -> Option (Bt ρ Int)} {l : List α} (f : α -> Option ρ) (hb : ∀ i (h : i < l.length), body (i : Int) = some ((f l[i]).elim (.next ((i + 1 : Nat) : Int)) .ret))
  (he : body (l.length : Int) = some (.done (l.length : Int))) {N : Nat} (hN : l.length < N) (fd : Int -> Option τ) (fr : ρ -> Option τ) : ((AX body N 0).bind fun o => o.k fr fd) = (l.findSome? f).elim (fd l.length) fr := by
 obtain ⟨o, ho, hR⟩ := FY (body := body) l.length (fun i s => s = (i : Int) /\ l.findSome? f = (l.drop i).findSome? f) (fun o => (l.findSome? f = none /\ o = .done (l.length : Int)) \/ ∃ r, l.findSome? f = some r /\ o = .ret r) (by
  rintro i s hi ⟨rfl, hk⟩
  by_cases h : i < l.length
  ·rw [hb i h]
   rw [List.drop_eq_getElem_cons h, List.findSome?_cons] at hk
   cases e : f l[i] with
   | some r => rw [e] at hk; exact .inr ⟨_, rfl, (fun _ h => by cases h), .inr ⟨r, hk, rfl⟩⟩
   | none => rw [e] at hk; exact .inl ⟨_, rfl, ⟨rfl, hk⟩, h⟩
  ·have : i = l.length := by omega
   subst this
   rw [he]
   rw [List.drop_length] at hk
   exact .inr ⟨_, rfl, (fun _ h => by cases h), .inl ⟨hk, rfl⟩⟩) l.length N 0 0 (by omega) ⟨rfl, by rw [List.drop_zero]⟩ hN
 rw [ho]
 rcases hR with ⟨h1, rfl⟩ | ⟨r, h1, rfl⟩ <;> rw [h1] <;> rfl
theorem Qc (c : UInt8) : ∀ s p, p ∈ pcs c s -> p.length <= s.length
 | [], p, h => by simp [pcs] at h; subst h; simp
 | b :: s, p, h => by
  have ih := Qc c s
  unfold pcs at h
  by_cases hb : b = c
  ·rw [if_pos hb] at h
   rcases List.mem_cons.1 h with rfl | h
   ·simp
   ·exact Nat.le_succ_of_le (ih p h)
  ·rw [if_neg hb] at h
   cases hp : pcs c s with
   | nil => exact absurd hp (GT c s)
   | cons q r =>
    rw [hp] at h ih
    simp only at h
    rcases List.mem_cons.1 h with rfl | h
    ·exact Nat.succ_le_succ (ih q List.mem_cons_self)
    ·exact Nat.le_succ_of_le (ih p (List.mem_cons_of_mem _ h))
def zp : Bg := { Area := [], Prefix := [], Suffix := [], Stroke := [] }
abbrev Tri := WE × WE × WE
def JB (ws : List WE) : Option Tri := match ws with
 | [w] => if Bn w then some ([], w, []) else none
 | [a, b] => if CT a && Bn b && decide (a.length < b.length) then some (a, b, []) else if Bn a && BO b then some ([], a, b) else none
 | [a, b, c] => if CT a && Bn b && BO c then some (a, b, c) else none
 | _ => none
def callB (s : WE) : Option Tri := if s.length <= 16 then JB (pcs 47 s) else none
def QS (t : Tri) : Bg := { Area := t.1, Prefix := t.2.1.take (B2 t.2.1), Suffix := t.2.1.drop (B2 t.2.1), Stroke := t.2.2 }
def PU (s : WE) : Bg × Bool := match callB s with
 | some t => (QS t, true)
 | none => (zp, false)
section
variable {N : Nat}
theorem JS {w : WE} (hs : w.length < 4611686018427387904) (hN : w.length < N) : ∃ x y, AA N w = some ({ Area := [], Prefix := x, Suffix := y, Stroke := [] }, Bn w) /\ (Bn w = true -> x = w.take (B2 w) /\ y = w.drop (B2 w)) := by
 obtain ⟨x, y, h1, h2⟩ := U1 hs hN
 exact ⟨x, y, by unfold AA; rw [h1]; rfl, h2⟩
theorem Vm {w : WE} {z0 : WE -> Option (Bg × Bool)} {p : Bg} {ok : Bool} (h1 : z0 w = some (p, ok)) : Dp N [w] z0 = some (p, ok) := by
 unfold Dp
 have i0 : idx [w] 0 = some w := rfl
 simp only [i0, Option.bind_some, h1]
theorem Vl {a b : WE} {z0 : WE -> Option (Bg × Bool)} {x y u v : WE} {A ok : Bool} (h1 : z0 b = some ({ Area := u, Prefix := x, Suffix := y, Stroke := v }, ok)) (h3 : E1 N a = some A) : Do N [a, b] z0 = some ({ Area := a, Prefix := x, Suffix := y, Stroke := v }, ok && A && decide (a.length < b.length)) := by
 unfold Do
 have e : decide ((a.length : Int) < (b.length : Int)) = decide (a.length < b.length) := by rw [decide_eq_decide]; omega
 have i0 : idx [a, b] 0 = some a := rfl
 have i1 : idx [a, b] 1 = some b := rfl
 rw [i0, i1]
 simp only [Option.bind_some, h1, h3]
 clear h1 h3
 rw [e]
 generalize decide (a.length < b.length) = D
 cases ok <;> cases A <;> rfl
theorem Vk {a b : WE} {z0 : WE -> Option (Bg × Bool)} {x y u v : WE} {A ok : Bool} (h1 : z0 a = some ({ Area := u, Prefix := x, Suffix := y, Stroke := v }, ok)) (h3 : D4 N b = some A) : Dn N [a, b] z0 = some ({ Area := u, Prefix := x, Suffix := y, Stroke := b }, ok && A) := by
 unfold Dn
 have i0 : idx [a, b] 0 = some a := rfl
 have i1 : idx [a, b] 1 = some b := rfl
 rw [i0, i1]
 simp only [Option.bind_some, h1, h3]
 clear h1 h3
 cases ok <;> cases A <;> rfl
theorem Vj {a b c : WE} {z0 : WE -> Option (Bg × Bool)} {x y u v : WE} {A B ok : Bool} (h1 : z0 b = some ({ Area := u, Prefix := x, Suffix := y, Stroke := v }, ok)) (h3 : E1 N a = some A) (h4 : D4 N c = some B) : Dm N [a, b, c] z0 = some ({ Area := a, Prefix := x, Suffix := y, Stroke := c }, ok && A && B) := by
 unfold Dm
 have i0 : idx [a, b, c] 0 = some a := rfl
 have i1 : idx [a, b, c] 1 = some b := rfl
 have i2 : idx [a, b, c] 2 = some c := rfl
 rw [i0, i1, i2]
 simp only [Option.bind_some, h1, h3, h4]
 clear h1 h3 h4
 cases ok <;> cases A <;> cases B <;> rfl
theorem T7 {w : WE} (hs : w.length <= 16) (hN : 16 < N) : ∃ x y, Dp N [w] (fun y0 => AA N y0) = some ({ Area := [], Prefix := x, Suffix := y, Stroke := [] }, Bn w) /\ (Bn w = true -> x = w.take (B2 w) /\ y = w.drop (B2 w)) := by
 obtain ⟨x, y, h1, h2⟩ := JS (w := w) (N := N) (by omega) (by omega)
 exact ⟨x, y, Vm (z0 := fun y0 => AA N y0) h1, h2⟩
theorem T6 {a b : WE} (ha : a.length <= 16) (hb : b.length <= 16) (hN : 16 < N) : ∃ x y, Do N [a, b] (fun y0 => AA N y0) = some ({ Area := a, Prefix := x, Suffix := y, Stroke := [] }, Bn b && CT a && decide (a.length < b.length)) /\ (Bn b = true -> x = b.take (B2 b) /\ y = b.drop (B2 b)) := by
 obtain ⟨x, y, h1, h2⟩ := JS (w := b) (N := N) (by omega) (by omega)
 exact ⟨x, y, Vl (z0 := fun y0 => AA N y0) h1 (Qf (N := N) (s := a) (by omega) (by omega)), h2⟩
theorem T5 {a b : WE} (ha : a.length <= 16) (hb : b.length <= 16) (hN : 16 < N) : ∃ x y, Dn N [a, b] (fun y0 => AA N y0) = some ({ Area := [], Prefix := x, Suffix := y, Stroke := b }, Bn a && BO b) /\ (Bn a = true -> x = a.take (B2 a) /\ y = a.drop (B2 a)) := by
 obtain ⟨x, y, h1, h2⟩ := JS (w := a) (N := N) (by omega) (by omega)
 exact ⟨x, y, Vk (z0 := fun y0 => AA N y0) h1 (O7 (N := N) (s := b) (by omega) (by omega)), h2⟩
theorem T4 {a b c : WE} (ha : a.length <= 16) (hb : b.length <= 16) (hc : c.length <= 16) (hN : 16 < N) : ∃ x y, Dm N [a, b, c] (fun y0 => AA N y0) = some ({ Area := a, Prefix := x, Suffix := y, Stroke := c }, Bn b && CT a && BO c) /\ (Bn b = true -> x = b.take (B2 b) /\ y = b.drop (B2 b)) := by
 obtain ⟨x, y, h1, h2⟩ := JS (w := b) (N := N) (by omega) (by omega)
 exact ⟨x, y, Vj (z0 := fun y0 => AA N y0) h1 (Qf (N := N) (s := a) (by omega) (by omega)) (O7 (N := N) (s := c) (by omega) (by omega)), h2⟩
def PO (ws : List WE) (fm : BE) : Option (Bg × Bool) := if fm.words_ = (ws.length : Int) then match fm.split_ ws with
 | some (p, true) => some (p, true)
 | _ => none
 else none
theorem PT {s : WE} {ws : List WE} (hle : ∀ w, w ∈ ws -> w.length <= 16) (hN : 4 < N) (f2 f3 f4 f5 : List WE -> Option (Bg × Bool))
  (H2 : ∀ w : WE, w.length <= 16 -> ∃ x y, f2 [w] = some ({ Area := [], Prefix := x, Suffix := y, Stroke := [] }, Bn w) /\ (Bn w = true -> x = w.take (B2 w) /\ y = w.drop (B2 w)))
  (H3 : ∀ a b : WE, a.length <= 16 -> b.length <= 16 -> ∃ x y, f3 [a, b] = some ({ Area := a, Prefix := x, Suffix := y, Stroke := [] }, Bn b && CT a && decide (a.length < b.length)) /\ (Bn b = true -> x = b.take (B2 b) /\ y = b.drop (B2 b)))
  (H4 : ∀ a b : WE, a.length <= 16 -> b.length <= 16 -> ∃ x y, f4 [a, b] = some ({ Area := [], Prefix := x, Suffix := y, Stroke := b }, Bn a && BO b) /\ (Bn a = true -> x = a.take (B2 a) /\ y = a.drop (B2 a)))
  (H5 : ∀ a b c : WE, a.length <= 16 -> b.length <= 16 -> c.length <= 16 -> ∃ x y, f5 [a, b, c] = some ({ Area := a, Prefix := x, Suffix := y, Stroke := c }, Bn b && CT a && BO c) /\ (Bn b = true -> x = b.take (B2 b) /\ y = b.drop (B2 b))) :
  ((AX (CP N s ws [({ words_ := 1, split_ := f2 } : BE), { words_ := 2, split_ := f3 }, { words_ := 2, split_ := f4 }, { words_ := 3, split_ := f5 }]) N 0).bind fun o => o.k (fun r => some r) (fun _ => some (zp, false))) = some (match JB ws with | some t => (QS t, true) | none => (zp, false)) := by
 generalize hF : ([_, _, _, _] : List BE) = F
 have htot : ∀ fm, fm ∈ F -> fm.words_ = (ws.length : Int) -> ∃ r, fm.split_ ws = some r := by
  subst hF
  intro fm hfm hw
  simp only [List.mem_cons, List.not_mem_nil, or_false] at hfm
  rcases hfm with rfl | rfl | rfl | rfl <;> simp only at hw ⊢
  ·match ws, hw with
   | [w], _ => obtain ⟨_, _, h, _⟩ := H2 w (hle w (by simp)); exact ⟨_, h⟩
  ·match ws, hw with
   | [a, b], _ => obtain ⟨_, _, h, _⟩ := H3 a b (hle a (by simp)) (hle b (by simp)); exact ⟨_, h⟩
  ·match ws, hw with
   | [a, b], _ => obtain ⟨_, _, h, _⟩ := H4 a b (hle a (by simp)) (hle b (by simp)); exact ⟨_, h⟩
  ·match ws, hw with
   | [a, b, c], _ => obtain ⟨_, _, h, _⟩ := H5 a b c (hle a (by simp)) (hle b (by simp)) (hle c (by simp)); exact ⟨_, h⟩
 have hlen : F.length = 4 := by subst hF; rfl
 have hb : ∀ i (h : i < F.length), CP N s ws F (i : Int) = some ((PO ws F[i]).elim (.next ((i + 1 : Nat) : Int)) .ret) := by
  intro i h
  unfold CP
  have hi : idx F (i : Int) = some F[i] := by unfold idx; rw [if_pos (by omega)]; simp [h]
  rw [Ez h, cond_true, hi, Option.bind_some, HG i (by omega)]
  have htt := htot _ (List.getElem_mem h)
  generalize F[i] = fm at htt
  unfold PO
  by_cases hw : fm.words_ = (ws.length : Int)
  ·obtain ⟨⟨p, ok⟩, hr⟩ := htt hw
   rw [if_pos hw, show (fm.words_ != (ws.length : Int)) = false by simp [hw], cond_false, hr]
   cases ok <;> rfl
  ·rw [if_neg hw, show (fm.words_ != (ws.length : Int)) = true by simp [hw], cond_true]
   rfl
 have he : CP N s ws F (F.length : Int) = some (.done (F.length : Int)) := by
  unfold CP
  rw [Dr, cond_false]
 rw [Ql (l := F) (PO ws) hb he (by omega)]
 subst hF
 match ws, hle with
 | [], _ => rfl
 | [w], hle =>
  obtain ⟨x, y, h1, h2⟩ := H2 w (hle w (by simp))
  unfold JB
  have e : (([w] : List WE).length : Int) = 1 := rfl
  simp only [List.findSome?_cons, List.findSome?_nil, PO, e, h1]
  cases hB : Bn w with
  | false => rfl
  | true => obtain ⟨rfl, rfl⟩ := h2 hB; rfl
 | [a, b], hle =>
  have ha := hle a (by simp)
  have hb := hle b (by simp)
  obtain ⟨x, y, h1, h2⟩ := H3 a b ha hb
  obtain ⟨x', y', h3, h4⟩ := H4 a b ha hb
  unfold JB
  have e : (([a, b] : List WE).length : Int) = 2 := rfl
  simp only [List.findSome?_cons, List.findSome?_nil, PO, e, h1, h3]
  clear h1 h3 H2 H3 H4 H5 htot hlen hb he
  generalize decide (a.length < b.length) = D
  generalize CT a = A
  generalize BO b = S
  cases hB : Bn b with
  | false =>
   cases hA : Bn a with
   | false => cases A <;> cases D <;> rfl
   | true =>
    obtain ⟨rfl, rfl⟩ := h4 hA
    cases A <;> cases D <;> cases S <;> rfl
  | true =>
   obtain ⟨rfl, rfl⟩ := h2 hB
   cases hA : Bn a with
   | false => cases A <;> cases D <;> rfl
   | true =>
    obtain ⟨rfl, rfl⟩ := h4 hA
    cases A <;> cases D <;> cases S <;> rfl
 | [a, b, c], hle =>
  have ha := hle a (by simp)
  have hb := hle b (by simp)
  have hc := hle c (by simp)
  obtain ⟨x, y, h1, h2⟩ := H5 a b c ha hb hc
  unfold JB
  have e : (([a, b, c] : List WE).length : Int) = 3 := rfl
  simp only [List.findSome?_cons, List.findSome?_nil, PO, e, h1]
  clear h1 H2 H3 H4 H5 htot hlen hb he
  generalize CT a = A
  generalize BO c = S
  cases hB : Bn b with
  | false => cases A <;> cases S <;> rfl
  | true =>
   obtain ⟨rfl, rfl⟩ := h2 hB
   cases A <;> cases S <;> rfl
 | a :: b :: c :: d :: t, _ =>
  unfold JB
  have e : ∀ k : Int, k <= 3 -> ¬ k = ((a :: b :: c :: d :: t).length : Int) := by intro k hk; simp only [List.length_cons]; omega
  simp only [List.findSome?_cons, List.findSome?_nil, PO, if_neg (e 1 (by decide)), if_neg (e 2 (by decide)), if_neg (e 3 (by decide))]
  rfl
theorem T1 (s : WE) (hN : 4294967300 < N) : IG N s = some (PU s) := by
 unfold IG PU callB
 by_cases hl : s.length <= 16
 ·rw [decide_eq_false (by omega), cond_false, if_pos hl, LF 47 (by omega), Option.bind_some]
  have hle := Qc 47 s
  generalize pcs 47 s = ws at hle
  unfold KP
  rw [Option.bind_some]
  exact PT (fun w h => Nat.le_trans (hle w h) hl) (by omega) _ _ _ _ (fun w h => T7 h (by omega)) (fun a b h h' => T6 h h' (by omega)) (fun a b h h' => T5 h h' (by omega)) (fun a b c h h' h'' => T4 h h' h'' (by omega))
 ·rw [decide_eq_true (by omega), cond_true, if_neg hl]
  rfl
end
section
open Go.Lib (decDigits)
def Hw (a : Nat) (l : WE) : Nat := l.foldl (fun a b => 10 * a + (b.toNat - 48)) a
def FL (l : WE) : Nat := Hw 0 l
theorem Gw (a : Nat) (b : UInt8) (l : WE) : Hw a (b :: l) = Hw (10 * a + (b.toNat - 48)) l := by unfold Hw; rw [List.foldl_cons]
theorem RB (a : Nat) (l : WE) (b : UInt8) : Hw a (l ++ [b]) = 10 * Hw a l + (b.toNat - 48) := by unfold Hw; rw [List.foldl_append]; rfl
theorem Rz (l : WE) (b : UInt8) : FL (l ++ [b]) = 10 * FL l + (b.toNat - 48) := RB 0 l b
theorem Ug {b : UInt8} (h : isD b = true) : 48 <= b.toNat /\ b.toNat <= 57 := by
 unfold isD at h
 simpa only [Bool.and_eq_true, decide_eq_true_eq] using h
theorem TX (l : WE) : ∀ (a k : Nat), l.all isD = true -> a < 10 ^ k -> Hw a l < 10 ^ (k + l.length) := by
 induction l with
 | nil => intro a k _ h; exact h
 | cons b l ih =>
  intro a k hd h
  rw [Gw]
  simp only [List.all_cons, Bool.and_eq_true] at hd
  have hb := Ug hd.1
  have hp : 10 ^ (k + 1) = 10 ^ k * 10 := Nat.pow_succ ..
  have := ih (10 * a + (b.toNat - 48)) (k + 1) hd.2 (by omega)
  rw [List.length_cons, show k + (l.length + 1) = k + 1 + l.length by omega]
  exact this
theorem TW {l : WE} (h : l.all isD = true) : FL l < 10 ^ l.length := by
 have := TX l 0 0 h (by decide)
 simpa [FL] using this
theorem dig {b : UInt8} (h : isD b = true) : Go.Lib.digitVal b = some (b.toNat - 48) := by
 unfold isD at h
 simp only [Bool.and_eq_true, decide_eq_true_eq] at h
 unfold Go.Lib.digitVal
 rw [if_pos h]
theorem J1 : ∀ (l : WE) (a : Nat), l.all isD = true -> Go.Lib.decFrom a l = some (Hw a l)
 | [], a, _ => rfl
 | b :: l, a, h => by
  simp only [List.all_cons, Bool.and_eq_true] at h
  unfold Go.Lib.decFrom
  rw [dig h.1, Gw, Nat.mul_comm 10 a]
  exact J1 l _ h.2
theorem M3 {l : WE} (h : l.all isD = true) (hn : 1 <= l.length) : Go.Lib.atoi l = some (FL l : Int) := by
 match l, h, hn with
 | b :: r, h, _ =>
  have hb := h
  simp only [List.all_cons, Bool.and_eq_true] at hb
  have h1 : (b == 45) = false := by rw [beq_eq_false_iff_ne]; rintro rfl; exact absurd hb.1 (by decide)
  have h2 : (b == 43) = false := by rw [beq_eq_false_iff_ne]; rintro rfl; exact absurd hb.1 (by decide)
  unfold Go.Lib.atoi
  simp only [h1, h2, Bool.false_eq_true, if_false]
  unfold Go.Lib.decNat
  simp only [List.isEmpty_cons, Bool.false_eq_true, if_false]
  rw [J1 _ _ h]
  rfl
def GW (s : WE) : Bool := s.all isD && wiB s.length 1 9
def RA (s : WE) : Int := if GW s = true then (FL s : Int) else -1
theorem TT {k : Nat} (h : k <= 9) : 10 ^ k <= 1000000000 := Nat.le_trans (Nat.pow_le_pow_right (by decide) h) (by decide)
theorem LE {s : WE} (h : GW s = true) : FL s < 1000000000 /\ 1 <= s.length /\ s.length <= 9 /\ s.all isD = true := by
 unfold GW wiB at h
 simp only [Bool.and_eq_true, decide_eq_true_eq] at h
 exact ⟨Nat.lt_of_lt_of_le (TW h.1) (TT h.2.2), h.2.1, h.2.2, h.1⟩
section
variable {N : Nat} {s : WE}
theorem Mc (hN : s.length < N) : BZ N s = some (RA s) := by
 unfold BZ RA
 rw [Gv (QN N) s 9 hN, Option.bind_some, show (decide ((1 : Int) <= (s.length : Int)) && decide ((s.length : Int) <= (9 : Int))) = wiB s.length 1 9 from GN _ 1 9]
 have e : (s.all isD && wiB s.length 1 9) = GW s := rfl
 rw [e]
 cases h : GW s with
 | false => rfl
 | true =>
  have hl := LE h
  rw [Bool.not_true, cond_false, if_pos rfl]
  unfold BU
  rw [if_pos (by omega), Go.Lib.atoiAll_short s (by omega), M3 hl.2.2.2 hl.2.1]
  rfl
end
def NP (d : Nat) : UInt8 := UInt8.ofNat (48 + d)
theorem H7 {d : Nat} (h : d < 10) : (NP d).toNat = 48 + d := by unfold NP; rw [UInt8.toNat_ofNat']; omega
theorem Q8 {d : Nat} (h : d < 10) : isD (NP d) = true := by unfold isD; rw [H7 h]; simp; omega
theorem H0 {u : Nat} (h : u < 10) : decDigits u = [NP u] := by rw [decDigits, dif_pos h]; rfl
theorem Ot {u : Nat} (h : ¬ u < 10) : decDigits u = decDigits (u / 10) ++ [NP (u % 10)] := by
 conv => lhs; rw [decDigits, dif_neg h]
 rfl
theorem MK (u : Nat) : 1 <= (decDigits u).length := by
 by_cases h : u < 10
 ·rw [H0 h]; simp
 ·rw [Ot h]; simp
theorem H1 (u : Nat) : (decDigits u).all isD = true := by
 induction u using Nat.strongRecOn with
 | _ u ih =>
  by_cases h : u < 10
  ·rw [H0 h]; simp [Q8 h]
  ·rw [Ot h, List.all_append, ih (u / 10) (by omega)]
   simp [Q8 (Nat.mod_lt u (by decide : 0 < 10))]
theorem Kw (u : Nat) : FL (decDigits u) = u := by
 induction u using Nat.strongRecOn with
 | _ u ih =>
  by_cases h : u < 10
  ·rw [H0 h]
   show 10 * 0 + ((NP u).toNat - 48) = u
   rw [H7 h]; omega
  ·rw [Ot h, Rz, ih (u / 10) (by omega), H7 (Nat.mod_lt u (by decide : 0 < 10))]; omega
theorem G3 : ∀ (k u : Nat), u < 10 ^ (k + 1) -> (decDigits u).length <= k + 1
 | 0, u, h => by rw [H0 (by simpa using h)]; simp
 | k + 1, u, h => by
  by_cases hu : u < 10
  ·rw [H0 hu]; simp
  ·rw [Ot hu, List.length_append]
   have := G3 k (u / 10) (by rw [Nat.pow_succ] at h; omega)
   simp; omega
def dP (k u : Nat) : WE := List.replicate (k - (decDigits u).length) 48 ++ decDigits u
theorem Gi (k u : Nat) : (dP k u).all isD = true := by
 unfold dP
 rw [List.all_append, H1, Bool.and_true, List.all_eq_true]
 intro b hb
 rw [List.eq_of_mem_replicate hb]; decide
theorem Qe (j : Nat) (l : WE) : Hw 0 (List.replicate j 48 ++ l) = Hw 0 l := by
 induction j with
 | zero => rfl
 | succ j ih => rw [List.replicate_succ, List.cons_append, Gw]; exact ih
theorem Qt (k u : Nat) : FL (dP k u) = u := by
 unfold dP FL
 rw [Qe]
 exact Kw u
theorem Kx (k u : Nat) : k <= (dP k u).length /\ 1 <= (dP k u).length := by
 unfold dP
 have := MK u
 rw [List.length_append, List.length_replicate]
 omega
theorem H6 {k j u : Nat} (h : u < 10 ^ (j + 1)) : (dP k u).length <= max k (j + 1) := by
 unfold dP
 have := G3 j u h
 rw [List.length_append, List.length_replicate]
 omega
theorem QL : ∀ n, Go.Lib.repeatL [48] n = List.replicate n 48
 | 0 => rfl
 | n + 1 => by unfold Go.Lib.repeatL; rw [QL n]; rfl
section
variable {N : Nat}
theorem Md (u : Nat) (h : u <= 1000000000) : strconv_Itoa N (u : Int) = some (decDigits u) := by
 unfold strconv_Itoa
 rw [if_pos (by omega), Go.Lib.itoa_nonneg]
theorem Mb (u k : Nat) (h : u <= 1000000000) (hk : k <= 100) : BM N (u : Int) (k : Int) = some (dP k u) := by
 unfold BM
 rw [Md u h, Option.bind_some]
 have hl : (decDigits u).length <= 10 := G3 9 u (by omega)
 rw [E7 (by omega) (by omega)]
 have e : max (0 : Int) ((k : Int) - ((decDigits u).length : Int)) = ((k - (decDigits u).length : Nat) : Int) := by omega
 rw [e]
 unfold strings_Repeat
 rw [if_pos (by simp; omega), Option.bind_some, Int.toNat_natCast, QL]
 rw [AZ (by simp; omega)]
 rfl
end
end
section
open Go.Lib (decDigits)
def E9 (u : Nat) : WE := decDigits (u / 1440 + 1) ++ 32 :: (dP 2 (u / 60 % 24) ++ dP 2 (u % 60))
def Ey (x : Int) : WE × Int := if 0 <= x /\ x <= 20000 then (E9 x.toNat, 0) else ([], 1)
theorem Sb (u k : Nat) (h : u < 4611686018427387904) : W64 (Int.tdiv (u : Int) (k : Int)) = ((u / k : Nat) : Int) := by
 have : Int.tdiv (u : Int) (k : Int) = ((u / k : Nat) : Int) := by rw [Int.tdiv_eq_ediv_of_nonneg (by omega)]; rfl
 have h2 : u / k <= u := Nat.div_le_self _ _
 rw [this]
 generalize u / k = v at h2
 rw [E7 (by omega) (by omega)]
theorem Sa (u k : Nat) : Int.tmod (u : Int) (k : Int) = ((u % k : Nat) : Int) := by
 rw [Int.tmod_eq_emod_of_nonneg (by omega)]; rfl
theorem Oq {u : Nat} (h : u < 100000) : (decDigits u).length <= 5 := G3 4 u (by omega)
theorem ID {u : Nat} (h : u < 100) : (dP 2 u).length = 2 := by
 have h1 := Kx 2 u
 have h2 := H6 (k := 2) (j := 1) (u := u) (by omega)
 omega
section
variable {N : Nat}
theorem KT (x : Int) : Co N x = some (Ey x) := by
 unfold Co Ey
 rw [Ma, Option.bind_some]
 by_cases h : 0 <= x /\ x <= 20000
 ·rw [if_pos h, decide_eq_true h.1, decide_eq_true h.2]
  obtain ⟨u, rfl⟩ : ∃ u : Nat, x = u := ⟨x.toNat, by omega⟩
  have hu : u <= 20000 := by omega
  simp only [Bool.and_self, Bool.not_true, cond_false]
  have e1 := Sb u 1440 (by omega)
  have e2 := Sb u 60 (by omega)
  simp only [Int.cast_ofNat_Int] at e1 e2
  have e3 := Sa (u / 60) 24
  have e4 := Sa u 60
  simp only [Int.cast_ofNat_Int] at e3 e4
  rw [e1, e2, e3, e4, HG (u / 1440) (by omega), Md _ (by omega), Option.bind_some]
  have hl1 := Oq (u := u / 1440 + 1) (by omega)
  have hl2 := ID (u := u / 60 % 24) (by omega)
  have hl3 := ID (u := u % 60) (by omega)
  have p1 := Mb (N := N) (u / 60 % 24) 2 (by omega) (by omega)
  have p2 := Mb (N := N) (u % 60) 2 (by omega) (by omega)
  simp only [Int.cast_ofNat_Int] at p1 p2
  rw [AZ (by simp; omega), Option.bind_some, p1, Option.bind_some, AZ (by simp; omega), Option.bind_some, p2, Option.bind_some, AZ (by simp; omega), Option.bind_some]
  unfold E9
  simp
 ·rw [if_neg h]
  have : (decide (0 <= x) && decide (x <= 20000)) = false := by
   rw [Bool.and_eq_false_iff, decide_eq_false_iff_not, decide_eq_false_iff_not]; omega
  rw [this]; rfl
def Lj (p q : Nat) : Nat := (p - 1) * 1440 + q / 100 * 60 + q % 100
theorem TA {p q : Nat} (h1 : 1 <= p) (hp : p < 1000000000) (hq : q < 1000000000) : W64 ((W64 ((W64 ((W64 ((p : Int) - 1)) * 1440)) + (W64 ((W64 (Int.tdiv (q : Int) 100)) * 60)))) + (Int.tmod (q : Int) 100)) = (Lj p q : Int) := by
 have e1 := Sb q 100 (by omega)
 have e2 := Sa q 100
 simp only [Int.cast_ofNat_Int] at e1 e2
 rw [e1, e2, E7 (n := (p : Int) - 1) (by omega) (by omega), E7 (n := ((p : Int) - 1) * 1440) (by omega) (by omega), E7 (n := ((q / 100 : Nat) : Int) * 60) (by omega) (by omega)]
 rw [E7 (n := ((p : Int) - 1) * 1440 + ((q / 100 : Nat) : Int) * 60) (by omega) (by omega), E7 (by omega) (by omega)]
 unfold Lj
 omega
def Kr (s a b : WE) : Int × Int := if GW a && GW b && decide (1 <= FL a) && decide (Ey (Lj (FL a) (FL b)) = (s, 0)) then ((Lj (FL a) (FL b) : Int), 0) else (0, 13)
def GU (s : WE) : Int × Int := match pcs 32 s with
 | [a, b] => Kr s a b
 | _ => (0, 13)
theorem RC {s : WE} (h : (32 : UInt8) ∈ s) : GW s = false := by
 cases hh : GW s with
 | false => rfl
 | true =>
  have := List.all_eq_true.1 (LE hh).2.2.2 _ h
  revert this; decide
theorem SG : GW [] = false := rfl
theorem SA (s t : WE) (e : Int) : ((e != 0) || (t != s)) = !decide ((t, e) = (s, 0)) := by
 by_cases h1 : e = 0
 ·by_cases h2 : t = s
  ·subst h1; subst h2; simp
  ·rw [decide_eq_false (fun h => h2 (by injection h))]; simp [h2]
 ·rw [decide_eq_false (fun h => h1 (by injection h))]; simp [h1]
theorem NI (s a b : WE) (ha : a.length < N) (hb : b.length < N) :
  ((BZ N a).bind fun r9 => ((BZ N b).bind fun r17 => (bif ((decide (r9 < 1)) || ((decide (r9 > 20000)) || (decide (r17 < 0)))) then some ((0 : Int), (13 : Int)) else ((Co N (W64 ((W64 ((W64 ((W64 (r9 - 1)) * 1440)) + (W64 ((W64 (Int.tdiv r17 100)) * 60)))) + (Int.tmod r17 100)))).bind fun r38 => (bif ((r38.2 != 0) || (r38.1 != s)) then some (0, 13) else some ((W64 ((W64 ((W64 ((W64 (r9 - 1)) * 1440)) + (W64 ((W64 (Int.tdiv r17 100)) * 60)))) + (Int.tmod r17 100))), 0)))))) = some (Kr s a b) := by
 rw [Mc ha, Mc hb, Option.bind_some, Option.bind_some]
 unfold RA Kr
 cases hA : GW a with
 | false =>
  simp only [Bool.false_eq_true, if_false, Bool.false_and]
  rfl
 | true =>
  cases hB : GW b with
  | false =>
   simp only [Bool.false_eq_true, if_false, if_true, Bool.and_false, Bool.false_and]
   rw [show decide ((-1 : Int) < 0) = true from rfl, Bool.or_true, Bool.or_true]; rfl
  | true =>
   simp only [if_true, Bool.and_self, Bool.true_and]
   have hp := LE hA
   have hq := LE hB
   generalize FL a = p at hp ⊢
   generalize FL b = q at hq ⊢
   by_cases h1 : 1 <= p
   ·rw [decide_eq_false (show ¬ (p : Int) < 1 by omega), decide_eq_true h1, decide_eq_false (show ¬ (q : Int) < 0 by omega), Bool.false_or, Bool.or_false, Bool.true_and, TA h1 hp.1 hq.1]
    by_cases h2 : p <= 20000
    ·rw [decide_eq_false (show ¬ (p : Int) > 20000 by omega), cond_false, KT, Option.bind_some, SA]
     have : ((Ey (Lj p q : Int)).1, (Ey (Lj p q : Int)).2) = Ey (Lj p q : Int) := rfl
     rw [this]
     by_cases h3 : Ey (Lj p q : Int) = (s, 0)
     ·rw [decide_eq_true h3, if_pos rfl]; rfl
     ·rw [decide_eq_false h3]; rfl
    ·rw [decide_eq_true (show (p : Int) > 20000 by omega), cond_true]
     have h3 : ¬ Ey (Lj p q : Int) = (s, 0) := by
      unfold Ey Lj
      rw [if_neg (by omega)]
      intro h; injection h with h1 h2; exact absurd h2 (by decide)
     rw [decide_eq_false h3]; rfl
   ·rw [decide_eq_true (show (p : Int) < 1 by omega), decide_eq_false h1]; rfl
theorem L7 {s a b : WE} (h : GW b = false) : Kr s a b = (0, 13) := by unfold Kr; rw [h]; simp
theorem OS (s : WE) (hs : s.length < 4294967281) (hN : 4294967300 < N) : FF N s = some (GU s) := by
 unfold FF
 have hc : strings_Cut N s [32] = some (Go.Lib.cut s [32]) := by unfold strings_Cut; rw [if_pos hs]
 rw [hc, Option.bind_some]
 unfold GU
 by_cases h : (32 : UInt8) ∈ s
 ·obtain ⟨a, t, rfl, ha⟩ := Ee h
  simp only [List.length_append, List.length_cons] at hs
  rw [Ps ha, FP ha]
  simp only
  rw [NI _ a t (by omega) (by omega)]
  by_cases ht : (32 : UInt8) ∈ t
  ·obtain ⟨a', t', rfl, ha'⟩ := Ee ht
   rw [FP ha', L7 (RC ht)]
   cases hp : pcs 32 t' with
   | nil => exact absurd hp (GT 32 t')
   | cons x l => rfl
  ·rw [ER ht]
 ·rw [Pt h, ER h]
  simp only
  rw [NI _ s [] (by omega) (by simp; omega), L7 SG]
end
theorem SF (a : Nat) (l : WE) : Hw a l = a * 10 ^ l.length + Hw 0 l := by
 induction l generalizing a with
 | nil => simp [Hw]
 | cons b l ih =>
  rw [Gw, Gw, ih (10 * a + (b.toNat - 48)), ih (10 * 0 + (b.toNat - 48)), List.length_cons, Nat.pow_succ, Nat.add_mul, Nat.mul_comm (10 ^ l.length) 10, <- Nat.mul_assoc, Nat.mul_comm a 10, Nat.mul_zero, Nat.zero_add, Nat.add_assoc]
theorem SE (l m : WE) : FL (l ++ m) = FL l * 10 ^ m.length + FL m := by
 unfold FL
 rw [show Hw 0 (l ++ m) = Hw (Hw 0 l) m by unfold Hw; rw [List.foldl_append], SF]
theorem no32 {l : WE} (h : l.all isD = true) : (32 : UInt8) ∉ l := fun hm => by
 have := List.all_eq_true.1 h _ hm
 revert this; decide
theorem Jg {u : Nat} (h : u <= 20000) : GU (E9 u) = ((u : Int), 0) := by
 have hl1 := Oq (u := u / 1440 + 1) (by omega)
 have hl2 := ID (u := u / 60 % 24) (by omega)
 have hl3 := ID (u := u % 60) (by omega)
 have hall : (dP 2 (u / 60 % 24) ++ dP 2 (u % 60)).all isD = true := by rw [List.all_append, Gi, Gi]; rfl
 have hp : pcs 32 (E9 u) = [decDigits (u / 1440 + 1), dP 2 (u / 60 % 24) ++ dP 2 (u % 60)] := by
  unfold E9
  rw [FP (no32 (H1 _)), ER (no32 hall)]
 unfold GU
 rw [hp]
 simp only
 unfold Kr
 have n1 : GW (decDigits (u / 1440 + 1)) = true := by
  unfold GW wiB; have := MK (u / 1440 + 1); rw [H1]; simp; omega
 have n2 : GW (dP 2 (u / 60 % 24) ++ dP 2 (u % 60)) = true := by
  unfold GW wiB; rw [hall]; simp [hl2, hl3]
 have v2 : FL (dP 2 (u / 60 % 24) ++ dP 2 (u % 60)) = u / 60 % 24 * 100 + u % 60 := by
  rw [SE, Qt, Qt, hl3]
 have e : Lj (u / 1440 + 1) (u / 60 % 24 * 100 + u % 60) = u := by unfold Lj; omega
 have hpr : Ey (u : Int) = (E9 u, 0) := by unfold Ey; rw [if_pos (by omega)]; rfl
 rw [n1, n2, Kw, v2, e, hpr, decide_eq_true (show 1 <= u / 1440 + 1 by omega), decide_eq_true rfl]
 rfl
end
theorem Pj {ρ : Type} {body : Int -> Option (Bt ρ Int)} {n : Nat} (ok : Nat -> Bool) (bad : Nat -> ρ)
  (hb : ∀ i, i < n -> body (i : Int) = some (bif ok i then .next ((i + 1 : Nat) : Int) else .ret (bad i))) (he : body (n : Int) = some (.done (n : Int))) {N : Nat} (hN : n < N) :
  ((∀ i, i < n -> ok i = true) /\ AX body N 0 = some (.done (n : Int))) \/ (∃ i, i < n /\ ok i = false /\ (∀ k, k < i -> ok k = true) /\ AX body N 0 = some (.ret (bad i))) := by
 obtain ⟨o, ho, hR⟩ := FY (body := body) n (fun i s => s = (i : Int) /\ ∀ k, k < i -> ok k = true) (fun o => ((∀ i, i < n -> ok i = true) /\ o = .done (n : Int)) \/ (∃ i, i < n /\ ok i = false /\ (∀ k, k < i -> ok k = true) /\ o = .ret (bad i))) (by
  rintro i s hi ⟨rfl, hk⟩
  by_cases h : i < n
  ·rw [hb i h]
   cases e : ok i with
   | true =>
    refine .inl ⟨_, rfl, ⟨rfl, fun k hk' => ?_⟩, h⟩
    by_cases hki : k = i
    ·subst hki; exact e
    ·exact hk k (by omega)
   | false => exact .inr ⟨_, rfl, (fun _ h => by cases h), .inr ⟨i, h, e, hk, rfl⟩⟩
  ·have : i = n := by omega
   subst this
   rw [he]
   exact .inr ⟨_, rfl, (fun _ h => by cases h), .inl ⟨hk, rfl⟩⟩) n N 0 0 (by omega) ⟨rfl, fun k hk => by omega⟩ hN
 rcases hR with ⟨h1, rfl⟩ | ⟨i, h1, h2, h3, rfl⟩
 ·exact .inl ⟨h1, ho⟩
 ·exact .inr ⟨i, h1, h2, h3, ho⟩
theorem UN (i : Nat) (h : i < 4611686018427387904) (h0 : 0 < i) : W64 ((i : Int) - 1) = ((i - 1 : Nat) : Int) := by
 rw [E7 (by omega) (by omega)]; omega
section
open Go.Lib (decDigits)
theorem QT (s : WE) : (s != []) = !decide (s = []) := by
 cases s <;> rfl
def jn (l : List WE) : WE := Go.Lib.join l [32]
theorem Qk : jn [] = [] := rfl
theorem De (x : WE) : jn [x] = x := Go.Lib.join_one x [32]
theorem Qd : ∀ (r : List WE) (x : WE), (32 : UInt8) ∉ x -> (∀ y, y ∈ r -> (32 : UInt8) ∉ y) -> pcs 32 (jn (x :: r)) = x :: r
 | [], x, hx, _ => by rw [De, ER hx]
 | y :: r, x, hx, hr => by
  have ih := Qd r y (hr y (by simp)) (fun z hz => hr z (by simp [hz]))
  have : jn (x :: y :: r) = x ++ 32 :: jn (y :: r) := by
   unfold jn
   rw [Go.Lib.join_cons, Go.Lib.join_cons]
   unfold Go.Lib.joinTail
   simp
  rw [this, FP hx, ih]
section
variable {N : Nat}
theorem VG (a b : WE) (hN : 4294967300 < N) : EM N [a, b] = some (if a = [] then b else a) := by
 obtain ⟨M, rfl⟩ : ∃ M, N = M + 3 := ⟨N - 3, by omega⟩
 unfold EM
 by_cases ha : a = []
 ·rw [if_pos ha]
  by_cases hb : b = []
  ·subst ha; subst hb; rfl
  ·have e1 : Cz (M + 3) [a, b] 0 = some (.next 1) := by subst ha; rfl
   have e2 : Cz (M + 3) [a, b] 1 = some (.ret b) := by
    show (bif (b != ([] : WE)) then some (.ret b) else some (.next (W64 (1 + 1)))) = some (Bt.ret b)
    rw [QT, decide_eq_false hb]; rfl
   rw [AX, e1]
   simp only
   rw [AX, e2]
   rfl
 ·rw [if_neg ha]
  have e1 : Cz (M + 3) [a, b] 0 = some (.ret a) := by
   show (bif (a != ([] : WE)) then some (.ret a) else some (.next (W64 (0 + 1)))) = some (Bt.ret a)
   rw [QT, decide_eq_false ha]; rfl
  rw [AX, e1]
  rfl
theorem Ll {l : List AK} {p : AK -> Option Bool} (F : AK -> Bool) (hp : ∀ x, x ∈ l -> p x = some (F x)) (hl : l.length < 4000000000) (hN : 4294967300 < N) : AY N l p = some (l.any F) := by
 unfold AY Bv
 rcases Pj (body := AJ N l p) (n := l.length) (fun i => !((l[i]?.map F).getD false)) (fun i => (i : Int)) (by
   intro i hi
   unfold AJ
   rw [Ez hi, cond_true, Ch hi, Option.bind_some, hp _ (List.getElem_mem hi), Option.bind_some, HG i (by omega), List.getElem?_eq_getElem hi]
   simp only [Option.map_some, Option.getD_some]
   cases F l[i] <;> rfl) (by
   unfold AJ
   rw [Dr, cond_false]) (N := N) (by omega) with ⟨g1, g2⟩ | ⟨i, hi, g1, _, g2⟩
 ·rw [g2]
  have : l.any F = false := by
   rw [List.any_eq_false]
   intro x hx
   obtain ⟨i, hi, rfl⟩ := List.getElem_of_mem hx
   have := g1 i hi
   rw [List.getElem?_eq_getElem hi] at this
   simpa using this
  rw [this]; rfl
 ·rw [g2]
  have : l.any F = true := by
   rw [List.any_eq_true]
   rw [List.getElem?_eq_getElem hi] at g1
   exact ⟨l[i], List.getElem_mem hi, by simpa using g1⟩
  rw [this]
  show some (decide ((i : Int) >= 0)) = some true
  rw [decide_eq_true (by omega)]
def Qp (h : Bool) (n m : Int) : Bool := bif h then (decide (1 <= n) && decide (n <= m)) else n == 0
def CH (L : Ac) (E : Ad) : Bool := Qp L.Report E.Report 599 && (Qp L.Serial E.Serial 99999 && Qp L.Zone E.Zone 99)
theorem UZ (P : AK) : BT N P = some (!Qp P.has_ P.n_ P.most_) := by
 unfold BT Qp
 rw [Ma, Option.bind_some]
 obtain ⟨h, n, m, d⟩ := P
 simp only
 cases h with
 | true => cases (decide (1 <= n) && decide (n <= m)) <;> rfl
 | false =>
  by_cases hn : n = 0
  ·subst hn
   rw [show (decide ((1 : Int) <= 0) && decide (0 <= m)) = false by rw [decide_eq_false (by omega)]; rfl]
   rfl
  ·have e1 : (n != 0) = true := by simpa using hn
   have e2 : (n == 0) = false := by simpa using hn
   rw [e1, e2]
   cases (decide (1 <= n) && decide (n <= m)) <;> rfl
theorem LW (L : Ac) (E : Ad) (hN : 4294967300 < N) : BS N L E = some (CH L E) := by
 unfold BS
 unfold CD
 rw [Option.bind_some, Ll (fun P => !Qp P.has_ P.n_ P.most_) (fun x _ => UZ x) (by simp) hN, Option.bind_some]
 unfold CH
 simp
def fs (L : Ac) (E : Ad) : List WE := (if L.Report = true then [dP 1 E.Report.toNat] else []) ++ ((if L.Serial = true then [dP 3 E.Serial.toNat] else []) ++ (if L.Zone = true then [dP 2 E.Zone.toNat] else []))
def E8 (L : Ac) (E : Ad) : WE := if fs L E = [] then [45] else jn (fs L E)
def GS (L : Ac) (E : Ad) : WE × Int := if CH L E = true then (E8 L E, 0) else ([], 1)
structure OkE (L : Ac) (E : Ad) : Prop where
 r : if L.Report = true then 1 <= E.Report /\ E.Report <= 599 else E.Report = 0
 s : if L.Serial = true then 1 <= E.Serial /\ E.Serial <= 99999 else E.Serial = 0
 z : if L.Zone = true then 1 <= E.Zone /\ E.Zone <= 99 else E.Zone = 0
theorem okE {L : Ac} {E : Ad} (h : CH L E = true) : OkE L E := by
 unfold CH Qp at h
 simp only [Bool.and_eq_true] at h
 obtain ⟨h1, h2, h3⟩ := h
 constructor
 ·cases hL : L.Report <;> rw [hL] at h1 <;> simpa using h1
 ·cases hL : L.Serial <;> rw [hL] at h2 <;> simpa using h2
 ·cases hL : L.Zone <;> rw [hL] at h3 <;> simpa using h3
theorem OkE.le {L : Ac} {E : Ad} (h : OkE L E) : (0 <= E.Report /\ E.Report <= 599) /\ (0 <= E.Serial /\ E.Serial <= 99999) /\ 0 <= E.Zone /\ E.Zone <= 99 := by
 obtain ⟨h1, h2, h3⟩ := h
 refine ⟨?_, ?_, ?_⟩
 ·split at h1 <;> omega
 ·split at h2 <;> omega
 ·split at h3 <;> omega
theorem JY {L : Ac} {E : Ad} (h : OkE L E) : ∀ w, w ∈ fs L E -> w.length <= 5 /\ w.all isD = true /\ 1 <= w.length := by
 obtain ⟨h1, h2, h3⟩ := h.le
 intro w hw
 unfold fs at hw
 simp only [List.mem_append] at hw
 have l1 := H6 (k := 1) (j := 2) (u := E.Report.toNat) (by omega)
 have l2 := H6 (k := 3) (j := 4) (u := E.Serial.toNat) (by omega)
 have l3 := H6 (k := 2) (j := 1) (u := E.Zone.toNat) (by omega)
 rcases hw with hw | hw | hw
 ·split at hw
  ·simp at hw; subst hw; exact ⟨by omega, Gi _ _, (Kx _ _).2⟩
  ·cases hw
 ·split at hw
  ·simp at hw; subst hw; exact ⟨by omega, Gi _ _, (Kx _ _).2⟩
  ·cases hw
 ·split at hw
  ·simp at hw; subst hw; exact ⟨by omega, Gi _ _, (Kx _ _).2⟩
  ·cases hw
theorem Ok (L : Ac) (E : Ad) : (fs L E).length <= 3 := by
 unfold fs
 split <;> split <;> split <;> simp
theorem SY : ∀ l : List WE, (∀ w, w ∈ l -> w.length <= 5) -> (jn l).length <= l.length * 6
 | [], _ => by simp [Qk]
 | [x], h => by rw [De]; have := h x (by simp); simp; omega
 | x :: y :: r, h => by
  have ih := SY (y :: r) (fun w hw => h w (List.mem_cons_of_mem _ hw))
  have hx := h x (by simp)
  have : jn (x :: y :: r) = x ++ 32 :: jn (y :: r) := by
   unfold jn
   rw [Go.Lib.join_cons, Go.Lib.join_cons]
   unfold Go.Lib.joinTail
   simp
  rw [this, List.length_append, List.length_cons, List.length_cons (a := x)]
  omega
theorem VR {L : Ac} {E : Ad} (h : OkE L E) : (jn (fs L E)).length <= 18 := by
 have := SY (fs L E) (fun w hw => (JY h w hw).1)
 have := Ok L E
 omega
theorem VI {l : List WE} (h : ∀ w, w ∈ l -> 1 <= w.length) : jn l = [] ↔ l = [] := by
 constructor
 ·intro hj
  match l, h, hj with
  | [], _, _ => rfl
  | x :: r, h, hj =>
   exfalso
   unfold jn at hj
   rw [Go.Lib.join_cons] at hj
   have := h x (by simp)
   rw [List.append_eq_nil_iff] at hj
   rw [hj.1] at this
   exact absurd this (by decide)
 ·rintro rfl; rfl
theorem US {n : Int} {k : Nat} (h0 : 0 <= n) (h1 : n <= 1000000000) (hk : k <= 100) : BM N n (k : Int) = some (dP k n.toNat) := by
 obtain ⟨u, rfl⟩ : ∃ u : Nat, n = u := ⟨n.toNat, by omega⟩
 exact Mb u k (by omega) hk
def Pr (L : Ac) (E : Ad) (i : Nat) : List WE := if i = 0 then (if L.Report = true then [dP 1 E.Report.toNat] else []) else if i = 1 then (if L.Serial = true then [dP 3 E.Serial.toNat] else []) else (if L.Zone = true then [dP 2 E.Zone.toNat] else [])
theorem Ve (L : Ac) (E : Ad) : cat 3 (Pr L E) = fs L E := by
 rw [Ij, Ij, Ij]
 unfold fs
 rw [<- List.append_assoc]
 rfl
theorem S9 (L : Ac) (E : Ad) (i : Nat) : (Pr L E i).length <= 1 := by
 unfold Pr
 split
 ·split <;> simp
 ·split <;> split <;> simp
theorem LX (L : Ac) (E : Ad) (hN : 4294967300 < N) : Ba N L E = some (GS L E) := by
 unfold Ba GS
 rw [LW L E hN, Option.bind_some]
 cases hv : CH L E with
 | false => rfl
 | true =>
  have ok := okE hv
  obtain ⟨h1, h2, h3⟩ := ok.le
  rw [Bool.not_true, cond_false, if_pos rfl]
  unfold CD
  rw [Option.bind_some]
  generalize hP : ([_, _, _] : List AK) = P
  have hstep : ∀ (i : Nat) (s : List WE), i < 3 -> s.length + 1 <= 0 + 3 * 1 -> BP N L E true P (s, (i : Int)) = some (.next (s ++ Pr L E i, ((i + 1 : Nat) : Int))) := by
   intro i s hi hs
   have p1 : BM N E.Report 1 = some (dP 1 E.Report.toNat) := US (k := 1) h1.1 (by omega) (by omega)
   have p2 : BM N E.Serial 3 = some (dP 3 E.Serial.toNat) := US (k := 3) h2.1 (by omega) (by omega)
   have p3 : BM N E.Zone 2 = some (dP 2 E.Zone.toNat) := US (k := 2) h3.1 (by omega) (by omega)
   have ha : ∀ w : WE, D3 s [w] = some (s ++ [w]) := fun w => Uw (by simp; omega)
   unfold BP
   subst hP
   simp only
   rw [HG i (by omega)]
   match i, hi with
   | 0, _ =>
    show ((bif L.Report then ((BM N E.Report 1).bind fun r88 => ((D3 s [r88]).bind fun r101 => some r101)) else some s).bind fun j78 => some (Bt.next (j78, _))) = _
    rw [p1, Option.bind_some, ha]
    unfold Pr
    cases L.Report <;> simp
   | 1, _ =>
    show ((bif L.Serial then ((BM N E.Serial 3).bind fun r88 => ((D3 s [r88]).bind fun r101 => some r101)) else some s).bind fun j78 => some (Bt.next (j78, _))) = _
    rw [p2, Option.bind_some, ha]
    unfold Pr
    cases L.Serial <;> simp
   | 2, _ =>
    show ((bif L.Zone then ((BM N E.Zone 2).bind fun r88 => ((D3 s [r88]).bind fun r101 => some r101)) else some s).bind fun j78 => some (Bt.next (j78, _))) = _
    rw [p3, Option.bind_some, ha]
    unfold Pr
    cases L.Zone <;> simp
  have hend : ∀ s : List WE, BP N L E true P (s, ((3 : Nat) : Int)) = some (.done (s, ((3 : Nat) : Int))) := by
   intro s
   subst hP
   rfl
  rw [RK (n := 3) 1 (Pr L E) (fun i _ => S9 L E i) (s0 := []) hstep hend (by omega), Ve]
  simp only [List.nil_append, Option.bind_some, Bt.k]
  have hj := VR ok
  have hl := Ok L E
  have e1 : strings_Join N (fs L E) [32] = some (jn (fs L E)) := by
   unfold strings_Join
   exact if_pos ⟨by omega, by unfold jn at hj; omega⟩
  rw [e1, Option.bind_some, VG _ _ hN, Option.bind_some]
  unfold E8
  have := VI (fun w hw => (JY ok w hw).2.2)
  by_cases hf : fs L E = []
  ·rw [if_pos hf, if_pos (this.2 hf)]
  ·rw [if_neg hf, if_neg (fun h => hf (this.1 h))]
def Hk (h : Bool) (ws : List WE) : List WE × Int := match h, ws with
 | true, w :: r => (r, RA w)
 | _, _ => (ws, 0)
def HM (L : Ac) (ws : List WE) : Ad := { Report := (Hk L.Report ws).2, Serial := (Hk L.Serial (Hk L.Report ws).1).2, Zone := (Hk L.Zone (Hk L.Serial (Hk L.Report ws).1).1).2 }
def BV (L : Ac) (s : WE) : Ad × Int := if GS L (HM L (pcs 32 s)) = (s, 0) then (HM L (pcs 32 s), 0) else ({ Report := 0, Serial := 0, Zone := 0 }, 1)
theorem Ny (h : Bool) (ws : List WE) : ∀ w, w ∈ (Hk h ws).1 -> w ∈ ws := by
 intro w hw
 match h, ws, hw with
 | true, x :: r, hw => exact List.mem_cons_of_mem _ hw
 | true, [], hw => exact hw
 | false, _, hw => exact hw
theorem LP (h : Bool) (ws : List WE) (hl : ∀ w, w ∈ ws -> w.length < N) : (bif (h && decide ((ws.length : Int) > 0)) then ((idx ws 0).bind fun x80 => ((BZ N x80).bind fun r94 => ((sub ws 1 (ws.length : Int)).bind fun r104 => some (r104, r94)))) else some (ws, (0 : Int))) = some (Hk h ws) := by
 match h, ws, hl with
 | false, _, _ => rfl
 | true, [], _ => rfl
 | true, w :: r, hl =>
  have e0 : idx (w :: r) 0 = some w := rfl
  have e1 : sub (w :: r) 1 ((w :: r).length : Int) = some r := by
   unfold sub
   rw [if_pos ⟨by omega, by simp only [List.length_cons]; omega, by omega⟩]
   simp
  rw [decide_eq_true (by simp only [List.length_cons]; omega), e0, e1, Option.bind_some, Mc (hl w (by simp))]
  rfl
theorem Sh (L : Ac) (s : WE) (hs : s.length < 4294967281) (hN : 4294967300 < N) : D5 N L s = some (BV L s) := by
 unfold D5 BV
 rw [LF 32 hs, Option.bind_some]
 have hle := Qc 32 s
 generalize pcs 32 s = ws at hle
 have hn : ∀ w, w ∈ ws -> w.length < N := fun w hw => by have := hle w hw; omega
 have c0 : ∀ (E : Ad) (b : Bool), ((CD N L E).bind fun r38 => ((idx r38 0).bind fun x46 => (bif x46.has_ then some b else some false))) = some (L.Report && b) := by
  intro E b
  show (bif L.Report then some b else some false) = _
  cases L.Report <;> rfl
 have c1 : ∀ (E : Ad) (b : Bool), ((CD N L E).bind fun r38 => ((idx r38 1).bind fun x46 => (bif x46.has_ then some b else some false))) = some (L.Serial && b) := by
  intro E b
  show (bif L.Serial then some b else some false) = _
  cases L.Serial <;> rfl
 have c2 : ∀ (E : Ad) (b : Bool), ((CD N L E).bind fun r38 => ((idx r38 2).bind fun x46 => (bif x46.has_ then some b else some false))) = some (L.Zone && b) := by
  intro E b
  show (bif L.Zone then some b else some false) = _
  cases L.Zone <;> rfl
 rw [c0, Option.bind_some, LP L.Report ws hn, Option.bind_some, c1, Option.bind_some]
 have hn1 : ∀ w, w ∈ (Hk L.Report ws).1 -> w.length < N := fun w hw => hn w (Ny _ _ w hw)
 rw [LP L.Serial _ hn1, Option.bind_some, c2, Option.bind_some]
 have hn2 : ∀ w, w ∈ (Hk L.Serial (Hk L.Report ws).1).1 -> w.length < N := fun w hw => hn1 w (Ny _ _ w hw)
 rw [LP L.Zone _ hn2, Option.bind_some]
 show ((Ba N L (HM L ws)).bind _) = _
 rw [LX L _ hN, Option.bind_some, SA]
 show (bif (!decide (GS L (HM L ws) = (s, 0))) then _ else some (HM L ws, (0 : Int))) = _
 by_cases h : GS L (HM L ws) = (s, 0)
 ·rw [decide_eq_true h, if_pos h]; rfl
 ·rw [decide_eq_false h, if_neg h]; rfl
end
theorem Od {k u : Nat} (hk : k <= 9) (hu : u < 100000) : RA (dP k u) = (u : Int) := by
 have h1 := H6 (k := k) (j := 4) (u := u) (by omega)
 have h2 := Kx k u
 have : GW (dP k u) = true := by
  unfold GW wiB
  rw [Gi]
  simp
  omega
 unfold RA
 rw [if_pos this, Qt]
theorem FQ {L : Ac} {E : Ad} (h : CH L E = true) : BV L (E8 L E) = (E, 0) := by
 have ok := okE h
 obtain ⟨h1, h2, h3⟩ := ok.le
 have hw : HM L (pcs 32 (E8 L E)) = E := by
  have n1 := Od (k := 1) (u := E.Report.toNat) (by omega) (by omega)
  have n2 := Od (k := 3) (u := E.Serial.toNat) (by omega) (by omega)
  have n3 := Od (k := 2) (u := E.Zone.toNat) (by omega) (by omega)
  have hp : fs L E ≠ [] -> pcs 32 (E8 L E) = fs L E := by
   intro hf
   unfold E8
   rw [if_neg hf]
   have hno := fun w hw => no32 (JY ok w hw).2.1
   revert hf hno
   generalize fs L E = l
   intro hf hno
   match l, hf, hno with
   | x :: r, _, hno => exact Qd r x (hno x (by simp)) (fun y hy => hno y (by simp [hy]))
  obtain ⟨R, S, Z⟩ := L
  obtain ⟨a, b, c⟩ := E
  obtain ⟨o1, o2, o3⟩ := ok
  simp only at o1 o2 o3 h1 h2 h3 n1 n2 n3
  rw [Int.toNat_of_nonneg h1.1] at n1
  rw [Int.toNat_of_nonneg h2.1] at n2
  rw [Int.toNat_of_nonneg h3.1] at n3
  unfold HM
  cases R <;> cases S <;> cases Z <;> simp only [Bool.false_eq_true, if_false, if_true] at o1 o2 o3
  ·subst o1; subst o2; subst o3; rfl
  all_goals
   rw [hp (by unfold fs; simp)]
   unfold fs
   simp [Hk, n1, n2, n3, *]
 unfold BV
 rw [hw]
 have : GS L E = (E8 L E, 0) := by unfold GS; rw [if_pos h]
 rw [if_pos this]
end
theorem R3 {s : WE} (h : CT s = true) : 1 <= s.length /\ s.length <= 4 := by
 unfold CT wiB at h
 simp only [Bool.and_eq_true, decide_eq_true_eq] at h
 omega
theorem OP {s : WE} (h : BO s = true) : 1 <= s.length /\ s.length <= 4 := by
 unfold BO wiB at h
 simp only [Bool.and_eq_true, Bool.or_eq_true, decide_eq_true_eq] at h
 omega
theorem Uv {s : WE} (h : CT s = true) : s.all isE = true := by
 unfold CT at h; simp only [Bool.and_eq_true] at h; exact h.1.1
theorem Ra {s : WE} (h : Bn s = true) : s.all isE = true := by
 unfold Bn at h; simp only [Bool.and_eq_true] at h; exact h.1.1.1
theorem Rl {s : WE} (h : BO s = true) : s.all isE = true := by
 unfold BO at h
 simp only [Bool.and_eq_true, Bool.or_eq_true] at h
 rw [List.all_eq_true]
 intro b hb
 unfold isE
 rcases h with h | h
 ·rw [List.all_eq_true.1 h.1 b hb]; rfl
 ·rw [List.all_eq_true.1 h.1 b hb]; simp
def K4 (t : Tri) : WE := (if t.1 = [] then t.2.1 else t.1 ++ 47 :: t.2.1) ++ (if t.2.2 = [] then [] else 47 :: t.2.2)
def okT (t : Tri) : Bool := (decide (t.1 = []) || CT t.1) && Bn t.2.1 && (decide (t.2.2 = []) || BO t.2.2) && (decide (t.1 = []) || !decide (t.2.2 = []) || decide (t.1.length < t.2.1.length)) && decide ((K4 t).length <= 16)
theorem PI {s : WE} (h : CT s = true) : s ≠ [] := by
 rintro rfl; have := R3 h; simp at this
theorem Jb {s : WE} (h : BO s = true) : s ≠ [] := by
 rintro rfl; have := OP h; simp at this
theorem UM (w : WE) : JB [w] = if Bn w then some ([], w, []) else none := rfl
theorem UL (a b : WE) : JB [a, b] = if (CT a && Bn b && decide (a.length < b.length)) = true then some (a, b, []) else if (Bn a && BO b) = true then some ([], a, b) else none := rfl
theorem UK (a b c : WE) : JB [a, b, c] = if (CT a && Bn b && BO c) = true then some (a, b, c) else none := rfl
theorem Qw {s : WE} {t : Tri} (h : callB s = some t) : okT t = true /\ s = K4 t := by
 unfold callB at h
 by_cases hl : s.length <= 16
 ·rw [if_pos hl] at h
  have hj := JM 47 s
  suffices hh : s = K4 t /\ ((decide (t.1 = []) || CT t.1) && Bn t.2.1 && (decide (t.2.2 = []) || BO t.2.2) && (decide (t.1 = []) || !decide (t.2.2 = []) || decide (t.1.length < t.2.1.length))) = true by
   refine ⟨?_, hh.1⟩
   unfold okT
   rw [hh.2, <- hh.1, decide_eq_true hl]; rfl
  revert h hj
  generalize pcs 47 s = ws
  intro h hj
  match ws, h, hj with
  | [w], h, hj =>
   rw [UM] at h
   cases hb : Bn w with
   | false => rw [hb] at h; simp at h
   | true =>
    rw [hb] at h
    simp at h
    subst h
    have : w = s := by simpa [List.intercalate] using hj
    exact ⟨by simp [K4, this], by simp [hb]⟩
  | [a, b], h, hj =>
   have hj' : a ++ 47 :: b = s := by simpa [List.intercalate] using hj
   rw [UL] at h
   by_cases h1 : (CT a && Bn b && decide (a.length < b.length)) = true
   ·rw [if_pos h1] at h
    simp at h
    subst h
    simp only [Bool.and_eq_true, decide_eq_true_eq] at h1
    exact ⟨by simp [K4, hj', PI h1.1.1], by simp [h1]⟩
   ·rw [if_neg h1] at h
    by_cases h2 : (Bn a && BO b) = true
    ·rw [if_pos h2] at h
     simp at h
     subst h
     simp only [Bool.and_eq_true] at h2
     exact ⟨by simp [K4, hj', Jb h2.2], by simp [h2]⟩
    ·rw [if_neg h2] at h; cases h
  | [a, b, c], h, hj =>
   have hj' : a ++ 47 :: (b ++ 47 :: c) = s := by simpa [List.intercalate] using hj
   rw [UK] at h
   by_cases h1 : (CT a && Bn b && BO c) = true
   ·rw [if_pos h1] at h
    simp at h
    subst h
    simp only [Bool.and_eq_true] at h1
    refine ⟨?_, ?_⟩
    ·rw [<- hj']; simp [K4, PI h1.1.1, Jb h1.2]
    ·simp [h1, Jb h1.2]
   ·rw [if_neg h1] at h; cases h
  | [], h, _ => cases h
  | _ :: _ :: _ :: _ :: _, h, _ => cases h
 ·rw [if_neg hl] at h; cases h
def Ed (s : WE) : Bool := (callB s).isSome
section
variable {N : Nat}
theorem TD (s : WE) (hN : 4294967300 < N) : FE N s = some (Ed s) := by
 unfold FE Ed
 rw [T1 s hN, Option.bind_some]
 unfold PU
 cases callB s <;> rfl
end
def DQ (_N : Nat) (s : WE) : Option Bool := some (Ed s)
theorem EC : Af Tryz.prog 79 := J9
theorem E6 (N : Nat) (w0 : World) (F0 : Mem) (hF : WG w0 F0) (hG : Bz F0) (x0 : WE) (r : Bool) (h : DQ N x0 = some r) :
  Calls Tryz.prog 79 ([(.string ⟨(x0).toArray⟩)] : List Value).toArray w0 (AB w0 F0 fun F' v => v = (.bool r)) := by
 exact KM 9223372036854775808 w0 F0 hF hG x0 r ((TD x0 (by decide)).trans h)
def EO (_N : Nat) (s : WE) : Option (Int × Int) := if s.length < 4294967281 then some (GU s) else none
theorem KE : Af Tryz.prog 96 := Ka
theorem Lw (N : Nat) (w0 : World) (F0 : Mem) (hF : WG w0 F0) (hG : Bz F0) (x0 : WE) (r : (Int × Int)) (h : EO N x0 = some r) :
  Calls Tryz.prog 96 ([(.string ⟨(x0).toArray⟩)] : List Value).toArray w0 (AB w0 F0 fun F' v => v = (.tuple #[(.int .i64 r.1), (.int .i64 r.2)])) := by
 unfold EO at h
 split at h
 ·rename_i hs
  exact KN 9223372036854775808 w0 F0 hF hG x0 r ((OS x0 hs (by decide)).trans h)
 ·cases h
def Ck (_N : Nat) (L : Ac) (s : WE) : Option (Ad × Int) := if s.length < 4294967281 then some (BV L s) else none
theorem Bx : Af Tryz.prog 97 := HA
theorem BG (N : Nat) (w0 : World) (F0 : Mem) (hF : WG w0 F0) (hG : Bz F0) (x0 : Ac) (x1 : WE) (r : (Ad × Int)) (h : Ck N x0 x1 = some r) :
  Calls Tryz.prog 97 ([(.agg #[(.bool x0.Report), (.bool x0.Serial), (.bool x0.Zone)]), (.string ⟨(x1).toArray⟩)] : List Value).toArray w0 (AB w0 F0 fun F' v => v = (.tuple #[(.agg #[(.int .i64 r.1.Report), (.int .i64 r.1.Serial), (.int .i64 r.1.Zone)]), (.int .i64 r.2)])) := by
 unfold Ck at h
 split at h
 ·rename_i hs
  exact Ip 9223372036854775808 w0 F0 hF hG x0 x1 r ((Sh x0 x1 hs (by decide)).trans h)
 ·cases h
section
open Go.Lib (decDigits)
theorem CM {r : List WE} (h : r ≠ []) (x : WE) : jn (x :: r) = x ++ 32 :: jn r := by
 match r, h with
 | y :: r, _ =>
  unfold jn
  rw [Go.Lib.join_cons, Go.Lib.join_cons]
  unfold Go.Lib.joinTail
  simp
theorem SZ : ∀ {a b : List WE}, a ≠ [] -> b ≠ [] -> jn (a ++ b) = jn a ++ 32 :: jn b
 | [], _, h, _ => absurd rfl h
 | [x], b, _, hb => by rw [List.singleton_append, CM hb, De]
 | x :: y :: a, b, _, hb => by
  rw [List.cons_append, CM (by simp), CM (by simp), SZ (by simp) hb]; simp
theorem Q6 : ∀ {L : List (List WE)}, (∀ l, l ∈ L -> l ≠ []) -> jn (L.map jn) = jn L.flatten
 | [], _ => rfl
 | [l], _ => by simp [De]
 | l :: m :: L, h => by
  have ih := Q6 (L := m :: L) (fun x hx => h x (List.mem_cons_of_mem _ hx))
  have hm : (m :: L).flatten ≠ [] := by
   have := h m (by simp)
   simp [this]
  rw [List.map_cons, CM (by simp), ih, List.flatten_cons (l := l), SZ (h l (by simp)) hm]
theorem QR {l : List WE} (hn : l ≠ []) (h : ∀ w, w ∈ l -> (32 : UInt8) ∉ w) : pcs 32 (jn l) = l := by
 cases l with
 | nil => exact absurd rfl hn
 | cons x r => exact Qd r x (h x (by simp)) fun y hy => h y (by simp [hy])
theorem SW (s : WE) : jn (pcs 32 s) = s := by
 have : ∀ (l : List WE), l ≠ [] -> jn l = [32].intercalate l := by
  intro l
  induction l with
  | nil => intro h; exact absurd rfl h
  | cons x r ih =>
   intro _
   cases r with
   | nil => rw [De]; simp [List.intercalate]
   | cons y r =>
    rw [CM (by simp), ih (by simp)]
    simp [List.intercalate, List.intersperse]
 rw [this _ (GT 32 s), JM]
def Px (b : UInt8) : Bool := isL b || isD b || b == 47
def G1 (s : WE) : Bool := wiB s.length 1 16 && s.all Px
def Cr (o : Ac) (x : Line) : Bool := decide (1 <= x.Num /\ x.Num <= 65535) && (decide (1 <= x.Khz /\ x.Khz <= 10000000) && (decide (1 <= x.Mode /\ x.Mode <= 3) && (decide (0 <= x.Minute /\ x.Minute <= 20000) && (G1 x.Call && (CH o x.Sent && CH o x.Got)))))
structure OkL (o : Ac) (x : Line) : Prop where
 n : 1 <= x.Num /\ x.Num <= 65535
 k : 1 <= x.Khz /\ x.Khz <= 10000000
 m : 1 <= x.Mode /\ x.Mode <= 3
 t : 0 <= x.Minute /\ x.Minute <= 20000
 c : G1 x.Call = true
 s : CH o x.Sent = true
 g : CH o x.Got = true
theorem BQ {o : Ac} {x : Line} : Cr o x = true ↔ OkL o x := by
 unfold Cr
 simp only [Bool.and_eq_true, decide_eq_true_eq]
 exact ⟨fun ⟨a, b, c, d, e, f, g⟩ => ⟨a, b, c, d, e, f, g⟩, fun h => ⟨h.n, h.k, h.m, h.t, h.c, h.s, h.g⟩⟩
def Jn (m : Int) : WE := if m = 1 then [77] else if m = 2 then [86] else [68]
def fsw (o : Ac) (E : Ad) : List WE := if fs o E = [] then [[45]] else fs o E
def tW (u : Nat) : List WE := [decDigits (u / 1440 + 1), dP 2 (u / 60 % 24) ++ dP 2 (u % 60)]
def QSO : WE := [81, 83, 79]
def Hm (x : Line) : List WE := [QSO, decDigits x.Num.toNat, decDigits x.Khz.toNat, Jn x.Mode] ++ tW x.Minute.toNat ++ [x.Call, [62]]
def D7 (o : Ac) (x : Line) : List WE := Hm x ++ (fsw o x.Sent ++ [60] :: fsw o x.Got)
def BB (o : Ac) (x : Line) : WE := jn (D7 o x)
theorem OO (u : Nat) : E9 u = jn (tW u) := by unfold E9 tW; rw [CM (by simp), De]
theorem HF (o : Ac) (E : Ad) : E8 o E = jn (fsw o E) := by
 unfold E8 fsw
 split
 ·rw [De]
 ·rfl
theorem Vd (o : Ac) (E : Ad) : fsw o E ≠ [] := by
 unfold fsw
 split
 ·simp
 ·assumption
theorem RG (o : Ac) (x : Line) : jn [QSO, decDigits x.Num.toNat, decDigits x.Khz.toNat, Jn x.Mode, E9 x.Minute.toNat, x.Call, [62], E8 o x.Sent, [60], E8 o x.Got] = BB o x := by
 have h := Q6 (L := [[QSO], [decDigits x.Num.toNat], [decDigits x.Khz.toNat], [Jn x.Mode], tW x.Minute.toNat, [x.Call], [[62]], fsw o x.Sent, [[60]], fsw o x.Got]) (by
  intro l hl
  simp only [List.mem_cons, List.not_mem_nil, or_false] at hl
  rcases hl with rfl | rfl | rfl | rfl | rfl | rfl | rfl | rfl | rfl | rfl
  all_goals first | exact Vd _ _ | simp [tW])
 simp only [List.map_cons, List.map_nil, De, <- OO, <- HF] at h
 rw [h]
 unfold BB D7 Hm
 simp
theorem Fy {o : Ac} {E : Ad} (h : CH o E = true) : ∀ w, w ∈ fsw o E -> (32 : UInt8) ∉ w /\ w ≠ [60] /\ w ≠ [62] /\ w.length <= 5 := by
 intro w hw
 unfold fsw at hw
 split at hw
 ·simp at hw; subst hw; decide
 ·obtain ⟨h1, h2, h3⟩ := JY (okE h) w hw
  refine ⟨no32 h2, ?_, ?_, h1⟩
  ·rintro rfl; revert h2; decide
  ·rintro rfl; revert h2; decide
theorem G0 {s : WE} (h : G1 s = true) : (32 : UInt8) ∉ s /\ s ≠ [60] /\ s ≠ [62] /\ 1 <= s.length /\ s.length <= 16 := by
 unfold G1 wiB at h
 simp only [Bool.and_eq_true, decide_eq_true_eq] at h
 obtain ⟨⟨h1, h2⟩, h3⟩ := h
 rw [List.all_eq_true] at h3
 refine ⟨fun hm => ?_, ?_, ?_, h1, h2⟩
 ·have := h3 _ hm; revert this; decide
 ·rintro rfl; have := h3 60 (by simp); revert this; decide
 ·rintro rfl; have := h3 62 (by simp); revert this; decide
theorem RH (m : Int) : (32 : UInt8) ∉ Jn m /\ Jn m ≠ [60] := by
 unfold Jn; split
 ·decide
 ·split <;> decide
theorem Oo (u : Nat) : (32 : UInt8) ∉ decDigits u /\ decDigits u ≠ [60] := by
 refine ⟨no32 (H1 u), fun h => ?_⟩
 have := H1 u
 rw [h] at this; revert this; decide
theorem NM {o : Ac} {x : Line} (h : OkL o x) : ∀ w, w ∈ Hm x -> (32 : UInt8) ∉ w /\ w ≠ [60] := by
 intro w hw
 have hc := G0 h.c
 have hall : (dP 2 (x.Minute.toNat / 60 % 24) ++ dP 2 (x.Minute.toNat % 60)).all isD = true := by rw [List.all_append, Gi, Gi]; rfl
 unfold Hm tW at hw
 simp only [List.mem_append, List.mem_cons, List.not_mem_nil, or_false] at hw
 rcases hw with ((rfl | rfl | rfl | rfl) | (rfl | rfl)) | (rfl | rfl)
 ·decide
 ·exact Oo _
 ·exact Oo _
 ·exact RH _
 ·exact Oo _
 ·refine ⟨no32 hall, fun e => ?_⟩
  rw [e] at hall; revert hall; decide
 ·exact ⟨hc.1, hc.2.1⟩
 ·decide
theorem Fv {o : Ac} {x : Line} (h : OkL o x) : pcs 32 (BB o x) = D7 o x := by
 refine QR (by unfold D7 Hm; simp) fun w hw => ?_
 unfold D7 at hw
 simp only [List.mem_append, List.mem_cons] at hw
 rcases hw with hw | hw | rfl | hw
 ·exact (NM h w hw).1
 ·exact (Fy h.s w hw).1
 ·decide
 ·exact (Fy h.g w hw).1
theorem NN (x : Line) : (Hm x).length = 8 := rfl
theorem UG : ∀ (l : List WE) (k : Nat), (∀ w, w ∈ l -> w.length <= k) -> (jn l).length <= l.length * (k + 1)
 | [], k, _ => by simp [Qk]
 | [x], k, h => by have := h x (by simp); rw [De]; simp; omega
 | x :: y :: r, k, h => by
  have := h x (by simp)
  have := UG (y :: r) k fun w hw => h w (List.mem_cons_of_mem _ hw)
  rw [CM (by simp), List.length_append, List.length_cons, List.length_cons, Nat.succ_mul]
  omega
theorem Mf {o : Ac} {x : Line} (h : OkL o x) : (BB o x).length <= 300 := by
 have hc := G0 h.c
 obtain ⟨n1, n2⟩ := h.n
 obtain ⟨k1, k2⟩ := h.k
 have hw : ∀ w, w ∈ D7 o x -> w.length <= 16 := by
  intro w hw
  have d1 := G3 4 x.Num.toNat (by omega)
  have d2 := G3 7 x.Khz.toNat (by omega)
  have d3 := Oq (u := x.Minute.toNat / 1440 + 1) (by have := h.t; omega)
  have d4 := ID (u := x.Minute.toNat / 60 % 24) (by omega)
  have d5 := ID (u := x.Minute.toNat % 60) (by omega)
  unfold D7 Hm tW at hw
  simp only [List.mem_append, List.mem_cons, List.not_mem_nil, or_false] at hw
  rcases hw with (((rfl | rfl | rfl | rfl) | (rfl | rfl)) | (rfl | rfl)) | hw | rfl | hw
  ·decide
  ·omega
  ·omega
  ·unfold Jn; split
   ·decide
   ·split <;> decide
  ·omega
  ·rw [List.length_append]; omega
  ·omega
  ·decide
  ·have := (Fy h.s w hw).2.2.2; omega
  ·decide
  ·have := (Fy h.g w hw).2.2.2; omega
 have hl : (D7 o x).length <= 16 := by
  have h1 := Ok o x.Sent
  have h2 := Ok o x.Got
  have f : ∀ E, (fs o E).length <= 3 -> (fsw o E).length <= 3 := fun E hE => by
   unfold fsw; split
   ·simp
   ·exact hE
  have := f _ h1
  have := f _ h2
  unfold D7
  rw [List.length_append, NN, List.length_append, List.length_cons]; omega
 have := UG _ 16 hw
 have : (D7 o x).length * 17 <= 16 * 17 := Nat.mul_le_mul_right _ hl
 unfold BB; omega
noncomputable def Jh (o : Ac) (s : WE) : Option Line := @dite _ (∃ x, Cr o x = true /\ BB o x = s) (Classical.propDecidable _) (fun h => some (Classical.choose h)) (fun _ => none)
theorem IC {a b : Int} (ha : 0 <= a) (hb : 0 <= b) (h : decDigits a.toNat = decDigits b.toNat) : a = b := by
 have := Kw a.toNat
 rw [h, Kw] at this; omega
theorem SU {a b : Int} (ha : 1 <= a /\ a <= 3) (hb : 1 <= b /\ b <= 3) (h : Jn a = Jn b) : a = b := by
 have h1 : a = 1 \/ a = 2 \/ a = 3 := by omega
 have h2 : b = 1 \/ b = 2 \/ b = 3 := by omega
 rcases h1 with rfl | rfl | rfl <;> rcases h2 with rfl | rfl | rfl <;> first | rfl | exact absurd h (by decide)
theorem Q7 {o : Ac} {E G : Ad} (hE : CH o E = true) (hG : CH o G = true) (h : fsw o E = fsw o G) : E = G := by
 have e : E8 o E = E8 o G := by rw [HF, HF, h]
 have h1 := FQ hE
 rw [e, FQ hG] at h1
 exact (congrArg Prod.fst h1).symm
theorem LS {a b c d : List WE} (ha : ∀ w, w ∈ a -> w ≠ [60]) (hc : ∀ w, w ∈ c -> w ≠ [60]) (h : a ++ [60] :: b = c ++ [60] :: d) : a = c /\ b = d := by
 induction a generalizing c with
 | nil =>
  cases c with
  | nil => simp at h; exact ⟨rfl, h⟩
  | cons y c => simp at h; exact absurd h.1.symm (hc y (by simp))
 | cons x a ih =>
  cases c with
  | nil => simp at h; exact absurd h.1 (ha x (by simp))
  | cons y c =>
   simp only [List.cons_append, List.cons.injEq] at h
   obtain ⟨h1, h2⟩ := ih (fun w hw => ha w (by simp [hw])) (fun w hw => hc w (by simp [hw])) h.2
   exact ⟨by rw [h.1, h1], h2⟩
theorem ST {o : Ac} {x y : Line} (hx : OkL o x) (hy : OkL o y) (h : BB o x = BB o y) : x = y := by
 have hw : D7 o x = D7 o y := by rw [<- Fv hx, <- Fv hy, h]
 unfold D7 at hw
 obtain ⟨h1, h2⟩ := List.append_inj hw rfl
 obtain ⟨h3, h4⟩ := LS (fun w hw => (Fy hx.s w hw).2.1) (fun w hw => (Fy hy.s w hw).2.1) h2
 unfold Hm tW at h1
 simp only [List.cons_append, List.nil_append, List.cons.injEq, and_true, true_and] at h1
 obtain ⟨e1, e2, e3, e4, e5, e6⟩ := h1
 have t : x.Minute = y.Minute := by
  have h1 : E9 x.Minute.toNat = E9 y.Minute.toNat := by unfold E9; rw [e4, e5]
  have h2 := Jg (u := x.Minute.toNat) (by have := hx.t; omega)
  rw [h1, Jg (u := y.Minute.toNat) (by have := hy.t; omega)] at h2
  have := congrArg Prod.fst h2
  simp only at this
  have := hx.t; have := hy.t
  omega
 have a1 := IC (by have := hx.n; omega) (by have := hy.n; omega) e1
 have a2 := IC (by have := hx.k; omega) (by have := hy.k; omega) e2
 have a3 := SU hx.m hy.m e3
 have a4 := Q7 hx.s hy.s h3
 have a5 := Q7 hx.g hy.g h4
 cases x; cases y
 simp only at a1 a2 a3 a4 a5 t e6
 subst a1 a2 a3 a4 a5 t e6
 rfl
theorem D6 {o : Ac} {s : WE} {x : Line} : Jh o s = some x ↔ Cr o x = true /\ BB o x = s := by
 unfold Jh
 constructor
 ·intro h
  split at h
  ·rename_i hx
   cases h
   exact Classical.choose_spec hx
  ·cases h
 ·rintro ⟨h1, h2⟩
  have hex : ∃ x, Cr o x = true /\ BB o x = s := ⟨x, h1, h2⟩
  rw [dif_pos hex]
  have h3 := Classical.choose_spec hex
  rw [ST (BQ.1 h3.1) (BQ.1 h1) (h3.2.trans h2.symm)]
theorem O2 {o : Ac} {s : WE} : Jh o s = none ↔ ∀ x, Cr o x = true -> BB o x ≠ s := by
 constructor
 ·intro h x hx e
  rw [D6.2 ⟨hx, e⟩] at h; cases h
 ·intro h
  cases hp : Jh o s with
  | none => rfl
  | some x => exact absurd (D6.1 hp).2 (h x (D6.1 hp).1)
end

section
open Go.Lib (decDigits)
def Uz : WE := [67, 65, 76, 76]
def Vy : WE := [67, 65, 84, 69, 71, 79, 82, 89]
def Vw : WE := [80, 79, 87, 69, 82]
def Vx : WE := [67, 76, 65, 73, 77, 69, 68]
def NV : WE := [74, 85, 77, 80, 83]
def M5 : WE := [69, 78, 68]
def RN : List Int -> Bool
 | [] => true
 | [_] => true
 | a :: b :: r => decide (a < b) && RN (b :: r)
def Hx (l : List Int) : Bool := l.all (fun n => decide (1 <= n /\ n <= 20000)) && (RN l && decide (l.length <= 16))
def hdW (l : Log) (k : Nat) : List WE := match k with
 | 0 => [Uz, l.Call]
 | 1 => [Vy, decDigits l.Category.toNat]
 | 2 => [Vw, decDigits l.Power.toNat]
 | 3 => [Vx, decDigits l.Claimed.toNat]
 | _ => NV :: l.Jumps.map fun n => decDigits n.toNat
def hdT (l : Log) (k : Nat) : WE := jn (hdW l k)
def hdV (l : Log) (k : Nat) : Bool := match k with
 | 0 => Ed l.Call
 | 1 => decide (1 <= l.Category /\ l.Category <= 9)
 | 2 => decide (1 <= l.Power /\ l.Power <= 9999)
 | 3 => decide (0 <= l.Claimed /\ l.Claimed <= 1000000)
 | _ => Hx l.Jumps
def hdS (k : Nat) (v l : Log) : Log := match k with
 | 0 => { l with Call := v.Call }
 | 1 => { l with Category := v.Category }
 | 2 => { l with Power := v.Power }
 | 3 => { l with Claimed := v.Claimed }
 | _ => { l with Jumps := v.Jumps }
theorem RW {s : WE} (h : Ed s = true) : ∀ b, b ∈ s -> isL b = true \/ isD b = true \/ b = 47 := by
 unfold Ed at h
 cases hc : callB s with
 | none => rw [hc] at h; cases h
 | some t =>
  obtain ⟨h1, h2⟩ := Qw hc
  have e : ∀ {l : WE}, l.all isE = true -> ∀ b, b ∈ l -> isL b = true \/ isD b = true \/ b = 47 := fun hl b hb => by
   have := List.all_eq_true.1 hl b hb
   unfold isE at this
   rw [Bool.or_eq_true] at this
   rcases this with h | h
   ·exact .inl h
   ·exact .inr (.inl h)
  unfold okT at h1
  simp only [Bool.and_eq_true, Bool.or_eq_true, decide_eq_true_eq] at h1
  obtain ⟨⟨⟨⟨a1, a2⟩, a3⟩, _⟩, _⟩ := h1
  intro b hb
  rw [h2] at hb
  unfold K4 at hb
  rcases List.mem_append.1 hb with hb | hb
  ·by_cases ht : t.1 = []
   ·rw [if_pos ht] at hb; exact e (Ra a2) b hb
   ·rw [if_neg ht] at hb
    rcases List.mem_append.1 hb with hb | hb
    ·rcases a1 with a1 | a1
     ·exact absurd a1 ht
     ·exact e (Uv a1) b hb
    ·rcases List.mem_cons.1 hb with rfl | hb
     ·exact .inr (.inr rfl)
     ·exact e (Ra a2) b hb
  ·by_cases ht : t.2.2 = []
   ·rw [if_pos ht] at hb; cases hb
   ·rw [if_neg ht] at hb
    rcases List.mem_cons.1 hb with rfl | hb
    ·exact .inr (.inr rfl)
    ·rcases a3 with a3 | a3
     ·exact absurd a3 ht
     ·exact e (Rl a3) b hb
def plB (b : UInt8) : Bool := decide (33 <= b.toNat) && decide (b.toNat <= 95)
theorem Sx {b : UInt8} (h : plB b = true) : b ≠ 32 /\ b ≠ 10 /\ b ≠ 9 /\ b ≠ 13 /\ ¬ (97 <= b.toNat /\ b.toNat <= 122) := by
 unfold plB at h
 simp only [Bool.and_eq_true, decide_eq_true_eq] at h
 refine ⟨?_, ?_, ?_, ?_, by omega⟩ <;> · rintro rfl; revert h; decide
theorem S1 {b : UInt8} (h : isL b = true) : plB b = true := by unfold isL at h; unfold plB; simp at h ⊢; omega
theorem MF {b : UInt8} (h : isD b = true) : plB b = true := by unfold isD at h; unfold plB; simp at h ⊢; omega
theorem VS (u : Nat) : (decDigits u).all plB = true := by
 rw [List.all_eq_true]
 exact fun b hb => MF (List.all_eq_true.1 (H1 u) b hb)
def Wd (w : WE) : Prop := w ≠ [] /\ w.all plB = true
theorem LK (u : Nat) : Wd (decDigits u) := ⟨by have := MK u; intro e; rw [e] at this; simp at this, VS u⟩
theorem Wd.no32 {w : WE} (h : Wd w) : (32 : UInt8) ∉ w := fun hm => (Sx (List.all_eq_true.1 h.2 _ hm)).1 rfl
theorem MG {l : Log} {k : Nat} (h : hdV l k = true) : hdW l k ≠ [] /\ ∀ w, w ∈ hdW l k -> Wd w := by
 match k, h with
 | 0, h =>
  refine ⟨by simp [hdW], fun w hw => ?_⟩
  simp only [hdW, List.mem_cons, List.not_mem_nil, or_false] at hw
  rcases hw with rfl | rfl
  ·exact ⟨by decide, by decide⟩
  ·refine ⟨?_, ?_⟩
   ·rintro e
    have h : Ed l.Call = true := h
    rw [e] at h; revert h; decide
   ·rw [List.all_eq_true]
    intro b hb
    rcases RW h b hb with h | h | rfl
    ·exact S1 h
    ·exact MF h
    ·decide
 | 1, h =>
  refine ⟨by simp [hdW], fun w hw => ?_⟩
  simp only [hdW, List.mem_cons, List.not_mem_nil, or_false] at hw
  rcases hw with rfl | rfl
  ·exact ⟨by decide, by decide⟩
  ·exact LK _
 | 2, h =>
  refine ⟨by simp [hdW], fun w hw => ?_⟩
  simp only [hdW, List.mem_cons, List.not_mem_nil, or_false] at hw
  rcases hw with rfl | rfl
  ·exact ⟨by decide, by decide⟩
  ·exact LK _
 | 3, h =>
  refine ⟨by simp [hdW], fun w hw => ?_⟩
  simp only [hdW, List.mem_cons, List.not_mem_nil, or_false] at hw
  rcases hw with rfl | rfl
  ·exact ⟨by decide, by decide⟩
  ·exact LK _
 | k + 4, h =>
  refine ⟨by simp [hdW], fun w hw => ?_⟩
  simp only [hdW, List.mem_cons, List.mem_map] at hw
  rcases hw with rfl | ⟨n, _, rfl⟩
  ·exact ⟨by decide, by decide⟩
  ·exact LK _
theorem Qo {l : Log} {k : Nat} (h : hdV l k = true) : pcs 32 (hdT l k) = hdW l k := QR (MG h).1 fun w hw => ((MG h).2 w hw).no32
theorem SX : ∀ {l : List WE} {b : UInt8}, b ∈ jn l -> b = 32 \/ ∃ w, w ∈ l /\ b ∈ w
 | [], b, h => by rw [Qk] at h; cases h
 | [x], b, h => by rw [De] at h; exact .inr ⟨x, by simp, h⟩
 | x :: y :: r, b, h => by
  rw [CM (by simp)] at h
  rcases List.mem_append.1 h with h | h
  ·exact .inr ⟨x, by simp, h⟩
  ·rcases List.mem_cons.1 h with rfl | h
   ·exact .inl rfl
   ·rcases SX h with h | ⟨w, hw, hb⟩
    ·exact .inl h
    ·exact .inr ⟨w, List.mem_cons_of_mem _ hw, hb⟩
theorem Ud (m : Int) : Wd (Jn m) := by
 unfold Jn
 split
 ·exact ⟨by decide, by decide⟩
 ·split <;> exact ⟨by decide, by decide⟩
theorem S8 {o : Ac} {E : Ad} (h : CH o E = true) : ∀ w, w ∈ fsw o E -> Wd w := by
 intro w hw
 unfold fsw at hw
 split at hw
 ·simp at hw; subst hw; exact ⟨by decide, by decide⟩
 ·obtain ⟨h1, h2, h3⟩ := JY (okE h) w hw
  refine ⟨by rintro rfl; simp at h3, ?_⟩
  rw [List.all_eq_true] at h2 ⊢
  exact fun b hb => MF (h2 b hb)
theorem Vp {b : UInt8} (h : Px b = true) : plB b = true := by
 unfold Px at h
 simp only [Bool.or_eq_true, beq_iff_eq] at h
 rcases h with (h | h) | rfl
 ·exact S1 h
 ·exact MF h
 ·decide
theorem Ub {o : Ac} {x : Line} (h : OkL o x) : D7 o x ≠ [] /\ ∀ w, w ∈ D7 o x -> Wd w := by
 have hc := G0 h.c
 have hc2 : x.Call.all plB = true := by
  have := h.c
  unfold G1 at this
  simp only [Bool.and_eq_true] at this
  rw [List.all_eq_true]
  exact fun b hb => Vp (List.all_eq_true.1 this.2 b hb)
 have hall : (dP 2 (x.Minute.toNat / 60 % 24) ++ dP 2 (x.Minute.toNat % 60)).all isD = true := by rw [List.all_append, Gi, Gi]; rfl
 refine ⟨by unfold D7 Hm; simp, fun w hw => ?_⟩
 unfold D7 Hm tW at hw
 simp only [List.mem_append, List.mem_cons, List.not_mem_nil, or_false] at hw
 rcases hw with (((rfl | rfl | rfl | rfl) | (rfl | rfl)) | (rfl | rfl)) | hw | rfl | hw
 ·exact ⟨by decide, by decide⟩
 ·exact LK _
 ·exact LK _
 ·exact Ud _
 ·exact LK _
 ·refine ⟨fun e => ?_, ?_⟩
  ·have h1 := congrArg List.length e
   have h2 := (Kx 2 (x.Minute.toNat / 60 % 24)).1
   rw [List.length_append, List.length_nil] at h1
   omega
  ·rw [List.all_eq_true] at hall ⊢
   exact fun b hb => MF (hall b hb)
 ·exact ⟨by intro e; rw [e] at hc; simp at hc, hc2⟩
 ·exact ⟨by decide, by decide⟩
 ·exact S8 h.s w hw
 ·exact ⟨by decide, by decide⟩
 ·exact S8 h.g w hw
theorem Q5 {l : List WE} (h : ∀ w, w ∈ l -> Wd w) : (10 : UInt8) ∉ jn l := fun hm => by
 rcases SX hm with h1 | ⟨w, hw, hb⟩
 ·revert h1; decide
 ·exact (Sx (List.all_eq_true.1 (h w hw).2 _ hb)).2.1 rfl
theorem RF {o : Ac} {x : Line} (h : OkL o x) : (10 : UInt8) ∉ BB o x := Q5 (Ub h).2
theorem JX {l : Log} {k : Nat} (h : hdV l k = true) : (10 : UInt8) ∉ hdT l k := Q5 (MG h).2
def fw (s : WE) : WE := (pcs 32 s).headD []
theorem Up {o : Ac} {x : Line} (h : OkL o x) : fw (BB o x) = QSO := by unfold fw; rw [Fv h]; rfl
theorem Vc : fw M5 = M5 := rfl
theorem Oi {o : Ac} {x : Line} (hx : OkL o x) : BB o x ≠ M5 := by
 intro h
 have e := Up hx
 rw [h, Vc] at e
 exact absurd e (by decide)
theorem IA {l : List Int} (h : Hx l = true) : ∀ n, n ∈ l -> 1 <= n /\ n <= 20000 := by
 unfold Hx at h
 simp only [Bool.and_eq_true, List.all_eq_true, decide_eq_true_eq] at h
 exact h.1
theorem KY : ∀ {a b : List Int}, (∀ n, n ∈ a -> 0 <= n) -> (∀ n, n ∈ b -> 0 <= n) -> (a.map fun n => decDigits n.toNat) = (b.map fun n => decDigits n.toNat) -> a = b
 | [], [], _, _, _ => rfl
 | [], _ :: _, _, _, h => by simp at h
 | _ :: _, [], _, _, h => by simp at h
 | x :: a, y :: b, ha, hb, h => by
  simp only [List.map_cons, List.cons.injEq] at h
  rw [IC (ha x (by simp)) (hb y (by simp)) h.1, KY (fun n hn => ha n (by simp [hn])) (fun n hn => hb n (by simp [hn])) h.2]
theorem U9 {u v : Log} {k : Nat} (hu : hdV u k = true) (hv : hdV v k = true) (h : hdT u k = hdT v k) : ∀ l, hdS k u l = hdS k v l := by
 have e : hdW u k = hdW v k := by rw [<- Qo hu, <- Qo hv, h]
 intro l
 match k, hu, hv, e with
 | 0, hu, hv, e =>
  simp only [hdW, List.cons.injEq, and_true, true_and] at e
  simp only [hdS, e]
 | 1, hu, hv, e =>
  simp only [hdW, List.cons.injEq, and_true, true_and] at e
  simp only [hdV, decide_eq_true_eq] at hu hv
  simp only [hdS, IC (by omega) (by omega) e]
 | 2, hu, hv, e =>
  simp only [hdW, List.cons.injEq, and_true, true_and] at e
  simp only [hdV, decide_eq_true_eq] at hu hv
  simp only [hdS, IC (by omega) (by omega) e]
 | 3, hu, hv, e =>
  simp only [hdW, List.cons.injEq, and_true, true_and] at e
  simp only [hdV, decide_eq_true_eq] at hu hv
  simp only [hdS, IC (by omega) (by omega) e]
 | k + 4, hu, hv, e =>
  simp only [hdW, List.cons.injEq, true_and] at e
  have := KY (fun n hn => by have := IA (show Hx u.Jumps = true from hu) n hn; omega) (fun n hn => by have := IA (show Hx v.Jumps = true from hv) n hn; omega) e
  simp only [hdS, this]
end
section
open Go.Lib (decDigits)
def lnE (s : WE) : List (WE × Bool) := match (pcs 10 s).getLast?, (pcs 10 s).dropLast with
 | some [], l => l.map fun x => (x, true)
 | some x, l => l.map (fun x => (x, true)) ++ [(x, false)]
 | none, l => l.map fun x => (x, true)
theorem O1 {c : UInt8} : ∀ {L : List WE} {x : WE}, (∀ y, y ∈ L -> c ∉ y) -> c ∉ x -> pcs c (L.flatMap (fun y => y ++ [c]) ++ x) = L ++ [x]
 | [], x, _, hx => by simpa using ER hx
 | y :: L, x, hL, hx => by
  have ih := O1 (L := L) (x := x) (fun z hz => hL z (by simp [hz])) hx
  rw [List.flatMap_cons]
  have : y ++ [c] ++ L.flatMap (fun y => y ++ [c]) ++ x = y ++ c :: (L.flatMap (fun y => y ++ [c]) ++ x) := by simp
  rw [this, FP (hL y (by simp)), ih]; rfl
theorem Ua {L : List WE} (h : ∀ y, y ∈ L -> (10 : UInt8) ∉ y) : lnE (L.flatMap fun y => y ++ [10]) = L.map fun x => (x, true) := by
 have := O1 (c := 10) (L := L) (x := []) h (by simp)
 rw [List.append_nil] at this
 unfold lnE
 rw [this]
 simp
theorem SR (s : WE) : (lnE s).flatMap (fun p => if p.2 = true then p.1 ++ [10] else p.1) = s := by
 have h := JM 10 s
 have hn := GT 10 s
 have key : ∀ (l : List WE), l ≠ [] -> [(10 : UInt8)].intercalate l = l.dropLast.flatMap (fun y => y ++ [10]) ++ (l.getLast?.getD []) := by
  intro l
  induction l with
  | nil => intro h; exact absurd rfl h
  | cons x r ih =>
   intro _
   cases r with
   | nil => simp [List.intercalate]
   | cons y r =>
    have := ih (by simp)
    simp only [List.intercalate, List.intersperse, List.flatten_cons] at this ⊢
    rw [this]
    simp
 rw [key _ hn] at h
 unfold lnE
 cases hl : (pcs 10 s).getLast? with
 | none => exact absurd (List.getLast?_eq_none_iff.1 hl) hn
 | some x =>
  rw [hl] at h
  have e : ∀ l : List WE, (l.map fun x => (x, true)).flatMap (fun p => if p.2 = true then p.1 ++ [10] else p.1) = l.flatMap fun y => y ++ [10] := by
   intro l
   induction l with
   | nil => rfl
   | cons a l ih => rw [List.map_cons, List.flatMap_cons, List.flatMap_cons, ih]; rfl
  cases x with
  | nil =>
   simp only
   rw [e]
   simpa using h
  | cons b x =>
   simp only
   rw [List.flatMap_append, e]
   simpa using h
def Jj (o : Ac) (l : List Line) (i : Nat) : Bool := match l[i]? with
 | some x => Cr o x && (decide (i = 0) || match l[i - 1]? with
  | some y => decide (y.Num < x.Num) && decide (y.Minute <= x.Minute)
  | none => true)
 | none => true
def G2 (o : Ac) (l : List Line) : Option Nat := (List.range l.length).find? fun i => !Jj o l i
def Po (l : Log) : Bool := hdV l 0 && (hdV l 1 && (hdV l 2 && (hdV l 3 && hdV l 4)))
def chk (o : Ac) (l : Log) : Int × Int :=
 if l.Jumps.length > 16 \/ l.Lines.length > 400 then (2, 0)
 else if Po l = false then (21, 0)
 else match G2 o l.Lines with
  | some i => (21, (i : Int) + 1)
  | none => (0, 0)
def Qg (o : Ac) (l : Log) : List WE := [hdT l 0, hdT l 1, hdT l 2, hdT l 3, hdT l 4] ++ l.Lines.map (BB o) ++ [M5]
def Me (o : Ac) (l : Log) : WE := (Qg o l).flatMap fun y => y ++ [10]
end
def AU (N : Nat) (x0 : Int) (x1 : Int) (x2 : Int) : Option Bool :=
 some ((decide (x1 <= x0)) && (decide (x0 <= x2)))
theorem AE : Af Tryz.prog 73 := fun _ _ => by kernel_rfl
theorem AL (N : Nat) (w0 : World) (F0 : Mem) (hF : WG w0 F0) (x0 : Int) (x1 : Int) (x2 : Int) (r : Bool) (h : AU N x0 x1 x2 = some r) :
  Calls Tryz.prog 73 ([(vi x0), (vi x1), (vi x2)] : List Value).toArray w0 (AB w0 F0 fun F' v => v = (.bool r)) := by
 have hs0 := Wl hF
 refine Go 15 Tryz.func73 <| Sq (Rg [0] ?_)
 refine Vs 1 <| Nss (Rg (rG 9) ?_)
 refine Wp (fun f w => ∃ (F1 : Mem), HS w0 F0 w F1 [] /\ Wj F0 F1 /\ FI f [] [(6, (.bool ((decide (x1 <= x0)) && (decide (x0 <= x2)))))]) ?_ ?_
 ·refine Vs 4 ?_
  refine Wo (decide (x1 <= x0)) (fun hb26 => ?_) (fun hb26 => ?_)
  ·refine Vgs hb26 3 ?_
   refine Pk1 hb26 <| Vs 1 ?_
   exact Wf ⟨rfl, F0, hs0, (Wk _), (fJ ⟨(congrArg Value.bool (Hu hb26 rfl)), trivial⟩)⟩
  ·refine Ss hb26 3 ?_
   refine Pk0 hb26 <| Vs 1 ?_
   exact Wf ⟨rfl, F0, hs0, (Wk _), (fJ ⟨(congrArg Value.bool (I9 hb26 rfl)), trivial⟩)⟩
 ·rintro f w21 ⟨F1, hs22, le23, ⟨_, rfl⟩⟩
  refine Ab <| Rt ?_
  obtain rfl := Aa h
  exact Re [(.bool ((decide (x1 <= x0)) && (decide (x0 <= x2))))] hs22 rfl
def DM (N : Nat) (x0 : WE) (r21 : Bool) : (Bool × Int) -> Option (Bt Bool (Bool × Int)) := fun s32 =>
 (bif (decide (s32.2 < (x0.length : Int))) then ((Rm x0 s32.2).bind fun c56 => ((bif s32.1 then ((AU N (W64 c56) 65 90).bind fun r73 => (bif r73 then some true else ((AU N (W64 c56) 48 57).bind fun r84 => (bif r84 then some true else some (c56 == 47))))) else some false).bind fun j62 => some (.next (j62, (W64 (s32.2 + 1)))))) else some (.done (s32.1, s32.2)))
def GY (N : Nat) (x0 : WE) : Option Bool :=
 ((AU N (x0.length : Int) 1 16).bind fun r21 => ((AX (DM N x0 r21) N (r21, 0)).bind fun o => o.k (fun r => some r) (fun s41 => some s41.1)))
theorem Nk : Af Tryz.prog 74 := fun _ _ => by kernel_rfl
theorem OE (N : Nat) (w0 : World) (F0 : Mem) (hF : WG w0 F0) (x0 : WE) (r : Bool) (h : GY N x0 = some r) :
  Calls Tryz.prog 74 ([(sv x0)] : List Value).toArray w0 (AB w0 F0 fun F' v => v = (.bool r)) := by
 have hs0 := Wl hF
 refine Go 34 Tryz.func74 <| Sq (Rg [0] ?_)
 refine Vs 1 <| Nss (Rg (rG 4) ?_)
 refine Vs 2 ?_
 obtain ⟨r21, hr22, h23⟩ := bind_some h
 refine Cl' AE hs0 (AL N w0 F0 hs0.pers ((x0.length : Int)) 1 16 _ hr22) ?_
 rintro _ F1 w25 hs26 le27 rfl
 refine Vs 1 <| Nss <| Sq (Rg [0, 1, 2] ?_)
 refine Vs 3 <| Nt ?_
 obtain ⟨o29, ho30, h31⟩ := bind_some h23
 refine Wq (fun f w => ∃ (s41 : (Bool × Int)) (F3 : Mem), o29 = .done s41 /\ HS w0 F0 w F3 [] /\ Wj F1 F3 /\ FI f [] [(3, (.bool s41.1))]) ?_ ?_
 ·refine Bk ?_
  refine Wi (by kernel_rfl) (fun m f w => ∃ (s32 : (Bool × Int)) (F2 : Mem), AX (DM N x0 r21) m s32 = some o29 /\ HS w0 F0 w F2 [] /\ Wj F1 F2 /\ FI f [] [(0, (sv x0)), (3, (.bool s32.1)), (10, (vi (x0.length : Int))), (11, (vi s32.2))]) N ⟨(r21, 0), F1, ho30, hs26, (Wk _), fI⟩ ?_
  rintro m47 f w33 ⟨s32, F2, hit48, hs34, le35, ⟨_, rfl⟩⟩
  obtain ⟨m49, fl50, rfl, hb51, hnx52⟩ := AN hit48
  refine Sq (Rg [0] ?_)
  refine Vs 1 <| Nss <| Cd hb51 (fun hb53 h54 => ?_) (fun hb53 h55 => ?_)
  ·refine Sc ?_
   refine Ab <| Sq <| Bk <| Sq (Rg [0, 1] ?_)
   refine Vs 2 <| Nss (Rg (rG 4) ?_)
   refine Vs 2 ?_
   obtain ⟨c56, hr57, h58⟩ := bind_some h54
   refine V 16 5 (OT (t := 9) (x := (.tmp 14)) (y := (.tmp 15)) (a := x0) (k := .i64) (i := s32.2) (v := c56) rfl rfl (by kernel_rfl) hr57) <| Vs 1 <| Nt <| Rg (rG 16) ?_
   obtain ⟨j62, hj68, h69⟩ := bind_some h58
   refine Wp (fun f w => ∃ (F4 : Mem), HS w0 F0 w F4 [] /\ Wj F2 F4 /\ FI f [] [(0, (sv x0)), (3, (.bool j62)), (10, (vi (x0.length : Int))), (11, (vi s32.2))]) ?_ ?_
   ·refine Vs 2 ?_
    refine Sp hj68 (fun hb70 h71 => ?_) (fun hb70 h72 => ?_)
    ·refine Vgs hb70 2 ?_
     obtain ⟨r73, hr74, h75⟩ := bind_some h71
     refine Cg hb70 AE hs34 (AL N w33 F2 hs34.pers ((W64 c56)) 65 90 _ hr74) ?_
     rintro _ F5 w77 hs78 le79 rfl
     refine Vgs hb70 1 <| Sp h75 (fun hb81 h82 => ?_) (fun hb81 h83 => ?_)
     ·refine Ss hb81 3 ?_
      refine Pg1 hb70 hb81 <| Vgs hb70 1 <| Ss (rfl : true = true) 2 <| Pg1 hb70 (rfl : true = true) <| Pk1 hb70 <| Vs 1 ?_
      obtain rfl := Aa h82
      exact Wf ⟨rfl, F5, hs78, le79, fI⟩
     ·refine Vgs hb81 2 ?_
      obtain ⟨r84, hr85, h86⟩ := bind_some h83
      refine Cg hb81 AE hs78 (AL N w77 F5 hs78.pers ((W64 c56)) 48 57 _ hr85) ?_
      rintro _ F6 w88 hs89 le90 rfl
      refine Pg0 hb70 hb81 <| Vgs hb70 1 <| Sp h86 (fun hb92 h93 => ?_) (fun hb92 h94 => ?_)
      ·refine Ss hb92 2 ?_
       refine Pg1 hb70 hb92 <| Pk1 hb70 <| Vs 1 ?_
       obtain rfl := Aa h93
       exact Wf ⟨rfl, F6, hs89, (le79.t le90), fI⟩
      ·refine Vgs hb92 2 ?_
       refine Pg0 hb70 hb92 <| Pk1 hb70 <| Vs 1 ?_
       obtain rfl := Aa h94
       exact Wf ⟨rfl, F6, hs89, (le79.t le90), fI⟩
    ·refine Ss hb70 4 ?_
     refine Su' 3 <| Ss hb70 2 <| Su' 2 <| Ss hb70 1 <| Pk0 hb70 <| Vs 1 ?_
     obtain rfl := Aa h72
     exact Wf ⟨rfl, F2, hs34, (Wk _), fI⟩
   ·rintro f w59 ⟨F4, hs60, le61, ⟨_, rfl⟩⟩
    refine Au <| Ab <| Rg [0, 1] <| Vs 2 <| Wf ?_
    have hn95 := AO h69 hnx52
    exact ⟨m49, Nat.lt_succ_self _, (j62, (W64 (s32.2 + 1))), F4, hn95, hs60, (le35.t le61), fI⟩
  ·refine Ex ?_
   refine Ar <| Ar <| Az rfl ?_
   have ho96 := AP h55 hnx52
   exact .inl ⟨rfl, (s32.1, s32.2), F2, ho96, hs34, le35, fI⟩
 ·rintro f w42 ⟨s41, F3, rfl, hs43, le44, ⟨_, rfl⟩⟩
  have h97 := BL h31
  refine Ab <| Sq (Rg [0, 1] ?_)
  refine Vs 2 <| Nt <| Rt ?_
  obtain rfl := Aa h97
  exact Re [(.bool s41.1)] hs43 rfl
def Cu (N : Nat) (x0 : Ac) (x1 : Line) : Option Bool :=
 (((AU N x1.Num 1 65535).bind fun r35 => (bif r35 then ((AU N x1.Khz 1 10000000).bind fun r46 => (bif r46 then ((AU N x1.Mode 1 3).bind fun r57 => (bif r57 then ((AU N x1.Minute 0 20000).bind fun r68 => (bif r68 then ((GY N x1.Call).bind fun r79 => (bif r79 then ((BS N ({ Report := x0.Report, Serial := x0.Serial, Zone := x0.Zone } : Ac) ({ Report := x1.Sent.Report, Serial := x1.Sent.Serial, Zone := x1.Sent.Zone } : Ad)).bind fun r90 => (bif r90 then ((BS N ({ Report := x0.Report, Serial := x0.Serial, Zone := x0.Zone } : Ac) ({ Report := x1.Got.Report, Serial := x1.Got.Serial, Zone := x1.Got.Zone } : Ad)).bind fun r101 => some r101) else some false)) else some false)) else some false)) else some false)) else some false)) else some false)).bind fun j30 => some j30)
theorem Ga : Af Tryz.prog 21 := fun _ _ => by kernel_rfl
theorem GK (N : Nat) (w0 : World) (F0 : Mem) (hF : WG w0 F0) (x0 : Ac) (x1 : Line) (r : Bool) (h : Cu N x0 x1 = some r) :
  Calls Tryz.prog 21 ([(.agg (Ak x0)), (.agg (Cf x1))] : List Value).toArray w0 (AB w0 F0 fun F' v => v = (.bool r)) := by
 have hs0 := Wl hF
 refine Go 40 Tryz.func21 <| Sq (Rg [0, 1, 2] ?_)
 refine Bx' 23 (Ak x0) hs0 (fun b21 w22 hs23 => ?_)
 refine Bx' 34 (Cf x1) hs23 (fun b24 w25 hs26 => ?_)
 refine Vs 1 <| Nss (Rg (rG 36) ?_)
 obtain ⟨j30, hj33, h34⟩ := bind_some h
 refine Wp (fun f w => ∃ (F1 : Mem), HS w0 F0 w F1 [] /\ Wj F0 F1 /\ FI f [] [(4, (.bool j30))]) ?_ ?_
 ·refine Vs 1 ?_
  refine Ld hs26.at0 ?_
  obtain ⟨r35, hr36, h37⟩ := bind_some hj33
  refine Cl' AE hs26 (AL N w25 F0 hs26.pers x1.Num 1 65535 _ hr36) ?_
  rintro _ F2 w39 hs40 le41 rfl
  refine Vs 1 <| Sp h37 (fun hb43 h44 => ?_) (fun hb43 h45 => ?_)
  ·refine Vgs hb43 1 ?_
   refine Lg hb43 hs40.at0 ?_
   obtain ⟨r46, hr47, h48⟩ := bind_some h44
   refine Cg hb43 AE hs40 (AL N w39 F2 hs40.pers x1.Khz 1 10000000 _ hr47) ?_
   rintro _ F3 w50 hs51 le52 rfl
   refine Pk1 hb43 <| Vs 1 <| Sp h48 (fun hb54 h55 => ?_) (fun hb54 h56 => ?_)
   ·refine Vgs hb54 1 ?_
    refine Lg hb54 hs51.at0 ?_
    obtain ⟨r57, hr58, h59⟩ := bind_some h55
    refine Cg hb54 AE hs51 (AL N w50 F3 hs51.pers x1.Mode 1 3 _ hr58) ?_
    rintro _ F4 w61 hs62 le63 rfl
    refine Pk1 hb54 <| Vs 1 <| Sp h59 (fun hb65 h66 => ?_) (fun hb65 h67 => ?_)
    ·refine Vgs hb65 1 ?_
     refine Lg hb65 hs62.at0 ?_
     obtain ⟨r68, hr69, h70⟩ := bind_some h66
     refine Cg hb65 AE hs62 (AL N w61 F4 hs62.pers x1.Minute 0 20000 _ hr69) ?_
     rintro _ F5 w72 hs73 le74 rfl
     refine Pk1 hb65 <| Vs 1 <| Sp h70 (fun hb76 h77 => ?_) (fun hb76 h78 => ?_)
     ·refine Vgs hb76 1 ?_
      refine Lg hb76 hs73.at0 ?_
      obtain ⟨r79, hr80, h81⟩ := bind_some h77
      refine Cg hb76 Nk hs73 (OE N w72 F5 hs73.pers x1.Call _ hr80) ?_
      rintro _ F6 w83 hs84 le85 rfl
      refine Pk1 hb76 <| Vs 1 <| Sp h81 (fun hb87 h88 => ?_) (fun hb87 h89 => ?_)
      ·refine Lg hb87 hs84.at1 ?_
       refine Vgs hb87 1 <| Lg hb87 hs84.at0 ?_
       obtain ⟨r90, hr91, h92⟩ := bind_some h88
       refine Cg hb87 Df hs84 (DH N w83 F6 hs84.pers (({ Report := x0.Report, Serial := x0.Serial, Zone := x0.Zone } : Ac)) (({ Report := x1.Sent.Report, Serial := x1.Sent.Serial, Zone := x1.Sent.Zone } : Ad)) _ hr91) ?_
       rintro _ F7 w94 hs95 le96 rfl
       refine Pk1 hb87 <| Vs 1 <| Sp h92 (fun hb98 h99 => ?_) (fun hb98 h100 => ?_)
       ·refine Lg hb98 hs95.at1 ?_
        refine Vgs hb98 1 <| Lg hb98 hs95.at0 ?_
        obtain ⟨r101, hr102, h103⟩ := bind_some h99
        refine Cg hb98 Df hs95 (DH N w94 F7 hs95.pers (({ Report := x0.Report, Serial := x0.Serial, Zone := x0.Zone } : Ac)) (({ Report := x1.Got.Report, Serial := x1.Got.Serial, Zone := x1.Got.Zone } : Ad)) _ hr102) ?_
        rintro _ F8 w105 hs106 le107 rfl
        refine Pk1 hb98 <| Vs 1 ?_
        obtain rfl := Aa h103
        exact Wf ⟨rfl, F8, hs106.dr0.dr0, ((((((le41.t le52).trans le63).trans le74).trans le85).trans le96).trans le107), fI⟩
       ·refine Ss hb98 4 ?_
        refine Pk0 hb98 <| Vs 1 ?_
        obtain rfl := Aa h100
        exact Wf ⟨rfl, F7, hs95.dr0.dr0, (((((le41.t le52).trans le63).trans le74).trans le85).trans le96), fI⟩
      ·refine Ss hb87 4 ?_
       refine Pk0 hb87 <| Vs 1 <| Ss (rfl : false = false) 4 <| Pk0 (rfl : false = false) <| Vs 1 ?_
       obtain rfl := Aa h89
       exact Wf ⟨rfl, F6, hs84.dr0.dr0, ((((le41.t le52).trans le63).trans le74).trans le85), fI⟩
     ·refine Ss hb76 3 ?_
      refine Pk0 hb76 <| Vs 1 <| Ss (rfl : false = false) 4 <| Pk0 (rfl : false = false) <| Vs 1 <| Ss (rfl : false = false) 4 <| Pk0 (rfl : false = false) <| Vs 1 ?_
      obtain rfl := Aa h78
      exact Wf ⟨rfl, F5, hs73.dr0.dr0, (((le41.t le52).trans le63).trans le74), fI⟩
    ·refine Ss hb65 3 ?_
     refine Pk0 hb65 <| Vs 1 <| Ss (rfl : false = false) 3 <| Pk0 (rfl : false = false) <| Vs 1 <| Ss (rfl : false = false) 4 <| Pk0 (rfl : false = false) <| Vs 1 <| Ss (rfl : false = false) 4 <| Pk0 (rfl : false = false) <| Vs 1 ?_
     obtain rfl := Aa h67
     exact Wf ⟨rfl, F4, hs62.dr0.dr0, ((le41.t le52).trans le63), fI⟩
   ·refine Ss hb54 3 ?_
    refine Pk0 hb54 <| Vs 1 <| Ss (rfl : false = false) 3 <| Pk0 (rfl : false = false) <| Vs 1 <| Ss (rfl : false = false) 3 <| Pk0 (rfl : false = false) <| Vs 1 <| Ss (rfl : false = false) 4 <| Pk0 (rfl : false = false) <| Vs 1 <| Ss (rfl : false = false) 4 <| Pk0 (rfl : false = false) <| Vs 1 ?_
    obtain rfl := Aa h56
    exact Wf ⟨rfl, F3, hs51.dr0.dr0, (le41.t le52), fI⟩
  ·refine Ss hb43 3 ?_
   refine Pk0 hb43 <| Vs 1 <| Ss (rfl : false = false) 3 <| Pk0 (rfl : false = false) <| Vs 1 <| Ss (rfl : false = false) 3 <| Pk0 (rfl : false = false) <| Vs 1 <| Ss (rfl : false = false) 3 <| Pk0 (rfl : false = false) <| Vs 1 <| Ss (rfl : false = false) 4 <| Pk0 (rfl : false = false) <| Vs 1 <| Ss (rfl : false = false) 4 <| Pk0 (rfl : false = false) <| Vs 1 ?_
   obtain rfl := Aa h45
   exact Wf ⟨rfl, F2, hs40.dr0.dr0, le41, fI⟩
 ·rintro f w27 ⟨F1, hs28, le29, ⟨_, rfl⟩⟩
  refine Ab <| Rt ?_
  obtain rfl := Aa h34
  exact Re [(.bool j30)] hs28 rfl




def EG (N : Nat) (x0 : (List Int)) : Int -> Option (Bt Bool Int) := fun s24 =>
 (bif (decide (s24 < (x0.length : Int))) then ((idx x0 s24).bind fun x48 => (((AU N x48 1 20000).bind fun r74 => (bif (!r74) then some true else (bif (decide (s24 > 0)) then ((idx x0 (W64 (s24 - 1))).bind fun x88 => some (decide (x48 <= x88))) else some false))).bind fun j65 => (bif j65 then some (.ret false) else some (.next (W64 (s24 + 1)))))) else some (.done s24))
def Db (N : Nat) (x0 : (List Int)) : Option Bool :=
 ((AX (EG N x0) N 0).bind fun o => o.k (fun r => some r) (fun s33 => some (decide ((x0.length : Int) <= 16))))
theorem Gl : Af Tryz.prog 80 := fun _ _ => by kernel_rfl
theorem Ha (N : Nat) (w0 : World) (F0 : Mem) (hF : WG w0 F0) (x0 : (List Int)) (a0_0 : WF) (n0_0 : Nat) (hb0_0 : LC x0.length n0_0) (hs0_0 : SlA AD F0 a0_0 x0) (r : Bool) (h : Db N x0 = some r) :
  Calls Tryz.prog 80 ([(.slice a0_0 x0.length n0_0)] : List Value).toArray w0 (AB w0 F0 fun F' v => v = (.bool r)) := by
 have hs0 := Wl hF
 refine Go 32 Tryz.func80 <| Sq (Rg [0] ?_)
 refine Vs 1 <| Nss <| Sq (Rg [0, 1, 2] ?_)
 refine Vs 3 <| Nt ?_
 obtain ⟨o21, ho22, h23⟩ := bind_some h
 refine Wq (fun f w => ∃ (s33 : Int) (F2 : Mem), o21 = .done s33 /\ HS w0 F0 w F2 [] /\ Wj F0 F2 /\ FI f [] [(0, (.slice a0_0 x0.length n0_0))]) ?_ ?_
 ·refine Bk ?_
  refine Wi (by kernel_rfl) (fun m f w => ∃ (s24 : Int) (F1 : Mem), AX (EG N x0) m s24 = some o21 /\ HS w0 F0 w F1 [] /\ Wj F0 F1 /\ FI f [] [(0, (.slice a0_0 x0.length n0_0)), (5, (.slice a0_0 x0.length n0_0)), (6, (vi (x0.length : Int))), (7, (vi s24))]) N ⟨0, F0, ho22, hs0, (Wk _), fI⟩ ?_
  rintro m39 f w25 ⟨s24, F1, hit40, hs26, le27, ⟨_, rfl⟩⟩
  obtain ⟨m41, fl42, rfl, hb43, hnx44⟩ := AN hit40
  refine Sq (Rg [0] ?_)
  refine Vs 1 <| Nss <| Cd hb43 (fun hb45 h46 => ?_) (fun hb45 h47 => ?_)
  ·refine Sc ?_
   refine Ab <| Sq <| Bk <| Sq (Rg (rG 5) ?_)
   refine Vs 1 ?_
   obtain ⟨x48, hx49, h51⟩ := bind_some h46
   obtain ⟨hi50, hx49'⟩ := Ap hx49
   obtain ⟨b52, o53, C54, E55, fz56, rfl, hF58, hE59⟩ := Wr (Wm hs0_0 le27) hx49'
   have hc61 := hE59 _ _ hx49'
   refine Ix hi50 <| Lx 0 (hs26.pers _ _ hF58) hc61 <| Vs 2 <| Nss (Rg (rG 16) ?_)
   obtain ⟨j65, hj72, h73⟩ := bind_some h51
   refine Wp (fun f w => ∃ (F3 : Mem), HS w0 F0 w F3 [] /\ Wj F1 F3 /\ FI f [] [(0, (.slice (some ⟨b52, o53, none⟩) x0.length n0_0)), (5, (.slice (some ⟨b52, o53, none⟩) x0.length n0_0)), (6, (vi (x0.length : Int))), (7, (vi s24)), (27, (.bool j65))]) ?_ ?_
   ·refine Vs 1 ?_
    obtain ⟨r74, hr75, h76⟩ := bind_some hj72
    refine Cl' AE hs26 (AL N w25 F1 hs26.pers x48 1 20000 _ hr75) ?_
    rintro _ F4 w78 hs79 le80 rfl
    refine Vs 2 <| Sp h76 (fun hb82 h83 => ?_) (fun hb82 h84 => ?_)
    ·refine Ss hb82 3 ?_
     refine Su' 7 <| Ss hb82 1 <| Pk1 hb82 ?_
     obtain rfl := Aa h83
     exact Wf ⟨rfl, F4, hs79, le80, fI⟩
    ·refine Vgs hb82 3 ?_
     refine Sp h84 (fun hb85 h86 => ?_) (fun hb85 h87 => ?_)
     ·refine Vgs hb85 4 ?_
      obtain ⟨x88, hx89, h91⟩ := bind_some h86
      obtain ⟨hi90, hx89'⟩ := Ap hx89
      have hc93 := hE59 _ _ hx89'
      refine Ixg hb85 hi90 <| Lxg hb85 0 (hs79.pers _ _ (le80 _ _ hF58)) hc93 <| Vgs hb85 1 <| Pg1 hb82 hb85 <| Pk0 hb82 ?_
      obtain rfl := Aa h91
      exact Wf ⟨rfl, F4, hs79, le80, fI⟩
     ·refine Ss hb85 7 ?_
      refine Pg0 hb82 hb85 <| Pk0 hb82 ?_
      obtain rfl := Aa h87
      exact Wf ⟨rfl, F4, hs79, le80, fI⟩
   ·rintro f w62 ⟨F3, hs63, le64, ⟨_, rfl⟩⟩
    refine Ab <| Cd h73 (fun hb94 h95 => ?_) (fun hb94 h96 => ?_)
    ·refine Sq (Rg [0] ?_)
     refine Vs 1 <| Nt <| Rt <| Ax <| Ae <| Ae <| Ax ?_
     have hret := Cw h95 hnx44
     subst hret
     refine .inr <| Ae ?_
     obtain rfl := Aa h23
     exact Re [(.bool false)] hs63 rfl
    ·refine Sc ?_
     refine Au <| Ab <| Rg [0, 1] <| Vs 2 <| Wf ?_
     have hn97 := AO h96 hnx44
     exact ⟨m41, Nat.lt_succ_self _, (W64 (s24 + 1)), F3, hn97, hs63, (le27.t le64), fI⟩
  ·refine Ex ?_
   refine Ar <| Ar <| Az rfl ?_
   have ho98 := AP h47 hnx44
   exact .inl ⟨rfl, s24, F1, ho98, hs26, le27, fI⟩
 ·rintro f w34 ⟨s33, F2, rfl, hs35, le36, ⟨_, rfl⟩⟩
  have h99 := BL h23
  refine Ab <| Sq (Rg (rG 4) ?_)
  refine Vs 4 <| Nt <| Rt ?_
  obtain rfl := Aa h99
  exact Re [(.bool (decide ((x0.length : Int) <= 16)))] hs35 rfl
def DN (N : Nat) (x0 : Ac) (x1 : Log) (j41 : Bool) : Int -> Option (Bt (Int × Int) Int) := fun s106 =>
 (bif (decide (s106 < (x1.Lines.length : Int))) then ((idx x1.Lines s106).bind fun x130 => (((Cu N ({ Report := x0.Report, Serial := x0.Serial, Zone := x0.Zone } : Ac) x130).bind fun r165 => (bif (!r165) then some true else (bif (decide (s106 > 0)) then ((idx x1.Lines (W64 (s106 - 1))).bind fun x179 => (bif (decide (x130.Num <= x179.Num)) then some true else ((idx x1.Lines (W64 (s106 - 1))).bind fun x188 => some (decide (x130.Minute < x188.Minute))))) else some false))).bind fun j154 => (bif j154 then some (.ret (21, (W64 (s106 + 1)))) else some (.next (W64 (s106 + 1)))))) else some (.done s106))
def CK (N : Nat) (x0 : Ac) (x1 : Log) : Option (Int × Int) :=
 (bif ((decide ((x1.Jumps.length : Int) > 16)) || (decide ((x1.Lines.length : Int) > 400))) then some (2, 0) else (((DQ N x1.Call).bind fun r48 => (bif (!r48) then some true else ((AU N x1.Category 1 9).bind fun r59 => (bif (!r59) then some true else ((AU N x1.Power 1 9999).bind fun r70 => (bif (!r70) then some true else ((AU N x1.Claimed 0 1000000).bind fun r81 => (bif (!r81) then some true else ((Db N x1.Jumps).bind fun r92 => some (!r92)))))))))).bind fun j41 => (bif j41 then some (21, 0) else ((AX (DN N x0 x1 j41) N 0).bind fun o => o.k (fun r => some r) (fun s116 => some (0, 0))))))
theorem EK : Af Tryz.prog 23 := fun _ _ => by kernel_rfl
theorem Fl (N : Nat) (w0 : World) (F0 : Mem) (hF : WG w0 F0) (hG : Bz F0) (x0 : Ac) (x1 : Log) (a1_4 : WF) (n1_4 : Nat) (hb1_4 : LC x1.Jumps.length n1_4) (hs1_4 : SlA AD F0 a1_4 x1.Jumps) (a1_5 : WF) (n1_5 : Nat) (hb1_5 : LC x1.Lines.length n1_5) (hs1_5 : SlA AC F0 a1_5 x1.Lines) (r : (Int × Int)) (h : CK N x0 x1 = some r) :
  Calls Tryz.prog 23 ([(.agg (Ak x0)), (.agg (AF x1 a1_4 n1_4 a1_5 n1_5))] : List Value).toArray w0 (AB w0 F0 fun F' v => v = (.tuple #[(vi r.1), (vi r.2)])) := by
 have hs0 := Wl hF
 refine Go 89 Tryz.func23 <| Sq (Rg (rG 4) ?_)
 refine Bx' 23 (Ak x0) hs0 (fun b21 w22 hs23 => ?_)
 refine Bx' 27 (AF x1 a1_4 n1_4 a1_5 n1_5) hs23 (fun b24 w25 hs26 => ?_)
 refine Vs 2 <| Nss <| Sq (Rg (rG 10) ?_)
 refine Wp (fun f w => ∃ (F1 : Mem), HS w0 F0 w F1 [(sb b24 (AF x1 a1_4 n1_4 a1_5 n1_5) 27), (sb b21 (Ak x0) 23)] /\ Wj F0 F1 /\ FI f [] [(2, (pt b21 0)), (3, (pt b24 0)), (17, (.bool ((decide ((x1.Jumps.length : Int) > 16)) || (decide ((x1.Lines.length : Int) > 400)))))]) ?_ ?_
 ·refine Vs 1 ?_
  refine Ld hs26.at0 <| Vs 3 <| Wo (decide ((x1.Jumps.length : Int) > 16)) (fun hb34 => ?_) (fun hb34 => ?_)
  ·refine Ss hb34 4 ?_
   refine Pk1 hb34 ?_
   exact Wf ⟨rfl, F0, hs26, (Wk _), (fJ ⟨rfl, rfl, (congrArg Value.bool (Hv hb34 rfl)), trivial⟩)⟩
  ·refine Vgs hb34 1 ?_
   refine Lg hb34 hs26.at0 <| Vgs hb34 2 <| Pk0 hb34 ?_
   exact Wf ⟨rfl, F0, hs26, (Wk _), (fJ ⟨rfl, rfl, (congrArg Value.bool (Da hb34 rfl)), trivial⟩)⟩
 ·rintro f w27 ⟨F1, hs28, le29, ⟨_, rfl⟩⟩
  refine Ab <| Cd h (fun hb35 h36 => ?_) (fun hb35 h37 => ?_)
  ·refine Sq (Rg [0, 1] ?_)
   refine Vs 2 <| Nt <| Rt <| Ae ?_
   obtain rfl := Aa h36
   exact Re [(vi 2), (vi 0)] hs28 rfl
  ·refine Sc ?_
   refine Ab <| Sq <| Sq (Rg (rG 28) ?_)
   obtain ⟨j41, hj46, h47⟩ := bind_some h37
   refine Wp (fun f w => ∃ (F2 : Mem), HS w0 F0 w F2 [(sb b24 (AF x1 a1_4 n1_4 a1_5 n1_5) 27), (sb b21 (Ak x0) 23)] /\ Wj F1 F2 /\ FI f [] [(2, (pt b21 0)), (3, (pt b24 0)), (45, (.bool j41))]) ?_ ?_
   ·refine Vs 1 ?_
    refine Ld hs28.at0 ?_
    obtain ⟨r48, hr49, h50⟩ := bind_some hj46
    refine Cl' EC hs28 (E6 N w27 F1 hs28.pers (hG.mono le29) x1.Call _ hr49) ?_
    rintro _ F3 w52 hs53 le54 rfl
    refine Vs 2 <| Sp h50 (fun hb56 h57 => ?_) (fun hb56 h58 => ?_)
    ·refine Ss hb56 4 ?_
     refine Pk1 hb56 <| Vs 1 <| Ss (rfl : true = true) 4 <| Pk1 (rfl : true = true) <| Vs 1 <| Ss (rfl : true = true) 4 <| Pk1 (rfl : true = true) <| Vs 1 <| Ss (rfl : true = true) 4 <| Pk1 (rfl : true = true) ?_
     obtain rfl := Aa h57
     exact Wf ⟨rfl, F3, hs53, le54, fI⟩
    ·refine Vgs hb56 1 ?_
     refine Lg hb56 hs53.at0 ?_
     obtain ⟨r59, hr60, h61⟩ := bind_some h58
     refine Cg hb56 AE hs53 (AL N w52 F3 hs53.pers x1.Category 1 9 _ hr60) ?_
     rintro _ F4 w63 hs64 le65 rfl
     refine Vgs hb56 1 <| Pk0 hb56 <| Vs 1 <| Sp h61 (fun hb67 h68 => ?_) (fun hb67 h69 => ?_)
     ·refine Ss hb67 4 ?_
      refine Pk1 hb67 <| Vs 1 <| Ss (rfl : true = true) 4 <| Pk1 (rfl : true = true) <| Vs 1 <| Ss (rfl : true = true) 4 <| Pk1 (rfl : true = true) ?_
      obtain rfl := Aa h68
      exact Wf ⟨rfl, F4, hs64, (le54.t le65), fI⟩
     ·refine Vgs hb67 1 ?_
      refine Lg hb67 hs64.at0 ?_
      obtain ⟨r70, hr71, h72⟩ := bind_some h69
      refine Cg hb67 AE hs64 (AL N w63 F4 hs64.pers x1.Power 1 9999 _ hr71) ?_
      rintro _ F5 w74 hs75 le76 rfl
      refine Vgs hb67 1 <| Pk0 hb67 <| Vs 1 <| Sp h72 (fun hb78 h79 => ?_) (fun hb78 h80 => ?_)
      ·refine Ss hb78 4 ?_
       refine Pk1 hb78 <| Vs 1 <| Ss (rfl : true = true) 4 <| Pk1 (rfl : true = true) ?_
       obtain rfl := Aa h79
       exact Wf ⟨rfl, F5, hs75, ((le54.t le65).trans le76), fI⟩
      ·refine Vgs hb78 1 ?_
       refine Lg hb78 hs75.at0 ?_
       obtain ⟨r81, hr82, h83⟩ := bind_some h80
       refine Cg hb78 AE hs75 (AL N w74 F5 hs75.pers x1.Claimed 0 1000000 _ hr82) ?_
       rintro _ F6 w85 hs86 le87 rfl
       refine Vgs hb78 1 <| Pk0 hb78 <| Vs 1 <| Sp h83 (fun hb89 h90 => ?_) (fun hb89 h91 => ?_)
       ·refine Ss hb89 4 ?_
        refine Pk1 hb89 ?_
        obtain rfl := Aa h90
        exact Wf ⟨rfl, F6, hs86, (((le54.t le65).trans le76).trans le87), fI⟩
       ·refine Vgs hb89 1 ?_
        refine Lg hb89 hs86.at0 ?_
        obtain ⟨r92, hr93, h94⟩ := bind_some h91
        refine Cg hb89 Gl hs86 (Ha N w85 F6 hs86.pers x1.Jumps a1_4 n1_4 hb1_4 (Wm hs1_4 ((((le29.t le54).trans le65).trans le76).trans le87)) _ hr93) ?_
        rintro _ F7 w96 hs97 le98 rfl
        refine Vgs hb89 1 <| Pk0 hb89 ?_
        obtain rfl := Aa h94
        exact Wf ⟨rfl, F7, hs97, ((((le54.t le65).trans le76).trans le87).trans le98), fI⟩
   ·rintro f w38 ⟨F2, hs39, le40, ⟨_, rfl⟩⟩
    refine Ab <| Cd h47 (fun hb100 h101 => ?_) (fun hb100 h102 => ?_)
    ·refine Sq (Rg [0, 1] ?_)
     refine Vs 2 <| Nt <| Rt <| Ae ?_
     obtain rfl := Aa h101
     exact Re [(vi 21), (vi 0)] hs39 rfl
    ·refine Sc ?_
     refine Ab <| Sq <| Sq (Rg (rG 4) ?_)
     refine Vs 1 <| Ld hs39.at0 <| Vs 2 <| Nt ?_
     obtain ⟨o103, ho104, h105⟩ := bind_some h102
     refine Wq (fun f w => ∃ (s116 : Int) (F9 : Mem), o103 = .done s116 /\ HS w0 F0 w F9 [] /\ Wj F2 F9 /\ FI f [] []) ?_ ?_
     ·refine Bk ?_
      refine Wi (by kernel_rfl) (fun m f w => ∃ (s106 : Int) (F8 : Mem), AX (DN N x0 x1 j41) m s106 = some o103 /\ HS w0 F0 w F8 [(sb b24 (AF x1 a1_4 n1_4 a1_5 n1_5) 27), (sb b21 (Ak x0) 23)] /\ Wj F2 F8 /\ FI f [] [(2, (pt b21 0)), (3, (pt b24 0)), (47, (.slice a1_5 x1.Lines.length n1_5)), (48, (vi (x1.Lines.length : Int))), (49, (vi s106))]) N ⟨0, F2, ho104, hs39, (Wk _), fI⟩ ?_
      rintro m121 f w107 ⟨s106, F8, hit122, hs108, le109, ⟨_, rfl⟩⟩
      obtain ⟨m123, fl124, rfl, hb125, hnx126⟩ := AN hit122
      refine Sq (Rg [0] ?_)
      refine Vs 1 <| Nss <| Cd hb125 (fun hb127 h128 => ?_) (fun hb127 h129 => ?_)
      ·refine Sc ?_
       refine Ab <| Sq <| Bk <| Sq (Rg (rG 6) ?_)
       refine Vs 1 ?_
       obtain ⟨x130, hx131, h133⟩ := bind_some h128
       obtain ⟨hi132, hx131'⟩ := Ap hx131
       obtain ⟨b134, o135, C136, E137, fz138, rfl, hF140, hE141⟩ := Wr (Wm hs1_5 ((le29.t le40).trans le109)) hx131'
       have hc143 := hE141 _ _ hx131'
       refine Ix hi132 <| Lx 0 (hs108.pers _ _ hF140) hc143 <| Al' 34 #[(vi 0), (vi 0), (vi 0), (vi 0), (sv (([] : WE))), (vi 0), (vi 0), (vi 0), (vi 0), (vi 0), (vi 0)] hs108 (fun b144 w145 hs146 => ?_)
       refine Vs 1 <| St0 (Cf x130) hs146 (fun w147 hs148 => ?_)
       refine Nss ?_
       obtain ⟨j154, hj163, h164⟩ := bind_some h133
       refine RD 32 32 [(sb b144 (Cf x130) 34), (sb b24 (AF x1 a1_4 n1_4 (some ⟨b134, o135, none⟩) n1_5) 27), (sb b21 (Ak x0) 23)] [] hs148 (fun f w => ∃ (F10 : Mem), HS w0 F0 w F10 [(sb b24 (AF x1 a1_4 n1_4 (some ⟨b134, o135, none⟩) n1_5) 27), (sb b21 (Ak x0) 23)] /\ Wj F8 F10 /\ FI f [] [(2, (pt b21 0)), (3, (pt b24 0)), (6, (vi s106)), (47, (.slice (some ⟨b134, o135, none⟩) x1.Lines.length n1_5)), (48, (vi (x1.Lines.length : Int))), (49, (vi s106)), (85, (.bool j154))]) (fun wd149 hw150 => ?_) ?_
       ·refine Dl 0 (fun _ hq => (hq.1.2 2 _ _ rfl)) ?_
        refine Dl 1 (fun _ hq => (hq.1.2 0 _ _ rfl)) <| D1 2 ?_
        obtain ⟨r165, hr166, h167⟩ := bind_some hj163
        refine DCl Ga hw150 (GK N wd149 F8 hw150.pers (({ Report := x0.Report, Serial := x0.Serial, Zone := x0.Zone } : Ac)) x130 _ hr166) ?_
        rintro _ F11 w169 hs170 le171 rfl
        refine Dvl [3, 4] (tf 5 27) <| Sd h167 (fun hb173 h174 => ?_) (fun hb173 h175 => ?_)
        ·refine Dkl [(5, 59), (6, 60), (7, 61)] 4 false 58 hb173 (tf 8 24) ?_
         refine Dul [(8, 62), (9, 63), (10, 64), (11, 65), (12, 66), (13, 67)] 7 true 61 (tf 14 18) <| Dul [(14, 68), (15, 69), (16, 70), (17, 71), (18, 72)] 7 true 61 (tf 19 13) <| Dul [(19, 73), (20, 74), (21, 75), (22, 76), (23, 77), (24, 78)] 18 false 72 (tf 25 7) <| Dul [(25, 79), (26, 80), (27, 81), (28, 82)] 18 false 72 (tf 29 3) <| Dul [(29, 83)] 7 true 61 (tf 30 2) <| Dkl [(30, 84)] 4 false 58 hb173 (tf 31 1) <| Dtl 31 85 4 _ (tf 32 0) (fun _ hq => p1 58 (.const (.bool true)) (.tmp 84) (.bool true) hb173) ?_
         obtain rfl := Aa h174
         exact Ww (by kernel_rfl) ⟨F11, hs170.dr0, le171, fI⟩
        ·refine Dgl 5 59 3 _ (tf 6 26) 4 false 58 hb173 (fun _ hq => mv 6 (vi s106)) ?_
         refine Dgl 6 60 4 (.bool (decide (s106 > 0))) (tf 7 25) 4 false 58 hb173 (fun _ hq => N6 (t := 3) (t' := 3) (x := (.tmp 59)) (y := (.const (vi 0))) (k := .i64) (a := s106) (b := 0) rfl rfl) <| Dgl 7 61 4 _ (tf 8 24) 4 false 58 hb173 (fun _ hq => mv 60 (.bool (decide (s106 > 0)))) <| Sd h175 (fun hb176 h177 => ?_) (fun hb176 h178 => ?_)
         ·refine Dgl 8 62 0 (pt b144 0) (tf 9 23) 7 true 61 hb176 (fun _ hq => fa 34 7 0 0 1 b144 0 0) ?_
          refine Dgl 9 63 3 _ (tf 10 22) 7 true 61 hb176 (fun _ hq => ld 3 62 b144 0 false 1 (vi x130.Num) (hq.1.2 0 _ _ rfl)) <| Dgl 10 64 0 (pt b24 5) (tf 11 21) 7 true 61 hb176 (fun _ hq => fa 27 3 5 5 1 b24 0 5) <| Dgl 11 65 25 _ (tf 12 20) 7 true 61 hb176 (fun _ hq => ld 25 64 b24 5 false 1 (.slice (some ⟨b134, o135, none⟩) x1.Lines.length n1_5) (hq.1.2 1 _ _ rfl)) <| Dgl 12 66 3 _ (tf 13 19) 7 true 61 hb176 (fun _ hq => mv 6 (vi s106)) <| Dgl 13 67 3 (vi (W64 (s106 - 1))) (tf 14 18) 7 true 61 hb176 (fun _ hq => JF (t := 3) (t' := 3) (x := (.tmp 66)) (y := (.const (vi 1))) (k := .i64) (a := s106) (b := 1) rfl rfl) ?_
          obtain ⟨x179, hx180, h182⟩ := bind_some h177
          obtain ⟨hi181, hx180'⟩ := Ap hx180
          have hc184 := hE141 _ _ hx180'
          refine Dgl 14 68 0 (.pointer (some ⟨b134, (o135 + ((W64 (s106 - 1)) : Int).toNat * 11), none⟩)) (tf 15 17) 7 true 61 hb176 (fun _ hq => ix 25 65 67 b134 o135 34 11 96 hi181) <| Dgl 15 69 0 (.pointer (some ⟨b134, (o135 + ((W64 (s106 - 1)) : Int).toNat * 11), none⟩)) (tf 16 16) 7 true 61 hb176 (fun _ hq => fa 34 68 0 0 1 b134 (o135 + ((W64 (s106 - 1)) : Int).toNat * 11) (o135 + ((W64 (s106 - 1)) : Int).toNat * 11)) <| Dgl 16 70 3 _ (tf 17 15) 7 true 61 hb176 (fun _ hq => lx 3 69 0 11 false 1 (vi x179.Num) (hq.1.1 _ _ hF140) hc184) <| Dgl 17 71 4 (.bool (decide (x130.Num <= x179.Num))) (tf 18 14) 7 true 61 hb176 (fun _ hq => LB (t := 3) (t' := 3) (x := (.tmp 63)) (y := (.tmp 70)) (k := .i64) (a := x130.Num) (b := x179.Num) rfl rfl) <| Dgl 18 72 4 _ (tf 19 13) 7 true 61 hb176 (fun _ hq => mv 71 (.bool (decide (x130.Num <= x179.Num)))) <| Sd h182 (fun hb185 h186 => ?_) (fun hb185 h187 => ?_)
          ·refine Dkl [(19, 73), (20, 74), (21, 75), (22, 76), (23, 77), (24, 78)] 18 false 72 hb185 (tf 25 7) ?_
           refine Dkl [(25, 79), (26, 80), (27, 81), (28, 82)] 18 false 72 hb185 (tf 29 3) <| Dgl 29 83 4 _ (tf 30 2) 7 true 61 hb176 (fun _ hq => p1 72 (.const (.bool true)) (.tmp 82) (.bool true) hb185) <| Dgl 30 84 4 _ (tf 31 1) 4 false 58 hb173 (fun _ hq => p1 61 (.tmp 83) (.const (.bool false)) (.bool true) hb176) <| Dtl 31 85 4 _ (tf 32 0) (fun _ hq => p0 58 (.const (.bool true)) (.tmp 84) (.bool true) hb173) ?_
           obtain rfl := Aa h186
           exact Ww (by kernel_rfl) ⟨F11, hs170.dr0, le171, fI⟩
          ·refine Dgl 19 73 0 (pt b144 3) (tf 20 12) 18 false 72 hb185 (fun _ hq => fa 34 7 3 3 1 b144 0 3) ?_
           refine Dgl 20 74 3 _ (tf 21 11) 18 false 72 hb185 (fun _ hq => ld 3 73 b144 3 false 1 (vi x130.Minute) (hq.1.2 0 _ _ rfl)) <| Dgl 21 75 0 (pt b24 5) (tf 22 10) 18 false 72 hb185 (fun _ hq => fa 27 3 5 5 1 b24 0 5) <| Dgl 22 76 25 _ (tf 23 9) 18 false 72 hb185 (fun _ hq => ld 25 75 b24 5 false 1 (.slice (some ⟨b134, o135, none⟩) x1.Lines.length n1_5) (hq.1.2 1 _ _ rfl)) <| Dgl 23 77 3 _ (tf 24 8) 18 false 72 hb185 (fun _ hq => mv 6 (vi s106)) <| Dgl 24 78 3 (vi (W64 (s106 - 1))) (tf 25 7) 18 false 72 hb185 (fun _ hq => JF (t := 3) (t' := 3) (x := (.tmp 77)) (y := (.const (vi 1))) (k := .i64) (a := s106) (b := 1) rfl rfl) ?_
           obtain ⟨x188, hx189, h191⟩ := bind_some h187
           obtain ⟨hi190, hx189'⟩ := Ap hx189
           have hc193 := hE141 _ _ hx189'
           refine Dgl 25 79 0 (.pointer (some ⟨b134, (o135 + ((W64 (s106 - 1)) : Int).toNat * 11), none⟩)) (tf 26 6) 18 false 72 hb185 (fun _ hq => ix 25 76 78 b134 o135 34 11 96 hi190) <| Dgl 26 80 0 (.pointer (some ⟨b134, ((o135 + ((W64 (s106 - 1)) : Int).toNat * 11) + 3), none⟩)) (tf 27 5) 18 false 72 hb185 (fun _ hq => fa 34 79 3 3 1 b134 (o135 + ((W64 (s106 - 1)) : Int).toNat * 11) ((o135 + ((W64 (s106 - 1)) : Int).toNat * 11) + 3)) <| Dgl 27 81 3 _ (tf 28 4) 18 false 72 hb185 (fun _ hq => lx 3 80 3 11 false 1 (vi x188.Minute) (hq.1.1 _ _ hF140) hc193) <| Dgl 28 82 4 (.bool (decide (x130.Minute < x188.Minute))) (tf 29 3) 18 false 72 hb185 (fun _ hq => JH (t := 3) (t' := 3) (x := (.tmp 74)) (y := (.tmp 81)) (k := .i64) (a := x130.Minute) (b := x188.Minute) rfl rfl) <| Dgl 29 83 4 _ (tf 30 2) 7 true 61 hb176 (fun _ hq => p0 72 (.const (.bool true)) (.tmp 82) (.bool (decide (x130.Minute < x188.Minute))) hb185) <| Dgl 30 84 4 _ (tf 31 1) 4 false 58 hb173 (fun _ hq => p1 61 (.tmp 83) (.const (.bool false)) (.bool (decide (x130.Minute < x188.Minute))) hb176) <| Dtl 31 85 4 _ (tf 32 0) (fun _ hq => p0 58 (.const (.bool true)) (.tmp 84) (.bool (decide (x130.Minute < x188.Minute))) hb173) ?_
           obtain rfl := Aa h191
           exact Ww (by kernel_rfl) ⟨F11, hs170.dr0, le171, fI⟩
         ·refine Dkl [(8, 62), (9, 63), (10, 64), (11, 65), (12, 66), (13, 67)] 7 true 61 hb176 (tf 14 18) ?_
          refine Dkl [(14, 68), (15, 69), (16, 70), (17, 71), (18, 72)] 7 true 61 hb176 (tf 19 13) <| Dul [(19, 73), (20, 74), (21, 75), (22, 76), (23, 77), (24, 78)] 18 false 72 (tf 25 7) <| Dul [(25, 79), (26, 80), (27, 81), (28, 82)] 18 false 72 (tf 29 3) <| Dkl [(29, 83)] 7 true 61 hb176 (tf 30 2) <| Dgl 30 84 4 _ (tf 31 1) 4 false 58 hb173 (fun _ hq => p0 61 (.tmp 83) (.const (.bool false)) (.bool false) hb176) <| Dtl 31 85 4 _ (tf 32 0) (fun _ hq => p0 58 (.const (.bool true)) (.tmp 84) (.bool false) hb173) ?_
          obtain rfl := Aa h178
          exact Ww (by kernel_rfl) ⟨F11, hs170.dr0, le171, fI⟩
       ·rintro f w151 ⟨F10, hs152, le153, ⟨_, rfl⟩⟩
        refine Ab <| Cd h164 (fun hb194 h195 => ?_) (fun hb194 h196 => ?_)
        ·refine Sq (Rg (rG 4) ?_)
         refine Vs 4 <| Nt <| Rt <| Ax <| Ae <| Ae <| Ax ?_
         have hret := Cw h195 hnx126
         subst hret
         refine .inr <| Ae ?_
         obtain rfl := Aa h105
         exact Re [(vi 21), (vi (W64 (s106 + 1)))] hs152 rfl
        ·refine Sc ?_
         refine Au <| Ab <| Rg [0, 1] <| Vs 2 <| Wf ?_
         have hn197 := AO h196 hnx126
         exact ⟨m123, Nat.lt_succ_self _, (W64 (s106 + 1)), F10, hn197, hs152, (le109.t le153), fI⟩
      ·refine Ex ?_
       refine Ar <| Ar <| Az rfl ?_
       have ho198 := AP h129 hnx126
       exact .inl ⟨rfl, s106, F8, ho198, hs108.dr0.dr0, le109, fI⟩
     ·rintro f w117 ⟨s116, F9, rfl, hs118, le119, ⟨_, rfl⟩⟩
      have h199 := BL h105
      refine Ab <| Sq (Rg [0, 1] ?_)
      refine Vs 2 <| Nt <| Rt ?_
      obtain rfl := Aa h199
      exact Re [(vi 0), (vi 0)] hs118 rfl



def Cm (N : Nat) (x0 : Ac) (x1 : Log) : Option Bool :=
 ((CK N ({ Report := x0.Report, Serial := x0.Serial, Zone := x0.Zone } : Ac) x1).bind fun r27 => some (r27.1 == 0))
theorem EB : Af Tryz.prog 25 := fun _ _ => by kernel_rfl
theorem E5 (N : Nat) (w0 : World) (F0 : Mem) (hF : WG w0 F0) (hG : Bz F0) (x0 : Ac) (x1 : Log) (a1_4 : WF) (n1_4 : Nat) (hb1_4 : LC x1.Jumps.length n1_4) (hs1_4 : SlA AD F0 a1_4 x1.Jumps) (a1_5 : WF) (n1_5 : Nat) (hb1_5 : LC x1.Lines.length n1_5) (hs1_5 : SlA AC F0 a1_5 x1.Lines) (r : Bool) (h : Cm N x0 x1 = some r) :
  Calls Tryz.prog 25 ([(.agg (Ak x0)), (.agg (AF x1 a1_4 n1_4 a1_5 n1_5))] : List Value).toArray w0 (AB w0 F0 fun F' v => v = (.bool r)) := by
 have hs0 := Wl hF
 refine Go 15 Tryz.func25 <| Sq (Rg [0, 1, 2] ?_)
 refine Bx' 23 (Ak x0) hs0 (fun b21 w22 hs23 => ?_)
 refine Bx' 27 (AF x1 a1_4 n1_4 a1_5 n1_5) hs23 (fun b24 w25 hs26 => ?_)
 refine Vs 1 <| Nss (Rg (rG 8) ?_)
 refine Ld hs26.at1 <| Ld hs26.at0 ?_
 obtain ⟨r27, hr28, h29⟩ := bind_some h
 refine Cl' EK hs26 (Fl N w25 F0 hs26.pers hG (({ Report := x0.Report, Serial := x0.Serial, Zone := x0.Zone } : Ac)) x1 a1_4 n1_4 hb1_4 hs1_4 a1_5 n1_5 hb1_5 hs1_5 _ hr28) ?_
 rintro _ F1 w31 hs32 le33 rfl
 refine Vs 5 <| Nss (Rg [0, 1, 2] ?_)
 refine Vs 3 <| Nt <| Rt ?_
 obtain rfl := Aa h29
 exact Re [(.bool (r27.1 == 0))] hs32 rfl

def Ei (N : Nat) (x0 : (List Line)) : Int -> Option (Bt Bool Int) := fun s24 =>
 (bif (decide (s24 < (x0.length : Int))) then ((idx x0 s24).bind fun x45 => (bif (decide ((x45.Call.length : Int) > 40)) then some (.ret false) else some (.next (W64 (s24 + 1))))) else some (.done s24))
def EV (N : Nat) (x0 : (List Line)) : Option Bool :=
 ((AX (Ei N x0) N 0).bind fun o => o.k (fun r => some r) (fun s31 => some true))
theorem Ig : Af Tryz.prog 61 := fun _ _ => by kernel_rfl
theorem I8 (N : Nat) (w0 : World) (F0 : Mem) (hF : WG w0 F0) (x0 : (List Line)) (a0_0 : WF) (n0_0 : Nat) (hb0_0 : LC x0.length n0_0) (hs0_0 : SlA AC F0 a0_0 x0) (r : Bool) (h : EV N x0 = some r) :
  Calls Tryz.prog 61 ([(.slice a0_0 x0.length n0_0)] : List Value).toArray w0 (AB w0 F0 fun F' v => v = (.bool r)) := by
 have hs0 := Wl hF
 refine Go 17 Tryz.func61 <| Sq (Rg [0] ?_)
 refine Vs 1 <| Nss <| Sq (Rg [0] ?_)
 refine Vs 1 <| Nt ?_
 obtain ⟨o21, ho22, h23⟩ := bind_some h
 refine Wq (fun f w => ∃ (s31 : Int) (F2 : Mem), o21 = .done s31 /\ HS w0 F0 w F2 [] /\ Wj F0 F2 /\ FI f [] []) ?_ ?_
 ·refine Bk ?_
  refine Wi (by kernel_rfl) (fun m f w => ∃ (s24 : Int) (F1 : Mem), AX (Ei N x0) m s24 = some o21 /\ HS w0 F0 w F1 [] /\ Wj F0 F1 /\ FI f [] [(0, (.slice a0_0 x0.length n0_0)), (3, (vi s24))]) N ⟨0, F0, ho22, hs0, (Wk _), fI⟩ ?_
  rintro m36 f w25 ⟨s24, F1, hit37, hs26, le27, ⟨_, rfl⟩⟩
  obtain ⟨m38, fl39, rfl, hb40, hnx41⟩ := AN hit37
  refine Sq <| Sq (Rg (rG 4) ?_)
  refine Vs 4 <| Nt <| Cd hb40 (fun hb42 h43 => ?_) (fun hb42 h44 => ?_)
  ·refine Sc ?_
   refine Ab <| Sq <| Bk <| Sq (Rg (rG 7) ?_)
   refine Vs 2 ?_
   obtain ⟨x45, hx46, h48⟩ := bind_some h43
   obtain ⟨hi47, hx46'⟩ := Ap hx46
   obtain ⟨b49, o50, C51, E52, fz53, rfl, hF55, hE56⟩ := Wr (Wm hs0_0 le27) hx46'
   have hc58 := hE56 _ _ hx46'
   refine Ix hi47 <| Vs 1 <| Lx 4 (hs26.pers _ _ hF55) hc58 <| Vs 2 <| Nt <| Cd h48 (fun hb59 h60 => ?_) (fun hb59 h61 => ?_)
   ·refine Sq (Rg [0] ?_)
    refine Vs 1 <| Nt <| Rt <| Ax <| Ae <| Ae <| Ax ?_
    have hret := Cw h60 hnx41
    subst hret
    refine .inr <| Ae ?_
    obtain rfl := Aa h23
    exact Re [(.bool false)] hs26 rfl
   ·refine Sc ?_
    refine Au <| Ab <| Rg [0, 1, 2] <| Vs 3 <| Wf ?_
    have hn62 := AO h61 hnx41
    exact ⟨m38, Nat.lt_succ_self _, (W64 (s24 + 1)), F1, hn62, hs26, le27, fI⟩
  ·refine Ex ?_
   refine Ar <| Ar <| Az rfl ?_
   have ho63 := AP h44 hnx41
   exact .inl ⟨rfl, s24, F1, ho63, hs26, le27, fI⟩
 ·rintro f w32 ⟨s31, F2, rfl, hs33, le34, ⟨_, rfl⟩⟩
  have h64 := BL h23
  refine Ab <| Sq (Rg [0] ?_)
  refine Vs 1 <| Nt <| Rt ?_
  obtain rfl := Aa h64
  exact Re [(.bool true)] hs33 rfl
def Iy (N : Nat) (x0 : Log) : Option Bool :=
 ((bif (decide ((x0.Lines.length : Int) <= 60)) then (bif (decide ((x0.Jumps.length : Int) <= 40)) then (bif (decide ((x0.Call.length : Int) <= 40)) then ((EV N x0.Lines).bind fun r41 => some r41) else some false) else some false) else (bif (decide ((x0.Lines.length : Int) > 400)) then (bif (decide ((x0.Lines.length : Int) <= 800)) then (bif (decide ((x0.Jumps.length : Int) <= 40)) then (bif (decide ((x0.Call.length : Int) <= 40)) then ((EV N x0.Lines).bind fun r61 => some r61) else some false) else some false) else some false) else some false)).bind fun j27 => some j27)
theorem Oy : Af Tryz.prog 20 := fun _ _ => by kernel_rfl
theorem PB (N : Nat) (w0 : World) (F0 : Mem) (hF : WG w0 F0) (x0 : Log) (a0_4 : WF) (n0_4 : Nat) (hb0_4 : LC x0.Jumps.length n0_4) (hs0_4 : SlA AD F0 a0_4 x0.Jumps) (a0_5 : WF) (n0_5 : Nat) (hb0_5 : LC x0.Lines.length n0_5) (hs0_5 : SlA AC F0 a0_5 x0.Lines) (r : Bool) (h : Iy N x0 = some r) :
  Calls Tryz.prog 20 ([(.agg (AF x0 a0_4 n0_4 a0_5 n0_5))] : List Value).toArray w0 (AB w0 F0 fun F' v => v = (.bool r)) := by
 have hs0 := Wl hF
 refine Go 36 Tryz.func20 <| Sq (Rg [0, 1] ?_)
 refine Bx' 27 (AF x0 a0_4 n0_4 a0_5 n0_5) hs0 (fun b21 w22 hs23 => ?_)
 refine Vs 1 <| Nss (Rg (rG 34) ?_)
 obtain ⟨j27, hj30, h31⟩ := bind_some h
 refine Wp (fun f w => ∃ (F1 : Mem), HS w0 F0 w F1 [] /\ Wj F0 F1 /\ FI f [] [(2, (.bool j27))]) ?_ ?_
 ·refine Vs 1 ?_
  refine Ld hs23.at0 <| Vs 3 <| Sp hj30 (fun hb32 h33 => ?_) (fun hb32 h34 => ?_)
  ·refine Ss hb32 5 ?_
   refine Su' 4 <| Ss hb32 1 <| Pk1 hb32 <| Vs 1 <| Vg 20 0 16 true 19 rfl (fa 27 1 4 4 1 b21 0 4) <| Vg 21 24 16 true 19 rfl (ld 24 20 b21 4 false 1 (.slice a0_4 x0.Jumps.length n0_4) hs23.at0) <| Vg 22 3 16 true 19 rfl (ln 21 24 a0_4 x0.Jumps.length n0_4 3 1 8) <| Vg 23 4 16 true 19 rfl (LB (t := 3) (t' := 3) (x := (.tmp 22)) (y := (.const (vi 40))) (k := .i64) (a := (x0.Jumps.length : Int)) (b := 40) rfl rfl) <| Pk1 (rfl : true = true) <| Vs 1 <| Sp h33 (fun hb35 h36 => ?_) (fun hb35 h37 => ?_)
   ·refine Vgs hb35 1 ?_
    refine Lg hb35 hs23.at0 <| Vgs hb35 2 <| Pk1 hb35 <| Vs 1 <| Sp h36 (fun hb38 h39 => ?_) (fun hb38 h40 => ?_)
    ·refine Vgs hb38 1 ?_
     refine Lg hb38 hs23.at0 ?_
     obtain ⟨r41, hr42, h43⟩ := bind_some h39
     refine Cg hb38 Ig hs23 (I8 N w22 F0 hs23.pers x0.Lines a0_5 n0_5 hb0_5 hs0_5 _ hr42) ?_
     rintro _ F2 w45 hs46 le47 rfl
     refine Pk1 hb38 <| Vs 1 ?_
     obtain rfl := Aa h43
     exact Wf ⟨rfl, F2, hs46.dr0, le47, fI⟩
    ·refine Ss hb38 3 ?_
     refine Pk0 hb38 <| Vs 1 ?_
     obtain rfl := Aa h40
     exact Wf ⟨rfl, F0, hs23.dr0, (Wk _), fI⟩
   ·refine Ss hb35 4 ?_
    refine Pk0 hb35 <| Vs 1 <| Ss (rfl : false = false) 3 <| Pk0 (rfl : false = false) <| Vs 1 ?_
    obtain rfl := Aa h37
    exact Wf ⟨rfl, F0, hs23.dr0, (Wk _), fI⟩
  ·refine Vgs hb32 1 ?_
   refine Lg hb32 hs23.at0 <| Vgs hb32 3 <| Sp h34 (fun hb49 h50 => ?_) (fun hb49 h51 => ?_)
   ·refine Vgs hb49 1 ?_
    refine Lg hb49 hs23.at0 <| Vgs hb49 2 <| Pg1 hb32 hb49 <| Pk0 hb32 <| Vs 1 <| Sp h50 (fun hb52 h53 => ?_) (fun hb52 h54 => ?_)
    ·refine Vgs hb52 1 ?_
     refine Lg hb52 hs23.at0 <| Vgs hb52 2 <| Pk1 hb52 <| Vs 1 <| Sp h53 (fun hb55 h56 => ?_) (fun hb55 h57 => ?_)
     ·refine Vgs hb55 1 ?_
      refine Lg hb55 hs23.at0 <| Vgs hb55 2 <| Pk1 hb55 <| Vs 1 <| Sp h56 (fun hb58 h59 => ?_) (fun hb58 h60 => ?_)
      ·refine Vgs hb58 1 ?_
       refine Lg hb58 hs23.at0 ?_
       obtain ⟨r61, hr62, h63⟩ := bind_some h59
       refine Cg hb58 Ig hs23 (I8 N w22 F0 hs23.pers x0.Lines a0_5 n0_5 hb0_5 hs0_5 _ hr62) ?_
       rintro _ F3 w65 hs66 le67 rfl
       refine Pk1 hb58 <| Vs 1 ?_
       obtain rfl := Aa h63
       exact Wf ⟨rfl, F3, hs66.dr0, le67, fI⟩
      ·refine Ss hb58 3 ?_
       refine Pk0 hb58 <| Vs 1 ?_
       obtain rfl := Aa h60
       exact Wf ⟨rfl, F0, hs23.dr0, (Wk _), fI⟩
     ·refine Ss hb55 4 ?_
      refine Pk0 hb55 <| Vs 1 <| Ss (rfl : false = false) 3 <| Pk0 (rfl : false = false) <| Vs 1 ?_
      obtain rfl := Aa h57
      exact Wf ⟨rfl, F0, hs23.dr0, (Wk _), fI⟩
    ·refine Ss hb52 4 ?_
     refine Pk0 hb52 <| Vs 1 <| Ss (rfl : false = false) 4 <| Pk0 (rfl : false = false) <| Vs 1 <| Ss (rfl : false = false) 3 <| Pk0 (rfl : false = false) <| Vs 1 ?_
     obtain rfl := Aa h54
     exact Wf ⟨rfl, F0, hs23.dr0, (Wk _), fI⟩
   ·refine Ss hb49 4 ?_
    refine Pg0 hb32 hb49 <| Pk0 hb32 <| Vs 1 <| Ss (rfl : false = false) 4 <| Pk0 (rfl : false = false) <| Vs 1 <| Ss (rfl : false = false) 4 <| Pk0 (rfl : false = false) <| Vs 1 <| Ss (rfl : false = false) 3 <| Pk0 (rfl : false = false) <| Vs 1 ?_
    obtain rfl := Aa h51
    exact Wf ⟨rfl, F0, hs23.dr0, (Wk _), fI⟩
 ·rintro f w24 ⟨F1, hs25, le26, ⟨_, rfl⟩⟩
  refine Ab <| Rt ?_
  obtain rfl := Aa h31
  exact Re [(.bool j27)] hs25 rfl
section
open Go.Lib (decDigits)
theorem FX {ρ σ : Type} {body : σ -> Option (Bt ρ σ)} (st : Nat -> σ) {o : Bt ρ σ} (k : Nat) (hb : ∀ i, i < k -> body (st i) = some (.next (st (i + 1)))) (he : body (st k) = some o) (ho : ∀ s', o ≠ .next s') {N : Nat} (hN : k < N) : AX body N (st 0) = some o := by
 have key : ∀ j i M, i + j = k -> j < M -> AX body M (st i) = some o := by
  intro j
  induction j with
  | zero =>
   intro i M hi hM
   obtain ⟨m, rfl⟩ : ∃ m, M = m + 1 := ⟨M - 1, by omega⟩
   rw [Nat.add_zero] at hi
   subst hi
   rw [AX, he]
   cases o with
   | next s => exact absurd rfl (ho s)
   | done s => rfl
   | ret r => rfl
  | succ j ih =>
   intro i M hi hM
   obtain ⟨m, rfl⟩ : ∃ m, M = m + 1 := ⟨M - 1, by omega⟩
   rw [AX, hb i (by omega)]
   exact ih (i + 1) m (by omega) (by omega)
 exact key k 0 N (by omega) hN
section
variable {N : Nat}
theorem lw (a b c : Int) : AU N a b c = some (decide (b <= a) && decide (a <= c)) := rfl
theorem Tq (b : UInt8) : W64 (b.toNat : Int) = (b.toNat : Int) := by
 have := b.toNat_lt
 exact E7 (by omega) (by omega)
theorem Us (b : UInt8) : Px b = ((decide (65 <= (b.toNat : Int)) && decide ((b.toNat : Int) <= 90)) || ((decide (48 <= (b.toNat : Int)) && decide ((b.toNat : Int) <= 57)) || ((b.toNat : Int) == 47))) := by
 have e1 : isL b = (decide (65 <= (b.toNat : Int)) && decide ((b.toNat : Int) <= 90)) := by
  unfold isL; congr 1 <;> (rw [decide_eq_decide]; omega)
 have e2 : isD b = (decide (48 <= (b.toNat : Int)) && decide ((b.toNat : Int) <= 57)) := by
  unfold isD; congr 1 <;> (rw [decide_eq_decide]; omega)
 have e3 : (b == 47) = ((b.toNat : Int) == 47) := by
  rw [Bool.eq_iff_iff, beq_iff_eq, beq_iff_eq]
  constructor
  ·rintro rfl; rfl
  ·intro h
   have : b.toNat = 47 := by omega
   exact UInt8.toNat_inj.1 this
 unfold Px
 rw [e1, e2, e3, Bool.or_assoc]
theorem T3 (s : WE) (hs : s.length < 4000000000) (hN : 4294967300 < N) : GY N s = some (G1 s) := by
 unfold GY
 rw [lw, Option.bind_some, show (decide ((1 : Int) <= (s.length : Int)) && decide ((s.length : Int) <= (16 : Int))) = wiB s.length 1 16 from GN _ 1 16]
 have h := FX (body := DM N s (wiB s.length 1 16)) (fun i => (wiB s.length 1 16 && (s.take i).all Px, (i : Int))) (o := .done (G1 s, (s.length : Int))) s.length (fun i hi => by
  unfold DM
  simp only
  rw [Ez hi, cond_true, Sg hi, Option.bind_some, HG i (by omega), Tq, List.take_add_one, List.getElem?_eq_getElem hi, List.all_append]
  simp only [Option.toList_some, List.all_cons, List.all_nil, Bool.and_true]
  rw [Us s[i], <- Bool.and_assoc]
  cases wiB s.length 1 16 && (s.take i).all Px with
  | false => rfl
  | true =>
   rw [cond_true, lw, Option.bind_some, lw]
   cases (decide (65 <= (s[i].toNat : Int)) && decide ((s[i].toNat : Int) <= 90)) with
   | true => rfl
   | false =>
    rw [cond_false, Option.bind_some]
    cases (decide (48 <= (s[i].toNat : Int)) && decide ((s[i].toNat : Int) <= 57)) with
    | true => rfl
    | false => rfl) (by
  unfold DM
  simp only
  rw [Dr, cond_false, List.take_length]
  rfl) (fun s' h => by cases h) (N := N) (by omega)
 rw [show (wiB s.length 1 16, (0 : Int)) = (wiB s.length 1 16 && (s.take 0).all Px, ((0 : Nat) : Int)) by simp, h]
 rfl
def RS (x : Line) : Prop := x.Call.length < 4000000000
theorem UO (o : Ac) (x : Line) : Cr o x = ((decide (1 <= x.Num) && decide (x.Num <= 65535)) && ((decide (1 <= x.Khz) && decide (x.Khz <= 10000000)) && ((decide (1 <= x.Mode) && decide (x.Mode <= 3)) && ((decide (0 <= x.Minute) && decide (x.Minute <= 20000)) && (G1 x.Call && (CH o x.Sent && CH o x.Got)))))) := by
 unfold Cr
 simp only [Bool.decide_and]
theorem QW (o : Ac) (x : Line) (hx : RS x) (hN : 4294967300 < N) : Cu N o x = some (Cr o x) := by
 unfold Cu
 rw [UO, lw, lw, lw, lw, T3 x.Call hx hN]
 simp only [Option.bind_some]
 rw [LW _ _ hN, LW _ _ hN]
 simp only [Option.bind_some]
 show _ = some _
 generalize (decide (1 <= x.Num) && decide (x.Num <= 65535)) = a
 generalize (decide (1 <= x.Khz) && decide (x.Khz <= 10000000)) = b
 generalize (decide (1 <= x.Mode) && decide (x.Mode <= 3)) = c
 generalize (decide (0 <= x.Minute) && decide (x.Minute <= 20000)) = d
 generalize G1 x.Call = e
 cases a <;> cases b <;> cases c <;> cases d <;> cases e <;> first | rfl | (simp only [cond_true, cond_false, Bool.true_and]; cases CH o x.Sent <;> rfl)
def okJ (l : List Int) (i : Nat) : Bool := match l[i]? with
 | some x => decide (1 <= x /\ x <= 20000) && (decide (i = 0) || match l[i - 1]? with
  | some y => decide (y < x)
  | none => true)
 | none => true
theorem PL {n : Nat} {ok : Nat -> Bool} : Jy n ok = true ↔ ∀ i, i < n -> ok i = true := ⟨fun h _ hi => To h hi, Rb⟩
theorem U8 : ∀ (l : List Int), RN l = true ↔ ∀ i, i < l.length -> (i = 0 \/ ∃ x y, l[i]? = some x /\ l[i - 1]? = some y /\ y < x) := by
 intro l
 induction l with
 | nil => simp [RN]
 | cons a r ih =>
  cases r with
  | nil =>
   simp only [RN, true_iff]
   intro i hi
   exact .inl (by simpa using hi)
  | cons b r =>
   rw [RN, Bool.and_eq_true, ih, decide_eq_true_eq]
   constructor
   ·rintro ⟨h1, h2⟩ i hi
    match i with
    | 0 => exact .inl rfl
    | 1 => exact .inr ⟨b, a, rfl, rfl, h1⟩
    | i + 2 =>
     rcases h2 (i + 1) (by simpa using hi) with h | ⟨x, y, e1, e2, h⟩
     ·omega
     ·exact .inr ⟨x, y, e1, e2, h⟩
   ·intro h
    refine ⟨?_, fun i hi => ?_⟩
    ·rcases h 1 (by simp) with h | ⟨x, y, e1, e2, h⟩
     ·omega
     ·cases e1; cases e2; exact h
    ·match i with
     | 0 => exact .inl rfl
     | i + 1 =>
      rcases h (i + 2) (by simpa using hi) with h | ⟨x, y, e1, e2, h⟩
      ·omega
      ·exact .inr ⟨x, y, e1, e2, h⟩
theorem U6 (l : List Int) : Hx l = (Jy l.length (okJ l) && decide (l.length <= 16)) := by
 unfold Hx
 rw [<- Bool.and_assoc]
 congr 1
 rw [Bool.eq_iff_iff, Bool.and_eq_true, U8, PL, List.all_eq_true]
 constructor
 ·rintro ⟨h1, h2⟩ i hi
  unfold okJ
  rw [List.getElem?_eq_getElem hi]
  have := h1 l[i] (List.getElem_mem hi)
  simp only [this, Bool.true_and]
  rcases h2 i hi with h | ⟨x, y, e1, e2, h⟩
  ·rw [decide_eq_true h]; rfl
  ·rw [List.getElem?_eq_getElem hi] at e1
   cases e1
   rw [e2]
   simp [h]
 ·intro h
  refine ⟨fun x hx => ?_, fun i hi => ?_⟩
  ·obtain ⟨i, hi, rfl⟩ := List.mem_iff_getElem.1 hx
   have := h i hi
   unfold okJ at this
   rw [List.getElem?_eq_getElem hi] at this
   simp only [Bool.and_eq_true] at this
   exact this.1
  ·by_cases h0 : i = 0
   ·exact .inl h0
   ·have := h i hi
    unfold okJ at this
    rw [List.getElem?_eq_getElem hi] at this
    have hi1 : i - 1 < l.length := by omega
    rw [List.getElem?_eq_getElem hi1] at this
    simp only [Bool.and_eq_true, decide_eq_false h0, Bool.false_or, decide_eq_true_eq] at this
    exact .inr ⟨l[i], l[i - 1], List.getElem?_eq_getElem hi, List.getElem?_eq_getElem hi1, this.2⟩
theorem Of (l : List Int) (hl : l.length < 4000000000) (hN : 4294967300 < N) : Db N l = some (Hx l) := by
 rw [U6]
 unfold Db
 rw [K6 (n := l.length) (okJ l) false (fun i hi => by
  unfold EG
  rw [Ez hi, cond_true, Ch hi, Option.bind_some, lw, Option.bind_some, HG i (by omega)]
  unfold okJ
  rw [List.getElem?_eq_getElem hi]
  simp only [Bool.decide_and]
  cases (decide (1 <= l[i]) && decide (l[i] <= 20000)) with
  | false => rfl
  | true =>
   rw [Bool.not_true, cond_false, Bool.true_and]
   by_cases h0 : i = 0
   ·subst h0; rfl
   ·have hi1 : i - 1 < l.length := by omega
    rw [decide_eq_true (show (i : Int) > 0 by omega), cond_true, UN i (by omega) (by omega), Ch hi1, Option.bind_some, List.getElem?_eq_getElem hi1, decide_eq_false h0, Bool.false_or]
    simp only
    rw [show decide (l[i] <= l[i - 1]) = !decide (l[i - 1] < l[i]) by rw [<- decide_not, decide_eq_decide]; omega]
    cases decide (l[i - 1] < l[i]) <;> rfl) (by
  unfold EG
  rw [Dr, cond_false]) (by omega)]
 cases Jy l.length (okJ l) with
 | false => rfl
 | true => 
  rw [cond_true, Bool.true_and]
  congr 1
  rw [decide_eq_decide]; omega
structure Tw (l : Log) : Prop where
 j : l.Jumps.length < 4000000000
 n : l.Lines.length < 4000000000
 x : ∀ x, x ∈ l.Lines -> RS x
theorem PG {o : Ac} {l : List Line} {k : Nat} (h : G2 o l = some k) : k < l.length /\ Jj o l k = false /\ ∀ i, i < k -> Jj o l i = true := by
 unfold G2 at h
 rw [List.find?_range_eq_some] at h
 obtain ⟨h1, h2, h3⟩ := h
 refine ⟨by simpa using h2, by simpa using h1, fun i hi => ?_⟩
 have := h3 i hi
 simpa using this
theorem PH {o : Ac} {l : List Line} (h : G2 o l = none) : ∀ i, i < l.length -> Jj o l i = true := by
 unfold G2 at h
 rw [List.find?_range_eq_none] at h
 intro i hi
 have := h i hi
 simpa using this
theorem Qh {body : Int -> Option (Bt (Int × Int) Int)} (o : Ac) (l : List Line) (hb : ∀ i, i < l.length -> body (i : Int) = some (bif Jj o l i then .next ((i + 1 : Nat) : Int) else .ret (21, ((i + 1 : Nat) : Int))))
  (he : body (l.length : Int) = some (.done (l.length : Int))) (hN : l.length < N) : ((AX body N 0).bind fun o => o.k (fun r => some r) (fun _ => some ((0 : Int), (0 : Int)))) = some (match G2 o l with | some i => (21, (i : Int) + 1) | none => (0, 0)) := by
 cases h : G2 o l with
 | some k =>
  obtain ⟨h1, h2, h3⟩ := PG h
  have := FX (body := body) (fun i => (i : Int)) (o := .ret (21, ((k + 1 : Nat) : Int))) k (fun i hi => by rw [hb i (by omega), h3 i hi]; rfl) (by rw [hb k h1, h2]; rfl) (fun s' h => by cases h) (N := N) (by omega)
  rw [show (0 : Int) = ((0 : Nat) : Int) from rfl, this]
  rfl
 | none =>
  have h3 := PH h
  have := FX (body := body) (fun i => (i : Int)) (o := .done (l.length : Int)) l.length (fun i hi => by rw [hb i hi, h3 i hi]; rfl) he (fun s' h => by cases h) hN
  rw [show (0 : Int) = ((0 : Nat) : Int) from rfl, this]
  rfl
theorem PN (a b c : Int) : (decide (b <= a) && decide (a <= c)) = decide (b <= a /\ a <= c) := (Bool.decide_and _ _).symm
theorem Oh (o : Ac) (l : Log) (hl : Tw l) (hN : 4294967300 < N) : CK N o l = some (chk o l) := by
 unfold CK chk
 by_cases h1 : l.Jumps.length > 16 \/ l.Lines.length > 400
 ·rw [if_pos h1, show (decide ((l.Jumps.length : Int) > 16) || decide ((l.Lines.length : Int) > 400)) = true by simp; omega]
  rfl
 ·rw [if_neg h1, show (decide ((l.Jumps.length : Int) > 16) || decide ((l.Lines.length : Int) > 400)) = false by simp; omega, cond_false]
  unfold DQ
  rw [lw, lw, lw, Of _ hl.j hN, PN, PN, PN]
  simp only [Option.bind_some]
  have e : Po l = (Ed l.Call && (decide (1 <= l.Category /\ l.Category <= 9) && (decide (1 <= l.Power /\ l.Power <= 9999) && (decide (0 <= l.Claimed /\ l.Claimed <= 1000000) && Hx l.Jumps)))) := rfl
  rw [e]
  have key := Qh (N := N) (body := DN N o l false) o l.Lines (fun i hi => by
   unfold DN
   have hfi := hl.x _ (List.getElem_mem hi)
   have hln := hl.n
   rw [Ez hi, cond_true, Ch hi, Option.bind_some, QW _ _ hfi hN, Option.bind_some, HG i (by omega)]
   unfold Jj
   rw [List.getElem?_eq_getElem hi]
   simp only
   cases Cr o l.Lines[i] with
   | false => rfl
   | true =>
    rw [Bool.not_true, cond_false, Bool.true_and]
    by_cases h0 : i = 0
    ·subst h0; rfl
    ·have hi1 : i - 1 < l.Lines.length := by omega
     rw [decide_eq_true (show (i : Int) > 0 by omega), cond_true, UN i (by omega) (by omega), Ch hi1, Option.bind_some, List.getElem?_eq_getElem hi1, decide_eq_false h0, Bool.false_or]
     simp only [Option.bind_some]
     rw [show decide (l.Lines[i].Num <= l.Lines[i - 1].Num) = !decide (l.Lines[i - 1].Num < l.Lines[i].Num) by rw [<- decide_not, decide_eq_decide]; omega, show decide (l.Lines[i].Minute < l.Lines[i - 1].Minute) = !decide (l.Lines[i - 1].Minute <= l.Lines[i].Minute) by rw [<- decide_not, decide_eq_decide]; omega]
     cases decide (l.Lines[i - 1].Num < l.Lines[i].Num) <;> cases decide (l.Lines[i - 1].Minute <= l.Lines[i].Minute) <;> rfl) (by
   unfold DN
   rw [Dr, cond_false]) (by have := hl.n; omega)
  generalize Ed l.Call = a
  generalize decide (1 <= l.Category /\ l.Category <= 9) = b
  generalize decide (1 <= l.Power /\ l.Power <= 9999) = c
  generalize decide (0 <= l.Claimed /\ l.Claimed <= 1000000) = d
  generalize Hx l.Jumps = e
  cases a <;> cases b <;> cases c <;> cases d <;> cases e <;> first | rfl | exact key
def Vz (o : Ac) (l : Log) : Bool := (chk o l).1 == 0
theorem U2 (o : Ac) (l : Log) (hl : Tw l) (hN : 4294967300 < N) : Cm N o l = some (Vz o l) := by
 unfold Cm
 show (CK N o l).bind _ = _
 rw [Oh o l hl hN]; rfl
end
end
def Fg (N : Nat) (x0 : Log) : Option WE :=
 ((C5 ([67, 65, 76, 76, 32] : WE) x0.Call).bind fun r24 => some r24)
theorem Lp : Af Tryz.prog 154 := fun _ _ => by kernel_rfl
theorem MZ (N : Nat) (w0 : World) (F0 : Mem) (hF : WG w0 F0) (x0 : Log) (a0_4 : WF) (n0_4 : Nat) (hb0_4 : LC x0.Jumps.length n0_4) (hs0_4 : SlA AD F0 a0_4 x0.Jumps) (a0_5 : WF) (n0_5 : Nat) (hb0_5 : LC x0.Lines.length n0_5) (hs0_5 : SlA AC F0 a0_5 x0.Lines) (r : WE) (h : Fg N x0 = some r) :
  Calls Tryz.prog 154 ([(.agg (AF x0 a0_4 n0_4 a0_5 n0_5))] : List Value).toArray w0 (AB w0 F0 fun F' v => v = (sv r)) := by
 have hs0 := Wl hF
 refine Go 6 Tryz.func154 <| Sq (Rg [0, 1] ?_)
 refine Bx' 27 (AF x0 a0_4 n0_4 a0_5 n0_5) hs0 (fun b21 w22 hs23 => ?_)
 refine Vs 1 <| Nss (Rg (rG 4) ?_)
 refine Vs 1 <| Ld hs23.at0 ?_
 obtain ⟨r24, hr25, h26⟩ := bind_some h
 refine V 5 9 (AV (t := 9) (t' := 9) (x := (.const (sv ([67, 65, 76, 76, 32] : WE)))) (y := (.tmp 4)) (a := ([67, 65, 76, 76, 32] : WE)) (b := x0.Call) (v := r24) rfl rfl hr25) <| Vs 1 <| Nt <| Rt ?_
 obtain rfl := Aa h26
 exact Re [(sv r24)] hs23 rfl
def DY (N : Nat) (x0 : Log) : (WE × Int) -> Option (Bt WE (WE × Int)) := fun s27 =>
 (bif (decide (s27.2 < (x0.Jumps.length : Int))) then ((idx x0.Jumps s27.2).bind fun x51 => ((strconv_Itoa N x51).bind fun r65 => ((C5 ([32] : WE) r65).bind fun r73 => ((C5 s27.1 r73).bind fun r76 => some (.next (r76, (W64 (s27.2 + 1)))))))) else some (.done (s27.1, s27.2)))
def DT (N : Nat) (x0 : Log) : Option WE :=
 ((AX (DY N x0) N (([74, 85, 77, 80, 83] : WE), 0)).bind fun o => o.k (fun r => some r) (fun s36 => some s36.1))
theorem Jo : Af Tryz.prog 160 := fun _ _ => by kernel_rfl
theorem Kd (N : Nat) (w0 : World) (F0 : Mem) (hF : WG w0 F0) (hG : Bz F0) (x0 : Log) (a0_4 : WF) (n0_4 : Nat) (hb0_4 : LC x0.Jumps.length n0_4) (hs0_4 : SlA AD F0 a0_4 x0.Jumps) (a0_5 : WF) (n0_5 : Nat) (hb0_5 : LC x0.Lines.length n0_5) (hs0_5 : SlA AC F0 a0_5 x0.Lines) (r : WE) (h : DT N x0 = some r) :
  Calls Tryz.prog 160 ([(.agg (AF x0 a0_4 n0_4 a0_5 n0_5))] : List Value).toArray w0 (AB w0 F0 fun F' v => v = (sv r)) := by
 have hs0 := Wl hF
 refine Go 20 Tryz.func160 <| Sq (Rg [0, 1] ?_)
 refine Bx' 27 (AF x0 a0_4 n0_4 a0_5 n0_5) hs0 (fun b21 w22 hs23 => ?_)
 refine Vs 1 <| Nss (Rg [0] ?_)
 refine Vs 1 <| Nss <| Sq (Rg (rG 4) ?_)
 refine Vs 1 <| Ld hs23.at0 <| Vs 2 <| Nt ?_
 obtain ⟨o24, ho25, h26⟩ := bind_some h
 refine Wq (fun f w => ∃ (s36 : (WE × Int)) (F2 : Mem), o24 = .done s36 /\ HS w0 F0 w F2 [] /\ Wj F0 F2 /\ FI f [] [(3, (sv s36.1))]) ?_ ?_
 ·refine Bk ?_
  refine Wi (by kernel_rfl) (fun m f w => ∃ (s27 : (WE × Int)) (F1 : Mem), AX (DY N x0) m s27 = some o24 /\ HS w0 F0 w F1 [] /\ Wj F0 F1 /\ FI f [] [(3, (sv s27.1)), (7, (.slice a0_4 x0.Jumps.length n0_4)), (8, (vi (x0.Jumps.length : Int))), (9, (vi s27.2))]) N ⟨(([74, 85, 77, 80, 83] : WE), 0), F0, ho25, hs23.dr0, (Wk _), fI⟩ ?_
  rintro m42 f w28 ⟨s27, F1, hit43, hs29, le30, ⟨_, rfl⟩⟩
  obtain ⟨m44, fl45, rfl, hb46, hnx47⟩ := AN hit43
  refine Sq (Rg [0] ?_)
  refine Vs 1 <| Nss <| Cd hb46 (fun hb48 h49 => ?_) (fun hb48 h50 => ?_)
  ·refine Sc ?_
   refine Ab <| Sq <| Bk <| Sq (Rg [0, 1, 2] ?_)
   obtain ⟨x51, hx52, h54⟩ := bind_some h49
   obtain ⟨hi53, hx52'⟩ := Ap hx52
   obtain ⟨b55, o56, C57, E58, fz59, rfl, hF61, hE62⟩ := Wr (Wm hs0_4 le30) hx52'
   have hc64 := hE62 _ _ hx52'
   refine Ix hi53 <| Lx 0 (hs29.pers _ _ hF61) hc64 <| Vs 1 <| Nt <| Rg (rG 6) <| Vs 2 ?_
   obtain ⟨r65, hr66, h67⟩ := bind_some h54
   refine Cl' Br hs29 (BC N w28 F1 hs29.pers (hG.mono le30) x51 _ hr66) ?_
   rintro _ F3 w69 hs70 le71 rfl
   obtain ⟨r73, hr74, h75⟩ := bind_some h67
   refine V 16 9 (AV (t := 9) (t' := 9) (x := (.const (sv ([32] : WE)))) (y := (.tmp 15)) (a := ([32] : WE)) (b := r65) (v := r73) rfl rfl hr74) ?_
   obtain ⟨r76, hr77, h78⟩ := bind_some h75
   refine V 17 9 (AV (t := 9) (t' := 9) (x := (.tmp 13)) (y := (.tmp 16)) (a := s27.1) (b := r73) (v := r76) rfl rfl hr77) <| Vs 1 <| Wf <| Au <| Ab <| Rg [0, 1] <| Vs 2 <| Wf ?_
   have hn79 := AO h78 hnx47
   exact ⟨m44, Nat.lt_succ_self _, (r76, (W64 (s27.2 + 1))), F3, hn79, hs70, (le30.t le71), fI⟩
  ·refine Ex ?_
   refine Ar <| Ar <| Az rfl ?_
   have ho80 := AP h50 hnx47
   exact .inl ⟨rfl, (s27.1, s27.2), F1, ho80, hs29, le30, fI⟩
 ·rintro f w37 ⟨s36, F2, rfl, hs38, le39, ⟨_, rfl⟩⟩
  have h81 := BL h26
  refine Ab <| Sq (Rg [0, 1] ?_)
  refine Vs 2 <| Nt <| Rt ?_
  obtain rfl := Aa h81
  exact Re [(sv s36.1)] hs38 rfl
def Cv (N : Nat) (x0 : Ac) (x1 : Line) : Option (WE × Int) :=
 ((Cu N ({ Report := x0.Report, Serial := x0.Serial, Zone := x0.Zone } : Ac) x1).bind fun r27 => (bif (!r27) then some (([] : WE), 1) else ((Co N x1.Minute).bind fun r38 => ((Ba N ({ Report := x0.Report, Serial := x0.Serial, Zone := x0.Zone } : Ac) ({ Report := x1.Sent.Report, Serial := x1.Sent.Serial, Zone := x1.Sent.Zone } : Ad)).bind fun r46 => ((Ba N ({ Report := x0.Report, Serial := x0.Serial, Zone := x0.Zone } : Ac) ({ Report := x1.Got.Report, Serial := x1.Got.Serial, Zone := x1.Got.Zone } : Ad)).bind fun r54 => (((LR ([32, 77, 86, 68] : WE) x1.Mode (W64 (x1.Mode + 1))).bind fun r73 => ((strconv_Itoa N x1.Num).bind fun r76 => ((strconv_Itoa N x1.Khz).bind fun r84 => ((strings_Join N ([([81, 83, 79] : WE), r76, r84, r73, r38.1, x1.Call, ([62] : WE), r46.1, ([60] : WE), r54.1]) ([32] : WE)).bind fun r101 => some r101)))).bind fun j67 => some (j67, 0)))))))
theorem Gb : Af Tryz.prog 27 := fun _ _ => by kernel_rfl
theorem GL (N : Nat) (w0 : World) (F0 : Mem) (hF : WG w0 F0) (hG : Bz F0) (x0 : Ac) (x1 : Line) (r : (WE × Int)) (h : Cv N x0 x1 = some r) :
  Calls Tryz.prog 27 ([(.agg (Ak x0)), (.agg (Cf x1))] : List Value).toArray w0 (AB w0 F0 fun F' v => v = (.tuple #[(sv r.1), (vi r.2)])) := by
 have hs0 := Wl hF
 refine Go 55 Tryz.func27 <| Sq (Rg (rG 4) ?_)
 refine Bx' 23 (Ak x0) hs0 (fun b21 w22 hs23 => ?_)
 refine Bx' 34 (Cf x1) hs23 (fun b24 w25 hs26 => ?_)
 refine Vs 2 <| Nss <| Sq (Rg (rG 4) ?_)
 refine Ld hs26.at1 <| Ld hs26.at0 ?_
 obtain ⟨r27, hr28, h29⟩ := bind_some h
 refine Cl' Ga hs26 (GK N w25 F0 hs26.pers (({ Report := x0.Report, Serial := x0.Serial, Zone := x0.Zone } : Ac)) x1 _ hr28) ?_
 rintro _ F1 w31 hs32 le33 rfl
 refine Vs 1 <| Nt <| Cd h29 (fun hb35 h36 => ?_) (fun hb35 h37 => ?_)
 ·refine Sq (Rg [0, 1] ?_)
  refine Vs 2 <| Nt <| Rt <| Ae ?_
  obtain rfl := Aa h36
  exact Re [(sv (([] : WE))), (vi 1)] hs32 rfl
 ·refine Sc ?_
  refine Ab <| Sq (Rg (rG 8) ?_)
  refine Vs 1 <| Ld hs32.at0 ?_
  obtain ⟨r38, hr39, h40⟩ := bind_some h37
  refine Cl' GG hs32 (Ht N w31 F1 hs32.pers (hG.mono le33) x1.Minute _ hr39) ?_
  rintro _ F2 w42 hs43 le44 rfl
  refine Vs 5 <| Nss (Rg (rG 9) ?_)
  refine Ld hs43.at1 <| Vs 1 <| Ld hs43.at0 ?_
  obtain ⟨r46, hr47, h48⟩ := bind_some h40
  refine Cl' Dh hs43 (DI N w42 F2 hs43.pers (hG.mono (le33.t le44)) (({ Report := x0.Report, Serial := x0.Serial, Zone := x0.Zone } : Ac)) (({ Report := x1.Sent.Report, Serial := x1.Sent.Serial, Zone := x1.Sent.Zone } : Ad)) _ hr47) ?_
  rintro _ F3 w50 hs51 le52 rfl
  refine Vs 5 <| Nss (Rg (rG 9) ?_)
  refine Ld hs51.at1 <| Vs 1 <| Ld hs51.at0 ?_
  obtain ⟨r54, hr55, h56⟩ := bind_some h48
  refine Cl' Dh hs51 (DI N w50 F3 hs51.pers (hG.mono ((le33.t le44).trans le52)) (({ Report := x0.Report, Serial := x0.Serial, Zone := x0.Zone } : Ac)) (({ Report := x1.Got.Report, Serial := x1.Got.Serial, Zone := x1.Got.Zone } : Ad)) _ hr55) ?_
  rintro _ F4 w58 hs59 le60 rfl
  refine Vs 5 <| Nss ?_
  obtain ⟨j67, hj71, h72⟩ := bind_some h56
  refine RD 21 21 [(sb b24 (Cf x1) 34), (sb b21 (Ak x0) 23)] [] hs59 (fun f w => ∃ (F5 : Mem), HS w0 F0 w F5 [] /\ Wj F4 F5 /\ FI f [] [(4, (sv j67)), (5, (vi 0))]) (fun wd62 hw63 => ?_) ?_
  ·refine Dvl [0] (tf 1 20) ?_
   refine Dl 1 (fun _ hq => (hq.1.2 0 _ _ rfl)) <| Dvl [3] [tt, tt, ff, tt, ff, ff, ff, ff, ff, ff, ff, ff, ff, ff, ff, ff, ff, ff, ff, ff, ff] <| Dl 4 (fun _ hq => (hq.1.2 0 _ _ rfl)) <| Dvl [6] [tt, tt, ff, tt, tt, ff, tt, ff, ff, ff, ff, ff, ff, ff, ff, ff, ff, ff, ff, ff, ff] <| Dl 7 (fun _ hq => (hq.1.2 0 _ _ rfl)) <| Dvl [8] [tt, tt, ff, tt, tt, ff, tt, tt, tt, ff, ff, ff, ff, ff, ff, ff, ff, ff, ff, ff, ff] <| Dl 9 (fun _ hq => (hq.1.2 0 _ _ rfl)) <| Dvl [10] [tt, tt, ff, tt, tt, ff, tt, tt, tt, tt, tt, ff, ff, ff, ff, ff, ff, ff, ff, ff, ff] ?_
   obtain ⟨r73, hr74, h75⟩ := bind_some hj71
   refine Dtl 11 47 9 (sv r73) [tt, tt, ff, tt, tt, ff, tt, tt, tt, tt, tt, tt, ff, ff, ff, ff, ff, ff, ff, ff, ff] (fun _ hq => JG (t := 9) (x := (.const (sv ([32, 77, 86, 68] : WE)))) (lo := (some (.tmp 43))) (hi := (some (.tmp 46))) (a := ([32, 77, 86, 68] : WE)) (il := x1.Mode) (ih := (W64 (x1.Mode + 1))) (v := r73) rfl (by kernel_rfl) rfl rfl hr74) <| Dvl [12, 13] [tt, tt, ff, tt, tt, ff, tt, tt, tt, tt, tt, tt, tt, tt, ff, ff, ff, ff, ff, ff, ff] <| Dl 14 (fun _ hq => (hq.1.2 0 _ _ rfl)) <| Dvl [15, 16] [tt, tt, ff, tt, tt, ff, tt, tt, tt, tt, tt, tt, tt, tt, tt, tt, tt, ff, ff, ff, ff] <| D1 2 ?_
   obtain ⟨r76, hr77, h78⟩ := bind_some h75
   refine DCl Br hw63 (BC N wd62 F4 hw63.pers (hG.mono (((le33.t le44).trans le52).trans le60)) x1.Num _ hr77) ?_
   rintro _ F6 w80 hs81 le82 rfl
   refine D1 5 ?_
   obtain ⟨r84, hr85, h86⟩ := bind_some h78
   refine DCl Br hs81 (BC N w80 F6 hs81.pers (hG.mono ((((le33.t le44).trans le52).trans le60).trans le82)) x1.Khz _ hr85) ?_
   rintro _ F7 w88 hs89 le90 rfl
   refine D1 17 <| DBs 9 [(sv (([81, 83, 79] : WE))), (sv r76), (sv r84), (sv r73), (sv r38.1), (sv x1.Call), (sv (([62] : WE))), (sv r46.1), (sv (([60] : WE))), (sv r54.1)] hs89 (le82.t le90) (fun b92 w93 hs94 => ?_)
   have hr96 : Av AM 9 F7 (some ⟨b92, 0, none⟩) 10 [([81, 83, 79] : WE), r76, r84, r73, r38.1, x1.Call, ([62] : WE), r46.1, ([60] : WE), r54.1] (some b92, .cells ([(sv (([81, 83, 79] : WE))), (sv r76), (sv r84), (sv r73), (sv r38.1), (sv x1.Call), (sv (([62] : WE))), (sv r46.1), (sv (([60] : WE))), (sv r54.1)] : List Value).toArray 9 (0, 0)) := Wz ⟨rfl, ⟨rfl, ⟨rfl, ⟨rfl, ⟨rfl, ⟨rfl, ⟨rfl, ⟨rfl, ⟨rfl, ⟨rfl, rfl⟩⟩⟩⟩⟩⟩⟩⟩⟩⟩ (by simp)
   refine D1 18 ?_
   have hb100 := Wx hr96
   obtain ⟨F8, hs97, le98, hs99⟩ := hs94.fr0 hr96
   obtain ⟨r101, hr102, h103⟩ := bind_some h86
   refine DCl B7 hs97 (CA N w93 F8 hs97.pers ([([81, 83, 79] : WE), r76, r84, r73, r38.1, x1.Call, ([62] : WE), r46.1, ([60] : WE), r54.1]) (some ⟨b92, 0, none⟩) 10 hb100 hs99 (([32] : WE)) _ hr102) ?_
   rintro _ F9 w105 hs106 le107 rfl
   refine Dvl [19, 20] (tf 21 0) ?_
   obtain rfl := Aa h103
   exact Ww (by kernel_rfl) ⟨F9, hs106.dr0.dr0, (((le82.t le90).trans le98).trans le107), fI⟩
  ·rintro f w64 ⟨F5, hs65, le66, ⟨_, rfl⟩⟩
   refine Ab <| Rt ?_
   obtain rfl := Aa h72
   exact Re [(sv j67), (vi 0)] hs65 rfl
theorem KB : Af Tryz.prog 156 := fun _ _ => by kernel_rfl
set_option maxRecDepth 100000 in
theorem MY (w0 : World) (F0 : Mem) (hF : WG w0 F0) (b o : Nat) : Calls Tryz.prog 156 ([(.pointer (some ⟨b, o, none⟩))] : List Value).toArray w0 (AB w0 F0 fun _ v => v = .pointer (some ⟨b, o + 1, none⟩)) := by
 have hs0 := Wl hF
 refine Go 6 Tryz.func156 <| Sq <| Rg [0] <| V 2 194 (GQ (x := .const (.pointer none)) (v := .pointer none) rfl) <| Wf <| Ab <| Sq <| Rg [0, 1, 2, 3] <| Vs 2 <| V 5 0 (CU (s := 27) (x := .tmp 4) (i := 1) (b := b) (o0 := o) (o := 1) (k := 1) rfl (by kernel_rfl) (by decide) rfl) <| Vs 1 <| Wf <| Ab <| Rt ?_
 exact Re [(.pointer (some ⟨b, o + 1, none⟩))] hs0 rfl
theorem KA : Af Tryz.prog 157 := fun _ _ => by kernel_rfl
set_option maxRecDepth 100000 in
theorem MX (w0 : World) (F0 : Mem) (hF : WG w0 F0) (b o : Nat) : Calls Tryz.prog 157 ([(.pointer (some ⟨b, o, none⟩))] : List Value).toArray w0 (AB w0 F0 fun _ v => v = .pointer (some ⟨b, o + 2, none⟩)) := by
 have hs0 := Wl hF
 refine Go 6 Tryz.func157 <| Sq <| Rg [0] <| V 2 194 (GQ (x := .const (.pointer none)) (v := .pointer none) rfl) <| Wf <| Ab <| Sq <| Rg [0, 1, 2, 3] <| Vs 2 <| V 5 0 (CU (s := 27) (x := .tmp 4) (i := 2) (b := b) (o0 := o) (o := 2) (k := 1) rfl (by kernel_rfl) (by decide) rfl) <| Vs 1 <| Wf <| Ab <| Rt ?_
 exact Re [(.pointer (some ⟨b, o + 2, none⟩))] hs0 rfl
theorem Kz : Af Tryz.prog 158 := fun _ _ => by kernel_rfl
set_option maxRecDepth 100000 in
theorem MW (w0 : World) (F0 : Mem) (hF : WG w0 F0) (b o : Nat) : Calls Tryz.prog 158 ([(.pointer (some ⟨b, o, none⟩))] : List Value).toArray w0 (AB w0 F0 fun _ v => v = .pointer (some ⟨b, o + 3, none⟩)) := by
 have hs0 := Wl hF
 refine Go 6 Tryz.func158 <| Sq <| Rg [0] <| V 2 194 (GQ (x := .const (.pointer none)) (v := .pointer none) rfl) <| Wf <| Ab <| Sq <| Rg [0, 1, 2, 3] <| Vs 2 <| V 5 0 (CU (s := 27) (x := .tmp 4) (i := 3) (b := b) (o0 := o) (o := 3) (k := 1) rfl (by kernel_rfl) (by decide) rfl) <| Vs 1 <| Wf <| Ab <| Rt ?_
 exact Re [(.pointer (some ⟨b, o + 3, none⟩))] hs0 rfl
def Dz (N : Nat) (x0 : Log) (z0 : WE) : Option WE :=
 (((C5 z0 ([32] : WE)).bind fun r34 => ((strconv_Itoa N x0.Category).bind fun r40 => ((C5 r34 r40).bind fun r48 => some r48))).bind fun j29 => some j29)
theorem IJ : Af Tryz.prog 191 := fun _ _ => by kernel_rfl
theorem Jt (N : Nat) (w0 : World) (F0 : Mem) (hF : WG w0 F0) (hG : Bz F0) (x0 : Log) (a0_4 : WF) (n0_4 : Nat) (hb0_4 : LC x0.Jumps.length n0_4) (hs0_4 : SlA AD F0 a0_4 x0.Jumps) (a0_5 : WF) (n0_5 : Nat) (hb0_5 : LC x0.Lines.length n0_5) (hs0_5 : SlA AC F0 a0_5 x0.Lines) (bz0 : Nat) (z0 : WE) (hz0 : F0 bz0 = some (oc #[(sv z0)] 9)) (bz1 : Nat) (hz1 : F0 bz1 = some (oc #[(fV 156 #[])] 195)) (r : WE) (h : Dz N x0 z0 = some r) :
  Calls Tryz.prog 191 ([(.agg (AF x0 a0_4 n0_4 a0_5 n0_5)), (pt bz0 0), (pt bz1 0)] : List Value).toArray w0 (AB w0 F0 fun F' v => v = (sv r)) := by
 have hs0 := Wl hF
 refine Go 13 Tryz.func191 <| Sq (Rg [0, 1] ?_)
 refine Bx' 27 (AF x0 a0_4 n0_4 a0_5 n0_5) hs0 (fun b21 w22 hs23 => ?_)
 refine Vs 1 <| Nss ?_
 obtain ⟨j29, hj32, h33⟩ := bind_some h
 refine RD 9 9 [(sb b21 (AF x0 a0_4 n0_4 a0_5 n0_5) 27)] [] hs23 (fun f w => ∃ (F1 : Mem), HS w0 F0 w F1 [] /\ Wj F0 F1 /\ FI f [] [(4, (sv j29))]) (fun wd24 hw25 => ?_) ?_
 ·refine Dl 0 (fun _ hq => (hq.1.1 _ _ hz0)) ?_
  obtain ⟨r34, hr35, h36⟩ := bind_some hj32
  refine Dt 1 6 9 (sv r34) (fun _ hq => AV (t := 9) (t' := 9) (x := (.tmp 5)) (y := (.const (sv ([32] : WE)))) (a := z0) (b := ([32] : WE)) (v := r34) rfl rfl hr35) <| Dl 2 (fun _ hq => (hq.1.1 _ _ hz1)) <| D1 3 <| DCl KB hw25 (MY wd24 F0 hw25.pers b21 0) ?_
  rintro _ F2 w37 hs38 le39 rfl
  refine Dv [4] <| Dl 5 (fun _ hq => (hq.1.2 0 _ _ rfl)) <| D1 6 ?_
  obtain ⟨r40, hr41, h42⟩ := bind_some h36
  refine DCl Br hs38 (BC N w37 F2 hs38.pers (hG.mono le39) x0.Category _ hr41) ?_
  rintro _ F3 w44 hs45 le46 rfl
  obtain ⟨r48, hr49, h50⟩ := bind_some h42
  refine Dt 7 12 9 (sv r48) (fun _ hq => AV (t := 9) (t' := 9) (x := (.tmp 6)) (y := (.tmp 11)) (a := r34) (b := r40) (v := r48) rfl rfl hr49) <| Dv [8] ?_
  obtain rfl := Aa h50
  exact Ww (by kernel_rfl) ⟨F3, hs45.dr0, (le39.t le46), fI⟩
 ·rintro f w26 ⟨F1, hs27, le28, ⟨_, rfl⟩⟩
  refine Ab <| Rt ?_
  obtain rfl := Aa h33
  exact Re [(sv j29)] hs27 rfl
def Dw (N : Nat) (x0 : Log) (z0 : WE) : Option WE :=
 (((C5 z0 ([32] : WE)).bind fun r34 => ((strconv_Itoa N x0.Power).bind fun r40 => ((C5 r34 r40).bind fun r48 => some r48))).bind fun j29 => some j29)
theorem IH : Af Tryz.prog 191 := fun _ _ => by kernel_rfl
theorem Jr (N : Nat) (w0 : World) (F0 : Mem) (hF : WG w0 F0) (hG : Bz F0) (x0 : Log) (a0_4 : WF) (n0_4 : Nat) (hb0_4 : LC x0.Jumps.length n0_4) (hs0_4 : SlA AD F0 a0_4 x0.Jumps) (a0_5 : WF) (n0_5 : Nat) (hb0_5 : LC x0.Lines.length n0_5) (hs0_5 : SlA AC F0 a0_5 x0.Lines) (bz0 : Nat) (z0 : WE) (hz0 : F0 bz0 = some (oc #[(sv z0)] 9)) (bz1 : Nat) (hz1 : F0 bz1 = some (oc #[(fV 157 #[])] 195)) (r : WE) (h : Dw N x0 z0 = some r) :
  Calls Tryz.prog 191 ([(.agg (AF x0 a0_4 n0_4 a0_5 n0_5)), (pt bz0 0), (pt bz1 0)] : List Value).toArray w0 (AB w0 F0 fun F' v => v = (sv r)) := by
 have hs0 := Wl hF
 refine Go 13 Tryz.func191 <| Sq (Rg [0, 1] ?_)
 refine Bx' 27 (AF x0 a0_4 n0_4 a0_5 n0_5) hs0 (fun b21 w22 hs23 => ?_)
 refine Vs 1 <| Nss ?_
 obtain ⟨j29, hj32, h33⟩ := bind_some h
 refine RD 9 9 [(sb b21 (AF x0 a0_4 n0_4 a0_5 n0_5) 27)] [] hs23 (fun f w => ∃ (F1 : Mem), HS w0 F0 w F1 [] /\ Wj F0 F1 /\ FI f [] [(4, (sv j29))]) (fun wd24 hw25 => ?_) ?_
 ·refine Dl 0 (fun _ hq => (hq.1.1 _ _ hz0)) ?_
  obtain ⟨r34, hr35, h36⟩ := bind_some hj32
  refine Dt 1 6 9 (sv r34) (fun _ hq => AV (t := 9) (t' := 9) (x := (.tmp 5)) (y := (.const (sv ([32] : WE)))) (a := z0) (b := ([32] : WE)) (v := r34) rfl rfl hr35) <| Dl 2 (fun _ hq => (hq.1.1 _ _ hz1)) <| D1 3 <| DCl KA hw25 (MX wd24 F0 hw25.pers b21 0) ?_
  rintro _ F2 w37 hs38 le39 rfl
  refine Dv [4] <| Dl 5 (fun _ hq => (hq.1.2 0 _ _ rfl)) <| D1 6 ?_
  obtain ⟨r40, hr41, h42⟩ := bind_some h36
  refine DCl Br hs38 (BC N w37 F2 hs38.pers (hG.mono le39) x0.Power _ hr41) ?_
  rintro _ F3 w44 hs45 le46 rfl
  obtain ⟨r48, hr49, h50⟩ := bind_some h42
  refine Dt 7 12 9 (sv r48) (fun _ hq => AV (t := 9) (t' := 9) (x := (.tmp 6)) (y := (.tmp 11)) (a := r34) (b := r40) (v := r48) rfl rfl hr49) <| Dv [8] ?_
  obtain rfl := Aa h50
  exact Ww (by kernel_rfl) ⟨F3, hs45.dr0, (le39.t le46), fI⟩
 ·rintro f w26 ⟨F1, hs27, le28, ⟨_, rfl⟩⟩
  refine Ab <| Rt ?_
  obtain rfl := Aa h33
  exact Re [(sv j29)] hs27 rfl
def Dy (N : Nat) (x0 : Log) (z0 : WE) : Option WE :=
 (((C5 z0 ([32] : WE)).bind fun r34 => ((strconv_Itoa N x0.Claimed).bind fun r40 => ((C5 r34 r40).bind fun r48 => some r48))).bind fun j29 => some j29)
theorem II : Af Tryz.prog 191 := fun _ _ => by kernel_rfl
theorem Js (N : Nat) (w0 : World) (F0 : Mem) (hF : WG w0 F0) (hG : Bz F0) (x0 : Log) (a0_4 : WF) (n0_4 : Nat) (hb0_4 : LC x0.Jumps.length n0_4) (hs0_4 : SlA AD F0 a0_4 x0.Jumps) (a0_5 : WF) (n0_5 : Nat) (hb0_5 : LC x0.Lines.length n0_5) (hs0_5 : SlA AC F0 a0_5 x0.Lines) (bz0 : Nat) (z0 : WE) (hz0 : F0 bz0 = some (oc #[(sv z0)] 9)) (bz1 : Nat) (hz1 : F0 bz1 = some (oc #[(fV 158 #[])] 195)) (r : WE) (h : Dy N x0 z0 = some r) :
  Calls Tryz.prog 191 ([(.agg (AF x0 a0_4 n0_4 a0_5 n0_5)), (pt bz0 0), (pt bz1 0)] : List Value).toArray w0 (AB w0 F0 fun F' v => v = (sv r)) := by
 have hs0 := Wl hF
 refine Go 13 Tryz.func191 <| Sq (Rg [0, 1] ?_)
 refine Bx' 27 (AF x0 a0_4 n0_4 a0_5 n0_5) hs0 (fun b21 w22 hs23 => ?_)
 refine Vs 1 <| Nss ?_
 obtain ⟨j29, hj32, h33⟩ := bind_some h
 refine RD 9 9 [(sb b21 (AF x0 a0_4 n0_4 a0_5 n0_5) 27)] [] hs23 (fun f w => ∃ (F1 : Mem), HS w0 F0 w F1 [] /\ Wj F0 F1 /\ FI f [] [(4, (sv j29))]) (fun wd24 hw25 => ?_) ?_
 ·refine Dl 0 (fun _ hq => (hq.1.1 _ _ hz0)) ?_
  obtain ⟨r34, hr35, h36⟩ := bind_some hj32
  refine Dt 1 6 9 (sv r34) (fun _ hq => AV (t := 9) (t' := 9) (x := (.tmp 5)) (y := (.const (sv ([32] : WE)))) (a := z0) (b := ([32] : WE)) (v := r34) rfl rfl hr35) <| Dl 2 (fun _ hq => (hq.1.1 _ _ hz1)) <| D1 3 <| DCl Kz hw25 (MW wd24 F0 hw25.pers b21 0) ?_
  rintro _ F2 w37 hs38 le39 rfl
  refine Dv [4] <| Dl 5 (fun _ hq => (hq.1.2 0 _ _ rfl)) <| D1 6 ?_
  obtain ⟨r40, hr41, h42⟩ := bind_some h36
  refine DCl Br hs38 (BC N w37 F2 hs38.pers (hG.mono le39) x0.Claimed _ hr41) ?_
  rintro _ F3 w44 hs45 le46 rfl
  obtain ⟨r48, hr49, h50⟩ := bind_some h42
  refine Dt 7 12 9 (sv r48) (fun _ hq => AV (t := 9) (t' := 9) (x := (.tmp 6)) (y := (.tmp 11)) (a := r34) (b := r40) (v := r48) rfl rfl hr49) <| Dv [8] ?_
  obtain rfl := Aa h50
  exact Ww (by kernel_rfl) ⟨F3, hs45.dr0, (le39.t le46), fI⟩
 ·rintro f w26 ⟨F1, hs27, le28, ⟨_, rfl⟩⟩
  refine Ab <| Rt ?_
  obtain rfl := Aa h33
  exact Re [(sv j29)] hs27 rfl
section
open Go.Proofs Go.Lib
def Tz (a : WF) (cap : Nat) (t : WE) (e : Option Nat × Obj) : Prop :=
 (a = none /\ cap = 0 /\ t = [] /\ e.1 = none) \/ ∃ g cur, a = some ⟨g, 0, none⟩ /\ e = (some g, .cells cur 5 (0, 0)) /\ t ≠ [] /\ t.length <= cap /\ cap <= maxLen /\ cur.size = cap /\ cur.toList.take t.length = byteCells t
def Hg (t s : WE) : Option WE := if t.length + s.length <= 140737488355328 then some (t ++ s) else none
theorem RX {t s r : WE} (h : Hg t s = some r) : t.length + s.length <= 140737488355328 /\ r = t ++ s := by
 unfold Hg at h; split at h
 ·rename_i h1; exact ⟨h1, by cases h; rfl⟩
 ·cases h
theorem Hf {t s : WE} (h : t.length + s.length <= 140737488355328) : Hg t s = some (t ++ s) := by unfold Hg; rw [if_pos h]
section
variable {w w0 : World} {F0 F : Mem} {L : Own}
theorem Es (l : WE) : (byteCells l).length = l.length := by simp [byteCells]
theorem Tj (l m : WE) : byteCells (l ++ m) = byteCells l ++ byteCells m := by simp [byteCells]
theorem PW {g : Nat} {cur cs : Array Value} {e : TypeId} {fz : Nat × Nat} (hg : w.heap[g]? = some (.cells cur e fz)) : w.setRow g cs = B1 w g (.cells cs e fz) := by
 have hlt : g < w.heap.size := (Array.getElem?_eq_some_iff.1 hg).1
 have hv : w.heap[g] = .cells cur e fz := (Array.getElem?_eq_some_iff.1 hg).2
 unfold World.setRow B1
 congr 1
 apply Array.ext_getElem?
 intro i
 rw [Array.getElem?_modify, Array.getElem?_setIfInBounds]
 by_cases hi : g = i
 ·subst hi; simp [hlt, hv]
 ·simp [hi]
theorem L1 {ty : TypeId} (hs : HS w0 F0 w F L) {k : Nat} {e : Option Nat × Obj} (hk : L[k]? = some e) {a : WF} {cap : Nat} {t s r : WE} (hr : Tz a cap t e) (hap : Hg t s = some r) :
  ∃ a' cap' e' w', (Builtin.append_ #[103, 9] ty #[.slice a t.length cap, .string ⟨s.toArray⟩]).run Tryz.prog w = .ok (.slice a' r.length cap') w' /\ HS w0 F0 w' F (L.set k e') /\ Tz a' cap' r e' := by
 obtain ⟨hlen, rfl⟩ := RX hap
 have hu9 : Tryz.prog.underlying 9 = some .string := Tryz.underlying9
 have hu42 : Tryz.prog.underlying 103 = some (.slice 5) := Tryz.underlying103
 obtain ⟨i0, hi, hz0, hz1, hz2⟩ := info_parts (show (Tryz.prog.info? 5).map (fun i => (i.zero, i.size, i.bytes)) = some (some (.int .u8 0), 1, 1) by kernel_rfl)
 have hss : (⟨s.toArray⟩ : ByteArray).size = s.length := by simp [ByteArray.size]
 have hsc : strCells ⟨s.toArray⟩ = byteCells s := by simp [strCells, byteCells]
 have hm : maxLen = 9223372036854775807 := rfl
 rcases hr with ⟨rfl, rfl, rfl, he⟩ | ⟨g, cur, rfl, rfl, hne, hlc, hcm, hcs, htk⟩
 ·by_cases h0 : s = []
  ·subst h0
   refine ⟨none, 0, e, w, ?_, by rw [LU hk]; exact hs, .inl ⟨rfl, rfl, rfl, he⟩⟩
   simp [Builtin.append_, run_underlying hu42, run_underlying hu9, sizeOf, typeInfo, hi, hz1, Builtin.lenOf, Builtin.firstCells, ByteArray.size]
  ·have hpos : 0 < s.length := List.length_pos_iff.2 h0
   have hrun := run_append_nil_string (P := Tryz.prog) w 103 9 ty 5 i0 (.int .u8 0) hu42 hu9 hi hz0 ⟨s.toArray⟩ (by rw [hss]; exact hpos) (by rw [hss]; simp at hlen; omega) (by rw [hss, hz2]; simp at hlen; omega)
   rw [hss] at hrun
   refine ⟨_, _, _, _, hrun, (hs.heap (w' := w.drew) rfl).renew k _, .inr ⟨_, _, rfl, rfl, by simpa using h0, by simpa using grownCap_ge w s.length 0 5, grownCap_le_maxLen w s.length 0 5 (by rw [hm]; simp at hlen; omega), ?_, ?_⟩⟩
   ·have := grownCap_ge w s.length 0 5
    simp [Builtin.zeroCells, Value.cells]; omega
   ·rw [List.nil_append]
    have e1 : (s.toArray.map fun b => Value.int .u8 (b.toNat : Int)).toList = byteCells s := by simp [byteCells]
    rw [Array.toList_append, e1, List.take_append_of_le_length (by rw [Es]; exact Nat.le_refl _), <- Es s, List.take_length]
 ·have hg : w.heap[g]? = some (.cells cur 5 (0, 0)) := hs.ownAt hk
  by_cases hfit : t.length + s.length <= cap
  ·have hrun := run_append_room_string (P := Tryz.prog) w 103 9 ty 5 i0 hu42 hu9 hi hz1 g t.length cap cur hg ⟨s.toArray⟩ (by rw [hss]; exact hfit) (by rw [hss, hcs]; exact hfit)
   rw [hss, hsc, PW hg] at hrun
   refine ⟨some ⟨g, 0, none⟩, cap, _, _, by rw [List.length_append]; exact hrun, hs.put hk _, .inr ⟨g, _, rfl, rfl, by simp [hne], by simpa using hfit, hcm, ?_, ?_⟩⟩
   ·simp [Es, hcs]; omega
   ·rw [htk, List.length_append, Tj]
    rw [List.take_append_of_le_length (by simp [Es])]
    have : t.length + s.length = (byteCells t ++ byteCells s).length := by simp [Es]
    rw [this, List.take_length]
  ·have hholds : ∀ j v, (byteCells t)[j]? = some v -> w.cell? ((⟨g, 0, none⟩ : Addr).add j) = some v := fun j v hj => by
    have hjl : j < t.length := by
     rcases Nat.lt_or_ge j t.length with h' | h'
     ·exact h'
     ·rw [List.getElem?_eq_none (by rw [Es]; exact h')] at hj; cases hj
    have : cur[j]? = some v := by
     rw [<- htk, List.getElem?_take_of_lt hjl, Array.getElem?_toList] at hj; exact hj
    rw [Addr.add_lit]; simp [World.cell?, hg, this]
   have hrun := run_append_grow_string (P := Tryz.prog) w 103 9 ty 5 i0 (.int .u8 0) hu42 hu9 hi hz0 ⟨g, 0, none⟩ t.length cap (byteCells t) (by rw [Es, hz1, Nat.mul_one]) hholds ⟨s.toArray⟩ (by rw [hss]; omega) (by rw [hss]; omega) (by rw [hss, hz2]; exact growslice_fits (by omega) (by omega))
   rw [hss, hsc] at hrun
   refine ⟨_, _, _, _, by rw [List.length_append]; exact hrun, (hs.heap (w' := w.drew) rfl).renew k _, .inr ⟨_, _, rfl, rfl, by simp [hne], by simpa using grownCap_ge w (t.length + s.length) cap 5, grownCap_le_maxLen w (t.length + s.length) cap 5 (by rw [hm]; omega), ?_, ?_⟩⟩
   ·have := grownCap_ge w (t.length + s.length) cap 5
    simp [Builtin.zeroCells, Value.cells, Es]; omega
   ·rw [Array.toList_append, Array.toList_append, Tj, List.length_append]
    have : t.length + s.length = (byteCells t ++ byteCells s).length := by simp [Es]
    rw [List.take_append_of_le_length (by simp [Es]), this]
    simp only [List.take_length]
end
section
variable {ρ : Operand -> Value} {w : World}
theorem HZ (op : BinOp) (t : TypeId) (x y : Operand) (p q : WF) : (eqGuard op t x y (.pointer p) (.pointer q)).run Tryz.prog w = .ok () w := by
 unfold eqGuard; cases op <;> simp
theorem N7 (p : WF) (d : Nat) : (Op.equalIn (d + 1) 102 (.pointer p) (.pointer none)).run Tryz.prog w = .ok p.isNone w := by
 unfold Op.equalIn
 simp only [Sem.run_bind, run_underlying Tryz.underlying102, Result.andThen_ok]
 cases p <;> rfl
theorem OY {x y : Operand} {p : WF} {ty : TypeId} (hx : ρ x = .pointer p) (hy : ρ y = .pointer none) : (Aj ρ (.binOp .eql 102 x y 102) ty).run Tryz.prog w = .ok (.value (.bool p.isNone)) w := by
 have e : Aj ρ (.binOp .eql 102 x y 102) ty = (do pure (Next.value (<- (do eqGuard .eql 102 x y (ρ x) (ρ y); binOp .eql 102 (ρ x) (ρ y))))) := rfl
 have e2 : binOp .eql 102 (.pointer p) (.pointer none) = (do pure (Value.bool (<- Op.equalIn (9999 + 1) 102 (.pointer p) (.pointer none)))) := rfl
 rw [e, hx, hy, e2]
 simp only [Sem.run_bind, HZ, Result.andThen_ok, N7, Sem.run_pure]
theorem N3 {x y : Operand} {a : Addr} {ty : TypeId} (hx : ρ x = .pointer (some a)) (hy : ρ y = .pointer (some a)) : (Aj ρ (.binOp .neq 102 x y 102) ty).run Tryz.prog w = .ok (.value (.bool false)) w := by
 have e : Aj ρ (.binOp .neq 102 x y 102) ty = (do pure (Next.value (<- (do eqGuard .neq 102 x y (ρ x) (ρ y); binOp .neq 102 (ρ x) (ρ y))))) := rfl
 obtain ⟨j, hj, _⟩ := Option.map_eq_some_iff.1 (show (Tryz.prog.info? 105).map (·.size) = some 2 by kernel_rfl)
 rw [e, hx, hy]
 simp only [Sem.run_bind, HZ, Result.andThen_ok, run_neq_ptr_same w a Tryz.underlying102 hj, Sem.run_pure]
theorem O0 {x : Operand} {v u : Value} {s d ty : TypeId} (hx : ρ x = v) (h : (convert s d v).run Tryz.prog w = .ok u w) : (Aj ρ (.convert s d x) ty).run Tryz.prog w = .ok (.value u) w := by
 have e : Aj ρ (.convert s d x) ty = (do pure (Next.value (<- convert s d (ρ x)))) := rfl
 rw [e, hx, Sem.run_bind, h]; rfl
theorem Rp {x : Operand} {v : Value} {ty : TypeId} (hx : ρ x = v) (hf : ρ (.func 192) = .func (.func 192) #[] #[]) : (Aj ρ (.call { callee := .value (.func 192), args := #[x], argTypes := #[235] }) ty).run Tryz.prog w = .ok (.value v) w := by
 have e : Aj ρ (.call { callee := .value (.func 192), args := #[x], argTypes := #[235] }) ty = (do let d <- Deferred.ofValue (ρ (.func 192)) (#[x].map ρ); invoke d.target d.args) := rfl
 rw [e, hf]
 simp only [Deferred.ofValue, Sem.run_bind, Sem.run_pure, Result.andThen_ok, invoke]
 rw [run_callFunc_extern Tryz.func192 (by kernel_rfl) (by kernel_rfl) (by kernel_rfl) (e := Extern.AbiNoEscape.same) (by kernel_rfl)]
 have : (#[] ++ Array.map ρ #[x] ++ #[] : Array Value) = #[v] := by simp [hx]
 rw [this, run_noEscape]; rfl
end
theorem Oz : Af Tryz.prog 161 := fun _ _ => by kernel_rfl
theorem PC {wb w0 : World} {Fb F0 : Mem} {Lf : Own} (b : Nat) (p : WF) (hp : p = none \/ p = some ⟨b, 0, none⟩) (v : Value) (hv : v.oneCell' = true) (hs0 : HS wb Fb w0 F0 ((some b, .cells #[.pointer p, v] 105 (0, 0)) :: Lf)) :
  Calls Tryz.prog 161 ([(.pointer (some ⟨b, 0, none⟩))] : List Value).toArray w0 (EE wb Fb F0 fun _ r L' => r = .tuple #[] /\ L' = (some b, .cells #[.pointer (some ⟨b, 0, none⟩), v] 105 (0, 0)) :: Lf) := by
 have hsh : w0.shape? b = some (105, 2) := by simp [World.shape?, hs0.at0]
 refine Go 20 Tryz.func161 <| Sq <| Rg [0, 1, 2, 3, 4] <| Vs 3 <| Ld hs0.at0 <| V 6 4 (OY (x := .tmp 5) (y := .const (.pointer none)) (p := p) rfl rfl) <| Wf <| Ab ?_
 rcases hp with rfl | rfl
 ·refine C1 (t := true) rfl ?_
  refine Rg [0, 1, 2, 3, 4, 5, 6, 7] ?_
  obtain ⟨j, hj, hjs⟩ := Option.map_eq_some_iff.1 (show (Tryz.prog.info? 105).map (·.size) = some 2 by kernel_rfl)
  refine Vs 2 <| V 9 235 (O0 (s := 102) (d := 235) (x := .tmp 8) rfl (run_to_unsafe w0 ⟨b, 0, none⟩ Tryz.underlying102 Tryz.underlying235 hj (by rw [hjs]; decide) hsh (Nat.zero_lt_succ 1))) <| V 10 235 (Rp (x := .tmp 9) rfl rfl) <| V 11 102 (O0 (s := 235) (d := 102) (x := .tmp 10) rfl (run_from_unsafe w0 ⟨b, 0, none⟩ Tryz.underlying235 Tryz.underlying102 hj hsh (by kernel_rfl))) <| Vs 2 <| St0 #[.pointer (some ⟨b, 0, none⟩), v] hs0 (fun w1 hs1 => ?_)
  refine Wf ?_
  exact ReB [] hs1 (Wk _) ⟨rfl, rfl⟩
 ·refine C0 (t := false) rfl ?_
  refine Sq <| Rg [0, 1, 2, 3, 4, 5] <| Vs 3 <| Ld hs0.at0 <| Vs 1 <| V 19 4 (N3 (x := .tmp 17) (y := .tmp 18) rfl rfl) <| Wf <| Ab <| C0 (t := false) rfl <| CWP.skip (by kernel_rfl) ?_
  exact ReB [] hs0 (Wk _) ⟨rfl, rfl⟩
theorem Bp : Af Tryz.prog 90 := fun _ _ => by kernel_rfl
theorem Nw {wb w0 : World} {Fb F0 : Mem} {Lf : Own} (b : Nat) (p : WF) (hp : p = none \/ p = some ⟨b, 0, none⟩) (a : WF) (cap : Nat) (e : Option Nat × Obj) (t s r : WE) (hb : Tz a cap t e) (hap : Hg t s = some r)
  (hs0 : HS wb Fb w0 F0 ((some b, .cells #[.pointer p, .slice a t.length cap] 105 (0, 0)) :: e :: Lf)) :
  Calls Tryz.prog 90 ([(.pointer (some ⟨b, 0, none⟩)), (.string ⟨s.toArray⟩)] : List Value).toArray w0 (EE wb Fb F0 fun _ v L' => v = .tuple #[.int .i64 (s.length : Int), .nilIface] /\ ∃ a' cap' e', L' = (some b, .cells #[.pointer (some ⟨b, 0, none⟩), .slice a' r.length cap'] 105 (0, 0)) :: e' :: Lf /\ Tz a' cap' r e') := by
 refine Go 19 Tryz.func90 <| Sq <| Rg [0, 1] <| Vs 2 <| Wf <| Ab <| Sq <| Rg [0, 1] <| Vs 1 <| CB Oz (PC b p hp (.slice a t.length cap) rfl hs0) ?_
 rintro _ F1 w1 _ hs1 le1 ⟨rfl, rfl⟩
 refine Wf <| Ab <| Sq <| Rg [0, 1, 2, 3, 4, 5, 6, 7, 8, 9] <| Vs 4 <| Ld hs1.at0 <| Vs 1 ?_
 obtain ⟨a', cap', e', w2, hrun, hs2, hb2⟩ := L1 (ty := 103) hs1 (k := 1) rfl hb hap
 refine Wg (dst := some 14) (ty := 103) (g := none) (v := .slice a' r.length cap') (by kernel_rfl) rfl (by
  have e : ∀ ρ : Operand -> Value, Aj ρ (.call { callee := .builtin .append, args := #[.tmp 12, .tmp 13], argTypes := #[103, 9] }) 103 = (do pure (Next.value (<- Builtin.append_ #[103, 9] 103 (#[.tmp 12, .tmp 13].map ρ)))) := fun _ => rfl
  rw [e]
  simp only [List.map_toArray, List.map_cons, List.map_nil]
  rw [Sem.run_bind]
  refine Eq.trans (congrArg (fun x => Result.andThen x _) (show _ = _ from hrun)) rfl) ?_
 have hs2 : HS wb Fb w2 F1 ((some b, .cells #[.pointer (some ⟨b, 0, none⟩), .slice a t.length cap] 105 (0, 0)) :: e' :: Lf) := hs2
 refine Vs 2 <| St0 #[.pointer (some ⟨b, 0, none⟩), .slice a' r.length cap'] hs2 (fun w3 hs3 => ?_)
 refine Wf <| Ab <| Sq <| Rg [0, 1, 2, 3] <| Vs 4 <| Wf <| Ab <| Rt ?_
 exact ReB [.int .i64 (s.length : Int), .nilIface] hs3 le1 ⟨rfl, a', cap', e', rfl, hb2⟩
def Fo (b : Nat) (t : WE) (_ : Mem) (Lf : Own) : Prop := ∃ p a n e, (p = none \/ p = some ⟨b, 0, none⟩) /\ Lf = [e, (some b, .cells #[.pointer p, .slice a t.length n] 105 (0, 0))] /\ Tz a n t e
theorem Fo.mono {b : Nat} : NU (Fo b) := fun _ _ _ _ h _ => h
section
variable {w w0 : World} {F0 F : Mem} {L : Own} {b : Nat}
theorem Fo.new (hs : HS w0 F0 w F ((some b, .cells #[.pointer none, .slice none 0 0] 105 (0, 0)) :: L)) : ∃ Lf, HS w0 F0 w F (L ++ Lf) /\ Fo b [] F Lf :=
 ⟨_, HS.swap (A := [(none, .cells #[] 0 (0, 0)), _]) (hs.dummy (.cells #[] 0 (0, 0))), none, none, 0, _, .inl rfl, rfl, .inl ⟨rfl, rfl, rfl, rfl⟩⟩
theorem DP {Lf : Own} {t s r : WE} (hap : Hg t s = some r) (hJ : Fo b t F Lf) (hs : HS w0 F0 w F (L ++ Lf)) :
  Calls Tryz.prog 90 ([(.pointer (some ⟨b, 0, none⟩)), (.string ⟨s.toArray⟩)] : List Value).toArray w (EE w0 F0 F fun F' v L' => v = .tuple #[.int .i64 (s.length : Int), .nilIface] /\ ∃ Lf', L' = L ++ Lf' /\ Fo b r F' Lf') := by
 obtain ⟨p, a, n, e, hp, rfl, hb⟩ := hJ
 have h1 : HS w0 F0 w F (e :: (some b, .cells #[.pointer p, .slice a t.length n] 105 (0, 0)) :: L) := HS.swap hs
 refine (Nw b p hp a n e t s r hb hap h1.pk1).mono ?_
 rintro _ w' ⟨F', v, _, rfl, h2, h3, rfl, a', n', e', rfl, hb'⟩
 exact ⟨F', _, L ++ [e', _], rfl, HS.swap (A := [e', _]) h2.pk1, h3, rfl, _, rfl, _, a', n', e', .inr rfl, rfl, hb'⟩
theorem MP : Af Tryz.prog 91 := fun _ _ => by kernel_rfl
theorem NT {Lf : Own} {t : WE} (hJ : Fo b t F Lf) (hs : HS w0 F0 w F (L ++ Lf)) : Calls Tryz.prog 91 ([(.pointer (some ⟨b, 0, none⟩))] : List Value).toArray w (EE w0 F0 F0 fun F' v L' => v = .string ⟨t.toArray⟩ /\ L' = [] /\ F' = F0) := by
 obtain ⟨p, a, n, e, hp, rfl, hb⟩ := hJ
 have h1 : HS w0 F0 w F (e :: (some b, .cells #[.pointer p, .slice a t.length n] 105 (0, 0)) :: L) := HS.swap hs
 have hB : w0.heap.size <= b := (h1.own b _ (.tail _ (.head _))).2.2
 have hbk := h1.at1
 have hbuf : IsBuilder 105 5 w0.heap.size b (byteCells t) w := by
  have : BuilderAt 105 5 w0.heap.size b (.pointer p) (byteCells t) w := by
   refine ⟨hB, .slice a t.length n, hbk, ?_, ?_⟩
   ·rcases hb with ⟨rfl, rfl, rfl, _⟩ | ⟨g, cur, rfl, rfl, hne, hlc, hcm, hcs, htk⟩
    ·exact ⟨rfl, .inl ⟨rfl, rfl⟩⟩
    ·exact ⟨by simp [Es], .inr ⟨g, n, cur, by rw [Es], (h1.own g _ (.head _)).2.2, h1.at0, by rw [Es]; exact hlc, hcm, by simpa using hcs, by rw [Es, Nat.mul_one]; exact htk⟩⟩
   ·rcases hb with ⟨rfl, rfl, rfl, _⟩ | ⟨g, cur, rfl, rfl, hne, hlc, hcm, hcs, htk⟩
    ·simp [Value.ownBlock]
    ·have := h1.nd
     simp only [Value.ownBlock]
     intro e
     simp at e
     subst e
     simp at this
  rcases hp with rfl | rfl
  ·exact .inl this
  ·exact .inr this
 refine (Tryz.Builder_String_any w0.heap.size b t w hbuf h1.size).mono ?_
 rintro _ w' ⟨rfl, hbel⟩
 refine ⟨F0, _, [], rfl, ?_, Wk _, rfl, rfl, rfl⟩
 exact ⟨h1.base, h1.fix.trans ⟨hbel.os, hbel.output, hbel.tape⟩, Nat.le_trans h1.size hbel.size, fun c hc => (hbel.block c hc).trans (h1.keep c hc), fun _ _ => rfl, fun c o hc => (hbel.block c (A9 (h1.base c o hc))).trans ((h1.keep c (A9 (h1.base c o hc))).trans (h1.base c o hc)), fun _ _ h => (by cases h), List.nodup_nil⟩
end
end
theorem Gu {P : Program} {w : World} {ρ : Operand -> Value} {ty t E : TypeId} {len s : Nat} {x y : Operand} {k : IntKind} {i : Int} {cs C : List Value} (hx : ρ x = .agg cs.toArray) (hy : ρ y = .int k i) (hu : P.underlying t = some (.array len E)) (ht : Eu P E = some (true, s)) (hi : 0 <= i /\ i < (len : Int)) (hc : Ao cs.toArray (i.toNat * s) s = C) (hl : C.length = s) :
  (Aj ρ (.index t x y) ty).run P w = .ok (.value (.agg C.toArray)) w := by
 have hp := Gs (P := P) (t := E) (C := cs.toArray) (o := i.toNat * s) ht (by rw [hc]; exact hl) (.inl rfl) w
 rw [hc] at hp
 simp only [Aj, execOp, hx, hy, Instr.index, asIntOf, Sem.run_bind, Sem.run_pure, Result.andThen_ok, run_underlying hu, CF ht]
 rw [if_pos hi]
 simp only [Sem.run_bind, CF ht, Result.andThen_ok]
 rw [hp]
 rfl
theorem Gt {P : Program} {w : World} {ρ : Operand -> Value} {ty t E : TypeId} {len s : Nat} {x y : Operand} {k : IntKind} {i n : Int} {cs C : List Value} (hx : ρ x = .agg cs.toArray) (hy : ρ y = .int k i) (hu : P.underlying t = some (.array len E)) (ht : Eu P E = some (true, s)) (hd : decide (i = n) = true) (hi : 0 <= n /\ n < (len : Int)) (hc : Ao cs.toArray (n.toNat * s) s = C) (hl : C.length = s) :
  (Aj ρ (.index t x y) ty).run P w = .ok (.value (.agg C.toArray)) w := by
 have e := of_decide_eq_true hd
 subst e
 exact Gu hx hy hu ht hi hc hl
theorem JI {P : Program} {w : World} {ρ : Operand -> Value} {ty t E : TypeId} {len s b o0 o1 : Nat} {g : Bool} {x y : Operand} {k : IntKind} {i n : Int} (hx : ρ x = .pointer (some ⟨b, o0, none⟩)) (hy : ρ y = .int k i) (hu : P.underlying t = some (.array len E)) (ht : Eu P E = some (g, s)) (hd : decide (i = n) = true) (hi : 0 <= n /\ n < (len : Int)) (ho : o0 + n.toNat * s = o1) :
  (Aj ρ (.indexAddr t x y) ty).run P w = .ok (.value (.pointer (some ⟨b, o1, none⟩))) w := by
 have e := of_decide_eq_true hd
 subst e
 subst ho
 have hdo : Aj ρ (.indexAddr t x y) ty = (do pure (Next.value (<- Instr.indexAt t (ρ x) (ρ y)))) := rfl
 rw [hdo, hx, hy]
 have e2 : (Instr.sureAddr (.pointer (some ⟨b, o0, none⟩))).run P w = .ok ⟨b, o0, none⟩ w := rfl
 simp only [Instr.indexAt, asIntOf, Sem.run_bind, Sem.run_pure, Result.andThen_ok, run_underlying hu, e2, hi, and_self, if_true, CF ht, Addr.add]
 first | rfl | (split <;> simp_all)
section
variable {P : Program} {n : Nat} {Q : Exit -> Fr -> World -> Prop} {f : Fr} {w w0 : World} {F0 F : Mem} {L : Own}
theorem CWP.rangeRet {X α σ : Type} {enc : X -> List Value} {ok : Mem -> X -> Prop} {px : X -> α} {m : ∀ {σ : Type}, (σ -> α -> Option (Bool × σ)) -> σ -> Option σ} {c : Code} (hk : Uf c = 1) {gf : FuncId} {cap : List Value} {B : Own}
  (hg : fev f (TO c) = .func (.func gf) #[] cap.toArray) (hgf : Af P gf) (hd : f.d = []) {ps : List Nat} (hps0 : rps c = ps) (hps : ps.all (· < n) = true) (hlen : ∀ x, (enc x).length = ps.length) (hs : HS w0 F0 w F (B ++ L)) (hseq : Rh P gf cap F B enc ok px m)
  (lp : σ -> α -> Option (σ × Bool)) (J : σ -> Mem -> Own -> Prop) (hJm : NU J) {s : σ} {r : σ × Bool} (hJ : J s F L) (hm : m (OH lp) (s, true) = some r)
  (hround : ∀ (l : Nat) (s : σ) (x : X) (w' : World) (F' : Mem) (Lf Rf : Own) (t : σ × Bool), Wj F F' -> ok F' x -> J s F' Lf -> HS w0 F0 w' F' (Lf ++ Rf) -> lp s (px x) = some t ->
   CWP P (some l) n (TP c) (fun e f1 w1 => e = .normal /\ ∃ F1 Lu, HS w0 F0 w1 F1 (Lu ++ Rf) /\ ∀ w2 Rg, HS w0 F0 w2 F1 (Lu ++ Rg) -> CWP P (some l) n (QM c) (fun e f2 w3 => ((e = .normal /\ t.2 = true) \/ (e = .ret /\ t.2 = false)) /\ ∃ F2 Lf2, HS w0 F0 w3 F2 (Lf2 ++ Rg) /\ Wj F' F2 /\ J t.1 F2 Lf2) f1 w2) (setps f ps (enc x)) w')
  (hdone : r.2 = true -> ∀ (D : Nat) (w' : World) (F' : Mem) (Lf : Own), HS w0 F0 w' F' ((some D, .deferred (some [])) :: Lf) -> Wj F F' -> J r.1 F' Lf -> Q .normal ⟨f.v, [{ target := .collected D, args := #[] }]⟩ w')
  (hstop : r.2 = false -> ∀ (D : Nat) (w' : World) (F' : Mem) (Lf : Own), HS w0 F0 w' F' ((some D, .deferred (some [])) :: Lf) -> Wj F F' -> J r.1 F' Lf -> Q .ret ⟨f.v, [{ target := .collected D, args := #[] }]⟩ w') : CWP P none n c Q f w := by
 refine CWP.rangeFunc2 hk hg hgf hd hps0 hps hlen hs hseq (OH lp) (fun s => s.2) (fun s F L => J s.1 F L) (fun s F F' L h hl => hJm s.1 F F' L h hl) (s := (s, true)) (r := r) hJ rfl hm (fun s x q h => ⟨(KO h).1, (KO h).2.1⟩) ?_ (fun D w' F' Lf h0 h1 h2 h3 => hdone h0 D w' F' Lf h1 h2 h3) (fun D w' F' Lf h0 h1 h2 h3 => hstop h0 D w' F' Lf h1 h2 h3)
 intro l s x w' F' Lf Rf q hle hok hJ hs hyq
 obtain ⟨h1, h2, h3⟩ := KO hyq
 refine (hround l s.1 x w' F' Lf Rf q.2 hle hok hJ hs h3).mono ?_
 rintro e f1 w1 ⟨rfl, F1, Lu, hs1, h⟩
 refine ⟨rfl, F1, Lu, hs1, fun w2 Rg hs2 => (h w2 Rg hs2).mono ?_⟩
 rintro e f2 w3 ⟨he, h⟩
 rw [h2]
 exact ⟨he, h⟩
end
def osk {α τ : Type} (q : Option α) (f : τ) (g : α -> τ) : τ := match q with
 | none => f
 | some a => g a
theorem UD {α τ : Type} {f : τ} {g : α -> τ} {r : τ} (h : osk none f g = r) : f = r := h
theorem UC {α τ : Type} {x : α} {f : τ} {g : α -> τ} {r : τ} (h : osk (some x) f g = r) : g x = r := h
structure Ai where
 o_ : Ac
 l_ : Log
 done_ : Int
 ended_ : Bool
abbrev rdv (b1 b2 b3 b4 : Nat) : Value := .func (.func 190) #[] #[.pointer (some ⟨b1, 0, none⟩), .pointer (some ⟨b2, 0, none⟩), .pointer (some ⟨b3, 0, none⟩), .pointer (some ⟨b4, 0, none⟩)]
abbrev wrv (b1 b4 : Nat) : Value := .func (.func 191) #[] #[.pointer (some ⟨b1, 0, none⟩), .pointer (some ⟨b4, 0, none⟩)]
abbrev fcv (k : FuncId) : Value := .func (.func k) #[] #[]
theorem E4 : Af Tryz.prog 155 := fun _ _ => by kernel_rfl
set_option maxRecDepth 100000 in
theorem FA (w0 : World) (F0 : Mem) (hF : WG w0 F0) (s : WE) (lo hi : Int) (k : FuncId) : Calls Tryz.prog 155 ([(.string ⟨s.toArray⟩), (.int .i64 lo), (.int .i64 hi), fcv k] : List Value).toArray w0 (AB w0 F0 fun F' v => ∃ b1 b2 b3 b4, v = .agg #[rdv b1 b2 b3 b4, wrv b1 b4] /\
  F' b1 = some (.cells #[.string ⟨s.toArray⟩] 9 (0, 0)) /\ F' b2 = some (.cells #[.int .i64 lo] 3 (0, 0)) /\ F' b3 = some (.cells #[.int .i64 hi] 3 (0, 0)) /\ F' b4 = some (.cells #[fcv k] 195 (0, 0))) := by
 have hs0 := Wl hF
 refine Go 12 Tryz.func155 <| Sq <| Rg [0, 1, 2, 3, 4] <| Bx' 9 #[(.string ⟨s.toArray⟩)] hs0 (fun b1 w1 hs1 => ?_)
 refine Bx' 3 #[(.int .i64 lo)] hs1 (fun b2 w2 hs2 => ?_)
 refine Bx' 3 #[(.int .i64 hi)] hs2 (fun b3 w3 hs3 => ?_)
 refine Bx' 195 #[fcv k] hs3 (fun b4 w4 hs4 => ?_)
 refine Al' 109 #[.nilFunc, .nilFunc] hs4 (fun b5 w5 hs5 => ?_)
 refine Wf <| Ab <| Sq <| Rg [0, 1, 2, 3] <| Vs 3 <| St0 #[rdv b1 b2 b3 b4, wrv b1 b4] hs5 (fun w6 hs6 => ?_)
 refine Wf <| Ab <| Rt ?_
 obtain ⟨F1, hs7, le1, f4⟩ := hs6.fc1
 obtain ⟨F2, hs8, le2, f3⟩ := hs7.fc1
 obtain ⟨F3, hs9, le3, f2⟩ := hs8.fc1
 obtain ⟨F4, hs10, le4, f1⟩ := hs9.fc1
 exact ⟨rfl, (.agg #[rdv b1 b2 b3 b4, wrv b1 b4]), AW (l := [.cell 8 109]) (by kernel_rfl) (vs := [(.agg #[rdv b1 b2 b3 b4, wrv b1 b4])]) ⟨b5, 0, rfl, Am (t := 109) (g := true) (s := 2) (by kernel_rfl) hs10.at0 rfl (by decide), trivial⟩, (.agg #[rdv b1 b2 b3 b4, wrv b1 b4]), F4, rfl, hs10.clear, b1, b2, b3, b4, rfl, f1, le4 _ _ f2, le4 _ _ (le3 _ _ f3), le4 _ _ (le3 _ _ (le2 _ _ f4))⟩
theorem EI : Af Tryz.prog 89 := fun _ _ => by kernel_rfl
set_option maxRecDepth 100000 in
theorem Fj (w0 : World) (F0 : Mem) (hF : WG w0 F0) : Calls Tryz.prog 89 ([] : List Value).toArray w0 (AB w0 F0 fun F' v => ∃ (b1 b2 b3 b4 b5 b6 b7 b8 b9 b10 b11 b12 : Nat), v = .agg #[fcv 153, fcv 154, rdv b1 b2 b3 b4, wrv b1 b4, rdv b5 b6 b7 b8, wrv b5 b8, rdv b9 b10 b11 b12, wrv b9 b12, fcv 159, fcv 160] /\ F' b1 = some (.cells #[(.string ⟨([67, 65, 84, 69, 71, 79, 82, 89] : WE).toArray⟩)] 9 (0, 0)) /\ F' b2 = some (.cells #[.int .i64 1] 3 (0, 0)) /\ F' b3 = some (.cells #[.int .i64 9] 3 (0, 0)) /\ F' b4 = some (.cells #[fcv 156] 195 (0, 0)) /\ F' b5 = some (.cells #[(.string ⟨([80, 79, 87, 69, 82] : WE).toArray⟩)] 9 (0, 0)) /\ F' b6 = some (.cells #[.int .i64 1] 3 (0, 0)) /\ F' b7 = some (.cells #[.int .i64 9999] 3 (0, 0)) /\ F' b8 = some (.cells #[fcv 157] 195 (0, 0)) /\ F' b9 = some (.cells #[(.string ⟨([67, 76, 65, 73, 77, 69, 68] : WE).toArray⟩)] 9 (0, 0)) /\ F' b10 = some (.cells #[.int .i64 0] 3 (0, 0)) /\ F' b11 = some (.cells #[.int .i64 1000000] 3 (0, 0)) /\ F' b12 = some (.cells #[fcv 158] 195 (0, 0))) := by
 have hs0 := Wl hF
 refine Go 7 Tryz.func89 <| Sq <| Rg [0] <| Al' 110 #[.nilFunc, .nilFunc, .nilFunc, .nilFunc, .nilFunc, .nilFunc, .nilFunc, .nilFunc, .nilFunc, .nilFunc] hs0 (fun b0 w1 hs1 => ?_)
 refine Wf <| Ab <| Sq <| Rg [0, 1, 2, 3, 4, 5, 6] <| Vs 1 <| Cl' E4 hs1 (FA w1 F0 hs1.pers [67, 65, 84, 69, 71, 79, 82, 89] 1 9 156) ?_
 rintro _ F1 w2 hs2 le1 ⟨b1, b2, b3, b4, rfl, f1, f2, f3, f4⟩
 refine Cl' E4 hs2 (FA w2 F1 hs2.pers [80, 79, 87, 69, 82] 1 9999 157) ?_
 rintro _ F2 w3 hs3 le2 ⟨b5, b6, b7, b8, rfl, f5, f6, f7, f8⟩
 refine Cl' E4 hs3 (FA w3 F2 hs3.pers [67, 76, 65, 73, 77, 69, 68] 0 1000000 158) ?_
 rintro _ F3 w4 hs4 le3 ⟨b9, b10, b11, b12, rfl, f9, f10, f11, f12⟩
 refine Vs 1 <| V 6 110 (Je (t := 110) (parts := #[(0, .tmp 1), (1, .tmp 2), (2, .tmp 3), (3, .tmp 4), (4, .tmp 5)]) (vs := [(0, .agg #[fcv 153, fcv 154]), (1, .agg #[rdv b1 b2 b3 b4, wrv b1 b4]), (2, .agg #[rdv b5 b6 b7 b8, wrv b5 b8]), (3, .agg #[rdv b9 b10 b11 b12, wrv b9 b12]), (4, .agg #[fcv 159, fcv 160])]) rfl (cs := [fcv 153, fcv 154, rdv b1 b2 b3 b4, wrv b1 b4, rdv b5 b6 b7 b8, wrv b5 b8, rdv b9 b10 b11 b12, wrv b9 b12, fcv 159, fcv 160]) (by kernel_rfl)) <| St0 #[fcv 153, fcv 154, rdv b1 b2 b3 b4, wrv b1 b4, rdv b5 b6 b7 b8, wrv b5 b8, rdv b9 b10 b11 b12, wrv b9 b12, fcv 159, fcv 160] hs4 (fun w5 hs5 => ?_)
 refine Wf <| Ab <| Rt ?_
 exact ⟨rfl, (.agg #[fcv 153, fcv 154, rdv b1 b2 b3 b4, wrv b1 b4, rdv b5 b6 b7 b8, wrv b5 b8, rdv b9 b10 b11 b12, wrv b9 b12, fcv 159, fcv 160]), AW (l := [.cell 0 110]) (by kernel_rfl) (vs := [(.agg #[fcv 153, fcv 154, rdv b1 b2 b3 b4, wrv b1 b4, rdv b5 b6 b7 b8, wrv b5 b8, rdv b9 b10 b11 b12, wrv b9 b12, fcv 159, fcv 160])]) ⟨b0, 0, rfl, Am (t := 110) (g := true) (s := 10) (by kernel_rfl) hs5.at0 rfl (by decide), trivial⟩, (.agg #[fcv 153, fcv 154, rdv b1 b2 b3 b4, wrv b1 b4, rdv b5 b6 b7 b8, wrv b5 b8, rdv b9 b10 b11 b12, wrv b9 b12, fcv 159, fcv 160]), F3, rfl, hs5.clear, b1, b2, b3, b4, b5, b6, b7, b8, b9, b10, b11, b12, rfl, le3 _ _ (le2 _ _ f1), le3 _ _ (le2 _ _ f2), le3 _ _ (le2 _ _ f3), le3 _ _ (le2 _ _ f4), le3 _ _ f5, le3 _ _ f6, le3 _ _ f7, le3 _ _ f8, f9, f10, f11, f12⟩
def Gg (N : Nat) (x0 : Ac) (x1 : Log) (r27 : (Int × Int)) (r54 : WE) (r62 : WE) (t68 : WE) (r79 : WE) (r87 : WE) (t93 : WE) (r104 : WE) (r112 : WE) (t118 : WE) (r129 : WE) (r137 : WE) (t143 : WE) (r154 : WE) (r162 : WE) (t168 : WE) : (Int × WE) -> Option (Bt (WE × Int) (Int × WE)) := fun s178 =>
 (bif (decide (s178.1 < (x1.Lines.length : Int))) then ((idx x1.Lines s178.1).bind fun x207 => ((Cv N ({ Report := x0.Report, Serial := x0.Serial, Zone := x0.Zone } : Ac) x207).bind fun r226 => ((C5 r226.1 ([10] : WE)).bind fun r234 => ((Hg s178.2 r234).bind fun t240 => some (.next ((W64 (s178.1 + 1)), t240)))))) else some (.done (s178.1, s178.2)))
def Dc (N : Nat) (x0 : Ac) (x1 : Log) : Option (WE × Int) :=
 ((CK N ({ Report := x0.Report, Serial := x0.Serial, Zone := x0.Zone } : Ac) x1).bind fun r27 => (bif (r27.1 != 0) then some (([] : WE), r27.1) else ((Fg N x1).bind fun r54 => ((C5 r54 ([10] : WE)).bind fun r62 => ((Hg ([] : WE) r62).bind fun t68 => ((Dz N x1 ([67, 65, 84, 69, 71, 79, 82, 89] : WE)).bind fun r79 => ((C5 r79 ([10] : WE)).bind fun r87 => ((Hg t68 r87).bind fun t93 => ((Dw N x1 ([80, 79, 87, 69, 82] : WE)).bind fun r104 => ((C5 r104 ([10] : WE)).bind fun r112 => ((Hg t93 r112).bind fun t118 => ((Dy N x1 ([67, 76, 65, 73, 77, 69, 68] : WE)).bind fun r129 => ((C5 r129 ([10] : WE)).bind fun r137 => ((Hg t118 r137).bind fun t143 => ((DT N x1).bind fun r154 => ((C5 r154 ([10] : WE)).bind fun r162 => ((Hg t143 r162).bind fun t168 => ((AX (Gg N x0 x1 r27 r54 r62 t68 r79 r87 t93 r104 r112 t118 r129 r137 t143 r154 r162 t168) N (0, t168)).bind fun o => o.k (fun r => some r) (fun s190 => ((Hg s190.2 ([69, 78, 68, 10] : WE)).bind fun t252 => some (t252, 0)))))))))))))))))))))
theorem EJ : Af Tryz.prog 29 := fun _ _ => by kernel_rfl
theorem Fk (N : Nat) (w0 : World) (F0 : Mem) (hF : WG w0 F0) (hG : Bz F0) (x0 : Ac) (x1 : Log) (a1_4 : WF) (n1_4 : Nat) (hb1_4 : LC x1.Jumps.length n1_4) (hs1_4 : SlA AD F0 a1_4 x1.Jumps) (a1_5 : WF) (n1_5 : Nat) (hb1_5 : LC x1.Lines.length n1_5) (hs1_5 : SlA AC F0 a1_5 x1.Lines) (r : (WE × Int)) (h : Dc N x0 x1 = some r) :
  Calls Tryz.prog 29 ([(.agg (Ak x0)), (.agg (AF x1 a1_4 n1_4 a1_5 n1_5))] : List Value).toArray w0 (AB w0 F0 fun F' v => v = (.tuple #[(sv r.1), (vi r.2)])) := by
 have hs0 := Wl hF
 refine Go 54 Tryz.func29 <| Sq (Rg (rG 4) ?_)
 refine Bx' 23 (Ak x0) hs0 (fun b21 w22 hs23 => ?_)
 refine Bx' 27 (AF x1 a1_4 n1_4 a1_5 n1_5) hs23 (fun b24 w25 hs26 => ?_)
 refine Vs 2 <| Nss <| Sq (Rg (rG 8) ?_)
 refine Ld hs26.at1 <| Ld hs26.at0 ?_
 obtain ⟨r27, hr28, h29⟩ := bind_some h
 refine Cl' EK hs26 (Fl N w25 F0 hs26.pers hG (({ Report := x0.Report, Serial := x0.Serial, Zone := x0.Zone } : Ac)) x1 a1_4 n1_4 hb1_4 hs1_4 a1_5 n1_5 hb1_5 hs1_5 _ hr28) ?_
 rintro _ F1 w31 hs32 le33 rfl
 refine Vs 5 <| Nss (Rg [0, 1] ?_)
 refine Vs 2 <| Nt <| Cd h29 (fun hb35 h36 => ?_) (fun hb35 h37 => ?_)
 ·refine Sq (Rg [0, 1, 2] ?_)
  refine Vs 3 <| Nt <| Rt <| Ae ?_
  obtain rfl := Aa h36
  exact Re [(sv (([] : WE))), (vi r27.1)] hs32 rfl
 ·refine Sc ?_
  refine Ab <| Sq (Rg [0] ?_)
  refine Al' 105 #[.pointer none, .slice none 0 0] hs32 (fun b38 w39 hs40 => ?_)
  obtain ⟨Lf41, hs42, hJ43⟩ := Fo.new hs40
  have hs44 : HS w0 F0 w39 F1 ((sb b24 (AF x1 a1_4 n1_4 a1_5 n1_5) 27) :: (sb b21 (Ak x0) 23) :: Lf41) := hs42
  refine Nss <| Sq (Rg [0, 1] ?_)
  refine Cl' EI hs44 (Fj w39 F1 hs44.pers) ?_
  rintro _ F2 w45 hs46 le47 ⟨tbt48_0_0, tbt48_0_1, tbt48_0_2, tbt48_0_3, tbt48_0_4, tbt48_0_5, tbt48_0_6, tbt48_0_7, tbt48_0_8, tbt48_0_9, tbt48_0_10, tbt48_0_11, rfl, htbt48_0_0, htbt48_0_1, htbt48_0_2, htbt48_0_3, htbt48_0_4, htbt48_0_5, htbt48_0_6, htbt48_0_7, htbt48_0_8, htbt48_0_9, htbt48_0_10, htbt48_0_11⟩
  refine Vs 1 <| Nt <| Bk <| CWP.unroll (by kernel_rfl) 6 <| URL.step <| Sq (Rg [0] ?_)
  refine Vs 1 <| Nss <| C1 (rfl : true = true) <| Sc <| Ab <| Sq <| Bk <| Sq (Rg [0, 1, 2] ?_)
  refine V 27 109 (Gu (t := 110) (E := 109) (len := 5) (s := 2) (x := (.tmp 24)) (y := (.tmp 25)) (k := .i64) (i := 0) (cs := [(fV 153 #[]), (fV 154 #[]), (fV 190 #[(pt tbt48_0_0 0), (pt tbt48_0_1 0), (pt tbt48_0_2 0), (pt tbt48_0_3 0)]), (fV 191 #[(pt tbt48_0_0 0), (pt tbt48_0_3 0)]), (fV 190 #[(pt tbt48_0_4 0), (pt tbt48_0_5 0), (pt tbt48_0_6 0), (pt tbt48_0_7 0)]), (fV 191 #[(pt tbt48_0_4 0), (pt tbt48_0_7 0)]), (fV 190 #[(pt tbt48_0_8 0), (pt tbt48_0_9 0), (pt tbt48_0_10 0), (pt tbt48_0_11 0)]), (fV 191 #[(pt tbt48_0_8 0), (pt tbt48_0_11 0)]), (fV 159 #[]), (fV 160 #[])]) (C := [(fV 153 #[]), (fV 154 #[])]) rfl rfl (by kernel_rfl) (by kernel_rfl) (by decide) rfl rfl) <| Al' 109 #[.nilFunc, .nilFunc] hs46 (fun b49 w50 hs51 => ?_)
  refine St0 #[(fV 153 #[]), (fV 154 #[])] hs51 (fun w52 hs53 => ?_)
  refine Nt <| Rg (rG 6) <| Vs 1 <| Ld hs53.at0 <| Ld hs53.at1 ?_
  obtain ⟨r54, hr55, h56⟩ := bind_some h37
  refine Cl' Lp hs53 (MZ N w52 F2 hs53.pers x1 a1_4 n1_4 hb1_4 (Wm hs1_4 (le33.t le47)) a1_5 n1_5 hb1_5 (Wm hs1_5 (le33.t le47)) _ hr55) ?_
  rintro _ F3 w58 hs59 le60 rfl
  obtain ⟨r62, hr63, h64⟩ := bind_some h56
  refine V 32 9 (AV (t := 9) (t' := 9) (x := (.tmp 31)) (y := (.const (sv ([10] : WE)))) (a := r54) (b := ([10] : WE)) (v := r62) rfl rfl hr63) ?_
  obtain ⟨t68, ht69, h70⟩ := bind_some h64
  refine CB Bp (DP (L := [(sb b49 #[(fV 153 #[]), (fV 154 #[])] 109), (sb b24 (AF x1 a1_4 n1_4 a1_5 n1_5) 27), (sb b21 (Ak x0) 23)]) ht69 (Fo.mono _ _ _ _ hJ43 (le47.t le60)) hs59) ?_
  rintro _ F4 w65 _ hs66 le67 ⟨rfl, Lf71, rfl, hJ72⟩
  have hs73 : HS w0 F0 w65 F4 ((sb b49 #[(fV 153 #[]), (fV 154 #[])] 109) :: (sb b24 (AF x1 a1_4 n1_4 a1_5 n1_5) 27) :: (sb b21 (Ak x0) 23) :: Lf71) := hs66
  refine Wf <| Au <| Ab <| Rg [0, 1] <| Vs 2 <| Nt <| URL.step <| Sq (Rg [0] ?_)
  refine Vs 1 <| Nss <| C1 (rfl : true = true) <| Sc <| Ab <| Sq <| Bk <| Sq (Rg [0, 1, 2] ?_)
  refine V 27 109 (Gu (t := 110) (E := 109) (len := 5) (s := 2) (x := (.tmp 24)) (y := (.tmp 25)) (k := .i64) (i := 1) (cs := [(fV 153 #[]), (fV 154 #[]), (fV 190 #[(pt tbt48_0_0 0), (pt tbt48_0_1 0), (pt tbt48_0_2 0), (pt tbt48_0_3 0)]), (fV 191 #[(pt tbt48_0_0 0), (pt tbt48_0_3 0)]), (fV 190 #[(pt tbt48_0_4 0), (pt tbt48_0_5 0), (pt tbt48_0_6 0), (pt tbt48_0_7 0)]), (fV 191 #[(pt tbt48_0_4 0), (pt tbt48_0_7 0)]), (fV 190 #[(pt tbt48_0_8 0), (pt tbt48_0_9 0), (pt tbt48_0_10 0), (pt tbt48_0_11 0)]), (fV 191 #[(pt tbt48_0_8 0), (pt tbt48_0_11 0)]), (fV 159 #[]), (fV 160 #[])]) (C := [(fV 190 #[(pt tbt48_0_0 0), (pt tbt48_0_1 0), (pt tbt48_0_2 0), (pt tbt48_0_3 0)]), (fV 191 #[(pt tbt48_0_0 0), (pt tbt48_0_3 0)])]) rfl rfl (by kernel_rfl) (by kernel_rfl) (by decide) rfl rfl) <| Al' 109 #[.nilFunc, .nilFunc] hs73 (fun b74 w75 hs76 => ?_)
  refine St0 #[(fV 190 #[(pt tbt48_0_0 0), (pt tbt48_0_1 0), (pt tbt48_0_2 0), (pt tbt48_0_3 0)]), (fV 191 #[(pt tbt48_0_0 0), (pt tbt48_0_3 0)])] hs76 (fun w77 hs78 => ?_)
  refine Nt <| Rg (rG 6) <| Vs 1 <| Ld hs78.at0 <| Ld hs78.at2 ?_
  obtain ⟨r79, hr80, h81⟩ := bind_some h70
  refine Cl' IJ hs78 (Jt N w77 F4 hs78.pers (hG.mono (((le33.t le47).trans le60).trans le67)) x1 a1_4 n1_4 hb1_4 (Wm hs1_4 (((le33.t le47).trans le60).trans le67)) a1_5 n1_5 hb1_5 (Wm hs1_5 (((le33.t le47).trans le60).trans le67)) tbt48_0_0 ([67, 65, 84, 69, 71, 79, 82, 89] : WE) ((le60.t le67) _ _ htbt48_0_0) tbt48_0_3 ((le60.t le67) _ _ htbt48_0_3) _ hr80) ?_
  rintro _ F5 w83 hs84 le85 rfl
  obtain ⟨r87, hr88, h89⟩ := bind_some h81
  refine V 32 9 (AV (t := 9) (t' := 9) (x := (.tmp 31)) (y := (.const (sv ([10] : WE)))) (a := r79) (b := ([10] : WE)) (v := r87) rfl rfl hr88) ?_
  obtain ⟨t93, ht94, h95⟩ := bind_some h89
  refine CB Bp (DP (L := [(sb b74 #[(fV 190 #[(pt tbt48_0_0 0), (pt tbt48_0_1 0), (pt tbt48_0_2 0), (pt tbt48_0_3 0)]), (fV 191 #[(pt tbt48_0_0 0), (pt tbt48_0_3 0)])] 109), (sb b49 #[(fV 153 #[]), (fV 154 #[])] 109), (sb b24 (AF x1 a1_4 n1_4 a1_5 n1_5) 27), (sb b21 (Ak x0) 23)]) ht94 (Fo.mono _ _ _ _ hJ72 le85) hs84) ?_
  rintro _ F6 w90 _ hs91 le92 ⟨rfl, Lf96, rfl, hJ97⟩
  have hs98 : HS w0 F0 w90 F6 ((sb b74 #[(fV 190 #[(pt tbt48_0_0 0), (pt tbt48_0_1 0), (pt tbt48_0_2 0), (pt tbt48_0_3 0)]), (fV 191 #[(pt tbt48_0_0 0), (pt tbt48_0_3 0)])] 109) :: (sb b49 #[(fV 153 #[]), (fV 154 #[])] 109) :: (sb b24 (AF x1 a1_4 n1_4 a1_5 n1_5) 27) :: (sb b21 (Ak x0) 23) :: Lf96) := hs91
  refine Wf <| Au <| Ab <| Rg [0, 1] <| Vs 2 <| Nt <| URL.step <| Sq (Rg [0] ?_)
  refine Vs 1 <| Nss <| C1 (rfl : true = true) <| Sc <| Ab <| Sq <| Bk <| Sq (Rg [0, 1, 2] ?_)
  refine V 27 109 (Gu (t := 110) (E := 109) (len := 5) (s := 2) (x := (.tmp 24)) (y := (.tmp 25)) (k := .i64) (i := 2) (cs := [(fV 153 #[]), (fV 154 #[]), (fV 190 #[(pt tbt48_0_0 0), (pt tbt48_0_1 0), (pt tbt48_0_2 0), (pt tbt48_0_3 0)]), (fV 191 #[(pt tbt48_0_0 0), (pt tbt48_0_3 0)]), (fV 190 #[(pt tbt48_0_4 0), (pt tbt48_0_5 0), (pt tbt48_0_6 0), (pt tbt48_0_7 0)]), (fV 191 #[(pt tbt48_0_4 0), (pt tbt48_0_7 0)]), (fV 190 #[(pt tbt48_0_8 0), (pt tbt48_0_9 0), (pt tbt48_0_10 0), (pt tbt48_0_11 0)]), (fV 191 #[(pt tbt48_0_8 0), (pt tbt48_0_11 0)]), (fV 159 #[]), (fV 160 #[])]) (C := [(fV 190 #[(pt tbt48_0_4 0), (pt tbt48_0_5 0), (pt tbt48_0_6 0), (pt tbt48_0_7 0)]), (fV 191 #[(pt tbt48_0_4 0), (pt tbt48_0_7 0)])]) rfl rfl (by kernel_rfl) (by kernel_rfl) (by decide) rfl rfl) <| Al' 109 #[.nilFunc, .nilFunc] hs98 (fun b99 w100 hs101 => ?_)
  refine St0 #[(fV 190 #[(pt tbt48_0_4 0), (pt tbt48_0_5 0), (pt tbt48_0_6 0), (pt tbt48_0_7 0)]), (fV 191 #[(pt tbt48_0_4 0), (pt tbt48_0_7 0)])] hs101 (fun w102 hs103 => ?_)
  refine Nt <| Rg (rG 6) <| Vs 1 <| Ld hs103.at0 <| Ld hs103.at3 ?_
  obtain ⟨r104, hr105, h106⟩ := bind_some h95
  refine Cl' IH hs103 (Jr N w102 F6 hs103.pers (hG.mono (((((le33.t le47).trans le60).trans le67).trans le85).trans le92)) x1 a1_4 n1_4 hb1_4 (Wm hs1_4 (((((le33.t le47).trans le60).trans le67).trans le85).trans le92)) a1_5 n1_5 hb1_5 (Wm hs1_5 (((((le33.t le47).trans le60).trans le67).trans le85).trans le92)) tbt48_0_4 ([80, 79, 87, 69, 82] : WE) ((((le60.t le67).trans le85).trans le92) _ _ htbt48_0_4) tbt48_0_7 ((((le60.t le67).trans le85).trans le92) _ _ htbt48_0_7) _ hr105) ?_
  rintro _ F7 w108 hs109 le110 rfl
  obtain ⟨r112, hr113, h114⟩ := bind_some h106
  refine V 32 9 (AV (t := 9) (t' := 9) (x := (.tmp 31)) (y := (.const (sv ([10] : WE)))) (a := r104) (b := ([10] : WE)) (v := r112) rfl rfl hr113) ?_
  obtain ⟨t118, ht119, h120⟩ := bind_some h114
  refine CB Bp (DP (L := [(sb b99 #[(fV 190 #[(pt tbt48_0_4 0), (pt tbt48_0_5 0), (pt tbt48_0_6 0), (pt tbt48_0_7 0)]), (fV 191 #[(pt tbt48_0_4 0), (pt tbt48_0_7 0)])] 109), (sb b74 #[(fV 190 #[(pt tbt48_0_0 0), (pt tbt48_0_1 0), (pt tbt48_0_2 0), (pt tbt48_0_3 0)]), (fV 191 #[(pt tbt48_0_0 0), (pt tbt48_0_3 0)])] 109), (sb b49 #[(fV 153 #[]), (fV 154 #[])] 109), (sb b24 (AF x1 a1_4 n1_4 a1_5 n1_5) 27), (sb b21 (Ak x0) 23)]) ht119 (Fo.mono _ _ _ _ hJ97 le110) hs109) ?_
  rintro _ F8 w115 _ hs116 le117 ⟨rfl, Lf121, rfl, hJ122⟩
  have hs123 : HS w0 F0 w115 F8 ((sb b99 #[(fV 190 #[(pt tbt48_0_4 0), (pt tbt48_0_5 0), (pt tbt48_0_6 0), (pt tbt48_0_7 0)]), (fV 191 #[(pt tbt48_0_4 0), (pt tbt48_0_7 0)])] 109) :: (sb b74 #[(fV 190 #[(pt tbt48_0_0 0), (pt tbt48_0_1 0), (pt tbt48_0_2 0), (pt tbt48_0_3 0)]), (fV 191 #[(pt tbt48_0_0 0), (pt tbt48_0_3 0)])] 109) :: (sb b49 #[(fV 153 #[]), (fV 154 #[])] 109) :: (sb b24 (AF x1 a1_4 n1_4 a1_5 n1_5) 27) :: (sb b21 (Ak x0) 23) :: Lf121) := hs116
  refine Wf <| Au <| Ab <| Rg [0, 1] <| Vs 2 <| Nt <| URL.step <| Sq (Rg [0] ?_)
  refine Vs 1 <| Nss <| C1 (rfl : true = true) <| Sc <| Ab <| Sq <| Bk <| Sq (Rg [0, 1, 2] ?_)
  refine V 27 109 (Gu (t := 110) (E := 109) (len := 5) (s := 2) (x := (.tmp 24)) (y := (.tmp 25)) (k := .i64) (i := 3) (cs := [(fV 153 #[]), (fV 154 #[]), (fV 190 #[(pt tbt48_0_0 0), (pt tbt48_0_1 0), (pt tbt48_0_2 0), (pt tbt48_0_3 0)]), (fV 191 #[(pt tbt48_0_0 0), (pt tbt48_0_3 0)]), (fV 190 #[(pt tbt48_0_4 0), (pt tbt48_0_5 0), (pt tbt48_0_6 0), (pt tbt48_0_7 0)]), (fV 191 #[(pt tbt48_0_4 0), (pt tbt48_0_7 0)]), (fV 190 #[(pt tbt48_0_8 0), (pt tbt48_0_9 0), (pt tbt48_0_10 0), (pt tbt48_0_11 0)]), (fV 191 #[(pt tbt48_0_8 0), (pt tbt48_0_11 0)]), (fV 159 #[]), (fV 160 #[])]) (C := [(fV 190 #[(pt tbt48_0_8 0), (pt tbt48_0_9 0), (pt tbt48_0_10 0), (pt tbt48_0_11 0)]), (fV 191 #[(pt tbt48_0_8 0), (pt tbt48_0_11 0)])]) rfl rfl (by kernel_rfl) (by kernel_rfl) (by decide) rfl rfl) <| Al' 109 #[.nilFunc, .nilFunc] hs123 (fun b124 w125 hs126 => ?_)
  refine St0 #[(fV 190 #[(pt tbt48_0_8 0), (pt tbt48_0_9 0), (pt tbt48_0_10 0), (pt tbt48_0_11 0)]), (fV 191 #[(pt tbt48_0_8 0), (pt tbt48_0_11 0)])] hs126 (fun w127 hs128 => ?_)
  refine Nt <| Rg (rG 6) <| Vs 1 <| Ld hs128.at0 <| Ld hs128.at4 ?_
  obtain ⟨r129, hr130, h131⟩ := bind_some h120
  refine Cl' II hs128 (Js N w127 F8 hs128.pers (hG.mono (((((((le33.t le47).trans le60).trans le67).trans le85).trans le92).trans le110).trans le117)) x1 a1_4 n1_4 hb1_4 (Wm hs1_4 (((((((le33.t le47).trans le60).trans le67).trans le85).trans le92).trans le110).trans le117)) a1_5 n1_5 hb1_5 (Wm hs1_5 (((((((le33.t le47).trans le60).trans le67).trans le85).trans le92).trans le110).trans le117)) tbt48_0_8 ([67, 76, 65, 73, 77, 69, 68] : WE) ((((((le60.t le67).trans le85).trans le92).trans le110).trans le117) _ _ htbt48_0_8) tbt48_0_11 ((((((le60.t le67).trans le85).trans le92).trans le110).trans le117) _ _ htbt48_0_11) _ hr130) ?_
  rintro _ F9 w133 hs134 le135 rfl
  obtain ⟨r137, hr138, h139⟩ := bind_some h131
  refine V 32 9 (AV (t := 9) (t' := 9) (x := (.tmp 31)) (y := (.const (sv ([10] : WE)))) (a := r129) (b := ([10] : WE)) (v := r137) rfl rfl hr138) ?_
  obtain ⟨t143, ht144, h145⟩ := bind_some h139
  refine CB Bp (DP (L := [(sb b124 #[(fV 190 #[(pt tbt48_0_8 0), (pt tbt48_0_9 0), (pt tbt48_0_10 0), (pt tbt48_0_11 0)]), (fV 191 #[(pt tbt48_0_8 0), (pt tbt48_0_11 0)])] 109), (sb b99 #[(fV 190 #[(pt tbt48_0_4 0), (pt tbt48_0_5 0), (pt tbt48_0_6 0), (pt tbt48_0_7 0)]), (fV 191 #[(pt tbt48_0_4 0), (pt tbt48_0_7 0)])] 109), (sb b74 #[(fV 190 #[(pt tbt48_0_0 0), (pt tbt48_0_1 0), (pt tbt48_0_2 0), (pt tbt48_0_3 0)]), (fV 191 #[(pt tbt48_0_0 0), (pt tbt48_0_3 0)])] 109), (sb b49 #[(fV 153 #[]), (fV 154 #[])] 109), (sb b24 (AF x1 a1_4 n1_4 a1_5 n1_5) 27), (sb b21 (Ak x0) 23)]) ht144 (Fo.mono _ _ _ _ hJ122 le135) hs134) ?_
  rintro _ F10 w140 _ hs141 le142 ⟨rfl, Lf146, rfl, hJ147⟩
  have hs148 : HS w0 F0 w140 F10 ((sb b124 #[(fV 190 #[(pt tbt48_0_8 0), (pt tbt48_0_9 0), (pt tbt48_0_10 0), (pt tbt48_0_11 0)]), (fV 191 #[(pt tbt48_0_8 0), (pt tbt48_0_11 0)])] 109) :: (sb b99 #[(fV 190 #[(pt tbt48_0_4 0), (pt tbt48_0_5 0), (pt tbt48_0_6 0), (pt tbt48_0_7 0)]), (fV 191 #[(pt tbt48_0_4 0), (pt tbt48_0_7 0)])] 109) :: (sb b74 #[(fV 190 #[(pt tbt48_0_0 0), (pt tbt48_0_1 0), (pt tbt48_0_2 0), (pt tbt48_0_3 0)]), (fV 191 #[(pt tbt48_0_0 0), (pt tbt48_0_3 0)])] 109) :: (sb b49 #[(fV 153 #[]), (fV 154 #[])] 109) :: (sb b24 (AF x1 a1_4 n1_4 a1_5 n1_5) 27) :: (sb b21 (Ak x0) 23) :: Lf146) := hs141
  refine Wf <| Au <| Ab <| Rg [0, 1] <| Vs 2 <| Nt <| URL.step <| Sq (Rg [0] ?_)
  refine Vs 1 <| Nss <| C1 (rfl : true = true) <| Sc <| Ab <| Sq <| Bk <| Sq (Rg [0, 1, 2] ?_)
  refine V 27 109 (Gu (t := 110) (E := 109) (len := 5) (s := 2) (x := (.tmp 24)) (y := (.tmp 25)) (k := .i64) (i := 4) (cs := [(fV 153 #[]), (fV 154 #[]), (fV 190 #[(pt tbt48_0_0 0), (pt tbt48_0_1 0), (pt tbt48_0_2 0), (pt tbt48_0_3 0)]), (fV 191 #[(pt tbt48_0_0 0), (pt tbt48_0_3 0)]), (fV 190 #[(pt tbt48_0_4 0), (pt tbt48_0_5 0), (pt tbt48_0_6 0), (pt tbt48_0_7 0)]), (fV 191 #[(pt tbt48_0_4 0), (pt tbt48_0_7 0)]), (fV 190 #[(pt tbt48_0_8 0), (pt tbt48_0_9 0), (pt tbt48_0_10 0), (pt tbt48_0_11 0)]), (fV 191 #[(pt tbt48_0_8 0), (pt tbt48_0_11 0)]), (fV 159 #[]), (fV 160 #[])]) (C := [(fV 159 #[]), (fV 160 #[])]) rfl rfl (by kernel_rfl) (by kernel_rfl) (by decide) rfl rfl) <| Al' 109 #[.nilFunc, .nilFunc] hs148 (fun b149 w150 hs151 => ?_)
  refine St0 #[(fV 159 #[]), (fV 160 #[])] hs151 (fun w152 hs153 => ?_)
  refine Nt <| Rg (rG 6) <| Vs 1 <| Ld hs153.at0 <| Ld hs153.at5 ?_
  obtain ⟨r154, hr155, h156⟩ := bind_some h145
  refine Cl' Jo hs153 (Kd N w152 F10 hs153.pers (hG.mono (((((((((le33.t le47).trans le60).trans le67).trans le85).trans le92).trans le110).trans le117).trans le135).trans le142)) x1 a1_4 n1_4 hb1_4 (Wm hs1_4 (((((((((le33.t le47).trans le60).trans le67).trans le85).trans le92).trans le110).trans le117).trans le135).trans le142)) a1_5 n1_5 hb1_5 (Wm hs1_5 (((((((((le33.t le47).trans le60).trans le67).trans le85).trans le92).trans le110).trans le117).trans le135).trans le142)) _ hr155) ?_
  rintro _ F11 w158 hs159 le160 rfl
  obtain ⟨r162, hr163, h164⟩ := bind_some h156
  refine V 32 9 (AV (t := 9) (t' := 9) (x := (.tmp 31)) (y := (.const (sv ([10] : WE)))) (a := r154) (b := ([10] : WE)) (v := r162) rfl rfl hr163) ?_
  obtain ⟨t168, ht169, h170⟩ := bind_some h164
  refine CB Bp (DP (L := [(sb b149 #[(fV 159 #[]), (fV 160 #[])] 109), (sb b124 #[(fV 190 #[(pt tbt48_0_8 0), (pt tbt48_0_9 0), (pt tbt48_0_10 0), (pt tbt48_0_11 0)]), (fV 191 #[(pt tbt48_0_8 0), (pt tbt48_0_11 0)])] 109), (sb b99 #[(fV 190 #[(pt tbt48_0_4 0), (pt tbt48_0_5 0), (pt tbt48_0_6 0), (pt tbt48_0_7 0)]), (fV 191 #[(pt tbt48_0_4 0), (pt tbt48_0_7 0)])] 109), (sb b74 #[(fV 190 #[(pt tbt48_0_0 0), (pt tbt48_0_1 0), (pt tbt48_0_2 0), (pt tbt48_0_3 0)]), (fV 191 #[(pt tbt48_0_0 0), (pt tbt48_0_3 0)])] 109), (sb b49 #[(fV 153 #[]), (fV 154 #[])] 109), (sb b24 (AF x1 a1_4 n1_4 a1_5 n1_5) 27), (sb b21 (Ak x0) 23)]) ht169 (Fo.mono _ _ _ _ hJ147 le160) hs159) ?_
  rintro _ F12 w165 _ hs166 le167 ⟨rfl, Lf171, rfl, hJ172⟩
  have hs173 : HS w0 F0 w165 F12 ((sb b149 #[(fV 159 #[]), (fV 160 #[])] 109) :: (sb b124 #[(fV 190 #[(pt tbt48_0_8 0), (pt tbt48_0_9 0), (pt tbt48_0_10 0), (pt tbt48_0_11 0)]), (fV 191 #[(pt tbt48_0_8 0), (pt tbt48_0_11 0)])] 109) :: (sb b99 #[(fV 190 #[(pt tbt48_0_4 0), (pt tbt48_0_5 0), (pt tbt48_0_6 0), (pt tbt48_0_7 0)]), (fV 191 #[(pt tbt48_0_4 0), (pt tbt48_0_7 0)])] 109) :: (sb b74 #[(fV 190 #[(pt tbt48_0_0 0), (pt tbt48_0_1 0), (pt tbt48_0_2 0), (pt tbt48_0_3 0)]), (fV 191 #[(pt tbt48_0_0 0), (pt tbt48_0_3 0)])] 109) :: (sb b49 #[(fV 153 #[]), (fV 154 #[])] 109) :: (sb b24 (AF x1 a1_4 n1_4 a1_5 n1_5) 27) :: (sb b21 (Ak x0) 23) :: Lf171) := hs166
  refine Wf <| Au <| Ab <| Rg [0, 1] <| Vs 2 <| Nt <| URL.step <| Sq (Rg [0] ?_)
  refine Vs 1 <| Nss <| C0 (rfl : false = false) <| Ex <| Ar <| Ar <| Az rfl <| Ab <| Sq <| Sq (Rg (rG 4) ?_)
  refine Vs 1 <| Ld hs173.at5 <| Vs 2 <| Nt ?_
  have hs174 := hs173.dr0.dr0.dr0.dr0.dr0
  obtain ⟨o175, ho176, h177⟩ := bind_some h170
  refine Wq (fun f w => ∃ (s190 : (Int × WE)) (F14 : Mem) (Lf194 : Own), o175 = .done s190 /\ HS w0 F0 w F14 Lf194 /\ Wj F12 F14 /\ FI f [] [(8, (pt b38 0))] /\ Fo b38 s190.2 F14 Lf194) ?_ ?_
  ·refine Bk ?_
   refine Wi (by kernel_rfl) (fun m f w => ∃ (s178 : (Int × WE)) (F13 : Mem) (Lf182 : Own), AX (Gg N x0 x1 r27 r54 r62 t68 r79 r87 t93 r104 r112 t118 r129 r137 t143 r154 r162 t168) m s178 = some o175 /\ HS w0 F0 w F13 ((sb b21 (Ak x0) 23) :: Lf182) /\ Wj F12 F13 /\ FI f [] [(2, (pt b21 0)), (8, (pt b38 0)), (36, (.slice a1_5 x1.Lines.length n1_5)), (37, (vi (x1.Lines.length : Int))), (38, (vi s178.1))] /\ Fo b38 s178.2 F13 Lf182) N ⟨(0, t168), F12, Lf171, ho176, hs174.dr0, (Wk _), fI, hJ172⟩ ?_
   rintro m198 f w179 ⟨s178, F13, Lf182, hit199, hs180, le181, ⟨_, rfl⟩, hJ183⟩
   obtain ⟨m200, fl201, rfl, hb202, hnx203⟩ := AN hit199
   refine Sq (Rg [0] ?_)
   refine Vs 1 <| Nss <| Cd hb202 (fun hb204 h205 => ?_) (fun hb204 h206 => ?_)
   ·refine Sc ?_
    refine Ab <| Sq <| Bk <| Sq (Rg (rG 4) ?_)
    obtain ⟨x207, hx208, h210⟩ := bind_some h205
    obtain ⟨hi209, hx208'⟩ := Ap hx208
    obtain ⟨b211, o212, C213, E214, fz215, rfl, hF217, hE218⟩ := Wr (Wm hs1_5 ((((((((((((le33.t le47).trans le60).trans le67).trans le85).trans le92).trans le110).trans le117).trans le135).trans le142).trans le160).trans le167).trans le181)) hx208'
    have hc220 := hE218 _ _ hx208'
    refine Ix hi209 <| Lx 0 (hs180.pers _ _ hF217) hc220 <| Al' 34 #[(vi 0), (vi 0), (vi 0), (vi 0), (sv (([] : WE))), (vi 0), (vi 0), (vi 0), (vi 0), (vi 0), (vi 0)] hs180 (fun b221 w222 hs223 => ?_)
    refine St0 (Cf x207) hs223 (fun w224 hs225 => ?_)
    refine Nss (Rg (rG 8) ?_)
    refine Ld hs225.at1 <| Ld hs225.at0 ?_
    obtain ⟨r226, hr227, h228⟩ := bind_some h210
    refine Cl' Gb hs225 (GL N w224 F13 hs225.pers (hG.mono ((((((((((((le33.t le47).trans le60).trans le67).trans le85).trans le92).trans le110).trans le117).trans le135).trans le142).trans le160).trans le167).trans le181)) (({ Report := x0.Report, Serial := x0.Serial, Zone := x0.Zone } : Ac)) x207 _ hr227) ?_
    rintro _ F15 w230 hs231 le232 rfl
    refine Vs 5 <| Nt <| Rg [0, 1, 2] <| Vs 1 ?_
    obtain ⟨r234, hr235, h236⟩ := bind_some h228
    refine V 49 9 (AV (t := 9) (t' := 9) (x := (.tmp 48)) (y := (.const (sv ([10] : WE)))) (a := r226.1) (b := ([10] : WE)) (v := r234) rfl rfl hr235) ?_
    obtain ⟨t240, ht241, h242⟩ := bind_some h236
    refine CB Bp (DP (L := [(sb b221 (Cf x207) 34), (sb b21 (Ak x0) 23)]) ht241 (Fo.mono _ _ _ _ hJ183 le232) hs231) ?_
    rintro _ F16 w237 _ hs238 le239 ⟨rfl, Lf243, rfl, hJ244⟩
    have hs245 : HS w0 F0 w237 F16 ((sb b221 (Cf x207) 34) :: (sb b21 (Ak x0) 23) :: Lf243) := hs238
    refine Wf <| Au <| Ab <| Rg [0, 1] <| Vs 2 <| Wf ?_
    have hn246 := AO h242 hnx203
    exact ⟨m200, Nat.lt_succ_self _, ((W64 (s178.1 + 1)), t240), F16, Lf243, hn246, hs245.dr0, ((le181.t le232).trans le239), fI, hJ244⟩
   ·refine Ex ?_
    refine Ar <| Ar <| Az rfl ?_
    have ho247 := AP h206 hnx203
    exact .inl ⟨rfl, (s178.1, s178.2), F13, Lf182, ho247, hs180.dr0, le181, fI, hJ183⟩
  ·rintro f w191 ⟨s190, F14, Lf194, rfl, hs192, le193, ⟨_, rfl⟩, hJ195⟩
   have h248 := BL h177
   refine Ab <| Sq (Rg [0] ?_)
   obtain ⟨t252, ht253, h254⟩ := bind_some h248
   refine CB Bp (DP (L := []) ht253 hJ195 hs192) ?_
   rintro _ F17 w249 Lf255 hs250 le251 ⟨rfl, _, rfl, hJ256⟩
   have hs257 : HS w0 F0 w249 F17 Lf255 := hs250
   refine Nss (Rg [0, 1, 2] ?_)
   refine CB MP (NT (L := []) hJ256 hs257) ?_
   rintro _ _ w258 _ hs259 _ ⟨rfl, rfl, rfl⟩
   refine Vs 2 <| Nt <| Rt ?_
   obtain rfl := Aa h254
   exact Re [(sv t252), (vi 0)] hs259 rfl
def AG (N : Nat) (x0 : WE) : Option (Int × Bool) :=
 ((BU N x0).bind fun r21 => ((bif (!r21.2) then ((strconv_Itoa N r21.1).bind fun r41 => some (r41 == x0)) else some false).bind fun j32 => some (r21.1, j32)))
theorem Bf : Af Tryz.prog 95 := fun _ _ => by kernel_rfl
theorem Bq (N : Nat) (w0 : World) (F0 : Mem) (hF : WG w0 F0) (hG : Bz F0) (x0 : WE) (r : (Int × Bool)) (h : AG N x0 = some r) :
  Calls Tryz.prog 95 ([(sv x0)] : List Value).toArray w0 (AB w0 F0 fun F' v => v = (.tuple #[(vi r.1), (.bool r.2)])) := by
 have hs0 := Wl hF
 refine Go 20 Tryz.func95 <| Sq (Rg [0, 1] ?_)
 refine Vs 2 <| Nss (Rg (rG 7) ?_)
 refine Vs 1 ?_
 obtain ⟨r21, hr22, h23⟩ := bind_some h
 refine Cl' Hn hs0 (Il N w0 F0 hs0.pers hG x0 _ hr22) ?_
 rintro _ F1 w25 hs26 le27 ⟨vr21_1_0, rfl, her21_1_0⟩
 refine Vs 5 <| Nss (Rg (rG 11) ?_)
 obtain ⟨j32, hj36, h37⟩ := bind_some h23
 refine Wp (fun f w => ∃ (F2 : Mem), HS w0 F0 w F2 [] /\ Wj F1 F2 /\ FI f [] [(2, (vi r21.1)), (3, (.bool j32))]) ?_ ?_
 ·refine Vs 2 ?_
  refine V 13 4 (P6 (t := 113) (t' := 113) (x := (.tmp 12)) (c := .nilIface) her21_1_0 rfl rfl (by kernel_rfl)) <| Vs 1 <| Sp hj36 (fun hb38 h39 => ?_) (fun hb38 h40 => ?_)
  ·refine Vgs hb38 1 ?_
   obtain ⟨r41, hr42, h43⟩ := bind_some h39
   refine Cg hb38 Br hs26 (BC N w25 F1 hs26.pers (hG.mono le27) r21.1 _ hr42) ?_
   rintro _ F3 w45 hs46 le47 rfl
   refine Vgs hb38 2 <| Pk1 hb38 <| Vs 2 ?_
   obtain rfl := Aa h43
   exact Wf ⟨rfl, F3, hs46, le47, fI⟩
  ·refine Ss hb38 4 ?_
   refine Pk0 hb38 <| Vs 2 ?_
   obtain rfl := Aa h40
   exact Wf ⟨rfl, F1, hs26, (Wk _), fI⟩
 ·rintro f w29 ⟨F2, hs30, le31, ⟨_, rfl⟩⟩
  refine Ab <| Rt ?_
  obtain rfl := Aa h37
  exact Re [(vi r21.1), (.bool j32)] hs30 rfl
def Dd (N : Nat) (x0 : Ac) (x1 : WE) : Option (Line × Int) :=
 ((strings_Split N x1 ([32] : WE)).bind fun r27 => ((AR N r27 ([60] : WE)).bind fun r35 => ((bif (decide ((r27.length : Int) < 9)) then some true else (bif (decide (r35 < 8)) then some true else ((idx r27 7).bind fun x62 => some (x62 != ([62] : WE))))).bind fun j46 => (bif j46 then some (({ Num := 0, Khz := 0, Mode := 0, Minute := 0, Call := ([] : WE), Sent := ({ Report := 0, Serial := 0, Zone := 0 } : Ad), Got := ({ Report := 0, Serial := 0, Zone := 0 } : Ad) } : Line), 20) else ((idx r27 1).bind fun x81 => ((AG N x81).bind fun r95 => ((idx r27 2).bind fun x103 => ((AG N x103).bind fun r109 => (((idx r27 4).bind fun x134 => ((C5 x134 ([32] : WE)).bind fun r140 => ((idx r27 5).bind fun x143 => ((C5 r140 x143).bind fun r149 => ((EO N r149).bind fun r152 => some r152.1))))).bind fun j122 => (((sub r27 8 r35).bind fun r179 => ((strings_Join N r179 ([32] : WE)).bind fun r187 => ((Ck N ({ Report := x0.Report, Serial := x0.Serial, Zone := x0.Zone } : Ac) r187).bind fun r195 => some (r195.1.Report, r195.1.Serial, r195.1.Zone)))).bind fun j166 => (((sub r27 (W64 (r35 + 1)) (r27.length : Int)).bind fun r261 => ((strings_Join N r261 ([32] : WE)).bind fun r269 => ((Ck N ({ Report := x0.Report, Serial := x0.Serial, Zone := x0.Zone } : Ac) r269).bind fun r277 => some (r277.1.Report, r277.1.Serial, r277.1.Zone)))).bind fun j248 => (((idx r27 3).bind fun x338 => ((idx r27 6).bind fun x344 => ((strings_Index N ([32, 77, 86, 68] : WE) x338).bind fun r350 => some (r350, x344)))).bind fun j330 => ((Cv N ({ Report := x0.Report, Serial := x0.Serial, Zone := x0.Zone } : Ac) ({ Num := r95.1, Khz := r109.1, Mode := j330.1, Minute := j122, Call := j330.2, Sent := ({ Report := j166.1, Serial := j166.2.1, Zone := j166.2.2 } : Ad), Got := ({ Report := j248.1, Serial := j248.2.1, Zone := j248.2.2 } : Ad) } : Line)).bind fun r376 => (bif ((r376.2 != 0) || (r376.1 != x1)) then some (({ Num := 0, Khz := 0, Mode := 0, Minute := 0, Call := ([] : WE), Sent := ({ Report := 0, Serial := 0, Zone := 0 } : Ad), Got := ({ Report := 0, Serial := 0, Zone := 0 } : Ad) } : Line), 20) else some (({ Num := r95.1, Khz := r109.1, Mode := j330.1, Minute := j122, Call := j330.2, Sent := ({ Report := j166.1, Serial := j166.2.1, Zone := j166.2.2 } : Ad), Got := ({ Report := j248.1, Serial := j248.2.1, Zone := j248.2.2 } : Ad) } : Line), 0)))))))))))))))
theorem Gc : Af Tryz.prog 31 := fun _ _ => by kernel_rfl
theorem GM (N : Nat) (w0 : World) (F0 : Mem) (hF : WG w0 F0) (hG : Bz F0) (x0 : Ac) (x1 : WE) (r : (Line × Int)) (h : Dd N x0 x1 = some r) :
  Calls Tryz.prog 31 ([(.agg (Ak x0)), (sv x1)] : List Value).toArray w0 (AB w0 F0 fun F' v => v = (.tuple #[(.agg (Cf r.1)), (vi r.2)])) := by
 have hs0 := Wl hF
 refine Go 112 Tryz.func31 <| Sq (Rg [0, 1, 2] ?_)
 refine Bx' 23 (Ak x0) hs0 (fun b21 w22 hs23 => ?_)
 refine Al' 34 #[(vi 0), (vi 0), (vi 0), (vi 0), (sv (([] : WE))), (vi 0), (vi 0), (vi 0), (vi 0), (vi 0), (vi 0)] hs23 (fun b24 w25 hs26 => ?_)
 refine Vs 1 <| Nss (Rg [0, 1, 2] ?_)
 refine Vs 1 ?_
 obtain ⟨r27, hr28, h29⟩ := bind_some h
 refine Cl' Cx hs26 (CQ N w25 F0 hs26.pers hG x1 (([32] : WE)) _ hr28) ?_
 rintro _ F1 w31 hs32 le33 ⟨ar27_0_0, nr27_0_0, rfl, hbr27_0_0, hsr27_0_0⟩
 refine Vs 1 <| Nss (Rg [0, 1, 2] ?_)
 refine Vs 1 ?_
 obtain ⟨r35, hr36, h37⟩ := bind_some h29
 refine Cl' CG hs32 (CR N w31 F1 hs32.pers r27 ar27_0_0 nr27_0_0 hbr27_0_0 hsr27_0_0 (([60] : WE)) _ hr36) ?_
 rintro _ F2 w39 hs40 le41 rfl
 refine Vs 1 <| Nss <| Sq (Rg (rG 13) ?_)
 obtain ⟨j46, hj54, h55⟩ := bind_some h37
 refine Wp (fun f w => ∃ (F3 : Mem), HS w0 F0 w F3 [(sb b24 #[(vi 0), (vi 0), (vi 0), (vi 0), (sv (([] : WE))), (vi 0), (vi 0), (vi 0), (vi 0), (vi 0), (vi 0)] 34), (sb b21 (Ak x0) 23)] /\ Wj F2 F3 /\ FI f [] [(1, (sv x1)), (2, (pt b21 0)), (4, (pt b24 0)), (6, (.slice ar27_0_0 r27.length nr27_0_0)), (7, (vi r35)), (37, (.bool j46))]) ?_ ?_
 ·refine Vs 4 ?_
  refine Sp hj54 (fun hb56 h57 => ?_) (fun hb56 h58 => ?_)
  ·refine Ss hb56 2 ?_
   refine Pk1 hb56 <| Vs 1 <| Ss (rfl : true = true) 4 <| Pk1 (rfl : true = true) ?_
   obtain rfl := Aa h57
   exact Wf ⟨rfl, F2, hs40, (Wk _), fI⟩
  ·refine Vgs hb56 2 ?_
   refine Pk0 hb56 <| Vs 1 <| Sp h58 (fun hb59 h60 => ?_) (fun hb59 h61 => ?_)
   ·refine Ss hb59 4 ?_
    refine Pk1 hb59 ?_
    obtain rfl := Aa h60
    exact Wf ⟨rfl, F2, hs40, (Wk _), fI⟩
   ·refine Vgs hb59 1 ?_
    obtain ⟨x62, hx63, h65⟩ := bind_some h61
    obtain ⟨hi64, hx63'⟩ := Ap hx63
    obtain ⟨b66, o67, C68, E69, fz70, rfl, hF72, hE73⟩ := Wr (Wm hsr27_0_0 le41) hx63'
    have hc75 := hE73 _ _ hx63'
    refine Ixg hb59 hi64 <| Lxg hb59 0 (hs40.pers _ _ hF72) hc75 <| Vgs hb59 1 <| Pk0 hb59 ?_
    obtain rfl := Aa h65
    exact Wf ⟨rfl, F2, hs40, (Wk _), fI⟩
 ·rintro f w43 ⟨F3, hs44, le45, ⟨_, rfl⟩⟩
  refine Ab <| Cd h55 (fun hb76 h77 => ?_) (fun hb76 h78 => ?_)
  ·refine Sq (Rg [0, 1, 2] ?_)
   refine Vs 1 <| St0 #[(vi 0), (vi 0), (vi 0), (vi 0), (sv (([] : WE))), (vi 0), (vi 0), (vi 0), (vi 0), (vi 0), (vi 0)] hs44 (fun w79 hs80 => ?_)
   refine Vs 1 <| Nt <| Rt <| Ae ?_
   obtain rfl := Aa h77
   exact ⟨rfl, (.tuple #[(.agg #[(vi 0), (vi 0), (vi 0), (vi 0), (sv (([] : WE))), (vi 0), (vi 0), (vi 0), (vi 0), (vi 0), (vi 0)]), (vi 20)]), AW (l := [.cell 4 34, .tmp 5]) (by kernel_rfl) (vs := [(.agg #[(vi 0), (vi 0), (vi 0), (vi 0), (sv (([] : WE))), (vi 0), (vi 0), (vi 0), (vi 0), (vi 0), (vi 0)]), (vi 20)]) ⟨b24, 0, rfl, Am (t := 34) (g := true) (s := 11) (by kernel_rfl) hs80.at0 rfl (by decide), ⟨rfl, trivial⟩⟩, (.tuple #[(.agg #[(vi 0), (vi 0), (vi 0), (vi 0), (sv (([] : WE))), (vi 0), (vi 0), (vi 0), (vi 0), (vi 0), (vi 0)]), (vi 20)]), F3, rfl, hs80.clear, rfl⟩
  ·refine Sc ?_
   refine Ab <| Sq (Rg (rG 9) ?_)
   refine Vs 1 ?_
   obtain ⟨x81, hx82, h84⟩ := bind_some h78
   obtain ⟨hi83, hx82'⟩ := Ap hx82
   obtain ⟨b85, o86, C87, E88, fz89, rfl, hF91, hE92⟩ := Wr (Wm hsr27_0_0 (le41.t le45)) hx82'
   have hc94 := hE92 _ _ hx82'
   refine Ix hi83 <| Lx 0 (hs44.pers _ _ hF91) hc94 ?_
   obtain ⟨r95, hr96, h97⟩ := bind_some h84
   refine Cl' Bf hs44 (Bq N w43 F3 hs44.pers (hG.mono ((le33.t le41).trans le45)) x81 _ hr96) ?_
   rintro _ F4 w99 hs100 le101 rfl
   refine Vs 5 <| Nss (Rg (rG 9) ?_)
   refine Vs 1 ?_
   obtain ⟨x103, hx104, h106⟩ := bind_some h97
   obtain ⟨hi105, hx104'⟩ := Ap hx104
   have hc108 := hE92 _ _ hx104'
   refine Ix hi105 <| Lx 0 (hs100.pers _ _ (le101 _ _ hF91)) hc108 ?_
   obtain ⟨r109, hr110, h111⟩ := bind_some h106
   refine Cl' Bf hs100 (Bq N w99 F4 hs100.pers (hG.mono (((le33.t le41).trans le45).trans le101)) x103 _ hr110) ?_
   rintro _ F5 w113 hs114 le115 rfl
   refine Vs 5 <| Nss ?_
   obtain ⟨j122, hj132, h133⟩ := bind_some h111
   refine RD 14 14 [(sb b24 #[(vi 0), (vi 0), (vi 0), (vi 0), (sv (([] : WE))), (vi 0), (vi 0), (vi 0), (vi 0), (vi 0), (vi 0)] 34), (sb b21 (Ak x0) 23)] [] hs114 (fun f w => ∃ (F6 : Mem), HS w0 F0 w F6 [(sb b24 #[(vi 0), (vi 0), (vi 0), (vi 0), (sv (([] : WE))), (vi 0), (vi 0), (vi 0), (vi 0), (vi 0), (vi 0)] 34), (sb b21 (Ak x0) 23)] /\ Wj F5 F6 /\ FI f [] [(1, (sv x1)), (2, (pt b21 0)), (4, (pt b24 0)), (6, (.slice (some ⟨b85, o86, none⟩) r27.length nr27_0_0)), (7, (vi r35)), (8, (vi r95.1)), (10, (vi r109.1)), (12, (vi j122))]) (fun wd117 hw118 => ?_) ?_
   ·refine Dv [0] ?_
    obtain ⟨x134, hx135, h137⟩ := bind_some hj132
    obtain ⟨hi136, hx135'⟩ := Ap hx135
    have hc139 := hE92 _ _ hx135'
    refine Di 1 hi136 <| Dx 2 0 (fun _ hq => hq.1.1 _ _ ((le101.t le115) _ _ hF91)) hc139 ?_
    obtain ⟨r140, hr141, h142⟩ := bind_some h137
    refine Dt 3 57 9 (sv r140) (fun _ hq => AV (t := 9) (t' := 9) (x := (.tmp 56)) (y := (.const (sv ([32] : WE)))) (a := x134) (b := ([32] : WE)) (v := r140) rfl rfl hr141) <| Dv [4] ?_
    obtain ⟨x143, hx144, h146⟩ := bind_some h142
    obtain ⟨hi145, hx144'⟩ := Ap hx144
    have hc148 := hE92 _ _ hx144'
    refine Di 5 hi145 <| Dx 6 0 (fun _ hq => hq.1.1 _ _ ((le101.t le115) _ _ hF91)) hc148 ?_
    obtain ⟨r149, hr150, h151⟩ := bind_some h146
    refine Dt 7 61 9 (sv r149) (fun _ hq => AV (t := 9) (t' := 9) (x := (.tmp 57)) (y := (.tmp 60)) (a := r140) (b := x143) (v := r149) rfl rfl hr150) <| D1 8 ?_
    obtain ⟨r152, hr153, h154⟩ := bind_some h151
    refine DCl KE hw118 (Lw N wd117 F5 hw118.pers (hG.mono ((((le33.t le41).trans le45).trans le101).trans le115)) r149 _ hr153) ?_
    rintro _ F7 w156 hs157 le158 rfl
    refine Dv [9, 10, 11, 12, 13] ?_
    obtain rfl := Aa h154
    exact Ww (by kernel_rfl) ⟨F7, hs157, le158, fI⟩
   ·rintro f w119 ⟨F6, hs120, le121, ⟨_, rfl⟩⟩
    refine Ab <| Sq ?_
    obtain ⟨j166, hj177, h178⟩ := bind_some h133
    refine RD 12 12 [(sb b24 #[(vi 0), (vi 0), (vi 0), (vi 0), (sv (([] : WE))), (vi 0), (vi 0), (vi 0), (vi 0), (vi 0), (vi 0)] 34), (sb b21 (Ak x0) 23)] [] hs120 (fun f w => ∃ (F8 : Mem) (b165 : Nat), HS w0 F0 w F8 [(sb b165 #[(vi j166.1), (vi j166.2.1), (vi j166.2.2)] 32), (sb b24 #[(vi 0), (vi 0), (vi 0), (vi 0), (sv (([] : WE))), (vi 0), (vi 0), (vi 0), (vi 0), (vi 0), (vi 0)] 34), (sb b21 (Ak x0) 23)] /\ Wj F6 F8 /\ FI f [] [(1, (sv x1)), (2, (pt b21 0)), (4, (pt b24 0)), (6, (.slice (some ⟨b85, o86, none⟩) r27.length nr27_0_0)), (7, (vi r35)), (8, (vi r95.1)), (10, (vi r109.1)), (12, (vi j122)), (14, (pt b165 0))]) (fun wd160 hw161 => ?_) ?_
    ·refine Dl 0 (fun _ hq => (hq.1.2 1 _ _ rfl)) ?_
     refine Dv [1, 2] ?_
     obtain ⟨r179, hr180, h181⟩ := bind_some hj177
     obtain ⟨a182, n183, hb184, hs185, hrun186⟩ := Fu (P := Tryz.prog) (T := AM) (lo := (some (.const (vi 8)))) (hi := (some (.tmp 68))) (mx := none) (t := 55) (E := 9) (by_ := 16) (c := nr27_0_0) (a := (some ⟨b85, o86, none⟩)) (l := r27) (r := r179) (il := 8) (ih := r35) (im := 0) (by kernel_rfl) (by kernel_rfl) hbr27_0_0 (Wm hsr27_0_0 ((((le41.t le45).trans le101).trans le115).trans le121)) (fun h => by first | rfl | cases h) hr180
     refine Dt 3 69 55 (.slice a182 r179.length n183) (fun _ hq => hrun186 (x := (.tmp 67)) rfl rfl rfl trivial) <| Ws (i := 4) (j := 9) (by kernel_rfl) ?_ ?_
     ·obtain ⟨r187, hr188, h189⟩ := bind_some h181
      refine DCl B7 hw161 (CA N wd160 F6 hw161.pers r179 a182 n183 hb184 hs185 (([32] : WE)) _ hr188) ?_
      rintro _ F9 w191 hs192 le193 rfl
      refine Ws (i := 5) (j := 9) (by kernel_rfl) ?_ ?_
      ·obtain ⟨r195, hr196, h197⟩ := bind_some h189
       refine DCl Bx hs192 (BG N w191 F9 hs192.pers (hG.mono ((((((le33.t le41).trans le45).trans le101).trans le115).trans le121).trans le193)) (({ Report := x0.Report, Serial := x0.Serial, Zone := x0.Zone } : Ac)) r187 _ hr196) ?_
       rintro _ F10 w199 hs200 le201 rfl
       refine Dv [6, 7, 8] <| D1 9 <| DAl 32 #[(vi 0), (vi 0), (vi 0)] hs200 (le193.t le201) (fun b203 w204 hs205 => ?_)
       refine D1 10 <| Gr (BW r195.1) hs205 (le193.t le201) (fun w206 hs207 => ?_)
       refine Dv [11] ?_
       obtain rfl := Aa h197
       exact Ww (by kernel_rfl) ⟨F10, b203, hs207, (le193.t le201), fI⟩
      ·refine DAl 32 #[(vi 0), (vi 0), (vi 0)] hs192 le193 (fun b208 w209 hs210 => ?_)
       refine D1 5 ?_
       obtain ⟨r211, hr212, h213⟩ := bind_some h189
       refine DCl Bx hs210 (BG N w209 F9 hs210.pers (hG.mono ((((((le33.t le41).trans le45).trans le101).trans le115).trans le121).trans le193)) (({ Report := x0.Report, Serial := x0.Serial, Zone := x0.Zone } : Ac)) r187 _ hr212) ?_
       rintro _ F11 w215 hs216 le217 rfl
       refine Dv [6, 7, 8] <| D1 10 <| Gr (BW r211.1) hs216 (le193.t le217) (fun w219 hs220 => ?_)
       refine Dv [11] ?_
       obtain rfl := Aa h213
       exact Ww (by kernel_rfl) ⟨F11, b208, hs220, (le193.t le217), fI⟩
     ·refine DAl 32 #[(vi 0), (vi 0), (vi 0)] hw161 (Wk _) (fun b221 w222 hs223 => ?_)
      refine D1 4 ?_
      obtain ⟨r224, hr225, h226⟩ := bind_some h181
      refine DCl B7 hs223 (CA N w222 F6 hs223.pers r179 a182 n183 hb184 hs185 (([32] : WE)) _ hr225) ?_
      rintro _ F12 w228 hs229 le230 rfl
      refine D1 5 ?_
      obtain ⟨r232, hr233, h234⟩ := bind_some h226
      refine DCl Bx hs229 (BG N w228 F12 hs229.pers (hG.mono ((((((le33.t le41).trans le45).trans le101).trans le115).trans le121).trans le230)) (({ Report := x0.Report, Serial := x0.Serial, Zone := x0.Zone } : Ac)) r224 _ hr233) ?_
      rintro _ F13 w236 hs237 le238 rfl
      refine Dv [6, 7, 8] <| D1 10 <| Gr (BW r232.1) hs237 (le230.t le238) (fun w240 hs241 => ?_)
      refine Dv [11] ?_
      obtain rfl := Aa h234
      exact Ww (by kernel_rfl) ⟨F13, b221, hs241, (le230.t le238), fI⟩
    ·rintro f w162 ⟨F8, b165, hs163, le164, ⟨_, rfl⟩⟩
     refine Ab <| Sq ?_
     obtain ⟨j248, hj259, h260⟩ := bind_some h178
     refine RD 13 13 [(sb b165 #[(vi j166.1), (vi j166.2.1), (vi j166.2.2)] 32), (sb b24 #[(vi 0), (vi 0), (vi 0), (vi 0), (sv (([] : WE))), (vi 0), (vi 0), (vi 0), (vi 0), (vi 0), (vi 0)] 34), (sb b21 (Ak x0) 23)] [] hs163 (fun f w => ∃ (F14 : Mem) (b247 : Nat), HS w0 F0 w F14 [(sb b247 #[(vi j248.1), (vi j248.2.1), (vi j248.2.2)] 32), (sb b165 #[(vi j166.1), (vi j166.2.1), (vi j166.2.2)] 32), (sb b24 #[(vi 0), (vi 0), (vi 0), (vi 0), (sv (([] : WE))), (vi 0), (vi 0), (vi 0), (vi 0), (vi 0), (vi 0)] 34), (sb b21 (Ak x0) 23)] /\ Wj F8 F14 /\ FI f [] [(1, (sv x1)), (2, (pt b21 0)), (4, (pt b24 0)), (6, (.slice (some ⟨b85, o86, none⟩) r27.length nr27_0_0)), (8, (vi r95.1)), (10, (vi r109.1)), (12, (vi j122)), (14, (pt b165 0)), (16, (pt b247 0))]) (fun wd242 hw243 => ?_) ?_
     ·refine Dl 0 (fun _ hq => (hq.1.2 2 _ _ rfl)) ?_
      refine Dv [1, 2, 3] ?_
      obtain ⟨r261, hr262, h263⟩ := bind_some hj259
      obtain ⟨a264, n265, hb266, hs267, hrun268⟩ := Fu (P := Tryz.prog) (T := AM) (lo := (some (.tmp 78))) (hi := none) (mx := none) (t := 55) (E := 9) (by_ := 16) (c := nr27_0_0) (a := (some ⟨b85, o86, none⟩)) (l := r27) (r := r261) (il := (W64 (r35 + 1))) (ih := (r27.length : Int)) (im := 0) (by kernel_rfl) (by kernel_rfl) hbr27_0_0 (Wm hsr27_0_0 (((((le41.t le45).trans le101).trans le115).trans le121).trans le164)) (fun h => by first | rfl | cases h) hr262
      refine Dt 4 79 55 (.slice a264 r261.length n265) (fun _ hq => hrun268 (x := (.tmp 76)) rfl rfl rfl trivial) <| Ws (i := 5) (j := 10) (by kernel_rfl) ?_ ?_
      ·obtain ⟨r269, hr270, h271⟩ := bind_some h263
       refine DCl B7 hw243 (CA N wd242 F8 hw243.pers r261 a264 n265 hb266 hs267 (([32] : WE)) _ hr270) ?_
       rintro _ F15 w273 hs274 le275 rfl
       refine Ws (i := 6) (j := 10) (by kernel_rfl) ?_ ?_
       ·obtain ⟨r277, hr278, h279⟩ := bind_some h271
        refine DCl Bx hs274 (BG N w273 F15 hs274.pers (hG.mono (((((((le33.t le41).trans le45).trans le101).trans le115).trans le121).trans le164).trans le275)) (({ Report := x0.Report, Serial := x0.Serial, Zone := x0.Zone } : Ac)) r269 _ hr278) ?_
        rintro _ F16 w281 hs282 le283 rfl
        refine Dv [7, 8, 9] <| D1 10 <| DAl 32 #[(vi 0), (vi 0), (vi 0)] hs282 (le275.t le283) (fun b285 w286 hs287 => ?_)
        refine D1 11 <| Gr (BW r277.1) hs287 (le275.t le283) (fun w288 hs289 => ?_)
        refine Dv [12] ?_
        obtain rfl := Aa h279
        exact Ww (by kernel_rfl) ⟨F16, b285, hs289, (le275.t le283), fI⟩
       ·refine DAl 32 #[(vi 0), (vi 0), (vi 0)] hs274 le275 (fun b290 w291 hs292 => ?_)
        refine D1 6 ?_
        obtain ⟨r293, hr294, h295⟩ := bind_some h271
        refine DCl Bx hs292 (BG N w291 F15 hs292.pers (hG.mono (((((((le33.t le41).trans le45).trans le101).trans le115).trans le121).trans le164).trans le275)) (({ Report := x0.Report, Serial := x0.Serial, Zone := x0.Zone } : Ac)) r269 _ hr294) ?_
        rintro _ F17 w297 hs298 le299 rfl
        refine Dv [7, 8, 9] <| D1 11 <| Gr (BW r293.1) hs298 (le275.t le299) (fun w301 hs302 => ?_)
        refine Dv [12] ?_
        obtain rfl := Aa h295
        exact Ww (by kernel_rfl) ⟨F17, b290, hs302, (le275.t le299), fI⟩
      ·refine DAl 32 #[(vi 0), (vi 0), (vi 0)] hw243 (Wk _) (fun b303 w304 hs305 => ?_)
       refine D1 5 ?_
       obtain ⟨r306, hr307, h308⟩ := bind_some h263
       refine DCl B7 hs305 (CA N w304 F8 hs305.pers r261 a264 n265 hb266 hs267 (([32] : WE)) _ hr307) ?_
       rintro _ F18 w310 hs311 le312 rfl
       refine D1 6 ?_
       obtain ⟨r314, hr315, h316⟩ := bind_some h308
       refine DCl Bx hs311 (BG N w310 F18 hs311.pers (hG.mono (((((((le33.t le41).trans le45).trans le101).trans le115).trans le121).trans le164).trans le312)) (({ Report := x0.Report, Serial := x0.Serial, Zone := x0.Zone } : Ac)) r306 _ hr315) ?_
       rintro _ F19 w318 hs319 le320 rfl
       refine Dv [7, 8, 9] <| D1 11 <| Gr (BW r314.1) hs319 (le312.t le320) (fun w322 hs323 => ?_)
       refine Dv [12] ?_
       obtain rfl := Aa h316
       exact Ww (by kernel_rfl) ⟨F19, b303, hs323, (le312.t le320), fI⟩
     ·rintro f w244 ⟨F14, b247, hs245, le246, ⟨_, rfl⟩⟩
      refine Ab <| Sq ?_
      obtain ⟨j330, hj336, h337⟩ := bind_some h260
      refine RD 14 15 [(sb b247 #[(vi j248.1), (vi j248.2.1), (vi j248.2.2)] 32), (sb b165 #[(vi j166.1), (vi j166.2.1), (vi j166.2.2)] 32), (sb b24 #[(vi 0), (vi 0), (vi 0), (vi 0), (sv (([] : WE))), (vi 0), (vi 0), (vi 0), (vi 0), (vi 0), (vi 0)] 34), (sb b21 (Ak x0) 23)] [] hs245 (fun f w => ∃ (F20 : Mem) (b329 : Nat), HS w0 F0 w F20 [(sb b329 #[(vi r95.1), (vi r109.1), (vi j330.1), (vi j122), (sv j330.2), (vi j166.1), (vi j166.2.1), (vi j166.2.2), (vi j248.1), (vi j248.2.1), (vi j248.2.2)] 34), (sb b24 #[(vi 0), (vi 0), (vi 0), (vi 0), (sv (([] : WE))), (vi 0), (vi 0), (vi 0), (vi 0), (vi 0), (vi 0)] 34), (sb b21 (Ak x0) 23)] /\ Wj F14 F20 /\ FI f [] [(1, (sv x1)), (2, (pt b21 0)), (4, (pt b24 0)), (18, (pt b329 0))]) (fun wd324 hw325 => ?_) ?_
      ·refine Dv [0, 1, 2] ?_
       obtain ⟨x338, hx339, h341⟩ := bind_some hj336
       obtain ⟨hi340, hx339'⟩ := Ap hx339
       have hc343 := hE92 _ _ hx339'
       refine Di 3 hi340 <| Dx 4 0 (fun _ hq => hq.1.1 _ _ (((((le101.t le115).trans le121).trans le164).trans le246) _ _ hF91)) hc343 <| Dv [6, 7] ?_
       obtain ⟨x344, hx345, h347⟩ := bind_some h341
       obtain ⟨hi346, hx345'⟩ := Ap hx345
       have hc349 := hE92 _ _ hx345'
       refine Di 8 hi346 <| Dx 9 0 (fun _ hq => hq.1.1 _ _ (((((le101.t le115).trans le121).trans le164).trans le246) _ _ hF91)) hc349 <| Dl 10 (fun _ hq => (hq.1.2 1 _ _ rfl)) <| Dl 11 (fun _ hq => (hq.1.2 0 _ _ rfl)) <| Ws (i := 5) (j := 13) (by kernel_rfl) ?_ ?_
       ·obtain ⟨r350, hr351, h352⟩ := bind_some h347
        refine DCl GD hw325 (Hr N wd324 F14 hw325.pers (hG.mono (((((((le33.t le41).trans le45).trans le101).trans le115).trans le121).trans le164).trans le246)) (([32, 77, 86, 68] : WE)) x338 _ hr351) ?_
        rintro _ F21 w354 hs355 le356 rfl
        refine Dv [12] <| D1 13 <| DAl 34 #[(vi 0), (vi 0), (vi 0), (vi 0), (sv (([] : WE))), (vi 0), (vi 0), (vi 0), (vi 0), (vi 0), (vi 0)] hs355 le356 (fun b358 w359 hs360 => ?_)
        refine D1 14 <| Gr #[(vi r95.1), (vi r109.1), (vi r350), (vi j122), (sv x344), (vi j166.1), (vi j166.2.1), (vi j166.2.2), (vi j248.1), (vi j248.2.1), (vi j248.2.2)] hs360 le356 (fun w361 hs362 => ?_)
        obtain rfl := Aa h352
        exact Ww (by kernel_rfl) ⟨F21, b358, hs362.dr1.dr1, le356, fI⟩
       ·refine DAl 34 #[(vi 0), (vi 0), (vi 0), (vi 0), (sv (([] : WE))), (vi 0), (vi 0), (vi 0), (vi 0), (vi 0), (vi 0)] hw325 (Wk _) (fun b363 w364 hs365 => ?_)
        refine D1 5 ?_
        obtain ⟨r366, hr367, h368⟩ := bind_some h347
        refine DCl GD hs365 (Hr N w364 F14 hs365.pers (hG.mono (((((((le33.t le41).trans le45).trans le101).trans le115).trans le121).trans le164).trans le246)) (([32, 77, 86, 68] : WE)) x338 _ hr367) ?_
        rintro _ F22 w370 hs371 le372 rfl
        refine Dv [12] <| D1 14 <| Gr #[(vi r95.1), (vi r109.1), (vi r366), (vi j122), (sv x344), (vi j166.1), (vi j166.2.1), (vi j166.2.2), (vi j248.1), (vi j248.2.1), (vi j248.2.2)] hs371 le372 (fun w374 hs375 => ?_)
        obtain rfl := Aa h368
        exact Ww (by kernel_rfl) ⟨F22, b363, hs375.dr1.dr1, le372, fI⟩
      ·rintro f w326 ⟨F20, b329, hs327, le328, ⟨_, rfl⟩⟩
       refine Ab <| Sq <| Sq (Rg (rG 8) ?_)
       refine Ld hs327.at2 <| Ld hs327.at0 ?_
       obtain ⟨r376, hr377, h378⟩ := bind_some h337
       refine Cl' Gb hs327 (GL N w326 F20 hs327.pers (hG.mono ((((((((le33.t le41).trans le45).trans le101).trans le115).trans le121).trans le164).trans le246).trans le328)) (({ Report := x0.Report, Serial := x0.Serial, Zone := x0.Zone } : Ac)) (({ Num := r95.1, Khz := r109.1, Mode := j330.1, Minute := j122, Call := j330.2, Sent := ({ Report := j166.1, Serial := j166.2.1, Zone := j166.2.2 } : Ad), Got := ({ Report := j248.1, Serial := j248.2.1, Zone := j248.2.2 } : Ad) } : Line)) _ hr377) ?_
       rintro _ F23 w380 hs381 le382 rfl
       refine Vs 5 <| Nss (Rg (rG 7) ?_)
       refine Wp (fun f w => ∃ (F24 : Mem), HS w0 F0 w F24 [(sb b329 #[(vi r95.1), (vi r109.1), (vi j330.1), (vi j122), (sv j330.2), (vi j166.1), (vi j166.2.1), (vi j166.2.2), (vi j248.1), (vi j248.2.1), (vi j248.2.2)] 34), (sb b24 #[(vi 0), (vi 0), (vi 0), (vi 0), (sv (([] : WE))), (vi 0), (vi 0), (vi 0), (vi 0), (vi 0), (vi 0)] 34)] /\ Wj F23 F24 /\ FI f [] [(4, (pt b24 0)), (18, (pt b329 0)), (109, (.bool ((r376.2 != 0) || (r376.1 != x1))))]) ?_ ?_
       ·refine Vs 3 ?_
        refine Wo (r376.2 != 0) (fun hb391 => ?_) (fun hb391 => ?_)
        ·refine Ss hb391 3 ?_
         refine Pk1 hb391 ?_
         exact Wf ⟨rfl, F23, hs381.dr2, (Wk _), (fJ ⟨rfl, rfl, (congrArg Value.bool (Hv hb391 rfl)), trivial⟩)⟩
        ·refine Vgs hb391 3 ?_
         refine Pk0 hb391 ?_
         exact Wf ⟨rfl, F23, hs381.dr2, (Wk _), (fJ ⟨rfl, rfl, (congrArg Value.bool (Da hb391 rfl)), trivial⟩)⟩
       ·rintro f w384 ⟨F24, hs385, le386, ⟨_, rfl⟩⟩
        refine Ab <| Cd h378 (fun hb392 h393 => ?_) (fun hb392 h394 => ?_)
        ·refine Sq (Rg [0, 1, 2] ?_)
         refine Vs 1 <| St1 #[(vi 0), (vi 0), (vi 0), (vi 0), (sv (([] : WE))), (vi 0), (vi 0), (vi 0), (vi 0), (vi 0), (vi 0)] hs385 (fun w395 hs396 => ?_)
         refine Vs 1 <| Nt <| Rt <| Ae ?_
         obtain rfl := Aa h393
         exact ⟨rfl, (.tuple #[(.agg #[(vi 0), (vi 0), (vi 0), (vi 0), (sv (([] : WE))), (vi 0), (vi 0), (vi 0), (vi 0), (vi 0), (vi 0)]), (vi 20)]), AW (l := [.cell 4 34, .tmp 5]) (by kernel_rfl) (vs := [(.agg #[(vi 0), (vi 0), (vi 0), (vi 0), (sv (([] : WE))), (vi 0), (vi 0), (vi 0), (vi 0), (vi 0), (vi 0)]), (vi 20)]) ⟨b24, 0, rfl, Am (t := 34) (g := true) (s := 11) (by kernel_rfl) hs396.at1 rfl (by decide), ⟨rfl, trivial⟩⟩, (.tuple #[(.agg #[(vi 0), (vi 0), (vi 0), (vi 0), (sv (([] : WE))), (vi 0), (vi 0), (vi 0), (vi 0), (vi 0), (vi 0)]), (vi 20)]), F24, rfl, hs396.clear, rfl⟩
        ·refine Sc ?_
         refine Ab <| Sq (Rg [0, 1, 2] ?_)
         refine Ld hs385.at0 <| St1 #[(vi r95.1), (vi r109.1), (vi j330.1), (vi j122), (sv j330.2), (vi j166.1), (vi j166.2.1), (vi j166.2.2), (vi j248.1), (vi j248.2.1), (vi j248.2.2)] hs385 (fun w397 hs398 => ?_)
         refine Vs 1 <| Nt <| Rt ?_
         obtain rfl := Aa h394
         exact ⟨rfl, (.tuple #[(.agg #[(vi r95.1), (vi r109.1), (vi j330.1), (vi j122), (sv j330.2), (vi j166.1), (vi j166.2.1), (vi j166.2.2), (vi j248.1), (vi j248.2.1), (vi j248.2.2)]), (vi 0)]), AW (l := [.cell 4 34, .tmp 5]) (by kernel_rfl) (vs := [(.agg #[(vi r95.1), (vi r109.1), (vi j330.1), (vi j122), (sv j330.2), (vi j166.1), (vi j166.2.1), (vi j166.2.2), (vi j248.1), (vi j248.2.1), (vi j248.2.2)]), (vi 0)]) ⟨b24, 0, rfl, Am (t := 34) (g := true) (s := 11) (by kernel_rfl) hs398.at1 rfl (by decide), ⟨rfl, trivial⟩⟩, (.tuple #[(.agg #[(vi r95.1), (vi r109.1), (vi j330.1), (vi j122), (sv j330.2), (vi j166.1), (vi j166.2.1), (vi j166.2.2), (vi j248.1), (vi j248.2.1), (vi j248.2.2)]), (vi 0)]), F24, rfl, hs398.clear, rfl⟩
def Eg (N : Nat) (x0 : Ai) (x1 : WE) : Option (Ai × Bool) :=
 ((strings_CutPrefix N x1 ([67, 65, 76, 76, 32] : WE)).bind fun r21 => ((bif r21.2 then ((DQ N r21.1).bind fun r42 => some r42) else some false).bind fun j34 => some (({ o_ := ({ Report := x0.o_.Report, Serial := x0.o_.Serial, Zone := x0.o_.Zone } : Ac), l_ := ({ Call := r21.1, Category := x0.l_.Category, Power := x0.l_.Power, Claimed := x0.l_.Claimed, Jumps := x0.l_.Jumps, Lines := x0.l_.Lines } : Log), done_ := x0.done_, ended_ := x0.ended_ } : Ai), j34)))
theorem J5 : Af Tryz.prog 153 := fun _ _ => by kernel_rfl
theorem KI (N : Nat) {wb w0 : World} {Fb F0 : Mem} {Lf : Own} (hG : Bz F0) (bp0 : Nat) (x0 : Ai) (a0_7 : WF) (n0_7 : Nat) (tb0_9_0 : Nat) (tb0_9_1 : Nat) (tb0_9_2 : Nat) (tb0_9_3 : Nat) (tb0_9_4 : Nat) (tb0_9_5 : Nat) (tb0_9_6 : Nat) (tb0_9_7 : Nat) (tb0_9_8 : Nat) (tb0_9_9 : Nat) (tb0_9_10 : Nat) (tb0_9_11 : Nat) (a0_8 : WF) (n0_8 : Nat) (e0_8 : Option Nat × Obj) (hb0_7 : LC x0.l_.Jumps.length n0_7) (hs0_7 : SlA AD F0 a0_7 x0.l_.Jumps) (htb0_9_0 : F0 tb0_9_0 = some (oc #[(sv (([67, 65, 84, 69, 71, 79, 82, 89] : WE)))] 9)) (htb0_9_1 : F0 tb0_9_1 = some (oc #[(vi 1)] 3)) (htb0_9_2 : F0 tb0_9_2 = some (oc #[(vi 9)] 3)) (htb0_9_3 : F0 tb0_9_3 = some (oc #[(fV 156 #[])] 195)) (htb0_9_4 : F0 tb0_9_4 = some (oc #[(sv (([80, 79, 87, 69, 82] : WE)))] 9)) (htb0_9_5 : F0 tb0_9_5 = some (oc #[(vi 1)] 3)) (htb0_9_6 : F0 tb0_9_6 = some (oc #[(vi 9999)] 3)) (htb0_9_7 : F0 tb0_9_7 = some (oc #[(fV 157 #[])] 195)) (htb0_9_8 : F0 tb0_9_8 = some (oc #[(sv (([67, 76, 65, 73, 77, 69, 68] : WE)))] 9)) (htb0_9_9 : F0 tb0_9_9 = some (oc #[(vi 0)] 3)) (htb0_9_10 : F0 tb0_9_10 = some (oc #[(vi 1000000)] 3)) (htb0_9_11 : F0 tb0_9_11 = some (oc #[(fV 158 #[])] 195)) (hr0_8 : Av AC 34 F0 a0_8 n0_8 x0.l_.Lines e0_8) (x1 : WE) (hs0 : HS wb Fb w0 F0 ((sb bp0 #[(.bool x0.o_.Report), (.bool x0.o_.Serial), (.bool x0.o_.Zone), (sv x0.l_.Call), (vi x0.l_.Category), (vi x0.l_.Power), (vi x0.l_.Claimed), (.slice a0_7 x0.l_.Jumps.length n0_7), (.slice a0_8 x0.l_.Lines.length n0_8), (fV 153 #[]), (fV 154 #[]), (fV 190 #[(pt tb0_9_0 0), (pt tb0_9_1 0), (pt tb0_9_2 0), (pt tb0_9_3 0)]), (fV 191 #[(pt tb0_9_0 0), (pt tb0_9_3 0)]), (fV 190 #[(pt tb0_9_4 0), (pt tb0_9_5 0), (pt tb0_9_6 0), (pt tb0_9_7 0)]), (fV 191 #[(pt tb0_9_4 0), (pt tb0_9_7 0)]), (fV 190 #[(pt tb0_9_8 0), (pt tb0_9_9 0), (pt tb0_9_10 0), (pt tb0_9_11 0)]), (fV 191 #[(pt tb0_9_8 0), (pt tb0_9_11 0)]), (fV 159 #[]), (fV 160 #[]), (vi x0.done_), (.bool x0.ended_)] 130) :: e0_8 :: Lf)) (r : (Ai × Bool)) (h : Eg N x0 x1 = some r) :
  Calls Tryz.prog 153 ([(pt bp0 3), (sv x1)] : List Value).toArray w0 (EE wb Fb F0 fun F' v L' => ∃ (aq0_7 : WF) (nq0_7 : Nat) (aq0_8 : WF) (nq0_8 : Nat) (eq0_8 : Option Nat × Obj), v = (.bool r.2) /\ L' = (sb bp0 #[(.bool r.1.o_.Report), (.bool r.1.o_.Serial), (.bool r.1.o_.Zone), (sv r.1.l_.Call), (vi r.1.l_.Category), (vi r.1.l_.Power), (vi r.1.l_.Claimed), (.slice aq0_7 r.1.l_.Jumps.length nq0_7), (.slice aq0_8 r.1.l_.Lines.length nq0_8), (fV 153 #[]), (fV 154 #[]), (fV 190 #[(pt tb0_9_0 0), (pt tb0_9_1 0), (pt tb0_9_2 0), (pt tb0_9_3 0)]), (fV 191 #[(pt tb0_9_0 0), (pt tb0_9_3 0)]), (fV 190 #[(pt tb0_9_4 0), (pt tb0_9_5 0), (pt tb0_9_6 0), (pt tb0_9_7 0)]), (fV 191 #[(pt tb0_9_4 0), (pt tb0_9_7 0)]), (fV 190 #[(pt tb0_9_8 0), (pt tb0_9_9 0), (pt tb0_9_10 0), (pt tb0_9_11 0)]), (fV 191 #[(pt tb0_9_8 0), (pt tb0_9_11 0)]), (fV 159 #[]), (fV 160 #[]), (vi r.1.done_), (.bool r.1.ended_)] 130) :: eq0_8 :: Lf /\ LC r.1.l_.Jumps.length nq0_7 /\ SlA AD F' aq0_7 r.1.l_.Jumps /\ Av AC 34 F' aq0_8 nq0_8 r.1.l_.Lines eq0_8) := by
 refine Go 21 Tryz.func153 <| Sq (Rg [0] ?_)
 refine Vs 1 <| Nss (Rg (rG 7) ?_)
 refine Vs 1 ?_
 obtain ⟨r21, hr22, h23⟩ := bind_some h
 refine Cl' A2 hs0 (A8 N w0 F0 hs0.pers x1 (([67, 65, 76, 76, 32] : WE)) _ hr22) ?_
 rintro _ F1 w25 hs26 le27 rfl
 refine Vs 5 <| Nss (Rg (rG 5) ?_)
 refine Vs 4 <| St0 #[(.bool x0.o_.Report), (.bool x0.o_.Serial), (.bool x0.o_.Zone), (sv r21.1), (vi x0.l_.Category), (vi x0.l_.Power), (vi x0.l_.Claimed), (.slice a0_7 x0.l_.Jumps.length n0_7), (.slice a0_8 x0.l_.Lines.length n0_8), (fV 153 #[]), (fV 154 #[]), (fV 190 #[(pt tb0_9_0 0), (pt tb0_9_1 0), (pt tb0_9_2 0), (pt tb0_9_3 0)]), (fV 191 #[(pt tb0_9_0 0), (pt tb0_9_3 0)]), (fV 190 #[(pt tb0_9_4 0), (pt tb0_9_5 0), (pt tb0_9_6 0), (pt tb0_9_7 0)]), (fV 191 #[(pt tb0_9_4 0), (pt tb0_9_7 0)]), (fV 190 #[(pt tb0_9_8 0), (pt tb0_9_9 0), (pt tb0_9_10 0), (pt tb0_9_11 0)]), (fV 191 #[(pt tb0_9_8 0), (pt tb0_9_11 0)]), (fV 159 #[]), (fV 160 #[]), (vi x0.done_), (.bool x0.ended_)] hs26 (fun w29 hs30 => ?_)
 refine Nss (Rg (rG 6) ?_)
 obtain ⟨j34, hj37, h38⟩ := bind_some h23
 refine Wp (fun f w => ∃ (F2 : Mem), HS wb Fb w F2 ((sb bp0 #[(.bool x0.o_.Report), (.bool x0.o_.Serial), (.bool x0.o_.Zone), (sv r21.1), (vi x0.l_.Category), (vi x0.l_.Power), (vi x0.l_.Claimed), (.slice a0_7 x0.l_.Jumps.length n0_7), (.slice a0_8 x0.l_.Lines.length n0_8), (fV 153 #[]), (fV 154 #[]), (fV 190 #[(pt tb0_9_0 0), (pt tb0_9_1 0), (pt tb0_9_2 0), (pt tb0_9_3 0)]), (fV 191 #[(pt tb0_9_0 0), (pt tb0_9_3 0)]), (fV 190 #[(pt tb0_9_4 0), (pt tb0_9_5 0), (pt tb0_9_6 0), (pt tb0_9_7 0)]), (fV 191 #[(pt tb0_9_4 0), (pt tb0_9_7 0)]), (fV 190 #[(pt tb0_9_8 0), (pt tb0_9_9 0), (pt tb0_9_10 0), (pt tb0_9_11 0)]), (fV 191 #[(pt tb0_9_8 0), (pt tb0_9_11 0)]), (fV 159 #[]), (fV 160 #[]), (vi x0.done_), (.bool x0.ended_)] 130) :: e0_8 :: Lf) /\ Wj F1 F2 /\ FI f [] [(4, (.bool j34))]) ?_ ?_
 ·refine Vs 2 ?_
  refine Sp hj37 (fun hb39 h40 => ?_) (fun hb39 h41 => ?_)
  ·refine Vgs hb39 1 ?_
   obtain ⟨r42, hr43, h44⟩ := bind_some h40
   refine Cg hb39 EC hs30 (E6 N w29 F1 hs30.pers (hG.mono le27) r21.1 _ hr43) ?_
   rintro _ F3 w46 hs47 le48 rfl
   refine Pk1 hb39 <| Vs 1 ?_
   obtain rfl := Aa h44
   exact Wf ⟨rfl, F3, hs47, le48, fI⟩
  ·refine Ss hb39 2 ?_
   refine Pk0 hb39 <| Vs 1 ?_
   obtain rfl := Aa h41
   exact Wf ⟨rfl, F1, hs30, (Wk _), fI⟩
 ·rintro f w31 ⟨F2, hs32, le33, ⟨_, rfl⟩⟩
  refine Ab <| Rt ?_
  obtain rfl := Aa h38
  exact ReB [(.bool j34)] hs32 (le27.t le33) ⟨a0_7, n0_7, a0_8, n0_8, e0_8, rfl, rfl, hb0_7, (Wm hs0_7 (le27.t le33)), (hr0_8.mono (le27.t le33))⟩
def Bc (N : Nat) (x0 : Ai) (x1 : WE) (r21 : (List WE)) (r29 : List WE) : (List Int × Int) -> Option (Bt (Ai × Bool) (List Int × Int)) := fun s42 =>
 (bif (decide (s42.2 < (r29.length : Int))) then ((idx r29 s42.2).bind fun x70 => ((AG N x70).bind fun r84 => (bif (!r84.2) then some (.ret (x0, false)) else ((D3 s42.1 [r84.1]).bind fun r100 => some (.next (r100, (W64 (s42.2 + 1)))))))) else some (.done (s42.1, s42.2)))
def DU (N : Nat) (x0 : Ai) (x1 : WE) : Option (Ai × Bool) :=
 ((strings_Split N x1 ([32] : WE)).bind fun r21 => ((sub r21 1 (r21.length : Int)).bind fun r29 => ((AX (Bc N x0 x1 r21 r29) N (([] : List Int), 0)).bind fun o => o.k (fun r => some r) (fun s53 => (((idx r21 0).bind fun x126 => (bif (x126 == ([74, 85, 77, 80, 83] : WE)) then ((Db N s53.1).bind fun r143 => some r143) else some false)).bind fun j121 => some (({ o_ := ({ Report := x0.o_.Report, Serial := x0.o_.Serial, Zone := x0.o_.Zone } : Ac), l_ := ({ Call := x0.l_.Call, Category := x0.l_.Category, Power := x0.l_.Power, Claimed := x0.l_.Claimed, Jumps := s53.1, Lines := x0.l_.Lines } : Log), done_ := x0.done_, ended_ := x0.ended_ } : Ai), j121))))))
theorem Jp : Af Tryz.prog 159 := fun _ _ => by kernel_rfl
theorem Kf (N : Nat) {wb w0 : World} {Fb F0 : Mem} {Lf : Own} (hG : Bz F0) (bp0 : Nat) (x0 : Ai) (a0_7 : WF) (n0_7 : Nat) (tb0_9_0 : Nat) (tb0_9_1 : Nat) (tb0_9_2 : Nat) (tb0_9_3 : Nat) (tb0_9_4 : Nat) (tb0_9_5 : Nat) (tb0_9_6 : Nat) (tb0_9_7 : Nat) (tb0_9_8 : Nat) (tb0_9_9 : Nat) (tb0_9_10 : Nat) (tb0_9_11 : Nat) (a0_8 : WF) (n0_8 : Nat) (e0_8 : Option Nat × Obj) (hb0_7 : LC x0.l_.Jumps.length n0_7) (hs0_7 : SlA AD F0 a0_7 x0.l_.Jumps) (htb0_9_0 : F0 tb0_9_0 = some (oc #[(sv (([67, 65, 84, 69, 71, 79, 82, 89] : WE)))] 9)) (htb0_9_1 : F0 tb0_9_1 = some (oc #[(vi 1)] 3)) (htb0_9_2 : F0 tb0_9_2 = some (oc #[(vi 9)] 3)) (htb0_9_3 : F0 tb0_9_3 = some (oc #[(fV 156 #[])] 195)) (htb0_9_4 : F0 tb0_9_4 = some (oc #[(sv (([80, 79, 87, 69, 82] : WE)))] 9)) (htb0_9_5 : F0 tb0_9_5 = some (oc #[(vi 1)] 3)) (htb0_9_6 : F0 tb0_9_6 = some (oc #[(vi 9999)] 3)) (htb0_9_7 : F0 tb0_9_7 = some (oc #[(fV 157 #[])] 195)) (htb0_9_8 : F0 tb0_9_8 = some (oc #[(sv (([67, 76, 65, 73, 77, 69, 68] : WE)))] 9)) (htb0_9_9 : F0 tb0_9_9 = some (oc #[(vi 0)] 3)) (htb0_9_10 : F0 tb0_9_10 = some (oc #[(vi 1000000)] 3)) (htb0_9_11 : F0 tb0_9_11 = some (oc #[(fV 158 #[])] 195)) (hr0_8 : Av AC 34 F0 a0_8 n0_8 x0.l_.Lines e0_8) (x1 : WE) (hs0 : HS wb Fb w0 F0 ((sb bp0 #[(.bool x0.o_.Report), (.bool x0.o_.Serial), (.bool x0.o_.Zone), (sv x0.l_.Call), (vi x0.l_.Category), (vi x0.l_.Power), (vi x0.l_.Claimed), (.slice a0_7 x0.l_.Jumps.length n0_7), (.slice a0_8 x0.l_.Lines.length n0_8), (fV 153 #[]), (fV 154 #[]), (fV 190 #[(pt tb0_9_0 0), (pt tb0_9_1 0), (pt tb0_9_2 0), (pt tb0_9_3 0)]), (fV 191 #[(pt tb0_9_0 0), (pt tb0_9_3 0)]), (fV 190 #[(pt tb0_9_4 0), (pt tb0_9_5 0), (pt tb0_9_6 0), (pt tb0_9_7 0)]), (fV 191 #[(pt tb0_9_4 0), (pt tb0_9_7 0)]), (fV 190 #[(pt tb0_9_8 0), (pt tb0_9_9 0), (pt tb0_9_10 0), (pt tb0_9_11 0)]), (fV 191 #[(pt tb0_9_8 0), (pt tb0_9_11 0)]), (fV 159 #[]), (fV 160 #[]), (vi x0.done_), (.bool x0.ended_)] 130) :: e0_8 :: Lf)) (r : (Ai × Bool)) (h : DU N x0 x1 = some r) :
  Calls Tryz.prog 159 ([(pt bp0 3), (sv x1)] : List Value).toArray w0 (EE wb Fb F0 fun F' v L' => ∃ (aq0_7 : WF) (nq0_7 : Nat) (aq0_8 : WF) (nq0_8 : Nat) (eq0_8 : Option Nat × Obj), v = (.bool r.2) /\ L' = (sb bp0 #[(.bool r.1.o_.Report), (.bool r.1.o_.Serial), (.bool r.1.o_.Zone), (sv r.1.l_.Call), (vi r.1.l_.Category), (vi r.1.l_.Power), (vi r.1.l_.Claimed), (.slice aq0_7 r.1.l_.Jumps.length nq0_7), (.slice aq0_8 r.1.l_.Lines.length nq0_8), (fV 153 #[]), (fV 154 #[]), (fV 190 #[(pt tb0_9_0 0), (pt tb0_9_1 0), (pt tb0_9_2 0), (pt tb0_9_3 0)]), (fV 191 #[(pt tb0_9_0 0), (pt tb0_9_3 0)]), (fV 190 #[(pt tb0_9_4 0), (pt tb0_9_5 0), (pt tb0_9_6 0), (pt tb0_9_7 0)]), (fV 191 #[(pt tb0_9_4 0), (pt tb0_9_7 0)]), (fV 190 #[(pt tb0_9_8 0), (pt tb0_9_9 0), (pt tb0_9_10 0), (pt tb0_9_11 0)]), (fV 191 #[(pt tb0_9_8 0), (pt tb0_9_11 0)]), (fV 159 #[]), (fV 160 #[]), (vi r.1.done_), (.bool r.1.ended_)] 130) :: eq0_8 :: Lf /\ LC r.1.l_.Jumps.length nq0_7 /\ SlA AD F' aq0_7 r.1.l_.Jumps /\ Av AC 34 F' aq0_8 nq0_8 r.1.l_.Lines eq0_8) := by
 refine Go 44 Tryz.func159 <| Sq (Rg [0] ?_)
 refine Vs 1 <| Nss (Rg [0, 1, 2] ?_)
 refine Vs 1 ?_
 obtain ⟨r21, hr22, h23⟩ := bind_some h
 refine Cl' Cx hs0 (CQ N w0 F0 hs0.pers hG x1 (([32] : WE)) _ hr22) ?_
 rintro _ F1 w25 hs26 le27 ⟨ar21_0_0, nr21_0_0, rfl, hbr21_0_0, hsr21_0_0⟩
 refine Vs 1 <| Nss (Rg [0] ?_)
 refine Vs 1 <| Nss <| Sq (Rg (rG 4) ?_)
 refine Vs 1 ?_
 obtain ⟨r29, hr30, h31⟩ := bind_some h23
 obtain ⟨a32, n33, hb34, hs35, hrun36⟩ := Fu (P := Tryz.prog) (T := AM) (lo := (some (.const (vi 1)))) (hi := none) (mx := none) (t := 55) (E := 9) (by_ := 16) (c := nr21_0_0) (a := ar21_0_0) (l := r21) (r := r29) (il := 1) (ih := (r21.length : Int)) (im := 0) (by kernel_rfl) (by kernel_rfl) hbr21_0_0 hsr21_0_0 (fun h => by first | rfl | cases h) hr30
 refine V 14 55 (hrun36 (x := (.tmp 13)) rfl rfl rfl trivial) <| Vs 2 <| Nt ?_
 have hs37 := hs26.dummy (oc #[] 0)
 obtain ⟨o39, ho40, h41⟩ := bind_some h31
 refine Wq (fun f w => ∃ (s53 : (List Int × Int)) (F3 : Mem) (as53_0 : WF) (ns53_0 : Nat) (es53_0 : Option Nat × Obj), o39 = .done s53 /\ HS wb Fb w F3 (es53_0 :: (sb bp0 #[(.bool x0.o_.Report), (.bool x0.o_.Serial), (.bool x0.o_.Zone), (sv x0.l_.Call), (vi x0.l_.Category), (vi x0.l_.Power), (vi x0.l_.Claimed), (.slice a0_7 x0.l_.Jumps.length n0_7), (.slice a0_8 x0.l_.Lines.length n0_8), (fV 153 #[]), (fV 154 #[]), (fV 190 #[(pt tb0_9_0 0), (pt tb0_9_1 0), (pt tb0_9_2 0), (pt tb0_9_3 0)]), (fV 191 #[(pt tb0_9_0 0), (pt tb0_9_3 0)]), (fV 190 #[(pt tb0_9_4 0), (pt tb0_9_5 0), (pt tb0_9_6 0), (pt tb0_9_7 0)]), (fV 191 #[(pt tb0_9_4 0), (pt tb0_9_7 0)]), (fV 190 #[(pt tb0_9_8 0), (pt tb0_9_9 0), (pt tb0_9_10 0), (pt tb0_9_11 0)]), (fV 191 #[(pt tb0_9_8 0), (pt tb0_9_11 0)]), (fV 159 #[]), (fV 160 #[]), (vi x0.done_), (.bool x0.ended_)] 130) :: e0_8 :: Lf) /\ Wj F1 F3 /\ FI f [] [(0, (pt bp0 3)), (5, (.slice ar21_0_0 r21.length nr21_0_0)), (6, (.slice as53_0 s53.1.length ns53_0))] /\ Av AD 3 F3 as53_0 ns53_0 s53.1 es53_0) ?_ ?_
 ·refine Bk ?_
  refine Wi (by kernel_rfl) (fun m f w => ∃ (s42 : (List Int × Int)) (F2 : Mem) (as42_0 : WF) (ns42_0 : Nat) (es42_0 : Option Nat × Obj), AX (Bc N x0 x1 r21 r29) m s42 = some o39 /\ HS wb Fb w F2 (es42_0 :: (sb bp0 #[(.bool x0.o_.Report), (.bool x0.o_.Serial), (.bool x0.o_.Zone), (sv x0.l_.Call), (vi x0.l_.Category), (vi x0.l_.Power), (vi x0.l_.Claimed), (.slice a0_7 x0.l_.Jumps.length n0_7), (.slice a0_8 x0.l_.Lines.length n0_8), (fV 153 #[]), (fV 154 #[]), (fV 190 #[(pt tb0_9_0 0), (pt tb0_9_1 0), (pt tb0_9_2 0), (pt tb0_9_3 0)]), (fV 191 #[(pt tb0_9_0 0), (pt tb0_9_3 0)]), (fV 190 #[(pt tb0_9_4 0), (pt tb0_9_5 0), (pt tb0_9_6 0), (pt tb0_9_7 0)]), (fV 191 #[(pt tb0_9_4 0), (pt tb0_9_7 0)]), (fV 190 #[(pt tb0_9_8 0), (pt tb0_9_9 0), (pt tb0_9_10 0), (pt tb0_9_11 0)]), (fV 191 #[(pt tb0_9_8 0), (pt tb0_9_11 0)]), (fV 159 #[]), (fV 160 #[]), (vi x0.done_), (.bool x0.ended_)] 130) :: e0_8 :: Lf) /\ Wj F1 F2 /\ FI f [] [(0, (pt bp0 3)), (5, (.slice ar21_0_0 r21.length nr21_0_0)), (6, (.slice as42_0 s42.1.length ns42_0)), (14, (.slice a32 r29.length n33)), (15, (vi (r29.length : Int))), (16, (vi s42.2))] /\ Av AD 3 F2 as42_0 ns42_0 s42.1 es42_0) N ⟨(([] : List Int), 0), F1, none, 0, (none, .cells #[] 0 (0, 0)), ho40, hs37, (Wk _), fI, (Wy AD 3 F1 _)⟩ ?_
  rintro m61 f w43 ⟨s42, F2, as42_0, ns42_0, es42_0, hit62, hs44, le45, ⟨_, rfl⟩, hrs42_0⟩
  obtain ⟨m63, fl64, rfl, hb65, hnx66⟩ := AN hit62
  refine Sq (Rg [0] ?_)
  refine Vs 1 <| Nss <| Cd hb65 (fun hb67 h68 => ?_) (fun hb67 h69 => ?_)
  ·refine Sc ?_
   refine Ab <| Sq <| Bk <| Sq (Rg [0, 1, 2] ?_)
   obtain ⟨x70, hx71, h73⟩ := bind_some h68
   obtain ⟨hi72, hx71'⟩ := Ap hx71
   obtain ⟨b74, o75, C76, E77, fz78, rfl, hF80, hE81⟩ := Wr (Wm hs35 le45) hx71'
   have hc83 := hE81 _ _ hx71'
   refine Ix hi72 <| Lx 0 (hs44.pers _ _ hF80) hc83 <| Vs 1 <| Nss (Rg (rG 7) ?_)
   refine Vs 1 ?_
   obtain ⟨r84, hr85, h86⟩ := bind_some h73
   refine Cl' Bf hs44 (Bq N w43 F2 hs44.pers (hG.mono (le27.t le45)) x70 _ hr85) ?_
   rintro _ F4 w88 hs89 le90 rfl
   refine Vs 5 <| Nss <| Sq (Rg [0, 1] ?_)
   refine Vs 2 <| Nt <| Cd h86 (fun hb92 h93 => ?_) (fun hb92 h94 => ?_)
   ·refine Sq (Rg [0] ?_)
    refine Vs 1 <| Nt <| Rt <| Ae <| Ax <| Ae <| Ae <| Ax ?_
    have hret := Cw h93 hnx66
    subst hret
    refine .inr <| Ae ?_
    obtain rfl := Aa h41
    exact ReB [(.bool false)] hs89.dr0 ((le27.t le45).trans le90) ⟨a0_7, n0_7, a0_8, n0_8, e0_8, rfl, rfl, hb0_7, (Wm hs0_7 ((le27.t le45).trans le90)), (hr0_8.mono ((le27.t le45).trans le90))⟩
   ·refine Sc ?_
    refine Ab <| Rg (rG 5) <| Vs 2 <| Bs 3 [(vi r84.1)] hs89 (fun b95 w96 hs97 => ?_)
    have hr99 : Av AD 3 F4 (some ⟨b95, 0, none⟩) 1 [r84.1] (some b95, .cells ([(vi r84.1)] : List Value).toArray 3 (0, 0)) := Wz ⟨rfl, rfl⟩ (by simp)
    obtain ⟨r100, hap101, h102⟩ := bind_some h94
    refine Ap1 UU hs97 (hrs42_0.mono le90) (hs97.rd0 hr99) hap101 (fun a103 n104 e105 w106 hs107 hr108 => ?_)
    refine Vs 1 <| Wf <| Au <| Ab <| Rg [0, 1] <| Vs 2 <| Wf ?_
    have hn109 := AO h102 hnx66
    exact ⟨m63, Nat.lt_succ_self _, (r100, (W64 (s42.2 + 1))), F4, a103, n104, e105, hn109, hs107.dr0, (le45.t le90), fI, hr108⟩
  ·refine Ex ?_
   refine Ar <| Ar <| Az rfl ?_
   have ho110 := AP h69 hnx66
   exact .inl ⟨rfl, (s42.1, s42.2), F2, as42_0, ns42_0, es42_0, ho110, hs44, le45, fI, hrs42_0⟩
 ·rintro f w54 ⟨s53, F3, as53_0, ns53_0, es53_0, rfl, hs55, le56, ⟨_, rfl⟩, hrs53_0⟩
  have h111 := BL h41
  refine Ab <| Sq (Rg (rG 5) ?_)
  refine Vs 4 ?_
  have hb115 := Wx hrs53_0
  obtain ⟨F5, hs112, le113, hs114⟩ := hs55.fr0 hrs53_0
  refine St0 #[(.bool x0.o_.Report), (.bool x0.o_.Serial), (.bool x0.o_.Zone), (sv x0.l_.Call), (vi x0.l_.Category), (vi x0.l_.Power), (vi x0.l_.Claimed), (.slice as53_0 s53.1.length ns53_0), (.slice a0_8 x0.l_.Lines.length n0_8), (fV 153 #[]), (fV 154 #[]), (fV 190 #[(pt tb0_9_0 0), (pt tb0_9_1 0), (pt tb0_9_2 0), (pt tb0_9_3 0)]), (fV 191 #[(pt tb0_9_0 0), (pt tb0_9_3 0)]), (fV 190 #[(pt tb0_9_4 0), (pt tb0_9_5 0), (pt tb0_9_6 0), (pt tb0_9_7 0)]), (fV 191 #[(pt tb0_9_4 0), (pt tb0_9_7 0)]), (fV 190 #[(pt tb0_9_8 0), (pt tb0_9_9 0), (pt tb0_9_10 0), (pt tb0_9_11 0)]), (fV 191 #[(pt tb0_9_8 0), (pt tb0_9_11 0)]), (fV 159 #[]), (fV 160 #[]), (vi x0.done_), (.bool x0.ended_)] hs112 (fun w116 hs117 => ?_)
  refine Nss (Rg (rG 9) ?_)
  obtain ⟨j121, hj124, h125⟩ := bind_some h111
  refine Wp (fun f w => ∃ (F6 : Mem), HS wb Fb w F6 ((sb bp0 #[(.bool x0.o_.Report), (.bool x0.o_.Serial), (.bool x0.o_.Zone), (sv x0.l_.Call), (vi x0.l_.Category), (vi x0.l_.Power), (vi x0.l_.Claimed), (.slice as53_0 s53.1.length ns53_0), (.slice a0_8 x0.l_.Lines.length n0_8), (fV 153 #[]), (fV 154 #[]), (fV 190 #[(pt tb0_9_0 0), (pt tb0_9_1 0), (pt tb0_9_2 0), (pt tb0_9_3 0)]), (fV 191 #[(pt tb0_9_0 0), (pt tb0_9_3 0)]), (fV 190 #[(pt tb0_9_4 0), (pt tb0_9_5 0), (pt tb0_9_6 0), (pt tb0_9_7 0)]), (fV 191 #[(pt tb0_9_4 0), (pt tb0_9_7 0)]), (fV 190 #[(pt tb0_9_8 0), (pt tb0_9_9 0), (pt tb0_9_10 0), (pt tb0_9_11 0)]), (fV 191 #[(pt tb0_9_8 0), (pt tb0_9_11 0)]), (fV 159 #[]), (fV 160 #[]), (vi x0.done_), (.bool x0.ended_)] 130) :: e0_8 :: Lf) /\ Wj F5 F6 /\ FI f [] [(4, (.bool j121))]) ?_ ?_
  ·refine Vs 1 ?_
   obtain ⟨x126, hx127, h129⟩ := bind_some hj124
   obtain ⟨hi128, hx127'⟩ := Ap hx127
   obtain ⟨b130, o131, C132, E133, fz134, rfl, hF136, hE137⟩ := Wr (Wm hsr21_0_0 (le56.t le113)) hx127'
   have hc139 := hE137 _ _ hx127'
   refine Ix hi128 <| Lx 0 (hs117.pers _ _ hF136) hc139 <| Vs 2 <| Sp h129 (fun hb140 h141 => ?_) (fun hb140 h142 => ?_)
   ·refine Vgs hb140 1 ?_
    obtain ⟨r143, hr144, h145⟩ := bind_some h141
    refine Cg hb140 Gl hs117 (Ha N w116 F5 hs117.pers s53.1 as53_0 ns53_0 hb115 hs114 _ hr144) ?_
    rintro _ F7 w147 hs148 le149 rfl
    refine Pk1 hb140 <| Vs 1 ?_
    obtain rfl := Aa h145
    exact Wf ⟨rfl, F7, hs148, le149, fI⟩
   ·refine Ss hb140 2 ?_
    refine Pk0 hb140 <| Vs 1 ?_
    obtain rfl := Aa h142
    exact Wf ⟨rfl, F5, hs117, (Wk _), fI⟩
  ·rintro f w118 ⟨F6, hs119, le120, ⟨_, rfl⟩⟩
   refine Ab <| Rt ?_
   obtain rfl := Aa h125
   exact ReB [(.bool j121)] hs119 (((le27.t le56).trans le113).trans le120) ⟨as53_0, ns53_0, a0_8, n0_8, e0_8, rfl, rfl, hb115, (Wm hs114 le120), (hr0_8.mono (((le27.t le56).trans le113).trans le120))⟩
def C4 (N : Nat) (x0 : Ai) (x1 : WE) (z0 : WE) (z1 : Int) (z2 : Int) : Option (Ai × Bool) :=
 ((C5 z0 ([32] : WE)).bind fun r21 => ((strings_CutPrefix N x1 r21).bind fun r24 => ((AG N r24.1).bind fun r32 => ((bif (!r24.2) then some true else (bif (!r32.2) then some true else ((AU N r32.1 z1 z2).bind fun r57 => some (!r57)))).bind fun j43 => (bif j43 then some (x0, false) else some (({ o_ := ({ Report := x0.o_.Report, Serial := x0.o_.Serial, Zone := x0.o_.Zone } : Ac), l_ := ({ Call := x0.l_.Call, Category := r32.1, Power := x0.l_.Power, Claimed := x0.l_.Claimed, Jumps := x0.l_.Jumps, Lines := x0.l_.Lines } : Log), done_ := x0.done_, ended_ := x0.ended_ } : Ai), true))))))
theorem Ie : Af Tryz.prog 190 := fun _ _ => by kernel_rfl
theorem IV (N : Nat) {wb w0 : World} {Fb F0 : Mem} {Lf : Own} (hG : Bz F0) (bp0 : Nat) (x0 : Ai) (a0_7 : WF) (n0_7 : Nat) (tb0_9_0 : Nat) (tb0_9_1 : Nat) (tb0_9_2 : Nat) (tb0_9_3 : Nat) (tb0_9_4 : Nat) (tb0_9_5 : Nat) (tb0_9_6 : Nat) (tb0_9_7 : Nat) (tb0_9_8 : Nat) (tb0_9_9 : Nat) (tb0_9_10 : Nat) (tb0_9_11 : Nat) (a0_8 : WF) (n0_8 : Nat) (e0_8 : Option Nat × Obj) (hb0_7 : LC x0.l_.Jumps.length n0_7) (hs0_7 : SlA AD F0 a0_7 x0.l_.Jumps) (htb0_9_0 : F0 tb0_9_0 = some (oc #[(sv (([67, 65, 84, 69, 71, 79, 82, 89] : WE)))] 9)) (htb0_9_1 : F0 tb0_9_1 = some (oc #[(vi 1)] 3)) (htb0_9_2 : F0 tb0_9_2 = some (oc #[(vi 9)] 3)) (htb0_9_3 : F0 tb0_9_3 = some (oc #[(fV 156 #[])] 195)) (htb0_9_4 : F0 tb0_9_4 = some (oc #[(sv (([80, 79, 87, 69, 82] : WE)))] 9)) (htb0_9_5 : F0 tb0_9_5 = some (oc #[(vi 1)] 3)) (htb0_9_6 : F0 tb0_9_6 = some (oc #[(vi 9999)] 3)) (htb0_9_7 : F0 tb0_9_7 = some (oc #[(fV 157 #[])] 195)) (htb0_9_8 : F0 tb0_9_8 = some (oc #[(sv (([67, 76, 65, 73, 77, 69, 68] : WE)))] 9)) (htb0_9_9 : F0 tb0_9_9 = some (oc #[(vi 0)] 3)) (htb0_9_10 : F0 tb0_9_10 = some (oc #[(vi 1000000)] 3)) (htb0_9_11 : F0 tb0_9_11 = some (oc #[(fV 158 #[])] 195)) (hr0_8 : Av AC 34 F0 a0_8 n0_8 x0.l_.Lines e0_8) (x1 : WE) (bz0 : Nat) (z0 : WE) (hz0 : F0 bz0 = some (oc #[(sv z0)] 9)) (bz1 : Nat) (z1 : Int) (hz1 : F0 bz1 = some (oc #[(vi z1)] 3)) (bz2 : Nat) (z2 : Int) (hz2 : F0 bz2 = some (oc #[(vi z2)] 3)) (bz3 : Nat) (hz3 : F0 bz3 = some (oc #[(fV 156 #[])] 195)) (hs0 : HS wb Fb w0 F0 ((sb bp0 #[(.bool x0.o_.Report), (.bool x0.o_.Serial), (.bool x0.o_.Zone), (sv x0.l_.Call), (vi x0.l_.Category), (vi x0.l_.Power), (vi x0.l_.Claimed), (.slice a0_7 x0.l_.Jumps.length n0_7), (.slice a0_8 x0.l_.Lines.length n0_8), (fV 153 #[]), (fV 154 #[]), (fV 190 #[(pt tb0_9_0 0), (pt tb0_9_1 0), (pt tb0_9_2 0), (pt tb0_9_3 0)]), (fV 191 #[(pt tb0_9_0 0), (pt tb0_9_3 0)]), (fV 190 #[(pt tb0_9_4 0), (pt tb0_9_5 0), (pt tb0_9_6 0), (pt tb0_9_7 0)]), (fV 191 #[(pt tb0_9_4 0), (pt tb0_9_7 0)]), (fV 190 #[(pt tb0_9_8 0), (pt tb0_9_9 0), (pt tb0_9_10 0), (pt tb0_9_11 0)]), (fV 191 #[(pt tb0_9_8 0), (pt tb0_9_11 0)]), (fV 159 #[]), (fV 160 #[]), (vi x0.done_), (.bool x0.ended_)] 130) :: e0_8 :: Lf)) (r : (Ai × Bool)) (h : C4 N x0 x1 z0 z1 z2 = some r) :
  Calls Tryz.prog 190 ([(pt bp0 3), (sv x1), (pt bz0 0), (pt bz1 0), (pt bz2 0), (pt bz3 0)] : List Value).toArray w0 (EE wb Fb F0 fun F' v L' => ∃ (aq0_7 : WF) (nq0_7 : Nat) (aq0_8 : WF) (nq0_8 : Nat) (eq0_8 : Option Nat × Obj), v = (.bool r.2) /\ L' = (sb bp0 #[(.bool r.1.o_.Report), (.bool r.1.o_.Serial), (.bool r.1.o_.Zone), (sv r.1.l_.Call), (vi r.1.l_.Category), (vi r.1.l_.Power), (vi r.1.l_.Claimed), (.slice aq0_7 r.1.l_.Jumps.length nq0_7), (.slice aq0_8 r.1.l_.Lines.length nq0_8), (fV 153 #[]), (fV 154 #[]), (fV 190 #[(pt tb0_9_0 0), (pt tb0_9_1 0), (pt tb0_9_2 0), (pt tb0_9_3 0)]), (fV 191 #[(pt tb0_9_0 0), (pt tb0_9_3 0)]), (fV 190 #[(pt tb0_9_4 0), (pt tb0_9_5 0), (pt tb0_9_6 0), (pt tb0_9_7 0)]), (fV 191 #[(pt tb0_9_4 0), (pt tb0_9_7 0)]), (fV 190 #[(pt tb0_9_8 0), (pt tb0_9_9 0), (pt tb0_9_10 0), (pt tb0_9_11 0)]), (fV 191 #[(pt tb0_9_8 0), (pt tb0_9_11 0)]), (fV 159 #[]), (fV 160 #[]), (vi r.1.done_), (.bool r.1.ended_)] 130) :: eq0_8 :: Lf /\ LC r.1.l_.Jumps.length nq0_7 /\ SlA AD F' aq0_7 r.1.l_.Jumps /\ Av AC 34 F' aq0_8 nq0_8 r.1.l_.Lines eq0_8) := by
 refine Go 43 Tryz.func190 <| Sq (Rg [0] ?_)
 refine Vs 1 <| Nss (Rg (rG 9) ?_)
 refine Vs 1 <| Ld (hs0.pers _ _ hz0) ?_
 obtain ⟨r21, hr22, h23⟩ := bind_some h
 refine V 16 9 (AV (t := 9) (t' := 9) (x := (.tmp 15)) (y := (.const (sv ([32] : WE)))) (a := z0) (b := ([32] : WE)) (v := r21) rfl rfl hr22) ?_
 obtain ⟨r24, hr25, h26⟩ := bind_some h23
 refine Cl' A2 hs0 (A8 N w0 F0 hs0.pers x1 r21 _ hr25) ?_
 rintro _ F1 w28 hs29 le30 rfl
 refine Vs 5 <| Nss (Rg (rG 7) ?_)
 refine Vs 1 ?_
 obtain ⟨r32, hr33, h34⟩ := bind_some h26
 refine Cl' Bf hs29 (Bq N w28 F1 hs29.pers (hG.mono le30) r24.1 _ hr33) ?_
 rintro _ F2 w36 hs37 le38 rfl
 refine Vs 5 <| Nss <| Sq (Rg (rG 13) ?_)
 obtain ⟨j43, hj49, h50⟩ := bind_some h34
 refine Wp (fun f w => ∃ (F3 : Mem), HS wb Fb w F3 ((sb bp0 #[(.bool x0.o_.Report), (.bool x0.o_.Serial), (.bool x0.o_.Zone), (sv x0.l_.Call), (vi x0.l_.Category), (vi x0.l_.Power), (vi x0.l_.Claimed), (.slice a0_7 x0.l_.Jumps.length n0_7), (.slice a0_8 x0.l_.Lines.length n0_8), (fV 153 #[]), (fV 154 #[]), (fV 190 #[(pt tb0_9_0 0), (pt tb0_9_1 0), (pt tb0_9_2 0), (pt tb0_9_3 0)]), (fV 191 #[(pt tb0_9_0 0), (pt tb0_9_3 0)]), (fV 190 #[(pt tb0_9_4 0), (pt tb0_9_5 0), (pt tb0_9_6 0), (pt tb0_9_7 0)]), (fV 191 #[(pt tb0_9_4 0), (pt tb0_9_7 0)]), (fV 190 #[(pt tb0_9_8 0), (pt tb0_9_9 0), (pt tb0_9_10 0), (pt tb0_9_11 0)]), (fV 191 #[(pt tb0_9_8 0), (pt tb0_9_11 0)]), (fV 159 #[]), (fV 160 #[]), (vi x0.done_), (.bool x0.ended_)] 130) :: e0_8 :: Lf) /\ Wj F2 F3 /\ FI f [] [(0, (pt bp0 3)), (5, (pt bz3 0)), (11, (vi r32.1)), (37, (.bool j43))]) ?_ ?_
 ·refine Vs 3 ?_
  refine Sp hj49 (fun hb51 h52 => ?_) (fun hb51 h53 => ?_)
  ·refine Ss hb51 2 ?_
   refine Pk1 hb51 <| Vs 1 <| Ss (rfl : true = true) 5 <| Pk1 (rfl : true = true) ?_
   obtain rfl := Aa h52
   exact Wf ⟨rfl, F2, hs37, (Wk _), fI⟩
  ·refine Vgs hb51 2 ?_
   refine Pk0 hb51 <| Vs 1 <| Sp h53 (fun hb54 h55 => ?_) (fun hb54 h56 => ?_)
   ·refine Ss hb54 5 ?_
    refine Pk1 hb54 ?_
    obtain rfl := Aa h55
    exact Wf ⟨rfl, F2, hs37, (Wk _), fI⟩
   ·refine Vgs hb54 1 ?_
    refine Lg hb54 (hs37.pers _ _ ((le30.t le38) _ _ hz1)) <| Lg hb54 (hs37.pers _ _ ((le30.t le38) _ _ hz2)) ?_
    obtain ⟨r57, hr58, h59⟩ := bind_some h56
    refine Cg hb54 AE hs37 (AL N w36 F2 hs37.pers r32.1 z1 z2 _ hr58) ?_
    rintro _ F4 w61 hs62 le63 rfl
    refine Vgs hb54 1 <| Pk0 hb54 ?_
    obtain rfl := Aa h59
    exact Wf ⟨rfl, F4, hs62, le63, fI⟩
 ·rintro f w40 ⟨F3, hs41, le42, ⟨_, rfl⟩⟩
  refine Ab <| Cd h50 (fun hb65 h66 => ?_) (fun hb65 h67 => ?_)
  ·refine Sq (Rg [0] ?_)
   refine Vs 1 <| Nt <| Rt <| Ae ?_
   obtain rfl := Aa h66
   exact ReB [(.bool false)] hs41 ((le30.t le38).trans le42) ⟨a0_7, n0_7, a0_8, n0_8, e0_8, rfl, rfl, hb0_7, (Wm hs0_7 ((le30.t le38).trans le42)), (hr0_8.mono ((le30.t le38).trans le42))⟩
  ·refine Sc ?_
   refine Ab <| Sq (Rg (rG 6) ?_)
   refine Ld (hs41.pers _ _ (((le30.t le38).trans le42) _ _ hz3)) <| Vs 1 <| Cl' KB hs41 (MY w40 F3 hs41.pers bp0 3) ?_
   rintro _ F5 w68 hs69 le70 rfl
   refine Vs 2 <| St0 #[(.bool x0.o_.Report), (.bool x0.o_.Serial), (.bool x0.o_.Zone), (sv x0.l_.Call), (vi r32.1), (vi x0.l_.Power), (vi x0.l_.Claimed), (.slice a0_7 x0.l_.Jumps.length n0_7), (.slice a0_8 x0.l_.Lines.length n0_8), (fV 153 #[]), (fV 154 #[]), (fV 190 #[(pt tb0_9_0 0), (pt tb0_9_1 0), (pt tb0_9_2 0), (pt tb0_9_3 0)]), (fV 191 #[(pt tb0_9_0 0), (pt tb0_9_3 0)]), (fV 190 #[(pt tb0_9_4 0), (pt tb0_9_5 0), (pt tb0_9_6 0), (pt tb0_9_7 0)]), (fV 191 #[(pt tb0_9_4 0), (pt tb0_9_7 0)]), (fV 190 #[(pt tb0_9_8 0), (pt tb0_9_9 0), (pt tb0_9_10 0), (pt tb0_9_11 0)]), (fV 191 #[(pt tb0_9_8 0), (pt tb0_9_11 0)]), (fV 159 #[]), (fV 160 #[]), (vi x0.done_), (.bool x0.ended_)] hs69 (fun w71 hs72 => ?_)
   refine Nss (Rg [0] ?_)
   refine Vs 1 <| Nt <| Rt ?_
   obtain rfl := Aa h67
   exact ReB [(.bool true)] hs72 (((le30.t le38).trans le42).trans le70) ⟨a0_7, n0_7, a0_8, n0_8, e0_8, rfl, rfl, hb0_7, (Wm hs0_7 (((le30.t le38).trans le42).trans le70)), (hr0_8.mono (((le30.t le38).trans le42).trans le70))⟩
def C2 (N : Nat) (x0 : Ai) (x1 : WE) (z0 : WE) (z1 : Int) (z2 : Int) : Option (Ai × Bool) :=
 ((C5 z0 ([32] : WE)).bind fun r21 => ((strings_CutPrefix N x1 r21).bind fun r24 => ((AG N r24.1).bind fun r32 => ((bif (!r24.2) then some true else (bif (!r32.2) then some true else ((AU N r32.1 z1 z2).bind fun r57 => some (!r57)))).bind fun j43 => (bif j43 then some (x0, false) else some (({ o_ := ({ Report := x0.o_.Report, Serial := x0.o_.Serial, Zone := x0.o_.Zone } : Ac), l_ := ({ Call := x0.l_.Call, Category := x0.l_.Category, Power := r32.1, Claimed := x0.l_.Claimed, Jumps := x0.l_.Jumps, Lines := x0.l_.Lines } : Log), done_ := x0.done_, ended_ := x0.ended_ } : Ai), true))))))
theorem Ib : Af Tryz.prog 190 := fun _ _ => by kernel_rfl
theorem IR (N : Nat) {wb w0 : World} {Fb F0 : Mem} {Lf : Own} (hG : Bz F0) (bp0 : Nat) (x0 : Ai) (a0_7 : WF) (n0_7 : Nat) (tb0_9_0 : Nat) (tb0_9_1 : Nat) (tb0_9_2 : Nat) (tb0_9_3 : Nat) (tb0_9_4 : Nat) (tb0_9_5 : Nat) (tb0_9_6 : Nat) (tb0_9_7 : Nat) (tb0_9_8 : Nat) (tb0_9_9 : Nat) (tb0_9_10 : Nat) (tb0_9_11 : Nat) (a0_8 : WF) (n0_8 : Nat) (e0_8 : Option Nat × Obj) (hb0_7 : LC x0.l_.Jumps.length n0_7) (hs0_7 : SlA AD F0 a0_7 x0.l_.Jumps) (htb0_9_0 : F0 tb0_9_0 = some (oc #[(sv (([67, 65, 84, 69, 71, 79, 82, 89] : WE)))] 9)) (htb0_9_1 : F0 tb0_9_1 = some (oc #[(vi 1)] 3)) (htb0_9_2 : F0 tb0_9_2 = some (oc #[(vi 9)] 3)) (htb0_9_3 : F0 tb0_9_3 = some (oc #[(fV 156 #[])] 195)) (htb0_9_4 : F0 tb0_9_4 = some (oc #[(sv (([80, 79, 87, 69, 82] : WE)))] 9)) (htb0_9_5 : F0 tb0_9_5 = some (oc #[(vi 1)] 3)) (htb0_9_6 : F0 tb0_9_6 = some (oc #[(vi 9999)] 3)) (htb0_9_7 : F0 tb0_9_7 = some (oc #[(fV 157 #[])] 195)) (htb0_9_8 : F0 tb0_9_8 = some (oc #[(sv (([67, 76, 65, 73, 77, 69, 68] : WE)))] 9)) (htb0_9_9 : F0 tb0_9_9 = some (oc #[(vi 0)] 3)) (htb0_9_10 : F0 tb0_9_10 = some (oc #[(vi 1000000)] 3)) (htb0_9_11 : F0 tb0_9_11 = some (oc #[(fV 158 #[])] 195)) (hr0_8 : Av AC 34 F0 a0_8 n0_8 x0.l_.Lines e0_8) (x1 : WE) (bz0 : Nat) (z0 : WE) (hz0 : F0 bz0 = some (oc #[(sv z0)] 9)) (bz1 : Nat) (z1 : Int) (hz1 : F0 bz1 = some (oc #[(vi z1)] 3)) (bz2 : Nat) (z2 : Int) (hz2 : F0 bz2 = some (oc #[(vi z2)] 3)) (bz3 : Nat) (hz3 : F0 bz3 = some (oc #[(fV 157 #[])] 195)) (hs0 : HS wb Fb w0 F0 ((sb bp0 #[(.bool x0.o_.Report), (.bool x0.o_.Serial), (.bool x0.o_.Zone), (sv x0.l_.Call), (vi x0.l_.Category), (vi x0.l_.Power), (vi x0.l_.Claimed), (.slice a0_7 x0.l_.Jumps.length n0_7), (.slice a0_8 x0.l_.Lines.length n0_8), (fV 153 #[]), (fV 154 #[]), (fV 190 #[(pt tb0_9_0 0), (pt tb0_9_1 0), (pt tb0_9_2 0), (pt tb0_9_3 0)]), (fV 191 #[(pt tb0_9_0 0), (pt tb0_9_3 0)]), (fV 190 #[(pt tb0_9_4 0), (pt tb0_9_5 0), (pt tb0_9_6 0), (pt tb0_9_7 0)]), (fV 191 #[(pt tb0_9_4 0), (pt tb0_9_7 0)]), (fV 190 #[(pt tb0_9_8 0), (pt tb0_9_9 0), (pt tb0_9_10 0), (pt tb0_9_11 0)]), (fV 191 #[(pt tb0_9_8 0), (pt tb0_9_11 0)]), (fV 159 #[]), (fV 160 #[]), (vi x0.done_), (.bool x0.ended_)] 130) :: e0_8 :: Lf)) (r : (Ai × Bool)) (h : C2 N x0 x1 z0 z1 z2 = some r) :
  Calls Tryz.prog 190 ([(pt bp0 3), (sv x1), (pt bz0 0), (pt bz1 0), (pt bz2 0), (pt bz3 0)] : List Value).toArray w0 (EE wb Fb F0 fun F' v L' => ∃ (aq0_7 : WF) (nq0_7 : Nat) (aq0_8 : WF) (nq0_8 : Nat) (eq0_8 : Option Nat × Obj), v = (.bool r.2) /\ L' = (sb bp0 #[(.bool r.1.o_.Report), (.bool r.1.o_.Serial), (.bool r.1.o_.Zone), (sv r.1.l_.Call), (vi r.1.l_.Category), (vi r.1.l_.Power), (vi r.1.l_.Claimed), (.slice aq0_7 r.1.l_.Jumps.length nq0_7), (.slice aq0_8 r.1.l_.Lines.length nq0_8), (fV 153 #[]), (fV 154 #[]), (fV 190 #[(pt tb0_9_0 0), (pt tb0_9_1 0), (pt tb0_9_2 0), (pt tb0_9_3 0)]), (fV 191 #[(pt tb0_9_0 0), (pt tb0_9_3 0)]), (fV 190 #[(pt tb0_9_4 0), (pt tb0_9_5 0), (pt tb0_9_6 0), (pt tb0_9_7 0)]), (fV 191 #[(pt tb0_9_4 0), (pt tb0_9_7 0)]), (fV 190 #[(pt tb0_9_8 0), (pt tb0_9_9 0), (pt tb0_9_10 0), (pt tb0_9_11 0)]), (fV 191 #[(pt tb0_9_8 0), (pt tb0_9_11 0)]), (fV 159 #[]), (fV 160 #[]), (vi r.1.done_), (.bool r.1.ended_)] 130) :: eq0_8 :: Lf /\ LC r.1.l_.Jumps.length nq0_7 /\ SlA AD F' aq0_7 r.1.l_.Jumps /\ Av AC 34 F' aq0_8 nq0_8 r.1.l_.Lines eq0_8) := by
 refine Go 43 Tryz.func190 <| Sq (Rg [0] ?_)
 refine Vs 1 <| Nss (Rg (rG 9) ?_)
 refine Vs 1 <| Ld (hs0.pers _ _ hz0) ?_
 obtain ⟨r21, hr22, h23⟩ := bind_some h
 refine V 16 9 (AV (t := 9) (t' := 9) (x := (.tmp 15)) (y := (.const (sv ([32] : WE)))) (a := z0) (b := ([32] : WE)) (v := r21) rfl rfl hr22) ?_
 obtain ⟨r24, hr25, h26⟩ := bind_some h23
 refine Cl' A2 hs0 (A8 N w0 F0 hs0.pers x1 r21 _ hr25) ?_
 rintro _ F1 w28 hs29 le30 rfl
 refine Vs 5 <| Nss (Rg (rG 7) ?_)
 refine Vs 1 ?_
 obtain ⟨r32, hr33, h34⟩ := bind_some h26
 refine Cl' Bf hs29 (Bq N w28 F1 hs29.pers (hG.mono le30) r24.1 _ hr33) ?_
 rintro _ F2 w36 hs37 le38 rfl
 refine Vs 5 <| Nss <| Sq (Rg (rG 13) ?_)
 obtain ⟨j43, hj49, h50⟩ := bind_some h34
 refine Wp (fun f w => ∃ (F3 : Mem), HS wb Fb w F3 ((sb bp0 #[(.bool x0.o_.Report), (.bool x0.o_.Serial), (.bool x0.o_.Zone), (sv x0.l_.Call), (vi x0.l_.Category), (vi x0.l_.Power), (vi x0.l_.Claimed), (.slice a0_7 x0.l_.Jumps.length n0_7), (.slice a0_8 x0.l_.Lines.length n0_8), (fV 153 #[]), (fV 154 #[]), (fV 190 #[(pt tb0_9_0 0), (pt tb0_9_1 0), (pt tb0_9_2 0), (pt tb0_9_3 0)]), (fV 191 #[(pt tb0_9_0 0), (pt tb0_9_3 0)]), (fV 190 #[(pt tb0_9_4 0), (pt tb0_9_5 0), (pt tb0_9_6 0), (pt tb0_9_7 0)]), (fV 191 #[(pt tb0_9_4 0), (pt tb0_9_7 0)]), (fV 190 #[(pt tb0_9_8 0), (pt tb0_9_9 0), (pt tb0_9_10 0), (pt tb0_9_11 0)]), (fV 191 #[(pt tb0_9_8 0), (pt tb0_9_11 0)]), (fV 159 #[]), (fV 160 #[]), (vi x0.done_), (.bool x0.ended_)] 130) :: e0_8 :: Lf) /\ Wj F2 F3 /\ FI f [] [(0, (pt bp0 3)), (5, (pt bz3 0)), (11, (vi r32.1)), (37, (.bool j43))]) ?_ ?_
 ·refine Vs 3 ?_
  refine Sp hj49 (fun hb51 h52 => ?_) (fun hb51 h53 => ?_)
  ·refine Ss hb51 2 ?_
   refine Pk1 hb51 <| Vs 1 <| Ss (rfl : true = true) 5 <| Pk1 (rfl : true = true) ?_
   obtain rfl := Aa h52
   exact Wf ⟨rfl, F2, hs37, (Wk _), fI⟩
  ·refine Vgs hb51 2 ?_
   refine Pk0 hb51 <| Vs 1 <| Sp h53 (fun hb54 h55 => ?_) (fun hb54 h56 => ?_)
   ·refine Ss hb54 5 ?_
    refine Pk1 hb54 ?_
    obtain rfl := Aa h55
    exact Wf ⟨rfl, F2, hs37, (Wk _), fI⟩
   ·refine Vgs hb54 1 ?_
    refine Lg hb54 (hs37.pers _ _ ((le30.t le38) _ _ hz1)) <| Lg hb54 (hs37.pers _ _ ((le30.t le38) _ _ hz2)) ?_
    obtain ⟨r57, hr58, h59⟩ := bind_some h56
    refine Cg hb54 AE hs37 (AL N w36 F2 hs37.pers r32.1 z1 z2 _ hr58) ?_
    rintro _ F4 w61 hs62 le63 rfl
    refine Vgs hb54 1 <| Pk0 hb54 ?_
    obtain rfl := Aa h59
    exact Wf ⟨rfl, F4, hs62, le63, fI⟩
 ·rintro f w40 ⟨F3, hs41, le42, ⟨_, rfl⟩⟩
  refine Ab <| Cd h50 (fun hb65 h66 => ?_) (fun hb65 h67 => ?_)
  ·refine Sq (Rg [0] ?_)
   refine Vs 1 <| Nt <| Rt <| Ae ?_
   obtain rfl := Aa h66
   exact ReB [(.bool false)] hs41 ((le30.t le38).trans le42) ⟨a0_7, n0_7, a0_8, n0_8, e0_8, rfl, rfl, hb0_7, (Wm hs0_7 ((le30.t le38).trans le42)), (hr0_8.mono ((le30.t le38).trans le42))⟩
  ·refine Sc ?_
   refine Ab <| Sq (Rg (rG 6) ?_)
   refine Ld (hs41.pers _ _ (((le30.t le38).trans le42) _ _ hz3)) <| Vs 1 <| Cl' KA hs41 (MX w40 F3 hs41.pers bp0 3) ?_
   rintro _ F5 w68 hs69 le70 rfl
   refine Vs 2 <| St0 #[(.bool x0.o_.Report), (.bool x0.o_.Serial), (.bool x0.o_.Zone), (sv x0.l_.Call), (vi x0.l_.Category), (vi r32.1), (vi x0.l_.Claimed), (.slice a0_7 x0.l_.Jumps.length n0_7), (.slice a0_8 x0.l_.Lines.length n0_8), (fV 153 #[]), (fV 154 #[]), (fV 190 #[(pt tb0_9_0 0), (pt tb0_9_1 0), (pt tb0_9_2 0), (pt tb0_9_3 0)]), (fV 191 #[(pt tb0_9_0 0), (pt tb0_9_3 0)]), (fV 190 #[(pt tb0_9_4 0), (pt tb0_9_5 0), (pt tb0_9_6 0), (pt tb0_9_7 0)]), (fV 191 #[(pt tb0_9_4 0), (pt tb0_9_7 0)]), (fV 190 #[(pt tb0_9_8 0), (pt tb0_9_9 0), (pt tb0_9_10 0), (pt tb0_9_11 0)]), (fV 191 #[(pt tb0_9_8 0), (pt tb0_9_11 0)]), (fV 159 #[]), (fV 160 #[]), (vi x0.done_), (.bool x0.ended_)] hs69 (fun w71 hs72 => ?_)
   refine Nss (Rg [0] ?_)
   refine Vs 1 <| Nt <| Rt ?_
   obtain rfl := Aa h67
   exact ReB [(.bool true)] hs72 (((le30.t le38).trans le42).trans le70) ⟨a0_7, n0_7, a0_8, n0_8, e0_8, rfl, rfl, hb0_7, (Wm hs0_7 (((le30.t le38).trans le42).trans le70)), (hr0_8.mono (((le30.t le38).trans le42).trans le70))⟩
def C3 (N : Nat) (x0 : Ai) (x1 : WE) (z0 : WE) (z1 : Int) (z2 : Int) : Option (Ai × Bool) :=
 ((C5 z0 ([32] : WE)).bind fun r21 => ((strings_CutPrefix N x1 r21).bind fun r24 => ((AG N r24.1).bind fun r32 => ((bif (!r24.2) then some true else (bif (!r32.2) then some true else ((AU N r32.1 z1 z2).bind fun r57 => some (!r57)))).bind fun j43 => (bif j43 then some (x0, false) else some (({ o_ := ({ Report := x0.o_.Report, Serial := x0.o_.Serial, Zone := x0.o_.Zone } : Ac), l_ := ({ Call := x0.l_.Call, Category := x0.l_.Category, Power := x0.l_.Power, Claimed := r32.1, Jumps := x0.l_.Jumps, Lines := x0.l_.Lines } : Log), done_ := x0.done_, ended_ := x0.ended_ } : Ai), true))))))
theorem Ic : Af Tryz.prog 190 := fun _ _ => by kernel_rfl
theorem IU (N : Nat) {wb w0 : World} {Fb F0 : Mem} {Lf : Own} (hG : Bz F0) (bp0 : Nat) (x0 : Ai) (a0_7 : WF) (n0_7 : Nat) (tb0_9_0 : Nat) (tb0_9_1 : Nat) (tb0_9_2 : Nat) (tb0_9_3 : Nat) (tb0_9_4 : Nat) (tb0_9_5 : Nat) (tb0_9_6 : Nat) (tb0_9_7 : Nat) (tb0_9_8 : Nat) (tb0_9_9 : Nat) (tb0_9_10 : Nat) (tb0_9_11 : Nat) (a0_8 : WF) (n0_8 : Nat) (e0_8 : Option Nat × Obj) (hb0_7 : LC x0.l_.Jumps.length n0_7) (hs0_7 : SlA AD F0 a0_7 x0.l_.Jumps) (htb0_9_0 : F0 tb0_9_0 = some (oc #[(sv (([67, 65, 84, 69, 71, 79, 82, 89] : WE)))] 9)) (htb0_9_1 : F0 tb0_9_1 = some (oc #[(vi 1)] 3)) (htb0_9_2 : F0 tb0_9_2 = some (oc #[(vi 9)] 3)) (htb0_9_3 : F0 tb0_9_3 = some (oc #[(fV 156 #[])] 195)) (htb0_9_4 : F0 tb0_9_4 = some (oc #[(sv (([80, 79, 87, 69, 82] : WE)))] 9)) (htb0_9_5 : F0 tb0_9_5 = some (oc #[(vi 1)] 3)) (htb0_9_6 : F0 tb0_9_6 = some (oc #[(vi 9999)] 3)) (htb0_9_7 : F0 tb0_9_7 = some (oc #[(fV 157 #[])] 195)) (htb0_9_8 : F0 tb0_9_8 = some (oc #[(sv (([67, 76, 65, 73, 77, 69, 68] : WE)))] 9)) (htb0_9_9 : F0 tb0_9_9 = some (oc #[(vi 0)] 3)) (htb0_9_10 : F0 tb0_9_10 = some (oc #[(vi 1000000)] 3)) (htb0_9_11 : F0 tb0_9_11 = some (oc #[(fV 158 #[])] 195)) (hr0_8 : Av AC 34 F0 a0_8 n0_8 x0.l_.Lines e0_8) (x1 : WE) (bz0 : Nat) (z0 : WE) (hz0 : F0 bz0 = some (oc #[(sv z0)] 9)) (bz1 : Nat) (z1 : Int) (hz1 : F0 bz1 = some (oc #[(vi z1)] 3)) (bz2 : Nat) (z2 : Int) (hz2 : F0 bz2 = some (oc #[(vi z2)] 3)) (bz3 : Nat) (hz3 : F0 bz3 = some (oc #[(fV 158 #[])] 195)) (hs0 : HS wb Fb w0 F0 ((sb bp0 #[(.bool x0.o_.Report), (.bool x0.o_.Serial), (.bool x0.o_.Zone), (sv x0.l_.Call), (vi x0.l_.Category), (vi x0.l_.Power), (vi x0.l_.Claimed), (.slice a0_7 x0.l_.Jumps.length n0_7), (.slice a0_8 x0.l_.Lines.length n0_8), (fV 153 #[]), (fV 154 #[]), (fV 190 #[(pt tb0_9_0 0), (pt tb0_9_1 0), (pt tb0_9_2 0), (pt tb0_9_3 0)]), (fV 191 #[(pt tb0_9_0 0), (pt tb0_9_3 0)]), (fV 190 #[(pt tb0_9_4 0), (pt tb0_9_5 0), (pt tb0_9_6 0), (pt tb0_9_7 0)]), (fV 191 #[(pt tb0_9_4 0), (pt tb0_9_7 0)]), (fV 190 #[(pt tb0_9_8 0), (pt tb0_9_9 0), (pt tb0_9_10 0), (pt tb0_9_11 0)]), (fV 191 #[(pt tb0_9_8 0), (pt tb0_9_11 0)]), (fV 159 #[]), (fV 160 #[]), (vi x0.done_), (.bool x0.ended_)] 130) :: e0_8 :: Lf)) (r : (Ai × Bool)) (h : C3 N x0 x1 z0 z1 z2 = some r) :
  Calls Tryz.prog 190 ([(pt bp0 3), (sv x1), (pt bz0 0), (pt bz1 0), (pt bz2 0), (pt bz3 0)] : List Value).toArray w0 (EE wb Fb F0 fun F' v L' => ∃ (aq0_7 : WF) (nq0_7 : Nat) (aq0_8 : WF) (nq0_8 : Nat) (eq0_8 : Option Nat × Obj), v = (.bool r.2) /\ L' = (sb bp0 #[(.bool r.1.o_.Report), (.bool r.1.o_.Serial), (.bool r.1.o_.Zone), (sv r.1.l_.Call), (vi r.1.l_.Category), (vi r.1.l_.Power), (vi r.1.l_.Claimed), (.slice aq0_7 r.1.l_.Jumps.length nq0_7), (.slice aq0_8 r.1.l_.Lines.length nq0_8), (fV 153 #[]), (fV 154 #[]), (fV 190 #[(pt tb0_9_0 0), (pt tb0_9_1 0), (pt tb0_9_2 0), (pt tb0_9_3 0)]), (fV 191 #[(pt tb0_9_0 0), (pt tb0_9_3 0)]), (fV 190 #[(pt tb0_9_4 0), (pt tb0_9_5 0), (pt tb0_9_6 0), (pt tb0_9_7 0)]), (fV 191 #[(pt tb0_9_4 0), (pt tb0_9_7 0)]), (fV 190 #[(pt tb0_9_8 0), (pt tb0_9_9 0), (pt tb0_9_10 0), (pt tb0_9_11 0)]), (fV 191 #[(pt tb0_9_8 0), (pt tb0_9_11 0)]), (fV 159 #[]), (fV 160 #[]), (vi r.1.done_), (.bool r.1.ended_)] 130) :: eq0_8 :: Lf /\ LC r.1.l_.Jumps.length nq0_7 /\ SlA AD F' aq0_7 r.1.l_.Jumps /\ Av AC 34 F' aq0_8 nq0_8 r.1.l_.Lines eq0_8) := by
 refine Go 43 Tryz.func190 <| Sq (Rg [0] ?_)
 refine Vs 1 <| Nss (Rg (rG 9) ?_)
 refine Vs 1 <| Ld (hs0.pers _ _ hz0) ?_
 obtain ⟨r21, hr22, h23⟩ := bind_some h
 refine V 16 9 (AV (t := 9) (t' := 9) (x := (.tmp 15)) (y := (.const (sv ([32] : WE)))) (a := z0) (b := ([32] : WE)) (v := r21) rfl rfl hr22) ?_
 obtain ⟨r24, hr25, h26⟩ := bind_some h23
 refine Cl' A2 hs0 (A8 N w0 F0 hs0.pers x1 r21 _ hr25) ?_
 rintro _ F1 w28 hs29 le30 rfl
 refine Vs 5 <| Nss (Rg (rG 7) ?_)
 refine Vs 1 ?_
 obtain ⟨r32, hr33, h34⟩ := bind_some h26
 refine Cl' Bf hs29 (Bq N w28 F1 hs29.pers (hG.mono le30) r24.1 _ hr33) ?_
 rintro _ F2 w36 hs37 le38 rfl
 refine Vs 5 <| Nss <| Sq (Rg (rG 13) ?_)
 obtain ⟨j43, hj49, h50⟩ := bind_some h34
 refine Wp (fun f w => ∃ (F3 : Mem), HS wb Fb w F3 ((sb bp0 #[(.bool x0.o_.Report), (.bool x0.o_.Serial), (.bool x0.o_.Zone), (sv x0.l_.Call), (vi x0.l_.Category), (vi x0.l_.Power), (vi x0.l_.Claimed), (.slice a0_7 x0.l_.Jumps.length n0_7), (.slice a0_8 x0.l_.Lines.length n0_8), (fV 153 #[]), (fV 154 #[]), (fV 190 #[(pt tb0_9_0 0), (pt tb0_9_1 0), (pt tb0_9_2 0), (pt tb0_9_3 0)]), (fV 191 #[(pt tb0_9_0 0), (pt tb0_9_3 0)]), (fV 190 #[(pt tb0_9_4 0), (pt tb0_9_5 0), (pt tb0_9_6 0), (pt tb0_9_7 0)]), (fV 191 #[(pt tb0_9_4 0), (pt tb0_9_7 0)]), (fV 190 #[(pt tb0_9_8 0), (pt tb0_9_9 0), (pt tb0_9_10 0), (pt tb0_9_11 0)]), (fV 191 #[(pt tb0_9_8 0), (pt tb0_9_11 0)]), (fV 159 #[]), (fV 160 #[]), (vi x0.done_), (.bool x0.ended_)] 130) :: e0_8 :: Lf) /\ Wj F2 F3 /\ FI f [] [(0, (pt bp0 3)), (5, (pt bz3 0)), (11, (vi r32.1)), (37, (.bool j43))]) ?_ ?_
 ·refine Vs 3 ?_
  refine Sp hj49 (fun hb51 h52 => ?_) (fun hb51 h53 => ?_)
  ·refine Ss hb51 2 ?_
   refine Pk1 hb51 <| Vs 1 <| Ss (rfl : true = true) 5 <| Pk1 (rfl : true = true) ?_
   obtain rfl := Aa h52
   exact Wf ⟨rfl, F2, hs37, (Wk _), fI⟩
  ·refine Vgs hb51 2 ?_
   refine Pk0 hb51 <| Vs 1 <| Sp h53 (fun hb54 h55 => ?_) (fun hb54 h56 => ?_)
   ·refine Ss hb54 5 ?_
    refine Pk1 hb54 ?_
    obtain rfl := Aa h55
    exact Wf ⟨rfl, F2, hs37, (Wk _), fI⟩
   ·refine Vgs hb54 1 ?_
    refine Lg hb54 (hs37.pers _ _ ((le30.t le38) _ _ hz1)) <| Lg hb54 (hs37.pers _ _ ((le30.t le38) _ _ hz2)) ?_
    obtain ⟨r57, hr58, h59⟩ := bind_some h56
    refine Cg hb54 AE hs37 (AL N w36 F2 hs37.pers r32.1 z1 z2 _ hr58) ?_
    rintro _ F4 w61 hs62 le63 rfl
    refine Vgs hb54 1 <| Pk0 hb54 ?_
    obtain rfl := Aa h59
    exact Wf ⟨rfl, F4, hs62, le63, fI⟩
 ·rintro f w40 ⟨F3, hs41, le42, ⟨_, rfl⟩⟩
  refine Ab <| Cd h50 (fun hb65 h66 => ?_) (fun hb65 h67 => ?_)
  ·refine Sq (Rg [0] ?_)
   refine Vs 1 <| Nt <| Rt <| Ae ?_
   obtain rfl := Aa h66
   exact ReB [(.bool false)] hs41 ((le30.t le38).trans le42) ⟨a0_7, n0_7, a0_8, n0_8, e0_8, rfl, rfl, hb0_7, (Wm hs0_7 ((le30.t le38).trans le42)), (hr0_8.mono ((le30.t le38).trans le42))⟩
  ·refine Sc ?_
   refine Ab <| Sq (Rg (rG 6) ?_)
   refine Ld (hs41.pers _ _ (((le30.t le38).trans le42) _ _ hz3)) <| Vs 1 <| Cl' Kz hs41 (MW w40 F3 hs41.pers bp0 3) ?_
   rintro _ F5 w68 hs69 le70 rfl
   refine Vs 2 <| St0 #[(.bool x0.o_.Report), (.bool x0.o_.Serial), (.bool x0.o_.Zone), (sv x0.l_.Call), (vi x0.l_.Category), (vi x0.l_.Power), (vi r32.1), (.slice a0_7 x0.l_.Jumps.length n0_7), (.slice a0_8 x0.l_.Lines.length n0_8), (fV 153 #[]), (fV 154 #[]), (fV 190 #[(pt tb0_9_0 0), (pt tb0_9_1 0), (pt tb0_9_2 0), (pt tb0_9_3 0)]), (fV 191 #[(pt tb0_9_0 0), (pt tb0_9_3 0)]), (fV 190 #[(pt tb0_9_4 0), (pt tb0_9_5 0), (pt tb0_9_6 0), (pt tb0_9_7 0)]), (fV 191 #[(pt tb0_9_4 0), (pt tb0_9_7 0)]), (fV 190 #[(pt tb0_9_8 0), (pt tb0_9_9 0), (pt tb0_9_10 0), (pt tb0_9_11 0)]), (fV 191 #[(pt tb0_9_8 0), (pt tb0_9_11 0)]), (fV 159 #[]), (fV 160 #[]), (vi x0.done_), (.bool x0.ended_)] hs69 (fun w71 hs72 => ?_)
   refine Nss (Rg [0] ?_)
   refine Vs 1 <| Nt <| Rt ?_
   obtain rfl := Aa h67
   exact ReB [(.bool true)] hs72 (((le30.t le38).trans le42).trans le70) ⟨a0_7, n0_7, a0_8, n0_8, e0_8, rfl, rfl, hb0_7, (Wm hs0_7 (((le30.t le38).trans le42).trans le70)), (hr0_8.mono (((le30.t le38).trans le42).trans le70))⟩
end Go.Proofs.YthljkpeimofbbaaGreatDoor
