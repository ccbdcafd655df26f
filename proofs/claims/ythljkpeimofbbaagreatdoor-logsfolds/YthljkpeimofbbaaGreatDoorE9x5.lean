/- Lemmas of the claim LogsFolds, printed by a program of the claimant and by hand. No statement of the seat is proved here. -/
import Derived.Test.YthljkpeimofbbaaGreatDoorE9x4
set_option linter.unusedVariables false
set_option linter.unusedSimpArgs false
set_option linter.unusedSectionVars false
set_option maxHeartbeats 4000000
set_option maxRecDepth 100000
namespace Go.Proofs.YthljkpeimofbbaaGreatDoor
section
variable {N : Nat}
def FG (l : Sl) : List Int := l.map fun b => (b.toNat : Int)
theorem OU (l : Sl) : toB (FG l) = l := by
 unfold toB FG
 rw [List.map_map]
 have : ((fun n : Int => UInt8.ofNat n.toNat) ∘ fun b : UInt8 => (b.toNat : Int)) = id := by
  funext b
  simp
 rw [this, List.map_id]
def BA (st : Sl × Bool) : Sl := if st.2 = true /\ st.1 ≠ [] then st.1 ++ [32] else st.1
def cvt (b : UInt8) : UInt8 := if 97 <= b.toNat /\ b.toNat <= 122 then b - 32 else if b = 9 \/ b = 13 then 32 else b
theorem Qu (b : UInt8) : ((cvt b).toNat : Int) = (bif (decide ((97 : Int) <= (b.toNat : Int)) && decide ((b.toNat : Int) <= 122)) then (IntKind.u8.wrap ((b.toNat : Int) - 32)) else (bif (((b.toNat : Int) == 9) || ((b.toNat : Int) == 13)) then 32 else (b.toNat : Int))) := by
 unfold cvt
 have hb := b.toNat_lt
 by_cases h : 97 <= b.toNat /\ b.toNat <= 122
 ·rw [if_pos h, show (decide ((97 : Int) <= (b.toNat : Int)) && decide ((b.toNat : Int) <= 122)) = true by simp; omega, cond_true]
  rw [UInt8.toNat_sub_of_le _ _ (by show (32 : UInt8).toNat <= b.toNat; have : (32 : UInt8).toNat = 32 := rfl; omega)]
  have : (32 : UInt8).toNat = 32 := rfl
  rw [this]
  have e : IntKind.u8.wrap ((b.toNat : Int) - 32) = (b.toNat : Int) - 32 := by
   unfold IntKind.wrap
   simp [IntKind.signed, IntKind.bits]
   omega
  rw [e]; omega
 ·rw [if_neg h, show (decide ((97 : Int) <= (b.toNat : Int)) && decide ((b.toNat : Int) <= 122)) = false by simp; omega, cond_false]
  by_cases h2 : b = 9 \/ b = 13
  ·rw [if_pos h2]
   rcases h2 with rfl | rfl <;> rfl
  ·rw [if_neg h2, show (((b.toNat : Int) == 9) || ((b.toNat : Int) == 13)) = false by
    rw [Bool.or_eq_false_iff, beq_eq_false_iff_ne, beq_eq_false_iff_ne]
    refine ⟨fun e => h2 (.inl (UInt8.toNat_inj.1 (by show b.toNat = 9; omega))), fun e => h2 (.inr (UInt8.toNat_inj.1 (by show b.toNat = 13; omega)))⟩, cond_false]
theorem Rb {b : UInt8} (h : wsF b = false) : cvt b = up b := by
 unfold wsF at h
 simp only [Bool.or_eq_false_iff, beq_eq_false_iff_ne] at h
 unfold cvt up
 split
 ·rfl
 ·rw [if_neg (by rintro (e | e); exact h.2.1 e; exact h.2.2 e)]
theorem Ra {b : UInt8} (h : wsF b = true) : cvt b = 32 := by
 unfold wsF at h
 simp only [Bool.or_eq_true, beq_iff_eq] at h
 rcases h with rfl | rfl | rfl <;> rfl
theorem MK (s : Sl) : ∀ st : Sl × Bool, (∀ b, st.1.getLast? = some b -> b ≠ 32) -> ∀ b, (s.foldl rfS st).1.getLast? = some b -> b ≠ 32 := by
 induction s with
 | nil => intro st h; exact h
 | cons c s ih =>
  intro st h
  rw [List.foldl_cons]
  apply ih
  unfold rfS
  by_cases hw : wsF c = true
  ·rw [if_pos hw]; exact h
  ·rw [if_neg hw]
   rw [Bool.not_eq_true] at hw
   intro b hb
   simp only [List.getLast?_append, List.getLast?_singleton, Option.some_or, Option.some.injEq] at hb
   rw [<- hb]; exact (OS hw).2.2
theorem Pc (st : Sl × Bool) (hl : ∀ b, st.1.getLast? = some b -> b ≠ 32) (b : UInt8) :
  BA (rfS st b) = (if cvt b ≠ 32 \/ (BA st ≠ [] /\ (BA st).getLast? ≠ some 32) then BA st ++ [cvt b] else BA st) := by
 by_cases hw : wsF b = true
 ·rw [Ra hw]
  have e : rfS st b = (st.1, true) := by unfold rfS; rw [if_pos hw]
  rw [e]
  by_cases h1 : st.1 = []
  ·have o1 : BA (st.1, true) = [] := by unfold BA; rw [if_neg (fun h => h.2 h1)]; exact h1
   have o2 : BA st = [] := by unfold BA; rw [if_neg (fun h => h.2 h1)]; exact h1
   rw [o1, o2, if_neg (by rintro (h | h); exact h rfl; exact h.1 rfl)]
  ·have o1 : BA (st.1, true) = st.1 ++ [32] := by unfold BA; rw [if_pos ⟨rfl, h1⟩]
   by_cases h2 : st.2 = true
   ·have o2 : BA st = st.1 ++ [32] := by unfold BA; rw [if_pos ⟨h2, h1⟩]
    rw [o1, o2, if_neg (by rintro (h | h); exact h rfl; exact h.2 (by simp))]
   ·have o2 : BA st = st.1 := by unfold BA; rw [if_neg (fun h => h2 h.1)]
    rw [o1, o2, if_pos (.inr ⟨h1, fun h => hl _ h rfl⟩)]
 ·rw [Bool.not_eq_true] at hw
  rw [Rb hw, if_pos (.inl (OS hw).2.2)]
  have e : rfS st b = ((if st.2 = true /\ st.1 ≠ [] then st.1 ++ [32] else st.1) ++ [up b], false) := by unfold rfS; rw [if_neg (by rw [hw]; decide)]
  rw [e]
  unfold BA
  simp
theorem Pm {l : Sl} (h : l ≠ []) (hl : l.length < 4000000000) : ∃ b, l.getLast? = some b /\ idx (FG l) (W64 (((FG l).length : Int) - 1)) = some (b.toNat : Int) := by
 have hp : 0 < l.length := List.length_pos_iff.2 h
 refine ⟨l[l.length - 1], by rw [List.getLast?_eq_getElem?, List.getElem?_eq_getElem (by omega)], ?_⟩
 have e : (FG l).length = l.length := by unfold FG; simp
 rw [e, QL l.length (by omega) hp, Oc (by rw [e]; omega)]
 unfold FG
 simp
theorem N7 (s : Sl) : (BA (s.foldl rfS ([], false))).length <= s.length := by
 have : ∀ (s : Sl) (st : Sl × Bool), (BA (s.foldl rfS st)).length <= (BA st).length + s.length := by
  intro s
  induction s with
  | nil => intro st; simp
  | cons b s ih =>
   intro st
   rw [List.foldl_cons]
   have h := ih (rfS st b)
   have h2 : (BA (rfS st b)).length <= (BA st).length + 1 := by
    unfold rfS BA
    by_cases hw : wsF b = true
    ·rw [if_pos hw]
     by_cases h1 : st.1 = []
     ·rw [h1]; simp
     ·rw [if_pos ⟨rfl, h1⟩]
      split <;> simp
    ·rw [if_neg hw]
     simp
   rw [List.length_cons]; omega
 have := this s ([], false)
 simpa [BA] using this
theorem Pl (s : Sl) (hs : s.length < 4000000000) (hN : 4294967300 < N) : Dc N s = some (BE s) := by
 unfold Dc
 have h := Ob (N := N) (body := Dq N s) (fun i => (FG (BA ((s.take i).foldl rfS ([], false))), (i : Int))) (o := .done (FG (BA (s.foldl rfS ([], false))), (s.length : Int))) s.length (fun i hi => by
  unfold Dq
  simp only
  rw [L6 hi, cond_true, Kc hi, Option.bind_some, PK, lw, Option.bind_some]
  rw [List.take_add_one, List.getElem?_eq_getElem hi, List.foldl_append]
  simp only [Option.toList_some, List.foldl_cons, List.foldl_nil]
  have hlast := MK (s.take i) ([], false) (by intro b hb; cases hb)
  have hol := N7 (s.take i)
  have hol2 : (s.take i).length <= s.length := by simp; omega
  generalize hst : (s.take i).foldl rfS ([], false) = st at *
  rw [Pc st hlast s[i]]
  rw [<- Qu s[i]]
  have e32 : ((((cvt s[i]).toNat : Int)) != 32) = decide (cvt s[i] ≠ 32) := by
   by_cases h : cvt s[i] = 32
   ·rw [h]; rfl
   ·rw [decide_eq_true h]
    simp only [bne_iff_ne, ne_eq]
    intro e
    exact h (UInt8.toNat_inj.1 (by show _ = 32; omega))
  have el : ((FG (BA st)).length : Int) = ((BA st).length : Int) := by unfold FG; simp
  have ap : ∀ c : UInt8, Dj (FG (BA st)) [(c.toNat : Int)] = some (FG (BA st ++ [c])) := fun c => by
   unfold Dj
   rw [if_pos (by unfold FG; simp; omega)]
   unfold FG
   simp
  rw [e32, Ng i (by omega)]
  by_cases h1 : cvt s[i] ≠ 32
  ·rw [decide_eq_true h1, cond_true, Option.bind_some, cond_true, ap, Option.bind_some, Option.bind_some, if_pos (.inl h1)]
  ·rw [decide_eq_false h1, cond_false, el]
   by_cases h2 : BA st = []
   ·rw [h2, if_neg (by rintro (h | h); exact h1 h; exact h.1 rfl)]
    rfl
   ·obtain ⟨b, hb1, hb2⟩ := Pm h2 (by omega)
    have hp : 0 < (BA st).length := List.length_pos_iff.2 h2
    rw [<- el, hb2, el, decide_eq_true (show ((BA st).length : Int) > 0 by omega), cond_true, Option.bind_some, Option.bind_some]
    have eb : ((b.toNat : Int) != 32) = decide (b ≠ 32) := by
     by_cases h : b = 32
     ·rw [h]; rfl
     ·rw [decide_eq_true h]
      simp only [bne_iff_ne, ne_eq]
      intro e
      exact h (UInt8.toNat_inj.1 (by show _ = 32; omega))
    rw [eb]
    by_cases h3 : b = 32
    ·rw [decide_eq_false (by simpa using h3), if_neg]
     ·rfl
     ·rintro (h | h)
      ·exact h1 h
      ·exact h.2 (by rw [hb1, h3])
    ·rw [decide_eq_true h3, cond_true, ap, Option.bind_some, Option.bind_some, if_pos (.inr ⟨h2, by rw [hb1]; intro e; exact h3 (Option.some.inj e)⟩)]) (by
  unfold Dq
  simp only
  rw [J2, cond_false, List.take_length]) (fun _ h => by cases h) (by omega)
 rw [show (([] : List Int), (0 : Int)) = (FG (BA ((s.take 0).foldl rfS ([], false))), ((0 : Nat) : Int)) from rfl, h]
 show ((strings_TrimSuffix N (toB (FG (BA (s.foldl rfS ([], false))))) ([32] : Sl)).bind _) = _
 have hol := N7 s
 rw [OU]
 unfold strings_TrimSuffix
 rw [if_pos (by omega)]
 show some (Go.Lib.trimSuffix _ _) = _
 have hlast := MK s ([], false) (by intro b hb; cases hb)
 have e : Go.Lib.trimSuffix (BA (s.foldl rfS ([], false))) [32] = BE s := by
  unfold BE
  generalize s.foldl rfS ([], false) = st at *
  unfold BA Go.Lib.trimSuffix
  by_cases h : st.2 = true /\ st.1 ≠ []
  ·rw [if_pos h, if_pos (by unfold Go.Lib.hasSuffix; rw [List.isSuffixOf_iff_suffix]; exact List.suffix_append _ _)]
   simp
  ·rw [if_neg h, if_neg]
   unfold Go.Lib.hasSuffix
   rw [List.isSuffixOf_iff_suffix]
   rintro ⟨t, ht⟩
   exact hlast 32 (by rw [<- ht]; simp) rfl
 rw [e]
theorem MY (s : Sl) (hN : 4294967300 < N) : C4 N s = some true := by
 unfold C4
 rw [show GB N = some true from rfl, Option.bind_some]
 by_cases hs : s.length > 3000
 ·rw [decide_eq_true (show (s.length : Int) > 3000 by omega)]; rfl
 ·rw [decide_eq_false (show ¬ (s.length : Int) > 3000 by omega), cond_false, Pl s (by omega) hN, Option.bind_some]
  have hl := OG s
  have hn := M0 s
  have h := OA (N := N) (body := BM N s true (BE s)) (BE s).length (fun i hi => by
   unfold BM
   have hm : (BE s)[i] ∈ BE s := List.getElem_mem hi
   obtain ⟨c1, c2, c3⟩ := hn.c _ hm
   have hw := hn.w i
   rw [List.getElem?_eq_getElem hi] at hw
   have g9 : (((BE s)[i].toNat : Int) == 9) = false := by
    rw [beq_eq_false_iff_ne]; intro e; exact c1 (UInt8.toNat_inj.1 (by show _ = 9; omega))
   have g13 : (((BE s)[i].toNat : Int) == 13) = false := by
    rw [beq_eq_false_iff_ne]; intro e; exact c2 (UInt8.toNat_inj.1 (by show _ = 13; omega))
   have j0 : ∃ j, ((bif ((i : Int) == 0) then some true else (bif ((i : Int) == (W64 (((BE s).length : Int) - 1))) then some true else ((G7 (BE s) (W64 ((i : Int) - 1))).bind fun c87 => some (c87 == 32)))) : Option Bool) = some j /\ (j = true -> (BE s)[i] ≠ 32) := by
    by_cases h0 : i = 0
    ·subst h0
     exact ⟨true, rfl, fun _ e => by have := (hw (by rw [e])).1; omega⟩
    ·rw [show ((i : Int) == 0) = false by simpa using h0, cond_false, QL _ (by omega) (by omega)]
     by_cases h1 : i = (BE s).length - 1
     ·rw [show ((i : Int) == (((BE s).length - 1 : Nat) : Int)) = true by rw [beq_iff_eq]; omega]
      exact ⟨true, rfl, fun _ e => by have := (hw (by rw [e])).2.1; omega⟩
     ·rw [show ((i : Int) == (((BE s).length - 1 : Nat) : Int)) = false by rw [beq_eq_false_iff_ne]; omega, cond_false, QL i (by omega) (by omega), Kc (by omega), Option.bind_some]
      refine ⟨_, rfl, fun hj e => ?_⟩
      have := (hw (by rw [e])).2.2
      rw [List.getElem?_eq_getElem (by omega)] at this
      rw [beq_iff_eq] at hj
      exact this (congrArg some (UInt8.toNat_inj.1 (by show _ = 32; omega)))
   obtain ⟨j, hj, hj2⟩ := j0
   rw [L6 hi, cond_true, hj, Option.bind_some, Kc hi]
   simp only [Option.bind_some, g9, g13, cond_false]
   have g32 : (bif (((BE s)[i].toNat : Int) == 32) then some j else some false : Option Bool) = some false := by
    by_cases e : (BE s)[i] = 32
    ·cases j with
     | true => exact absurd e (hj2 rfl)
     | false => cases (((BE s)[i].toNat : Int) == 32) <;> rfl
    ·rw [show (((BE s)[i].toNat : Int) == 32) = false by
      rw [beq_eq_false_iff_ne]; intro e2; exact e (UInt8.toNat_inj.1 (by show _ = 32; omega))]
     rfl
   rw [g32]
   by_cases h97 : 97 <= (BE s)[i].toNat
   ·rw [decide_eq_true (show ((BE s)[i].toNat : Int) >= 97 by omega), cond_true, decide_eq_false (show ¬ ((BE s)[i].toNat : Int) <= 122 by omega), cond_false, Option.bind_some, cond_false, Ng i (by omega)]
   ·rw [decide_eq_false (show ¬ ((BE s)[i].toNat : Int) >= 97 by omega), cond_false, Option.bind_some, cond_false, Ng i (by omega)]) (by
   unfold BM
   rw [J2, cond_false]) (by omega)
  rw [h, Option.bind_some]
  show ((bif true then ((Dc N (BE s)).bind fun r167 => (bif (r167 == BE s) then some (decide (((BE s).length : Int) <= (s.length : Int))) else some false)) else some false).bind fun j159 => some j159) = _
  rw [cond_true, Pl _ (by omega) hN, MZ, Option.bind_some, beq_self_eq_true, cond_true, decide_eq_true (by omega)]
  rfl
end
theorem OE (x0 : Sl) {P : Prop} (_ : P) : C4 9223372036854775808 x0 = some true := MY x0 (by decide)
end Go.Proofs.YthljkpeimofbbaaGreatDoor
