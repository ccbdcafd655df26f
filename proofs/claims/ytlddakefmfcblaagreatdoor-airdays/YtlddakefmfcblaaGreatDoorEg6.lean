/- AirDays: for every input the law returns true, and each argument reads afterwards as it read before. No condition. -/
import Derived.Test.YtlddakefmfcblaaGreatDoorEg5
set_option linter.unusedVariables false
set_option linter.unusedSimpArgs false
set_option linter.unusedSectionVars false
namespace Go.Proofs.YtlddakefmfcblaaGreatDoor
abbrev Le (a b : List UInt8) : Prop := a ≤ b
theorem sl_lt (a b : List UInt8) : sless a b = decide (a < b) := Go.Proofs.bytesLess_eq a b
theorem sl_le (a b : List UInt8) : (sless a b || a == b) = decide (a ≤ b) := by
 rw [sl_lt, Bool.eq_iff_iff, Bool.or_eq_true, decide_eq_true_eq, decide_eq_true_eq, beq_iff_eq]
 constructor
 ·rintro (h | rfl)
  ·exact List.le_of_lt h
  ·rcases List.le_total a a with h | h <;> exact h
 ·intro h
  by_cases hl : a < b
  ·exact .inl hl
  ·exact .inr (List.le_antisymm h (List.not_lt.1 hl))
theorem sorted_one {l m : List (List UInt8)} (h : l.Perm m) (hl : l.Pairwise Le) (hm : m.Pairwise Le) : l = m :=
 List.Perm.eq_of_pairwise (le := Le) (fun _ _ _ _ h1 h2 => List.le_antisymm h1 h2) hl hm h
theorem sortS_sorted (l : List (List UInt8)) : (sortS l).Pairwise Le := by
 unfold sortS
 have := List.pairwise_mergeSort (le := fun x y : List UInt8 => decide (x ≤ y)) (by intro a b c h1 h2; rw [decide_eq_true_eq] at h1 h2 ⊢; exact List.le_trans h1 h2) (by intro a b; rw [Bool.or_eq_true, decide_eq_true_eq, decide_eq_true_eq]; exact List.le_total a b) l
 exact this.imp (fun h => by rw [decide_eq_true_eq] at h; exact h)
theorem sortS_perm (l : List (List UInt8)) : (sortS l).Perm l := by unfold sortS; exact List.mergeSort_perm l _
theorem insert_sorted {s : List (List UInt8)} {t : List UInt8} {k : Nat} (hs : s.Pairwise Le) (hk : k ≤ s.length) (hb : ∀ j (h : j < s.length), k ≤ j → t < s[j]) (ha : k = 0 ∨ ∃ h : k - 1 < s.length, s[k - 1] ≤ t) : (s.take k ++ [t] ++ s.drop k).Pairwise Le := by
 have hgt : ∀ y, y ∈ s.drop k → t < y := by
  intro y hy
  rw [List.mem_drop_iff_getElem] at hy
  obtain ⟨j, hj, rfl⟩ := hy
  exact hb _ _ (by omega)
 have hle : ∀ y, y ∈ s.take k → y ≤ t := by
  intro y hy
  rw [List.mem_take_iff_getElem] at hy
  obtain ⟨j, hj, rfl⟩ := hy
  rcases ha with h0 | ⟨h1, h2⟩
  ·omega
  ·rw [List.pairwise_iff_getElem] at hs
   by_cases hjk : j = k - 1
   ·subst hjk; exact h2
   ·exact List.le_trans (hs j (k - 1) (by omega) h1 (by omega)) h2
 rw [List.pairwise_append, List.pairwise_append]
 refine ⟨⟨hs.sublist (List.take_sublist _ _), List.pairwise_singleton _ _, fun a h1 b h2 => ?_⟩, hs.sublist (List.drop_sublist _ _), fun a h1 b h2 => ?_⟩
 ·simp only [List.mem_singleton] at h2
  subst h2; exact hle a h1
 ·rcases List.mem_append.1 h1 with h1 | h1
  ·exact List.le_trans (hle a h1) (List.le_of_lt (hgt b h2))
  ·simp only [List.mem_singleton] at h1
   subst h1; exact List.le_of_lt (hgt b h2)
theorem insert_perm {s : List (List UInt8)} {t : List UInt8} {k : Nat} : (s.take k ++ [t] ++ s.drop k).Perm (s ++ [t]) := by
 have h1 : (s.take k ++ [t] ++ s.drop k).Perm (s.take k ++ (s.drop k ++ [t])) := by
  rw [List.append_assoc]
  exact List.Perm.append_left _ List.perm_append_comm
 rw [← List.append_assoc, List.take_append_drop] at h1
 exact h1
def txB (x1 x2 : Int) (p : Prefix) : Bool := !p.Whole && ((p.Country == x1) && dayIn p x2)
def txAt (T : List Prefix) (x1 x2 : Int) (i : Nat) : List (List UInt8) := if txB x1 x2 (pAt T i) = true then [(pAt T i).Text] else []
def txts (T : List Prefix) (x1 x2 : Int) : List (List UInt8) := cat T.length (txAt T x1 x2)
def textsS (T : List Prefix) (x1 x2 : Int) : List (List UInt8) × Int := if validT T = true then (if (inI x2 0 99999 && inI x1 1 65535) = true then (sortS (txts T x1 x2), 0) else ([], 1)) else ([], 12)
theorem txAt_len (T : List Prefix) (x1 x2 : Int) (i : Nat) : (txAt T x1 x2 i).length ≤ 1 := by unfold txAt; split <;> simp
section
variable {N : Nat} {T : List Prefix} {x1 x2 : Int}
theorem s_Texts (hT : fitT N T) (hN : 4294967300 < N) : air_Texts N T x1 x2 = some (textsS T x1 x2) := by
 unfold air_Texts textsS
 rw [s_ValidT hT hN, Option.bind_some]
 cases hv : validT T with
 | false => rfl
 | true =>
  obtain ⟨h400, hR, _⟩ := valid_R hv
  rw [Bool.not_true, cond_false, if_pos rfl, m_within, m_within]
  have e1 : (decide (0 ≤ x2) && decide (x2 ≤ 99999)) = inI x2 0 99999 := rfl
  have e2 : (decide (1 ≤ x1) && decide (x1 ≤ 65535)) = inI x1 1 65535 := rfl
  rw [e1, e2]
  simp only [Option.bind_some]
  cases inI x2 0 99999 with
  | false => rfl
  | true => cases inI x1 1 65535 with
   | false => rfl
   | true =>
    simp only [Bool.not_true, cond_false, Option.bind_some, Bool.and_self, if_true]
    rw [iter_cat' (n := T.length) 1 (txAt T x1 x2) (fun i _ => txAt_len T x1 x2 i) (s0 := []) (fun i s hi hs => by
     unfold air_Texts_L0
     simp only
     rw [lt_dec hi, cond_true, idx_p hi, Option.bind_some, m_within, w64s i (by omega)]
     have e3 : (decide ((pAt T i).From ≤ x2) && decide (x2 ≤ (pAt T i).To)) = dayIn (pAt T i) x2 := rfl
     simp only [Option.bind_some]
     rw [e3, apnd_ok (by simp at hs ⊢; omega)]
     unfold txAt txB
     cases (pAt T i).Whole <;> cases ((pAt T i).Country == x1) <;> cases dayIn (pAt T i) x2 <;> simp) (fun s => by
     unfold air_Texts_L0
     simp only [lt_dec', cond_false]) (by omega)]
    rfl
theorem ins_loop {r1 : Bool} {j15 j79 : Bool} {i : Nat} (hi : i < T.length) {s : List (List UInt8)} (h0 : s.length ≤ 1000) : ∀ k M, k < M → k ≤ s.length → (∀ j (h : j < s.length), k ≤ j → (pAt T i).Text < s[j]) →
  ∃ k', iter (ref01_Texts_L1 N T x1 x2 r1 j15 (s, (i : Int)) j79) M (k : Int) = some (.done ((k' : Nat) : Int)) ∧ k' ≤ s.length ∧ (∀ j (h : j < s.length), k' ≤ j → (pAt T i).Text < s[j]) ∧ (k' = 0 ∨ ∃ h : k' - 1 < s.length, s[k' - 1] ≤ (pAt T i).Text) := by
 intro k
 induction k with
 | zero =>
  intro M hM _ hb
  obtain ⟨M, rfl⟩ : ∃ M', M = M' + 1 := ⟨M - 1, by omega⟩
  refine ⟨0, ?_, by omega, hb, .inl rfl⟩
  rw [iter]
  have : ref01_Texts_L1 N T x1 x2 r1 j15 (s, (i : Int)) j79 ((0 : Nat) : Int) = some (.done ((0 : Nat) : Int)) := by
   unfold ref01_Texts_L1
   rw [decide_eq_false (show ¬ (((0 : Nat) : Int) > 0) by decide)]; rfl
  rw [this]
 | succ k ih =>
  intro M hM hk hb
  obtain ⟨M, rfl⟩ : ∃ M', M = M' + 1 := ⟨M - 1, by omega⟩
  have hks : k < s.length := by omega
  have hbody : ref01_Texts_L1 N T x1 x2 r1 j15 (s, (i : Int)) j79 ((k + 1 : Nat) : Int) = some (bif !decide (s[k] ≤ (pAt T i).Text) then .next (k : Int) else .done ((k + 1 : Nat) : Int)) := by
   unfold ref01_Texts_L1
   simp only
   rw [decide_eq_true (show ((k + 1 : Nat) : Int) > 0 by omega), cond_true, w64p (k + 1) (by omega) (by omega), show ((k + 1 - 1 : Nat) : Int) = (k : Int) by omega, idx_nat hks, idx_p hi, Option.bind_some, Option.bind_some, Option.bind_some, sl_le]
   cases decide (s[k] ≤ (pAt T i).Text) <;> rfl
  rw [iter, hbody]
  by_cases hle : s[k] ≤ (pAt T i).Text
  ·rw [decide_eq_true hle]
   exact ⟨k + 1, rfl, hk, hb, .inr ⟨by omega, hle⟩⟩
  ·rw [decide_eq_false hle]
   refine ih M (by omega) (by omega) (fun j h hkj => ?_)
   by_cases hjk : j = k
   ·subst hjk; exact List.not_le.1 hle
   ·exact hb j h (by omega)
theorem s_rTexts (hT : fitT N T) (hN : 4294967300 < N) : ref01_Texts N T x1 x2 = some (textsS T x1 x2) := by
 unfold ref01_Texts textsS
 rw [s_rValidT hT hN, Option.bind_some]
 cases hv : validT T with
 | false => rfl
 | true =>
  obtain ⟨h400, hR, _⟩ := valid_R hv
  rw [Bool.not_true, cond_false, if_pos rfl, m_rwithin, m_rwithin]
  have e1 : (decide (0 ≤ x2) && decide (x2 ≤ 99999)) = inI x2 0 99999 := rfl
  have e2 : (decide (1 ≤ x1) && decide (x1 ≤ 65535)) = inI x1 1 65535 := rfl
  rw [e1, e2]
  simp only [Option.bind_some]
  cases inI x2 0 99999 with
  | false => rfl
  | true => cases inI x1 1 65535 with
   | false => rfl
   | true =>
    simp only [Bool.not_true, cond_false, Option.bind_some, Bool.and_self, if_true]
    obtain ⟨o, ho, s, rfl, hsort, hperm⟩ := iter_ex (body := ref01_Texts_L0 N T x1 x2 true false) T.length (fun i st => st.2 = (i : Int) ∧ st.1.Pairwise Le ∧ st.1.Perm (cat i (txAt T x1 x2))) (fun o => ∃ s, o = .done (s, (T.length : Int)) ∧ s.Pairwise Le ∧ s.Perm (txts T x1 x2)) (by
     rintro i ⟨s, st2⟩ hi ⟨h2, hsort, hperm⟩
     simp only at h2 hsort hperm
     subst h2
     by_cases h : i < T.length
     ·have hlen : s.length ≤ 400 := by
       rw [hperm.length_eq]
       have := cat_le (n := i) (K := 1) (f := txAt T x1 x2) (fun i _ => txAt_len T x1 x2 i)
       omega
      have hcond : (((idx T (i : Int)).bind fun x89 => (bif x89.Whole then some true else ((idx T (i : Int)).bind fun x106 => (bif (x106.Country != x1) then some true else ((idx T (i : Int)).bind fun x115 => ((idx T (i : Int)).bind fun x121 => ((ref01_within N x2 x115.From x121.To).bind fun r127 => some (!r127))))))))) = some (!txB x1 x2 (pAt T i)) := by
       rw [idx_p h]
       simp only [Option.bind_some, m_rwithin]
       have e3 : (decide ((pAt T i).From ≤ x2) && decide (x2 ≤ (pAt T i).To)) = dayIn (pAt T i) x2 := rfl
       rw [e3]
       have e4 : ((pAt T i).Country != x1) = !((pAt T i).Country == x1) := rfl
       rw [e4]
       unfold txB
       cases (pAt T i).Whole <;> cases ((pAt T i).Country == x1) <;> cases dayIn (pAt T i) x2 <;> rfl
      unfold ref01_Texts_L0
      simp only
      rw [lt_dec h, cond_true, hcond, Option.bind_some, w64s i (by omega)]
      cases htx : txB x1 x2 (pAt T i) with
      | false =>
       refine .inl ⟨(s, ((i + 1 : Nat) : Int)), rfl, ⟨rfl, hsort, ?_⟩, h⟩
       rw [cat_succ]
       have : txAt T x1 x2 i = [] := by unfold txAt; rw [htx]; rfl
       rw [this, List.append_nil]; exact hperm
      | true =>
       obtain ⟨k, hit, hk, hb, ha⟩ := ins_loop (N := N) (T := T) (x1 := x1) (x2 := x2) (r1 := true) (j15 := false) (j79 := false) h (s := s) (by omega) s.length N (by omega) (Nat.le_refl _) (fun j h1 h2 => by omega)
       refine .inl ⟨(s.take k ++ [(pAt T i).Text] ++ s.drop k, ((i + 1 : Nat) : Int)), ?_, ⟨rfl, insert_sorted hsort hk hb ha, ?_⟩, h⟩
       ·rw [Bool.not_true, cond_false, hit, Option.bind_some]
        show ((sub s 0 (k : Int)).bind _) = _
        have s1 : sub s 0 (k : Int) = some (s.take k) := by
         unfold sub
         rw [if_pos ⟨by omega, by omega, by omega⟩]
         simp
        have s2 : sub s (k : Int) (s.length : Int) = some (s.drop k) := by
         unfold sub
         rw [if_pos ⟨by omega, by omega, by omega⟩]
         simp
        have a1 : apnd ([] : List (List UInt8)) (s.take k) = some (s.take k) := by
         rw [apnd_ok (by simp; omega)]; rfl
        rw [s1, Option.bind_some, a1, Option.bind_some, idx_p h, Option.bind_some, apnd_ok (by simp; omega), Option.bind_some, s2, Option.bind_some, apnd_ok (by simp; omega)]
        rfl
       ·rw [cat_succ]
        have : txAt T x1 x2 i = [(pAt T i).Text] := by unfold txAt; rw [htx]; rfl
        rw [this]
        exact insert_perm.trans (hperm.append_right _)
     ·have : i = T.length := by omega
      subst this
      refine .inr ⟨_, ?_, (fun _ h => by cases h), s, rfl, hsort, hperm⟩
      unfold ref01_Texts_L0
      simp only [lt_dec', cond_false]) T.length N 0 ([], 0) (by omega) ⟨rfl, List.Pairwise.nil, by simp [cat]⟩ (by omega)
    rw [ho]
    simp only [Option.bind_some, Flow.k]
    have : s = sortS (txts T x1 x2) := sorted_one (hperm.trans (sortS_perm _).symm) hsort (sortS_sorted _)
    rw [this]
theorem s_SameTexts {l : List (List UInt8)} (hl : l.length < 4000000000) (hN : 4294967300 < N) : ref01_SameTexts N l l = some true := by
 unfold ref01_SameTexts
 rw [show ((l.length : Int) != (l.length : Int)) = false by simp, cond_false]
 rw [iter_check' (n := l.length) (fun _ => true) false ?_ ?_ (by omega)]
 ·rw [allB_of fun _ _ => rfl]; rfl
 ·intro i hi
  unfold ref01_SameTexts_L0
  rw [lt_dec hi, cond_true, idx_nat hi, w64s i (by omega)]
  simp
 ·unfold ref01_SameTexts_L0
  rw [lt_dec', cond_false]
theorem days_eqs (c : List UInt8) (x1 d : Int) (hT : fitT N T) (hN : 4294967300 < N) : law01_AirDays N T c x1 d = some true := by
 unfold law01_AirDays
 rw [awake_true hN, Option.bind_some]
 generalize (bif (decide ((T.length : Int) > 50)) then ((decide ((T.length : Int) ≤ 400)) || ((decide ((T.length : Int) > 500)) || (decide ((c.length : Int) > 1000)))) else ((decide ((T.length : Int) > 500)) || (decide ((c.length : Int) > 1000)))) = g
 cases g with
 | true => rfl
 | false =>
  rw [cond_false]
  obtain ⟨r, h1, h2⟩ := s_Since (c := c) (d := d) hT hN
  obtain ⟨r', h1', h2'⟩ := s_rSince (c := c) (d := d) hT hN
  rw [h1, Option.bind_some, h1', Option.bind_some, since_one h2 h2', s_Texts hT hN, Option.bind_some, s_rTexts hT hN, Option.bind_some]
  have hl : (textsS T x1 d).1.length < 4000000000 := by
   unfold textsS
   split
   ·rename_i hv
    obtain ⟨h400, _⟩ := valid_R hv
    split
    ·show (sortS (txts T x1 d)).length < _
     rw [(sortS_perm _).length_eq]
     have := cat_le (n := T.length) (K := 1) (f := txAt T x1 d) (fun i _ => txAt_len T x1 d i)
     unfold txts
     omega
    ·simp
   ·simp
  rw [s_SameTexts hl hN]
  simp
end
theorem airDays_row (x0 : List Prefix) (x1 : List UInt8) (x2 x3 : Int) (q : x0.length < 9223372036854775808 ∧ ∀ x, x ∈ x0 → qPrefix x) (_ : rS x1) (_ : rI x2) (_ : rI x3) : law01_AirDays 9223372036854775808 x0 x1 x2 x3 = some true := by
 by_cases h : x0.length < 4000000000
 ·exact days_eqs x1 x2 x3 (fitT_q q h) (by omega)
 ·unfold law01_AirDays
  rw [awake_true (by omega), Option.bind_some, decide_eq_true (show (x0.length : Int) > 50 by omega), decide_eq_true (show (x0.length : Int) > 500 by omega), Bool.true_or, Bool.or_true]
  rfl
end Go.Proofs.YtlddakefmfcblaaGreatDoor
namespace Go.Proofs.YtlddakefmfcblaaGreatDoor
open Go.ChangeShapes Go.WideShapes Go.ChangeAt Go.RowKit
set_option maxRecDepth 100000 in
theorem lifted_airDays (os : Os) (started : os.Started) (H : Type) (enc : TypeId × Value → H) :
  ReturnsInHanded {} Tryz.checked os 16 .any (fun w args => (Rows.airDaysSpec.pre enc Tryz.prog Tryz.f16 Rows.airDaysRow.domain false w args ∧ laidMetH Tryz.prog Rows.airDaysRow.laid w) ∧ sizedMet enc Tryz.prog Tryz.f16 (OpenSpec.ofChange Rows.airDaysSpec) false w args) (Rows.airDaysSpec.post enc Tryz.prog Tryz.f16 false true false false) := by
 refine handed_laid (C := Tryz.checked) (X := fun w _ => laidMetH Tryz.prog laid7 w) (fun _ _ _ hh h => h.of_heap hh) own_knob started (by kernel_rfl) Tryz.func16
  (ChangeSpec.witness_shaped (enc := enc) (C := Tryz.checked) (os := os) (X := fun w _ => laidMetH Tryz.prog laid7 w) false (World.laidAll Tryz.prog os laid7) #[.slice none 0 0, .string ByteArray.empty, .int .i64 0, .int .i64 0] 8 (World.laidAll_os _ _ _)
   (World.shaped_of_ZipB (by kernel_rfl) (by kernel_rfl)) (by kernel_rfl) (by kernel_rfl) (by kernel_rfl) (door_met7 os _)) ?_
 intro W base args ds gs before hval0 hW hsz hL hsh
 have hval : ∀ (j : Nat) t v, Tryz.f16.params[j]? = some t → args[j]? = some v → Value.okWide Tryz.prog W .any base t v := hval0
 have hW' := hW
 obtain ⟨p, q, hA0, hV, rfl, hfz, hnd⟩ := hW
 have hA : DataW.TrodAll enc Tryz.prog W 0 (fun _ => true) true Tryz.f16.params.toList args.toList ds p := hA0
 rw [Tryz.params16] at hA hval
 obtain ⟨v0, vs0, d0, ds0, p0, q0, hargs, rfl, rfl, h0, r0⟩ := trodAll_cons hA
 obtain ⟨v1, vs1, d1, ds1, p1, q1, rfl, rfl, rfl, h1, r1⟩ := trodAll_cons r0
 obtain ⟨v2, vs2, d2, ds2, p2, q2, rfl, rfl, rfl, h2, r2⟩ := trodAll_cons r1
 obtain ⟨v3, vs3, d3, ds3, p3, q3, rfl, rfl, rfl, h3, r3⟩ := trodAll_cons r2
 obtain ⟨rfl, rfl, rfl⟩ := trodAll_nil r3
 obtain rfl : args = #[v0, v1, v2, v3] := by cases args; simp_all
 have z0 : SzW Tryz.prog 61 d0 := SzW.each hsz (j := 0) (by kernel_rfl) rfl
 obtain ⟨x0, R0, Q0⟩ := Opens.one (opens_slice (t := 61) opens_Prefix_71 (by decide) (by kernel_rfl) (by kernel_rfl) : Opens Tryz.prog 61 (tSl tPrefix) _) (by kernel_rfl) (hval 0 61 v0 rfl rfl) h0 z0
 obtain ⟨a0_0, n0_0, e0, hb0_0, hs0_0⟩ := R0
 obtain rfl : v0 = .slice a0_0 x0.length n0_0 := by cases e0; rfl
 have z1 : SzW Tryz.prog 9 d1 := SzW.each hsz (j := 1) (by kernel_rfl) rfl
 obtain ⟨x1, R1, Q1⟩ := Opens.one (opens_str (t := 9) (by kernel_rfl) (by kernel_rfl) : Opens Tryz.prog 9 tStr rS) (by kernel_rfl) (hval 1 9 v1 rfl rfl) h1 z1
 have e1 : [v1] = [.string ⟨x1.toArray⟩] := R1
 cases e1
 have z2 : SzW Tryz.prog 3 d2 := SzW.each hsz (j := 2) (by kernel_rfl) rfl
 obtain ⟨x2, R2, Q2⟩ := Opens.one (opens_int (t := 3) (by kernel_rfl) (by kernel_rfl) : Opens Tryz.prog 3 tInt rI) (by kernel_rfl) (hval 2 3 v2 rfl rfl) h2 z2
 have e2 : [v2] = [.int .i64 x2] := R2
 cases e2
 have z3 : SzW Tryz.prog 3 d3 := SzW.each hsz (j := 3) (by kernel_rfl) rfl
 obtain ⟨x3, R3, Q3⟩ := Opens.one (opens_int (t := 3) (by kernel_rfl) (by kernel_rfl) : Opens Tryz.prog 3 tInt rI) (by kernel_rfl) (hval 3 3 v3 rfl rfl) h3 z3
 have e3 : [v3] = [.int .i64 x3] := R3
 cases e3
 refine (c_law01_AirDays 9223372036854775808 W (memOf W) (fun _ _ h => h) (glob_of hL hsh) x0 a0_0 n0_0 hb0_0 hs0_0 x1 x2 x3 true (airDays_row x0 x1 x2 x3 Q0 Q1 Q2 Q3)).mono fun e W' he => ?_
 obtain ⟨r, F', rfl, hs, rfl⟩ := he
 refine ⟨_, rfl, post_grown (by kernel_rfl) (tb := 4) ?_ rfl hW' (by kernel_rfl) (by kernel_rfl) ?_ hs⟩
 ·intro t ht
  rw [Tryz.params16] at ht
  simp only [List.mem_cons, List.not_mem_nil, or_false] at ht
  rcases ht with rfl | rfl | rfl | rfl <;> exact ⟨by kernel_rfl, by decide +kernel⟩
 ·intro _; rfl
theorem airDays_row_holds : Rows.AirDaysSaid :=
 OpenClaim.holds_of_wide 16 Tryz.f16 rfl rfl rfl rfl rfl rfl rfl ⟨rfl, rfl, rfl, rfl, rfl⟩ rfl rfl rfl rfl rfl (by kernel_rfl) Tryz.func16 (by kernel_rfl)
  (of_decide_eq_true (by kernel_rfl)) (by unfold Func.isWrapper; first | (rw [if_pos (by decide +kernel)]; kernel_rfl) | (rw [if_neg (by decide +kernel)]; exact ⟨rfl, rfl⟩))
  (fun os started H enc _ => lifted_airDays os started H enc)
theorem airDays_proved : Rows.AirDaysCardSaid :=
 Claim7.holds_tied_plain_at .later [] [.data, .data, .data, .data, .sentinel, .sentinel, .pinned] true (true, "e13dca8d4619a64a69fa99222db8f18b16b74485258a6a257541940742401f67") true airDays_row_holds (fun _ h => by cases h) (by kernel_rfl) (fun _ h => by cases h) airDays_row_tie rfl ⟨rfl, rfl⟩ (by kernel_rfl) rfl
  (fun f fn hf hfn => by
   obtain rfl : f = 16 := Option.some.inj ((show Tryz.prog.funcNamed Tryz.f16.name = some 16 by kernel_rfl).symm.trans hf) |>.symm
   obtain rfl : fn = Tryz.f16 := (Option.some.inj (Tryz.func16.symm.trans hfn)).symm
   exact ⟨by kernel_rfl, fun j t ht => by
    rw [Tryz.params16] at ht
    have hm : t ∈ [61, 9, 3, 3] := by simpa using Array.mem_of_getElem? ht
    have hall : ([61, 9, 3, 3].all fun u => !Tryz.prog.wantsStandIn u) = true := by kernel_rfl
    exact (show Tryz.prog.wantsStandIn t = false by simpa using List.all_eq_true.1 hall t hm)⟩)
  (by kernel_rfl)
end Go.Proofs.YtlddakefmfcblaaGreatDoor
