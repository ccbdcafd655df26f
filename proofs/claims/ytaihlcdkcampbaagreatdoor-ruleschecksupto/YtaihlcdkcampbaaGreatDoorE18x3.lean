/- Lemmas of the claim RulesChecksUpto, printed by a program of the claimant and by hand. No statement of the seat is proved here. -/
import Derived.Test.YtaihlcdkcampbaaGreatDoorE18x2
set_option linter.unusedVariables false
set_option linter.unusedSimpArgs false
set_option linter.unusedSectionVars false
set_option maxHeartbeats 4000000
set_option maxRecDepth 100000
namespace Go.Proofs.YtaihlcdkcampbaaGreatDoor
section
variable {α σ ρ : Type}
theorem KI (l : List α) (gs : σ -> α -> σ) (Inv : Nat -> σ -> Prop) {body : σ × Int -> Option (Be ρ (σ × Int))} (hg : ∀ i s (h : i < l.length), Inv i s -> body (s, (i : Int)) = some (.next (gs s l[i], W64 ((i : Int) + 1))) /\ Inv (i + 1) (gs s l[i]))
  (he : ∀ s, body (s, (l.length : Int)) = some (.done (s, (l.length : Int))))
  {N : Nat} (hN : l.length < N) (hL : l.length < 9223372036854775808) (s0 : σ) (h0 : Inv 0 s0) : AZ body N (s0, 0) = some (.done (l.foldl gs s0, (l.length : Int))) := by
 obtain ⟨o, ho, rfl⟩ := G4 (body := body) l.length (fun i s => s = ((l.take i).foldl gs s0, (i : Int)) /\ Inv i s.1) (fun o => o = .done (l.foldl gs s0, (l.length : Int))) (by
  rintro i s hi ⟨rfl, hv⟩
  by_cases h : i < l.length
  ·left
   obtain ⟨h1, h2⟩ := hg i _ h hv
   refine ⟨_, by rw [h1, Cr (by omega)], ⟨?_, h2⟩, h⟩
   rw [List.take_succ_eq_append_getElem h, List.foldl_append]; rfl
  ·have : i = l.length := by omega
   subst this
   right
   exact ⟨_, he _, fun _ h => (by cases h), by rw [List.take_length]⟩) l.length N 0 (s0, 0) (by omega) ⟨rfl, h0⟩ hN
 exact ho
end
def fl1 (op v : Int) : List Int := if op = 2 /\ 0 <= v /\ v < 14 then [v] else []
def DL (e : Expr) : List Int := match e with
 | ⟨op, v, ks⟩ => fl1 op v ++ (ks.map fun x => DL x).flatten
def sz (e : Expr) : Nat := match e with
 | ⟨_, _, ks⟩ => 1 + (ks.map fun x => sz x).sum
theorem J9 (e : Expr) : DL e = fl1 e.Op e.Value ++ (e.Kids.map DL).flatten := by cases e; rw [DL]
theorem MI (e : Expr) : sz e = 1 + (e.Kids.map sz).sum := by cases e; rw [sz]
theorem Ok (op v : Int) : (fl1 op v).length <= 1 := by unfold fl1; split <;> simp
theorem Qe {op v x : Int} (h : x ∈ fl1 op v) : 0 <= x /\ x < 14 := by
 unfold fl1 at h; split at h
 ·rename_i h1; rw [List.mem_singleton.1 h]; exact h1.2
 ·cases h
theorem Ph {e x : Expr} (h : x ∈ e.Kids) : sz x < sz e := by
 rw [MI e]
 have : ∀ l : List Expr, x ∈ l -> sz x <= (l.map sz).sum := by
  intro l
  induction l with
  | nil => intro h; cases h
  | cons a l ih =>
   intro h
   rw [List.map_cons, List.sum_cons]
   rcases List.mem_cons.1 h with rfl | h
   ·omega
   ·have := ih h; omega
 have := this _ h; omega
theorem M8 : ∀ (n : Nat) (e : Expr), sz e <= n -> (DL e).length <= sz e
 | 0, e, h => by rw [MI] at h; omega
 | n + 1, e, h => by
  rw [J9, MI e, List.length_append]
  have h1 := Ok e.Op e.Value
  have : ∀ l : List Expr, (∀ x, x ∈ l -> x ∈ e.Kids) -> ((l.map DL).flatten).length <= (l.map sz).sum := by
   intro l
   induction l with
   | nil => simp
   | cons a l ih =>
    intro hl
    rw [List.map_cons, List.flatten_cons, List.length_append, List.map_cons, List.sum_cons]
    have h2 := M8 n a (by have := Ph (hl a (by simp)); omega)
    have h3 := ih (fun x hx => hl x (by simp [hx]))
    omega
  have := this e.Kids (fun _ h => h); omega
theorem KO : ∀ (n : Nat) (e : Expr), sz e <= n -> ∀ x, x ∈ DL e -> 0 <= x /\ x < 14
 | 0, e, h, _, _ => by rw [MI] at h; omega
 | n + 1, e, h, x, hx => by
  rw [J9] at hx
  rcases List.mem_append.1 hx with hx | hx
  ·exact Qe hx
  ·obtain ⟨l, hl, hx⟩ := List.mem_flatten.1 hx
   obtain ⟨k, hk, rfl⟩ := List.mem_map.1 hl
   exact KO n k (by have := Ph hk; omega) x hx
abbrev yF (N : Nat) (x0 : Expr) : List Int -> Expr -> Option (Bool × List Int) := fun st x => ((CG N x0) st x).map fun t => (true, t)
theorem QQ {N : Nat} {x0 : Expr} {s : List Int} {x : Expr} (h : s.length + 1 < 4294967296) : yF N x0 s x = some (true, s ++ fl1 x.Op x.Value) := by
 unfold yF CG fl1
 by_cases hc : x.Op = 2 /\ 0 <= x.Value /\ x.Value < 14
 ·rw [if_pos hc, show ((x.Op == 2) && ((decide (x.Value >= 0)) && (decide (x.Value < 14)))) = true by simp [hc.1, hc.2.1, hc.2.2], cond_true, Mq (by simpa using h)]; rfl
 ·rw [if_neg hc, show ((x.Op == 2) && ((decide (x.Value >= 0)) && (decide (x.Value < 14)))) = false by
   cases e : ((x.Op == 2) && ((decide (x.Value >= 0)) && (decide (x.Value < 14)))) with
   | false => rfl
   | true => simp at e; exact absurd ⟨e.1, e.2.1, e.2.2⟩ hc, cond_false, List.append_nil]; rfl
theorem M3 {N M : Nat} (hM : M <= N) (x0 : Expr) : ∀ {n k : Nat} {e : Expr}, Ht M n e -> n <= k -> ∀ s : List Int, s.length + sz e < 4294967296 -> Kz N (yF N x0) k s e = some (true, s ++ DL e)
 | 0, _, _, h, _, _, _ => h.elim
 | n + 1, 0, _, _, h, _, _ => absurd h (by omega)
 | n + 1, k + 1, e, ⟨h1, h2, h3⟩, hk, s, hs => by
  show J7 N (yF N x0) (Kz N (yF N x0) k) s e = _
  have hse := MI e
  unfold J7
  rw [QQ (by omega), Option.bind_some]
  simp only [Bool.not_true, cond_false]
  rw [KI e.Kids (fun st x => st ++ DL x) (fun i st => st.length + ((e.Kids.drop i).map sz).sum < 4294967296) (by
   intro i st hi hv
   have hd : e.Kids.drop i = e.Kids[i] :: e.Kids.drop (i + 1) := List.drop_eq_getElem_cons hi
   rw [hd, List.map_cons, List.sum_cons] at hv
   refine ⟨?_, ?_⟩
   ·unfold H7
    simp only
    rw [I7 hi, cond_true, Cw hi, Option.bind_some, M3 hM x0 (h3 _ (List.getElem_mem hi)) (by omega) st (by omega)]; rfl
   ·have := M8 _ e.Kids[i] (Nat.le_refl _)
    simp only [List.length_append]; omega) (fun st => by unfold H7; simp only; rw [I8, cond_false]) (by omega) h2 _ (by
    simp only [List.drop_zero, List.length_append]
    have := Ok e.Op e.Value
    omega)]
  simp only [Option.bind_some, Be.k]
  rw [J9 e]
  have : ∀ (l : List Expr) (a : List Int), l.foldl (fun st x => st ++ DL x) a = a ++ (l.map DL).flatten := by
   intro l
   induction l with
   | nil => intro a; simp
   | cons x l ih => intro a; rw [List.foldl_cons, ih]; simp [List.append_assoc]
  rw [this, List.append_assoc]
abbrev mrk (b : List Bool) (v : Int) : List Bool := b.set v.toNat true
theorem J8 (l : List Int) : ∀ b : List Bool, (l.foldl mrk b).length = b.length := by
 induction l with
 | nil => intro b; rfl
 | cons x l ih => intro b; rw [List.foldl_cons, ih]; simp [mrk]
theorem Qb (l : List Int) (hl : ∀ x, x ∈ l -> 0 <= x) : ∀ (b : List Bool) (i : Nat) (h : i < (l.foldl mrk b).length), (l.foldl mrk b)[i] = true ↔ b[i]'(by rw [J8] at h; exact h) = true \/ (i : Int) ∈ l := by
 induction l with
 | nil => intro b i h; simp
 | cons x l ih =>
  intro b i h
  simp only [List.foldl_cons]
  rw [ih (fun y hy => hl y (by simp [hy]))]
  have hx := hl x (by simp)
  rw [List.getElem_set, List.mem_cons]
  by_cases e : x.toNat = i
  ·rw [if_pos e]
   have : (i : Int) = x := by omega
   simp [this]
  ·rw [if_neg e]
   have : (i : Int) ≠ x := by omega
   simp [this]
theorem Of {N M : Nat} (hM : M <= N) : ∀ {n k : Nat} {e : Expr}, Ht M n e -> n <= k -> ∀ b : List Bool, b.length = 14 -> (I2 N k).q130 e b = some ((DL e).foldl mrk b)
 | 0, _, _, h, _, _, _ => h.elim
 | n + 1, 0, _, _, h, _, _ => absurd h (by omega)
 | n + 1, k + 1, e, ⟨h1, h2, h3⟩, hk, b, hb => by
  show Dy N (I2 N k).q130 e b = _
  unfold Dy
  have h0 : ((bif ((e.Op == 2) && ((decide (e.Value >= 0)) && (decide (e.Value < (b.length : Int))))) then ((idx b e.Value).bind fun _ => some (b.set e.Value.toNat true)) else some b) : Option (List Bool)) = some ((fl1 e.Op e.Value).foldl mrk b) := by
   unfold fl1
   rw [hb]
   by_cases hc : e.Op = 2 /\ 0 <= e.Value /\ e.Value < 14
   ·rw [if_pos hc, show ((e.Op == 2) && ((decide (e.Value >= 0)) && (decide (e.Value < ((14 : Nat) : Int))))) = true by simp [hc.1, hc.2.1, hc.2.2], cond_true]
    obtain ⟨j, hj⟩ : ∃ j : Nat, e.Value = (j : Int) := ⟨e.Value.toNat, by omega⟩
    rw [hj, Cw (by omega), Option.bind_some]; rfl
   ·rw [if_neg hc, show ((e.Op == 2) && ((decide (e.Value >= 0)) && (decide (e.Value < ((14 : Nat) : Int))))) = false by
     cases h : ((e.Op == 2) && ((decide (e.Value >= 0)) && (decide (e.Value < ((14 : Nat) : Int))))) with
     | false => rfl
     | true => simp at h; exact absurd ⟨h.1, h.2.1, by omega⟩ hc, cond_false]; rfl
  rw [h0, Option.bind_some]
  rw [KI e.Kids (fun st x => (DL x).foldl mrk st) (fun _ st => st.length = 14) (by
   intro i st hi hv
   refine ⟨?_, by rw [J8]; exact hv⟩
   unfold CY
   simp only
   rw [I7 hi, cond_true, Cw hi, Option.bind_some, Of hM (h3 _ (List.getElem_mem hi)) (by omega) st hv]; rfl)
   (fun st => by unfold CY; simp only; rw [I8, cond_false]) (by omega) h2 _ (by rw [J8]; exact hb)]
  simp only [Option.bind_some, Be.k]
  rw [J9 e, List.foldl_append]
  have : ∀ (l : List Expr) (a : List Bool), l.foldl (fun st x => (DL x).foldl mrk st) a = ((l.map DL).flatten).foldl mrk a := by
   intro l
   induction l with
   | nil => intro a; rfl
   | cons x l ih => intro a; rw [List.foldl_cons, ih, List.map_cons, List.flatten_cons, List.foldl_append]
  rw [this]
def KN (e : Expr) : List Int := ((List.range 14).filter fun (i : Nat) => decide ((i : Int) ∈ DL e)).map fun (i : Nat) => (i : Int)
theorem Ou {N : Nat} (hN : 100 < N) {e : Expr} (h : Fit N e) : Eh N e = some (KN e) := by
 obtain ⟨n, h1, h2⟩ := h
 unfold Eh
 rw [show mk0 false 14 = some (List.replicate 14 false) from rfl, Option.bind_some]
 unfold Gn
 rw [Of (Nat.le_refl _) h1 (by omega) _ rfl, Option.bind_some]
 have hl : ((DL e).foldl mrk (List.replicate 14 false)).length = 14 := by rw [J8]; rfl
 obtain ⟨o, ho, rfl⟩ := G4 (body := CI N e (List.replicate 14 false) ((DL e).foldl mrk (List.replicate 14 false))) 14
  (fun i s => s = (((List.range i).filter fun (i : Nat) => decide ((i : Int) ∈ DL e)).map (fun (i : Nat) => (i : Int)), (i : Int))) (fun o => o = .done (KN e, 14)) (by
  rintro i s hi rfl
  unfold CI
  simp only
  rw [hl]
  by_cases h : i < 14
  ·left
   have hm := Qb (DL e) (fun x hx => (KO _ e (Nat.le_refl _) x hx).1) (List.replicate 14 false) i (by rw [hl]; exact h)
   simp only [List.getElem_replicate, Bool.false_eq_true, false_or] at hm
   refine ⟨_, ?_, rfl, h⟩
   rw [show decide ((i : Int) < ((14 : Nat) : Int)) = true by rw [decide_eq_true_eq]; omega, cond_true, Cw (by rw [hl]; exact h), Option.bind_some]
   have hle : (((List.range i).filter fun (i : Nat) => decide ((i : Int) ∈ DL e)).map (fun (i : Nat) => (i : Int))).length <= 14 := by
    rw [List.length_map]; have := List.length_filter_le (fun i : Nat => decide ((i : Int) ∈ DL e)) (List.range i); rw [List.length_range] at this; omega
   rw [List.range_succ, List.filter_append, List.map_append]
   cases hc : ((DL e).foldl mrk (List.replicate 14 false))[i]'(by rw [hl]; exact h) with
   | true =>
    have := hm.1 hc
    rw [cond_true, Mq (by simp at hle ⊢; omega), Option.bind_some, Option.bind_some, Cr (by omega)]
    simp [this]
   | false =>
    have : ¬ (i : Int) ∈ DL e := fun hh => by rw [hm.2 hh] at hc; cases hc
    rw [cond_false, Option.bind_some, Cr (by omega)]
    simp [this]
  ·have : i = 14 := by omega
   subst this
   right
   exact ⟨_, rfl, fun _ h => (by cases h), rfl⟩) 14 N 0 (([] : List Int), 0) (by omega) rfl (by omega)
 rw [ho]; rfl
theorem C8 (zs : List Int) {j : Nat} (h : j < zs.length) : zs.toArray[j]! = zs[j] := by simp [h]
theorem Ot {l : List Int} {x : Int} : x ∈ Hm l ↔ x ∈ l := by
 unfold Hm; exact (List.mergeSort_perm l _).mem_iff
theorem L3 (l : List Int) : (Hm l).Pairwise (fun x y => x <= y) := by
 unfold Hm
 have := List.pairwise_mergeSort (le := fun x y : Int => decide (x <= y)) (by intro a b c h1 h2; simp at h1 h2 ⊢; omega) (by intro a b; simp; omega) l
 exact this.imp (fun h => by simpa using h)
theorem Ml {zs : List Int} {x : Int} : x ∈ Go.Lib.compact zs ↔ x ∈ zs := by
 constructor
 ·intro h
  unfold Go.Lib.compact Go.Lib.compactUpTo at h
  obtain ⟨j, hj, rfl⟩ := List.mem_map.1 h
  have := List.mem_range.1 (List.mem_filter.1 hj).1
  rw [C8 zs this]; exact List.getElem_mem this
 ·intro h
  obtain ⟨j, hj, hx⟩ := List.getElem_of_mem h
  have key : ∀ n j, j <= n -> ∀ hj : j < zs.length, zs[j] = x -> x ∈ Go.Lib.compact zs := by
   intro n
   induction n with
   | zero =>
    intro j hjn hj hx
    have : j = 0 := by omega
    subst this
    unfold Go.Lib.compact Go.Lib.compactUpTo
    rw [List.mem_map]
    exact ⟨0, by rw [List.mem_filter, List.mem_range]; exact ⟨hj, by simp [Go.Lib.keeps]⟩, by rw [C8 zs hj]; exact hx⟩
   | succ n ih =>
    intro j hjn hj hx
    by_cases hk : Go.Lib.keeps zs.toArray j = true
    ·unfold Go.Lib.compact Go.Lib.compactUpTo
     rw [List.mem_map]
     exact ⟨j, by rw [List.mem_filter, List.mem_range]; exact ⟨hj, hk⟩, by rw [C8 zs hj]; exact hx⟩
    ·unfold Go.Lib.keeps at hk
     rw [decide_eq_true_eq] at hk
     have h0 : j ≠ 0 := fun h => hk (.inl h)
     have h1 : zs.toArray[j]! = zs.toArray[j - 1]! := Classical.byContradiction fun h => hk (.inr h)
     rw [C8 zs hj, C8 zs (show j - 1 < zs.length by omega)] at h1
     exact ih (j - 1) (by omega) (by omega) (by rw [<- h1]; exact hx)
  exact key j j (Nat.le_refl _) hj hx
theorem KQ {zs : List Int} (h : zs.Pairwise fun x y => x <= y) : (Go.Lib.compact zs).Pairwise fun x y => x < y := by
 unfold Go.Lib.compact Go.Lib.compactUpTo
 rw [List.pairwise_map]
 have hr : ((List.range zs.length).filter (Go.Lib.keeps zs.toArray)).Pairwise (· < ·) := List.pairwise_lt_range.filter _
 refine hr.imp_of_mem ?_
 intro i j hi hj hij
 have h1 := List.mem_range.1 (List.mem_filter.1 hi).1
 have h2 := List.mem_range.1 (List.mem_filter.1 hj).1
 have hk := (List.mem_filter.1 hj).2
 unfold Go.Lib.keeps at hk
 rw [decide_eq_true_eq] at hk
 have hne : zs.toArray[j]! ≠ zs.toArray[j - 1]! := by
  rcases hk with h | h
  ·omega
  ·exact h
 rw [C8 zs h2, C8 zs (show j - 1 < zs.length by omega)] at hne
 rw [C8 zs h1, C8 zs h2]
 have a1 : zs[i] <= zs[j - 1]'(by omega) := by
  rcases Nat.lt_or_ge i (j - 1) with h' | h'
  ·exact List.pairwise_iff_getElem.1 h i (j - 1) h1 (by omega) h'
  ·have : i = j - 1 := by omega
   subst this; exact Int.le_refl _
 have a2 : zs[j - 1]'(by omega) <= zs[j] := List.pairwise_iff_getElem.1 h (j - 1) j (by omega) h2 (by omega)
 omega
theorem Kg : ∀ {l m : List Int}, l.Pairwise (fun x y => x < y) -> m.Pairwise (fun x y => x < y) -> (∀ x, x ∈ l ↔ x ∈ m) -> l = m
 | [], [], _, _, _ => rfl
 | [], b :: m, _, _, h => absurd ((h b).2 (by simp)) (by simp)
 | a :: l, [], _, _, h => absurd ((h a).1 (by simp)) (by simp)
 | a :: l, b :: m, hl, hm, h => by
  rw [List.pairwise_cons] at hl hm
  have hab : a = b := by
   have h1 := (h a).1 (by simp)
   have h2 := (h b).2 (by simp)
   rcases List.mem_cons.1 h1 with e | h1
   ·exact e
   ·rcases List.mem_cons.1 h2 with e | h2
    ·exact e.symm
    ·have := hm.1 a h1; have := hl.1 b h2; omega
  subst hab
  congr 1
  refine Kg hl.2 hm.2 fun x => ⟨fun hx => ?_, fun hx => ?_⟩
  ·rcases List.mem_cons.1 ((h x).1 (by simp [hx])) with e | h'
   ·subst e; have := hl.1 x hx; omega
   ·exact h'
  ·rcases List.mem_cons.1 ((h x).2 (by simp [hx])) with e | h'
   ·subst e; have := hm.1 x hx; omega
   ·exact h'
theorem Pm {e : Expr} {x : Int} : x ∈ KN e ↔ x ∈ DL e := by
 unfold KN
 rw [List.mem_map]
 constructor
 ·rintro ⟨i, hi, rfl⟩
  simpa using (List.mem_filter.1 hi).2
 ·intro h
  have := KO _ e (Nat.le_refl _) x h
  exact ⟨x.toNat, by rw [List.mem_filter, List.mem_range]; exact ⟨by omega, by rw [decide_eq_true_eq, Int.toNat_of_nonneg this.1]; exact h⟩, Int.toNat_of_nonneg this.1⟩
theorem M7 (e : Expr) : (KN e).Pairwise fun x y => x < y := by
 unfold KN
 rw [List.pairwise_map]
 exact (List.pairwise_lt_range.filter _).imp fun h => by omega
theorem Pn (e : Expr) : (KN e).length <= 14 := by
 unfold KN
 rw [List.length_map]
 have := List.length_filter_le (fun (i : Nat) => decide ((i : Int) ∈ DL e)) (List.range 14)
 rw [List.length_range] at this; exact this
theorem OZ {N : Nat} {e : Expr} (h : Fit N e) (hs : sz e < 4294967296) : Ee N e = some (KN e) := by
 obtain ⟨n, h1, h2⟩ := h
 unfold Ee Du
 rw [M3 (Nat.le_refl _) e h1 (by omega) [] (by simpa using hs)]
 simp only [Option.map_some, Option.bind_some, List.nil_append]
 unfold B0 BF
 rw [Option.bind_some, if_pos (Go.Lib.compact_length_le _), Option.bind_some]
 congr 1
 refine Kg (KQ (L3 _)) (M7 e) fun x => ?_
 rw [Ml, Ot, Pm]
section
open Go.ChangeShapes Go.WideShapes Go.ChangeAt Go.RowKit
theorem OR {H : Type} {α : Type} {S : α -> Nat} : ∀ {l : List α} {ds : List (DataW H)}, l.length = ds.length -> (∀ (i : Nat) (x : α) (d : DataW H), l[i]? = some x -> ds[i]? = some d -> S x <= Rows.uptoBulk d) -> (l.map S).sum <= Rows.uptoBulkAll ds
 | [], [], _, _ => by simp [Rows.uptoBulkAll]
 | x :: l, d :: ds, hl, h => by
  have h1 := h 0 x d rfl rfl
  have h2 := OR (l := l) (ds := ds) (by simpa using hl) (fun i y e hy he => h (i + 1) y e hy he)
  simp only [List.map_cons, List.sum_cons, Rows.uptoBulkAll]; omega
structure EH (P : Program) (t : TypeId) {α : Type} (T : Ty α) (Q : α -> Prop) (S : α -> Nat) : Prop where
 op : ∀ {H : Type} {enc : TypeId × Value -> H} {W : World} {fuel : Nat} {cs : List Value} {x : DataW H × List MemPlace}, DataW.trod enc P W 0 (fun _ => true) true fuel t cs = some x -> SzW P t x.1 -> ∃ a, T.R (Gs W) cs a /\ Q a /\ S a <= Rows.uptoBulk x.1
 sz : P.cellsOf t = T.sz
theorem LK {P : Program} {t e : TypeId} {α : Type} {T : Ty α} {Q : α -> Prop} {S : α -> Nat} (hsz : P.cellsOf e = T.sz) (hpos : 0 < T.sz) (hu : P.underlying t = some (.slice e))
  {H : Type} {enc : TypeId × Value -> H} {W : World} {fuel : Nat} {cs : List Value} {x : DataW H × List MemPlace}
  (he : ∀ n csi y, fuel = n + 1 -> DataW.trod enc P W 0 (fun _ => true) true n e csi = some y -> SzW P e y.1 -> ∃ a, T.R (Gs W) csi a /\ Q a /\ S a <= Rows.uptoBulk y.1)
  (h : DataW.trod enc P W 0 (fun _ => true) true fuel t cs = some x) (hw : SzW P t x.1) :
  ∃ l, (tSl T).R (Gs W) cs l /\ (l.length < 9223372036854775808 /\ l.length * P.bytesOf e <= reachBytes /\ ∀ x, x ∈ l -> Q x) /\ (l.map S).sum + 1 <= Rows.uptoBulk x.1 := by
 rcases DataW.trod_slice hu h with ⟨h1, h2⟩ | ⟨a, len, cap, elems, rest, n, hf, h1, hx, _, h2, h3, h4, h5, _, _⟩
 ·exact ⟨[], ⟨none, 0, h1, RP (α := α), .inl rfl⟩, ⟨by simp, by simp, fun x hx => by cases hx⟩, by rw [h2]; simp [Rows.uptoBulk]⟩
 have hby : (elems.length + rest.length) * P.bytesOf e <= reachBytes := by
  have hw' := hw
  rw [hx] at hw'
  unfold SzW at hw'
  simp only [DataW.weights, hu, List.all_cons, Bool.and_eq_true, List.length_map, decide_eq_true_eq] at hw'
  exact hw'.1
 have h3' : cap <= 9223372036854775807 := h3
 have hcell : ∀ i, i < len -> ∃ csi y, W.cells? 0 (a.add (i * T.sz)) T.sz = some csi /\ DataW.trod enc P W 0 (fun _ => true) true n e csi = some y /\ SzW P e y.1 /\ elems[i]? = some y := by
  intro i hi
  have hsz' : ∀ y, elems[i]? = some y -> SzW P e y.1 := fun y hy => by
   rw [hx] at hw
   unfold SzW at hw ⊢
   simp only [DataW.weights, hu, List.all_cons, Bool.and_eq_true, List.all_append] at hw
   exact List.all_eq_true.2 fun m hm => List.all_eq_true.1 hw.2.1 m (Jy (List.mem_map.2 ⟨y, List.mem_of_getElem? hy, rfl⟩) m hm)
  have := h5 i hi
  rw [hsz] at this
  have hlt : i < elems.length := by omega
  rw [List.getElem?_eq_getElem hlt] at this
  cases hc : W.cells? 0 (a.add (i * T.sz)) T.sz with
  | none => rw [hc] at this; cases this
  | some csi => rw [hc] at this; exact ⟨csi, _, rfl, this, hsz' _ (List.getElem?_eq_getElem hlt), List.getElem?_eq_getElem hlt⟩
 obtain ⟨l, hl, hR⟩ := JF (R := fun i (x : α) => ∃ csi, W.cells? 0 (a.add (i * T.sz)) T.sz = some csi /\ T.R (Gs W) csi x /\ Q x /\ ∃ y, elems[i]? = some y /\ S x <= Rows.uptoBulk y.1) (n := len) (fun i hi => by
  obtain ⟨csi, y, hc, ht, hsy, hey⟩ := hcell i hi
  obtain ⟨z, hz, hq, hs⟩ := he n csi y hf ht hsy
  exact ⟨z, csi, hc, hz, hq, y, hey, hs⟩)
 have hsum : (l.map S).sum + 1 <= Rows.uptoBulk x.1 := by
  rw [hx]
  simp only [Rows.uptoBulk]
  have := OR (S := S) (l := l) (ds := elems.map (·.1)) (by rw [List.length_map, hl, h4]) (fun i z d hz hd => by
   obtain ⟨_, _, _, _, y, hy, hs⟩ := hR i z hz
   rw [List.getElem?_map, hy] at hd
   cases hd; exact hs)
  omega
 refine ⟨l, ⟨some a, cap, by rw [hl]; exact h1, ⟨by omega, by omega⟩, ?_⟩, ⟨by omega, Nat.le_trans (Nat.mul_le_mul_right _ (by omega)) hby, fun x hx => ?_⟩, hsum⟩
 ·rcases Nat.eq_zero_or_pos len with h0 | hp
  ·exact .inl (List.length_eq_zero_iff.1 (by omega))
  ·right
   obtain ⟨csi, y, hc, _, _⟩ := hcell 0 hp
   obtain ⟨C, E, fz, hsp, hb, _⟩ := M9 hc hpos
   have hb' : W.heap[a.block]? = some (.cells C E fz) := by rw [Jv] at hb; exact hb
   have hsp' : a.spot = none := by rw [Nat.zero_mul] at hsp; have e0 : a.add 0 = a := by { unfold Addr.add; simp }; rw [e0] at hsp; exact hsp
   refine ⟨a.block, a.off, C, E, fz, by obtain ⟨_, _, _⟩ := a; simp only at hsp'; subst hsp'; rfl, hb', fun i x hx => ?_⟩
   obtain ⟨csi, hc, hz, _⟩ := hR i x hx
   obtain ⟨C', E', fz', _, hb2, hcs⟩ := M9 hc hpos
   have hb2' : W.heap[a.block]? = some (.cells C' E' fz') := by rw [Jv] at hb2; exact hb2
   rw [hb'] at hb2'
   cases hb2'
   rw [On] at hcs
   rw [hcs]; exact hz
 ·obtain ⟨i, hi, rfl⟩ := List.getElem_of_mem hx
  obtain ⟨_, _, _, hq, _⟩ := hR i _ (List.getElem?_eq_getElem hi)
  exact hq
theorem H5 {P : Program} {t e : TypeId} {α : Type} {T : Ty α} {Q : α -> Prop} {S : α -> Nat} (he : EH P e T Q S) (hpos : 0 < T.sz) (hu : P.underlying t = some (.slice e)) (hs : P.cellsOf t = 1) :
  EH P t (tSl T) (fun l => l.length < 9223372036854775808 /\ ∀ x, x ∈ l -> Q x) (fun l => (l.map S).sum + 1) :=
 ⟨fun h hw => by
  obtain ⟨l, h1, ⟨h2, _, h3⟩, h4⟩ := LK he.sz hpos hu (fun n csi y _ ht hsy => he.op ht hsy) h hw
  exact ⟨l, h1, ⟨h2, h3⟩, h4⟩, hs⟩
theorem NI {H : Type} {enc : TypeId × Value -> H} {P : Program} {W : World} {fuel : Nat} {t e : TypeId} {cs : List Value} {x : DataW H × List MemPlace} {i off c : Nat} (hf : fieldAt P t i = some (e, off)) (hc : P.cellsOf e = c)
  (h : DataW.trod enc P W 0 (fun _ => true) true fuel t cs = some x) (hw : SzW P t x.1) : ∃ n y ds, fuel = n + 1 /\ DataW.trod enc P W 0 (fun _ => true) true n e ((cs.drop off).take c) = some y /\ SzW P e y.1 /\ x.1 = .agg ds /\ ds[i]? = some y.1 := by
 unfold fieldAt at hf
 cases hu : P.underlying t with
 | none => rw [hu] at hf; cases hf
 | some k =>
  rw [hu] at hf
  cases k <;> simp only at hf <;> first | cases hf | skip
  rename_i fs
  cases hi : fs[i]? with
  | none => rw [hi] at hf; cases hf
  | some f =>
   rw [hi] at hf
   simp only [Option.map_some, Option.some.injEq, Prod.mk.injEq] at hf
   obtain ⟨rfl, rfl⟩ := hf
   obtain ⟨xs, n, rfl, rfl, hlen, hxl, hf⟩ := DataW.trod_struct hu h
   have hlt : i < xs.length := by
    rw [hxl]
    rcases Nat.lt_or_ge i fs.size with h' | h'
    ·exact h'
    ·rw [Array.getElem?_eq_none h'] at hi; cases hi
   have := hf i f hi
   rw [List.getElem?_eq_getElem hlt, hc] at this
   refine ⟨n, _, _, rfl, this, ?_, rfl, by rw [List.getElem?_map, List.getElem?_eq_getElem hlt]; rfl⟩
   unfold SzW at hw
   simp only [DataW.weights, hu] at hw
   refine SzW.each hw (j := i) ?_ ?_
   ·rw [List.getElem?_map, Array.getElem?_toList, hi]; rfl
   ·rw [List.getElem?_map, List.getElem?_eq_getElem hlt]; rfl
theorem Ka {H : Type} {x : DataW H} {ds es : List (DataW H)} (h : x = .agg ds) (k : x = .agg es) : es = ds := by rw [h] at k; cases k; rfl
theorem Pp {H : Type} {enc : TypeId × Value -> H} {W : World} : ∀ (m : Nat) {fuel : Nat} {cs : List Value} {x : DataW H × List MemPlace}, fuel <= m -> DataW.trod enc Tryz.prog W 0 (fun _ => true) true fuel 33 cs = some x -> SzW Tryz.prog 33 x.1 -> ∃ a, Ao.R (Gs W) cs a /\ H1 a /\ sz a <= Rows.uptoBulk x.1 := by
 intro m
 induction m with
 | zero =>
  intro fuel cs x hm h hw
  cases fuel with
  | zero => cases h
  | succ n => exact absurd hm (by omega)
 | succ m ih =>
  intro fuel cs x hm h hw
  obtain ⟨n0, y0, e0, t0, z0⟩ := fld (i := 0) (off := 0) (e := 3) (c := 1) (by kernel_rfl) (by kernel_rfl) h hw
  obtain ⟨n1, y1, e1, t1, z1⟩ := fld (i := 1) (off := 1) (e := 3) (c := 1) (by kernel_rfl) (by kernel_rfl) h hw
  obtain ⟨n2, y2, ds, e2, t2, z2, hag, hd2⟩ := NI (i := 2) (off := 2) (e := 24) (c := 1) (by kernel_rfl) (by kernel_rfl) h hw
  have hl := HE (k := 3) (by kernel_rfl) (by decide) h
  obtain ⟨op, r0, _⟩ := (LS (t := 3) (by kernel_rfl) (by kernel_rfl) : Nh Tryz.prog 3 Bg rI).op t0 z0
  obtain ⟨v, r1, _⟩ := (LS (t := 3) (by kernel_rfl) (by kernel_rfl) : Nh Tryz.prog 3 Bg rI).op t1 z1
  obtain ⟨ks, r2, ⟨q1, q0, q2⟩, hsum⟩ := LK (T := Ao) (Q := H1) (S := sz) (e := 33) (by kernel_rfl) (by decide) (by kernel_rfl) (fun n csi y hn ht hs => by
   exact ih (by omega) ht hs) t2 z2
  have qb : ks.length < 3518437208781 := by
   have e40 : Tryz.prog.bytesOf 33 = 40 := by kernel_rfl
   rw [e40] at q0
   have : reachBytes = 140737488351232 := rfl
   omega
  have hbulk : 1 + (ks.map sz).sum <= Rows.uptoBulk x.1 := by
   rw [hag]
   simp only [Rows.uptoBulk]
   match ds, hd2 with
   | [], hd => cases hd
   | [_], hd => cases hd
   | [_, _], hd => cases hd
   | a :: b :: c :: r, hd => cases hd; simp only [Rows.uptoBulkAll]; omega
  clear h t0 t1 t2
  obtain ⟨n, hn⟩ := Oj q2
  match cs, hl with
  | [c0, c1, c2], _ =>
   have e0 : [c0] = [.int .i64 op] := r0
   have e1 : [c1] = [.int .i64 v] := r1
   obtain ⟨a, c, e2, b2, s2⟩ := r2
   have e2 : [c2] = _ := e2
   cases e0; cases e1; cases e2
   exact ⟨⟨op, v, ks⟩, A7 ⟨a, c, rfl, b2, s2⟩, ⟨n + 1, Ht.mk qb q1 hn⟩, by rw [sz]; exact hbulk⟩
theorem C2 : EH Tryz.prog 33 Ao H1 sz := ⟨fun h hw => Pp _ (Nat.le_refl _) h hw, by kernel_rfl⟩
def szC (c : Clause) : Nat := sz c.When + sz c.Then
def szL (l : List Clause) : Nat := (l.map szC).sum + 1
def szX (l : List Expr) : Nat := (l.map sz).sum + 1
def szB (b : Bp) : Nat := szL b.Points + szL b.Multipliers + szL b.Penalties + szX b.Repeats
theorem I5 : EH Tryz.prog 56 Av H2 szC := by
 refine ⟨fun {H enc W fuel cs x} h hw => ?_, by kernel_rfl⟩
 obtain ⟨n0, y0, ds, e0, t0, z0, hag, hd0⟩ := NI (i := 0) (off := 0) (e := 33) (c := 3) (by kernel_rfl) (by kernel_rfl) h hw
 obtain ⟨n1, y1, es, e1, t1, z1, hag1, hd1⟩ := NI (i := 1) (off := 3) (e := 33) (c := 3) (by kernel_rfl) (by kernel_rfl) h hw
 obtain rfl := Ka hag hag1
 obtain ⟨a0, r0, q0, s0⟩ := C2.op t0 z0
 obtain ⟨a1, r1, q1, s1⟩ := C2.op t1 z1
 have hl := HE (k := 6) (by kernel_rfl) (by decide) h
 have hbulk : sz a0 + sz a1 <= Rows.uptoBulk x.1 := by
  rw [hag]
  simp only [Rows.uptoBulk]
  match es, hd0, hd1 with
  | [], hd, _ => cases hd
  | [_], _, hd => cases hd
  | a :: b :: r, hd, hd' => cases hd; cases hd'; simp only [Rows.uptoBulkAll]; omega
 clear h t0 t1
 match cs, hl with
 | [c0, c1, c2, c3, c4, c5], _ =>
  obtain ⟨p0_2, n0_2, e0, b0_2, s0_2⟩ := AC r0
  have e0 : [c0, c1, c2] = _ := e0
  cases e0
  obtain ⟨p1_2, n1_2, e1, b1_2, s1_2⟩ := AC r1
  have e1 : [c3, c4, c5] = _ := e1
  cases e1
  exact ⟨{ When := a0, Then := a1 }, ⟨p0_2, n0_2, p1_2, n1_2, rfl, b0_2, s0_2, b1_2, s1_2⟩, ⟨q0, q1⟩, hbulk⟩
theorem Ky : EH Tryz.prog 26 QR O6 szB := by
 refine ⟨fun {H enc W fuel cs x} h hw => ?_, by kernel_rfl⟩
 obtain ⟨n0, y0, ds, e0, t0, z0, hag, hd0⟩ := NI (i := 0) (off := 0) (e := 23) (c := 1) (by kernel_rfl) (by kernel_rfl) h hw
 obtain ⟨n1, y1, ds1, e1, t1, z1, hag1, hd1⟩ := NI (i := 1) (off := 1) (e := 23) (c := 1) (by kernel_rfl) (by kernel_rfl) h hw
 obtain ⟨n2, y2, ds2, e2, t2, z2, hag2, hd2⟩ := NI (i := 2) (off := 2) (e := 23) (c := 1) (by kernel_rfl) (by kernel_rfl) h hw
 obtain ⟨n3, y3, ds3, e3, t3, z3, hag3, hd3⟩ := NI (i := 3) (off := 3) (e := 24) (c := 1) (by kernel_rfl) (by kernel_rfl) h hw
 obtain rfl := Ka hag1 hag
 obtain rfl := Ka hag1 hag2
 obtain rfl := Ka hag1 hag3
 have oc : EH Tryz.prog 23 (tSl Av) _ _ := H5 (t := 23) I5 (by decide) (by kernel_rfl) (by kernel_rfl)
 have oe : EH Tryz.prog 24 (tSl Ao) _ _ := H5 (t := 24) C2 (by decide) (by kernel_rfl) (by kernel_rfl)
 obtain ⟨a0, r0, q0, u0⟩ := oc.op t0 z0
 obtain ⟨a1, r1, q1, u1⟩ := oc.op t1 z1
 obtain ⟨a2, r2, q2, u2⟩ := oc.op t2 z2
 obtain ⟨a3, r3, q3, u3⟩ := oe.op t3 z3
 have hl := HE (k := 4) (by kernel_rfl) (by decide) h
 have hbulk : szL a0 + szL a1 + szL a2 + szX a3 <= Rows.uptoBulk x.1 := by
  rw [hag]
  simp only [Rows.uptoBulk]
  match ds3, hd0, hd1, hd2, hd3 with
  | [], hd, _, _, _ => cases hd
  | [_], _, hd, _, _ => cases hd
  | [_, _], _, _, hd, _ => cases hd
  | [_, _, _], _, _, _, hd => cases hd
  | a :: b :: c :: d :: r, hd, hd', hd'', hd''' =>
   cases hd; cases hd'; cases hd''; cases hd'''
   simp only [Rows.uptoBulkAll]; unfold szL szX; omega
 clear h t0 t1 t2 t3
 match cs, hl with
 | [c0, c1, c2, c3], _ =>
  obtain ⟨p0, n0, e0, b0, s0⟩ := r0
  have e0 : [c0] = _ := e0
  cases e0
  obtain ⟨p1, n1, e1, b1, s1⟩ := r1
  have e1 : [c1] = _ := e1
  cases e1
  obtain ⟨p2, n2, e2, b2, s2⟩ := r2
  have e2 : [c2] = _ := e2
  cases e2
  obtain ⟨p3, n3, e3, b3, s3⟩ := r3
  have e3 : [c3] = _ := e3
  cases e3
  exact ⟨{ Points := a0, Multipliers := a1, Penalties := a2, Repeats := a3 }, ⟨p0, n0, p1, n1, p2, n2, p3, n3, rfl, b0, s0, b1, s1, b2, s2, b3, s3⟩, ⟨q0, q1, q2, q3⟩, hbulk⟩
theorem EH.agg {P : Program} {t : TypeId} {α : Type} {T : Ty α} {Q : α -> Prop} {S : α -> Nat} (o : EH P t T Q S) (hs : (match P.underlying t with | some (.struct _) => true | _ => false) = true)
  {H : Type} {enc : TypeId × Value -> H} {W : World} {r : Reach} {b0 : Nat} {v : Value} {d : DataW H} {ps : List MemPlace} (hv : Value.okWide P W r b0 t v) (h : DataW.Trod enc P W 0 (fun _ => true) true t v d ps) (hw : SzW P t d) :
  ∃ cs a, v = .agg cs /\ T.R (Gs W) cs.toList a /\ Q a /\ S a <= Rows.uptoBulk d := by
 cases hu : P.underlying t with
 | none => simp [hu] at hs
 | some q =>
  cases q <;> simp [hu] at hs
  obtain ⟨cs, rfl, _⟩ := okWide_struct hu hv
  obtain ⟨n, hn⟩ := h
  obtain ⟨a, h1, h2, h3⟩ := o.op hn hw
  exact ⟨cs, a, rfl, h1, h2, h3⟩
theorem LZ {H : Type} {enc : TypeId × Value -> H} {C : Checked} {os : Os} {f : FuncId} {fn : Func} {s : OpenSpec} {conds : List PathCond} {apart : Bool} {laid : List (String × DataW Unit)} (modest : Bool) (w0 : World) (args : Array Value) (hos : w0.os = os)
  (hsh : (w0.forCall (fun _ _ => 0) ⟨#[], args, []⟩).Shaped C.prog) (hok : Input.okWideB C.prog (w0.forCall (fun _ _ => 0) ⟨#[], args, []⟩) f ⟨#[], args, []⟩ = true)
  (hrow : s.preRow enc C.prog fn conds apart laid (w0.forCall (fun _ _ => 0) ⟨#[], args, []⟩).memory args) :
  ∃ (w : World) (tape : Tape) (i : Input), w.os = os /\ (w.forCall tape i).Shaped C.prog /\ i.vars = [] /\ Input.okWide C.prog (w.forCall tape i) .any w.heap.size f i /\
   s.preRow enc C.prog fn conds apart laid (w.forCall tape i).memory i.args /\ ({ modest := modest } : Assume).holds C.prog (lone (Frame.enter C.prog f i.args .normal) [] (w.forCall tape i)) :=
 ⟨w0, fun _ _ => 0, ⟨#[], args, []⟩, hos, hsh, (Input.okWide_of_okWideB (base := 0) hok).1, (Input.okWide_of_okWideB hok).2, hrow, by
  simp only [Assume.holds]
  exact ⟨by simp, by simp, fun _ => Modest.zero, by simp, by simp⟩⟩
end
theorem Bb {a b : Bool} (ha : a = true) (hb : b = true) : (a && b) = true := by rw [ha, hb]; rfl
set_option maxRecDepth 100000 in
theorem Ry : (laidOutB Tryz.pinned.checked.prog) = true := by kernel_rfl
set_option maxRecDepth 100000 in
theorem Rx : (mapsRowed Tryz.pinned.checked.prog) = true := by kernel_rfl
set_option maxRecDepth 100000 in
theorem Rw : ((Tryz.pinned.checked.prog.stops == [])) = true := by kernel_rfl
set_option maxRecDepth 100000 in
theorem Rv : ((Tryz.pinned.checked.prog.stopKnobs == [])) = true := by kernel_rfl
set_option maxRecDepth 100000 in
theorem Q7 : ((Rows.rulesParsesRow.plainKeys == Tryz.pinned.checked.prog.plainKeys)) = true := by kernel_rfl
set_option maxRecDepth 100000 in
theorem Q6 : (Tryz.pinned.checked.prog.stopsHeard) = true := by kernel_rfl
set_option maxRecDepth 100000 in
theorem Q5 : (Tryz.pinned.checked.prog.mayEnter) = true := by kernel_rfl
set_option maxRecDepth 100000 in
theorem Q4 : ((Rows.rulesParsesRow.lifted == Tryz.pinned.checked.prog.liftsFinal)) = true := by kernel_rfl
set_option maxRecDepth 100000 in
theorem Q3 : ((Tryz.pinned.checked.prog.make == some Rows.rulesParsesRow.make)) = true := by kernel_rfl
theorem Qd : Tryz.pinned.checked.prog.mainIs = some (true, "9ef67a4cb07571d798ed60e513598468ebe5a66f3455e0900720288bced703b8".toList) := by kernel_rfl
theorem Pl : true = Tryz.pinned.checked.prog.looks [] := by kernel_rfl
def Bj (N : Nat) (x0 : (List Clause)) (x1 : (Clause -> Option Bool)) : Int -> Option (Be Int Int) := fun s24 =>
 (bif (decide (s24 < (x0.length : Int))) then ((idx x0 s24).bind fun x47 => ((x1 x47).bind fun r61 => (bif r61 then some (.ret s24) else some (.next (W64 (s24 + 1)))))) else some (.done s24))
def Bt (N : Nat) (x0 : (List Clause)) (x1 : (Clause -> Option Bool)) : Option Int :=
 ((AZ (Bj N x0 x1) N 0).bind fun o => o.k (fun r => some r) (fun s33 => some (-1)))
theorem B9 : Ak Tryz.prog 162 := fun _ _ => by kernel_rfl
theorem Cb (N : Nat) (w0 : World) (F0 : Mem) (hF : Sa w0 F0) (x0 : (List Clause)) (a0_0 : R9) (n0_0 : Nat) (hb0_0 : LC x0.length n0_0) (hs0_0 : SlA Av F0 a0_0 x0) (gx1 : FuncId) (fx1 kx1 : List Value) (x1 : Clause -> Option Bool) (hox1 : Ak Tryz.prog gx1) (hpx1 : Oq F0 gx1 fx1 kx1 x1) (r : Int) (h : Bt N x0 x1 = some r) :
  Calls Tryz.prog 162 ([(.slice a0_0 x0.length n0_0), (.func (.func gx1) fx1.toArray kx1.toArray)] : List Value).toArray w0 (AK w0 F0 fun F' v => v = (vi r)) := by
 have hs0 := RN hF
 refine Go 19 Tryz.func162 ?_
 refine Sq (Rg [0] ?_)
 refine Vs 1 ?_
 refine Nss ?_
 refine Sq (Rg [0, 1, 2] ?_)
 refine Vs 3 ?_
 refine Nt ?_
 obtain ⟨o21, ho22, h23⟩ := bind_some h
 refine RS (fun f w => ∃ (s33 : Int) (F2 : Mem), o21 = .done s33 /\ HS w0 F0 w F2 [] /\ RL F0 F2 /\ FI f [] []) ?_ ?_
 ·refine Bk ?_
  refine RK (by kernel_rfl) (fun m f w => ∃ (s24 : Int) (F1 : Mem), AZ (Bj N x0 x1) m s24 = some o21 /\ HS w0 F0 w F1 [] /\ RL F0 F1 /\ FI f [] [(0, (.slice a0_0 x0.length n0_0)), (1, (.func (.func gx1) fx1.toArray kx1.toArray)), (7, (vi (x0.length : Int))), (8, (vi s24))]) N ⟨0, F0, ho22, hs0, (RM _), fI⟩ ?_
  rintro m38 f w25 ⟨s24, F1, hit39, hs26, le27, ⟨_, rfl⟩⟩
  obtain ⟨m40, fl41, rfl, hb42, hnx43⟩ := AR hit39
  refine Sq (Rg [0] ?_)
  refine Vs 1 ?_
  refine Nss ?_
  refine Cd hb42 (fun hb44 h45 => ?_) (fun hb44 h46 => ?_)
  ·refine Sc ?_
   refine Ac ?_
   refine Sq ?_
   refine Bk ?_
   refine Sq (Rg [0, 1] ?_)
   refine Vs 2 ?_
   refine Nss (Rg [0, 1, 2, 3, 4, 5] ?_)
   refine Vs 3 ?_
   obtain ⟨x47, hx48, h50⟩ := bind_some h45
   obtain ⟨hi49, hx48'⟩ := As hx48
   obtain ⟨b51, o52, C53, E54, fz55, rfl, hF57, hE58⟩ := RV (RO hs0_0 le27) hx48'
   obtain ⟨ae59_2, ne59_2, ae59_5, ne59_5, hc60, hbe59_2, hse59_2, hbe59_5, hse59_5⟩ := hE58 _ _ hx48'
   refine Ix hi49 ?_
   refine Lx 0 (hs26.pers _ _ hF57) hc60 ?_
   obtain ⟨r61, hr62, h63⟩ := bind_some h50
   refine Cq hox1 hs26 (hpx1 w25 F1 x47 ae59_2 ne59_2 hbe59_2 hse59_2 ae59_5 ne59_5 hbe59_5 hse59_5 _ le27 hs26.pers hr62) ?_
   rintro _ F3 w65 hs66 le67 rfl
   refine Nt ?_
   refine Cd h63 (fun hb69 h70 => ?_) (fun hb69 h71 => ?_)
   ·refine Sq (Rg [0, 1] ?_)
    refine Vs 2 ?_
    refine Nt ?_
    refine Rt ?_
    refine Ai ?_
    refine Ae ?_
    refine Ae ?_
    refine Ai ?_
    have hret := Bo h70 hnx43
    subst hret
    refine .inr ?_
    refine Ae ?_
    obtain rfl := Aa h23
    exact Re [(vi s24)] hs66 rfl
   ·refine Sc ?_
    refine Ap ?_
    refine Ac ?_
    refine Rg [0, 1] ?_
    refine Vs 2 ?_
    refine RF ?_
    have hn72 := AL h71 hnx43
    exact ⟨m40, Nat.lt_succ_self _, (W64 (s24 + 1)), F3, hn72, hs66, (le27.trans le67), fI⟩
  ·refine Ex ?_
   refine Ax ?_
   refine Ax ?_
   refine AF rfl ?_
   have ho73 := AU h46 hnx43
   exact .inl ⟨rfl, s24, F1, ho73, hs26, le27, fI⟩
 ·rintro f w34 ⟨s33, F2, rfl, hs35, le36, ⟨_, rfl⟩⟩
  have h74 := Bm h23
  refine Ac ?_
  refine Sq (Rg [0] ?_)
  refine Vs 1 ?_
  refine Nt ?_
  refine Rt ?_
  obtain rfl := Aa h74
  exact Re [(vi (-1))] hs35 rfl



def E0 (N : Nat) (x0 : Clause) (z0 : (List Int)) : Option Bool :=
 ((EK N x0.When z0).bind fun r24 => some (r24 == 1))
theorem Jj : Ak Tryz.prog 163 := fun _ _ => by kernel_rfl
theorem J0 (N : Nat) (w0 : World) (F0 : Mem) (hF : Sa w0 F0) (x0 : Clause) (a0_2 : R9) (n0_2 : Nat) (hb0_2 : LC x0.When.Kids.length n0_2) (hs0_2 : SlA Ao F0 a0_2 x0.When.Kids) (a0_5 : R9) (n0_5 : Nat) (hb0_5 : LC x0.Then.Kids.length n0_5) (hs0_5 : SlA Ao F0 a0_5 x0.Then.Kids) (bz0 : Nat) (z0 : (List Int)) (az0_0 : R9) (nz0_0 : Nat) (hbz0_0 : LC z0.length nz0_0) (hsz0_0 : SlA Bg F0 az0_0 z0) (hz0 : F0 bz0 = some (oc #[(.slice az0_0 z0.length nz0_0)] 47)) (r : Bool) (h : E0 N x0 z0 = some r) :
  Calls Tryz.prog 163 ([(.agg (FM x0 a0_2 n0_2 a0_5 n0_5)), (pt bz0 0)] : List Value).toArray w0 (AK w0 F0 fun F' v => v = (.bool r)) := by
 have hs0 := RN hF
 refine Go 9 Tryz.func163 ?_
 refine Sq (Rg [0, 1] ?_)
 refine Bx' 56 (FM x0 a0_2 n0_2 a0_5 n0_5) hs0 (fun b21 w22 hs23 => ?_)
 refine Vs 1 ?_
 refine Nss (Rg [0, 1, 2, 3, 4, 5] ?_)
 refine Vs 1 ?_
 refine Ld hs23.at0 ?_
 refine Ld (hs23.pers _ _ hz0) ?_
 obtain ⟨r24, hr25, h26⟩ := bind_some h
 refine Cl' C3 hs23 (E6 N w22 F0 hs23.pers x0.When a0_2 n0_2 hb0_2 hs0_2 z0 az0_0 nz0_0 hbz0_0 hsz0_0 _ hr25) ?_
 rintro _ F1 w28 hs29 le30 rfl
 refine Vs 2 ?_
 refine Nt ?_
 refine Rt ?_
 obtain rfl := Aa h26
 exact Re [(.bool (r24 == 1))] hs29 rfl
def JA (N : Nat) (x0 : (List Clause)) (x1 : (List Int)) : Option Int :=
 ((Bt N x0 (fun y0 => E0 N y0 x1)).bind fun r27 => some r27)
theorem KT : Ak Tryz.prog 103 := fun _ _ => by kernel_rfl
theorem Ly (N : Nat) (w0 : World) (F0 : Mem) (hF : Sa w0 F0) (x0 : (List Clause)) (a0_0 : R9) (n0_0 : Nat) (hb0_0 : LC x0.length n0_0) (hs0_0 : SlA Av F0 a0_0 x0) (x1 : (List Int)) (a1_0 : R9) (n1_0 : Nat) (hb1_0 : LC x1.length n1_0) (hs1_0 : SlA Bg F0 a1_0 x1) (r : Int) (h : JA N x0 x1 = some r) :
  Calls Tryz.prog 103 ([(.slice a0_0 x0.length n0_0), (.slice a1_0 x1.length n1_0)] : List Value).toArray w0 (AK w0 F0 fun F' v => v = (vi r)) := by
 have hs0 := RN hF
 refine Go 8 Tryz.func103 ?_
 refine Sq (Rg [0, 1] ?_)
 refine Bx' 47 #[(.slice a1_0 x1.length n1_0)] hs0 (fun b21 w22 hs23 => ?_)
 refine Vs 1 ?_
 refine Nss (Rg [0, 1, 2, 3] ?_)
 refine Vs 2 ?_
 obtain ⟨F1, hs24, le25, hF26⟩ := hs23.fc0
 obtain ⟨r27, hr28, h29⟩ := bind_some h
 refine Cl' B9 hs24 (Cb N w22 F1 hs24.pers x0 a0_0 n0_0 hb0_0 (RO hs0_0 le25) 163 [] [(pt b21 0)] (fun y0 => E0 N y0 x1) Jj (fun w1 F1 y0 ay0_2 ny0_2 hby0_2 hsy0_2 ay0_5 ny0_5 hby0_5 hsy0_5 r le1 pe1 hr1 => J0 N w1 F1 pe1  y0 ay0_2 ny0_2 hby0_2 hsy0_2 ay0_5 ny0_5 hby0_5 hsy0_5 b21 x1 a1_0 n1_0 hb1_0 (RO (RO hs1_0 le25) le1) (le1 _ _ hF26) r hr1) _ hr28) ?_
 rintro _ F2 w31 hs32 le33 rfl
 refine Vs 1 ?_
 refine Nt ?_
 refine Rt ?_
 obtain rfl := Aa h29
 exact Re [(vi r27)] hs32 rfl
def Cu (N : Nat) (x0 : (List Clause)) : Int -> Option (Be Int Int) := fun s24 =>
 (bif (decide (s24 < (x0.length : Int))) then ((idx x0 s24).bind fun x46 => ((Eg N x46).bind fun r60 => (bif (!r60) then some (.ret s24) else some (.next (W64 (s24 + 1)))))) else some (.done s24))
def Dz (N : Nat) (x0 : (List Clause)) : Option Int :=
 ((AZ (Cu N x0) N 0).bind fun o => o.k (fun r => some r) (fun s31 => some (x0.length : Int)))
theorem Jl : Ak Tryz.prog 125 := fun _ _ => by kernel_rfl
theorem J2 (N : Nat) (w0 : World) (F0 : Mem) (hF : Sa w0 F0) (x0 : (List Clause)) (a0_0 : R9) (n0_0 : Nat) (hb0_0 : LC x0.length n0_0) (hs0_0 : SlA Av F0 a0_0 x0) (r : Int) (h : Dz N x0 = some r) :
  Calls Tryz.prog 125 ([(.slice a0_0 x0.length n0_0)] : List Value).toArray w0 (AK w0 F0 fun F' v => v = (vi r)) := by
 have hs0 := RN hF
 refine Go 19 Tryz.func125 ?_
 refine Sq (Rg [0] ?_)
 refine Vs 1 ?_
 refine Nss ?_
 refine Sq (Rg [0] ?_)
 refine Vs 1 ?_
 refine Nt ?_
 obtain ⟨o21, ho22, h23⟩ := bind_some h
 refine RS (fun f w => ∃ (s31 : Int) (F2 : Mem), o21 = .done s31 /\ HS w0 F0 w F2 [] /\ RL F0 F2 /\ FI f [] [(0, (.slice a0_0 x0.length n0_0))]) ?_ ?_
 ·refine Bk ?_
  refine RK (by kernel_rfl) (fun m f w => ∃ (s24 : Int) (F1 : Mem), AZ (Cu N x0) m s24 = some o21 /\ HS w0 F0 w F1 [] /\ RL F0 F1 /\ FI f [] [(0, (.slice a0_0 x0.length n0_0)), (3, (vi s24))]) N ⟨0, F0, ho22, hs0, (RM _), fI⟩ ?_
  rintro m37 f w25 ⟨s24, F1, hit38, hs26, le27, ⟨_, rfl⟩⟩
  obtain ⟨m39, fl40, rfl, hb41, hnx42⟩ := AR hit38
  refine Sq ?_
  refine Sq (Rg [0, 1, 2, 3] ?_)
  refine Vs 4 ?_
  refine Nt ?_
  refine Cd hb41 (fun hb43 h44 => ?_) (fun hb43 h45 => ?_)
  ·refine Sc ?_
   refine Ac ?_
   refine Sq ?_
   refine Bk ?_
   refine Sq (Rg [0, 1, 2, 3, 4, 5] ?_)
   refine Vs 2 ?_
   obtain ⟨x46, hx47, h49⟩ := bind_some h44
   obtain ⟨hi48, hx47'⟩ := As hx47
   obtain ⟨b50, o51, C52, E53, fz54, rfl, hF56, hE57⟩ := RV (RO hs0_0 le27) hx47'
   obtain ⟨ae58_2, ne58_2, ae58_5, ne58_5, hc59, hbe58_2, hse58_2, hbe58_5, hse58_5⟩ := hE57 _ _ hx47'
   refine Ix hi48 ?_
   refine Lx 0 (hs26.pers _ _ hF56) hc59 ?_
   obtain ⟨r60, hr61, h62⟩ := bind_some h49
   refine Cl' JT hs26 (K4 N w25 F1 hs26.pers x46 ae58_2 ne58_2 hbe58_2 hse58_2 ae58_5 ne58_5 hbe58_5 hse58_5 _ hr61) ?_
   rintro _ F3 w64 hs65 le66 rfl
   refine Vs 1 ?_
   refine Nt ?_
   refine Cd h62 (fun hb68 h69 => ?_) (fun hb68 h70 => ?_)
   ·refine Sq (Rg [0, 1] ?_)
    refine Vs 2 ?_
    refine Nt ?_
    refine Rt ?_
    refine Ai ?_
    refine Ae ?_
    refine Ae ?_
    refine Ai ?_
    have hret := Bo h69 hnx42
    subst hret
    refine .inr ?_
    refine Ae ?_
    obtain rfl := Aa h23
    exact Re [(vi s24)] hs65 rfl
   ·refine Sc ?_
    refine Ap ?_
    refine Ac ?_
    refine Rg [0, 1, 2] ?_
    refine Vs 3 ?_
    refine RF ?_
    have hn71 := AL h70 hnx42
    exact ⟨m39, Nat.lt_succ_self _, (W64 (s24 + 1)), F3, hn71, hs65, (le27.trans le66), fI⟩
  ·refine Ex ?_
   refine Ax ?_
   refine Ax ?_
   refine AF rfl ?_
   have ho72 := AU h45 hnx42
   exact .inl ⟨rfl, s24, F1, ho72, hs26, le27, fI⟩
 ·rintro f w32 ⟨s31, F2, rfl, hs33, le34, ⟨_, rfl⟩⟩
  have h73 := Bm h23
  refine Ac ?_
  refine Sq (Rg [0, 1, 2] ?_)
  refine Vs 3 ?_
  refine Nt ?_
  refine Rt ?_
  obtain rfl := Aa h73
  exact Re [(vi (x0.length : Int))] hs33 rfl






def DW (N : Nat) (x0 : (List Clause)) : (Int × Int) -> Option (Be Int (Int × Int)) := fun s24 =>
 (bif (decide (s24.2 < (x0.length : Int))) then (((idx x0 s24.2).bind fun x59 => ((idx x0 s24.2).bind fun x73 => ((Bl N x59.When).bind fun r79 => ((Bl N x73.Then).bind fun r87 => some (W64 (s24.1 + (W64 (r79 + r87)))))))).bind fun j52 => some (.next (j52, (W64 (s24.2 + 1))))) else some (.done (s24.1, s24.2)))
def Cv (N : Nat) (x0 : (List Clause)) : Option Int :=
 ((AZ (DW N x0) N ((x0.length : Int), 0)).bind fun o => o.k (fun r => some r) (fun s32 => some s32.1))
theorem DX : Ak Tryz.prog 35 := fun _ _ => by kernel_rfl
theorem EF (N : Nat) (w0 : World) (F0 : Mem) (hF : Sa w0 F0) (x0 : (List Clause)) (a0_0 : R9) (n0_0 : Nat) (hb0_0 : LC x0.length n0_0) (hs0_0 : SlA Av F0 a0_0 x0) (r : Int) (h : Cv N x0 = some r) :
  Calls Tryz.prog 35 ([(.slice a0_0 x0.length n0_0)] : List Value).toArray w0 (AK w0 F0 fun F' v => v = (vi r)) := by
 have hs0 := RN hF
 refine Go 29 Tryz.func35 ?_
 refine Sq (Rg [0] ?_)
 refine Vs 1 ?_
 refine Nss (Rg [0, 1, 2] ?_)
 refine Vs 3 ?_
 refine Nss ?_
 refine Sq (Rg [0] ?_)
 refine Vs 1 ?_
 refine Nt ?_
 obtain ⟨o21, ho22, h23⟩ := bind_some h
 refine RS (fun f w => ∃ (s32 : (Int × Int)) (F2 : Mem), o21 = .done s32 /\ HS w0 F0 w F2 [] /\ RL F0 F2 /\ FI f [] [(3, (vi s32.1))]) ?_ ?_
 ·refine Bk ?_
  refine RK (by kernel_rfl) (fun m f w => ∃ (s24 : (Int × Int)) (F1 : Mem), AZ (DW N x0) m s24 = some o21 /\ HS w0 F0 w F1 [] /\ RL F0 F1 /\ FI f [] [(0, (.slice a0_0 x0.length n0_0)), (3, (vi s24.1)), (4, (vi s24.2))]) N ⟨((x0.length : Int), 0), F0, ho22, hs0, (RM _), fI⟩ ?_
  rintro m38 f w25 ⟨s24, F1, hit39, hs26, le27, ⟨_, rfl⟩⟩
  obtain ⟨m40, fl41, rfl, hb42, hnx43⟩ := AR hit39
  refine Sq ?_
  refine Sq (Rg [0, 1, 2, 3] ?_)
  refine Vs 4 ?_
  refine Nt ?_
  refine Cd hb42 (fun hb44 h45 => ?_) (fun hb44 h46 => ?_)
  ·refine Sc ?_
   refine Ac ?_
   refine Sq ?_
   refine Bk ?_
   obtain ⟨j52, hj57, h58⟩ := bind_some h45
   refine RD 16 16 [] [] hs26 (fun f w => ∃ (F3 : Mem), HS w0 F0 w F3 [] /\ RL F1 F3 /\ FI f [] [(0, (.slice a0_0 x0.length n0_0)), (3, (vi j52)), (4, (vi s24.2))]) (fun wd47 hw48 => ?_) ?_
   ·refine Dv [0, 1, 2] ?_
    obtain ⟨x59, hx60, h62⟩ := bind_some hj57
    obtain ⟨hi61, hx60'⟩ := As hx60
    obtain ⟨b63, o64, C65, E66, fz67, rfl, hF69, hE70⟩ := RV (RO hs0_0 le27) hx60'
    obtain ⟨ae71_2, ne71_2, ae71_5, ne71_5, hc72, hbe71_2, hse71_2, hbe71_5, hse71_5⟩ := hE70 _ _ hx60'
    refine Di 3 hi61 ?_
    refine Dv [4] ?_
    refine Dx 5 0 (fun _ hq => hq.1.1 _ _ hF69) hc72 ?_
    refine Dv [7, 8] ?_
    obtain ⟨x73, hx74, h76⟩ := bind_some h62
    obtain ⟨hi75, hx74'⟩ := As hx74
    obtain ⟨ae77_2, ne77_2, ae77_5, ne77_5, hc78, hbe77_2, hse77_2, hbe77_5, hse77_5⟩ := hE70 _ _ hx74'
    refine Di 9 hi75 ?_
    refine Dv [10] ?_
    refine Dx 11 3 (fun _ hq => hq.1.1 _ _ hF69) hc78 ?_
    refine D1 6 ?_
    obtain ⟨r79, hr80, h81⟩ := bind_some h76
    refine DCl C6 hw48 (DD N wd47 F1 hw48.pers x59.When ae71_2 ne71_2 hbe71_2 hse71_2 _ hr80) ?_
    rintro _ F4 w83 hs84 le85 rfl
    refine D1 12 ?_
    obtain ⟨r87, hr88, h89⟩ := bind_some h81
    refine DCl C6 hs84 (DD N w83 F4 hs84.pers x73.Then ae77_5 ne77_5 hbe77_5 (RO hse77_5 le85) _ hr88) ?_
    rintro _ F5 w91 hs92 le93 rfl
    refine Dv [13, 14, 15] ?_
    obtain rfl := Aa h89
    exact R3 (by kernel_rfl) ⟨F5, hs92, (le85.trans le93), fI⟩
   ·rintro f w49 ⟨F3, hs50, le51, ⟨_, rfl⟩⟩
    refine Ap ?_
    refine Ac ?_
    refine Rg [0, 1, 2] ?_
    refine Vs 3 ?_
    refine RF ?_
    have hn95 := AL h58 hnx43
    exact ⟨m40, Nat.lt_succ_self _, (j52, (W64 (s24.2 + 1))), F3, hn95, hs50, (le27.trans le51), fI⟩
  ·refine Ex ?_
   refine Ax ?_
   refine Ax ?_
   refine AF rfl ?_
   have ho96 := AU h46 hnx43
   exact .inl ⟨rfl, (s24.1, s24.2), F1, ho96, hs26, le27, fI⟩
 ·rintro f w33 ⟨s32, F2, rfl, hs34, le35, ⟨_, rfl⟩⟩
  have h97 := Bm h23
  refine Ac ?_
  refine Sq (Rg [0, 1] ?_)
  refine Vs 2 ?_
  refine Nt ?_
  refine Rt ?_
  obtain rfl := Aa h97
  exact Re [(vi s32.1)] hs34 rfl
def Gt (N : Nat) (x0 : Bp) (j29 : Int) : (Int × Int) -> Option (Be Bool (Int × Int)) := fun s62 =>
 (bif (decide (s62.2 < (x0.Repeats.length : Int))) then ((idx x0.Repeats s62.2).bind fun x85 => ((Bl N x85).bind fun r99 => some (.next ((W64 (s62.1 + r99)), (W64 (s62.2 + 1)))))) else some (.done (s62.1, s62.2)))
def ES (N : Nat) (x0 : Bp) : Option Bool :=
 (((Cv N x0.Points).bind fun r35 => ((Cv N x0.Multipliers).bind fun r43 => ((Cv N x0.Penalties).bind fun r51 => some (W64 ((W64 (r35 + r43)) + r51))))).bind fun j29 => ((AZ (Gt N x0 j29) N (j29, 0)).bind fun o => o.k (fun r => some r) (fun s70 => some (decide (s70.1 <= 2000)))))
theorem KV : Ak Tryz.prog 40 := fun _ _ => by kernel_rfl
theorem LE (N : Nat) (w0 : World) (F0 : Mem) (hF : Sa w0 F0) (x0 : Bp) (a0_0 : R9) (n0_0 : Nat) (hb0_0 : LC x0.Points.length n0_0) (hs0_0 : SlA Av F0 a0_0 x0.Points) (a0_1 : R9) (n0_1 : Nat) (hb0_1 : LC x0.Multipliers.length n0_1) (hs0_1 : SlA Av F0 a0_1 x0.Multipliers) (a0_2 : R9) (n0_2 : Nat) (hb0_2 : LC x0.Penalties.length n0_2) (hs0_2 : SlA Av F0 a0_2 x0.Penalties) (a0_3 : R9) (n0_3 : Nat) (hb0_3 : LC x0.Repeats.length n0_3) (hs0_3 : SlA Ao F0 a0_3 x0.Repeats) (r : Bool) (h : ES N x0 = some r) :
  Calls Tryz.prog 40 ([(.agg (AY x0 a0_0 n0_0 a0_1 n0_1 a0_2 n0_2 a0_3 n0_3))] : List Value).toArray w0 (AK w0 F0 fun F' v => v = (.bool r)) := by
 have hs0 := RN hF
 refine Go 33 Tryz.func40 ?_
 refine Sq (Rg [0, 1] ?_)
 refine Bx' 26 (AY x0 a0_0 n0_0 a0_1 n0_1 a0_2 n0_2 a0_3 n0_3) hs0 (fun b21 w22 hs23 => ?_)
 refine Vs 1 ?_
 refine Nss ?_
 obtain ⟨j29, hj33, h34⟩ := bind_some h
 refine RD 12 12 [(sb b21 (AY x0 a0_0 n0_0 a0_1 n0_1 a0_2 n0_2 a0_3 n0_3) 26)] [] hs23 (fun f w => ∃ (F1 : Mem), HS w0 F0 w F1 [(sb b21 (AY x0 a0_0 n0_0 a0_1 n0_1 a0_2 n0_2 a0_3 n0_3) 26)] /\ RL F0 F1 /\ FI f [] [(1, (pt b21 0)), (3, (vi j29))]) (fun wd24 hw25 => ?_) ?_
 ·refine Dv [0] ?_
  refine Dl 1 (fun _ hq => (hq.1.2 0 _ _ rfl)) ?_
  refine Dv [3] ?_
  refine Dl 4 (fun _ hq => (hq.1.2 0 _ _ rfl)) ?_
  refine Dv [7] ?_
  refine Dl 8 (fun _ hq => (hq.1.2 0 _ _ rfl)) ?_
  refine D1 2 ?_
  obtain ⟨r35, hr36, h37⟩ := bind_some hj33
  refine DCl DX hw25 (EF N wd24 F0 hw25.pers x0.Points a0_0 n0_0 hb0_0 hs0_0 _ hr36) ?_
  rintro _ F2 w39 hs40 le41 rfl
  refine D1 5 ?_
  obtain ⟨r43, hr44, h45⟩ := bind_some h37
  refine DCl DX hs40 (EF N w39 F2 hs40.pers x0.Multipliers a0_1 n0_1 hb0_1 (RO hs0_1 le41) _ hr44) ?_
  rintro _ F3 w47 hs48 le49 rfl
  refine Dv [6] ?_
  refine D1 9 ?_
  obtain ⟨r51, hr52, h53⟩ := bind_some h45
  refine DCl DX hs48 (EF N w47 F3 hs48.pers x0.Penalties a0_2 n0_2 hb0_2 (RO hs0_2 (le41.trans le49)) _ hr52) ?_
  rintro _ F4 w55 hs56 le57 rfl
  refine Dv [10, 11] ?_
  obtain rfl := Aa h53
  exact R3 (by kernel_rfl) ⟨F4, hs56, ((le41.trans le49).trans le57), fI⟩
 ·rintro f w26 ⟨F1, hs27, le28, ⟨_, rfl⟩⟩
  refine Ac ?_
  refine Sq ?_
  refine Sq (Rg [0] ?_)
  refine Vs 1 ?_
  refine Nt ?_
  obtain ⟨o59, ho60, h61⟩ := bind_some h34
  refine RS (fun f w => ∃ (s70 : (Int × Int)) (F6 : Mem), o59 = .done s70 /\ HS w0 F0 w F6 [] /\ RL F1 F6 /\ FI f [] [(3, (vi s70.1))]) ?_ ?_
  ·refine Bk ?_
   refine RK (by kernel_rfl) (fun m f w => ∃ (s62 : (Int × Int)) (F5 : Mem), AZ (Gt N x0 j29) m s62 = some o59 /\ HS w0 F0 w F5 [(sb b21 (AY x0 a0_0 n0_0 a0_1 n0_1 a0_2 n0_2 a0_3 n0_3) 26)] /\ RL F1 F5 /\ FI f [] [(1, (pt b21 0)), (3, (vi s62.1)), (4, (vi s62.2))]) N ⟨(j29, 0), F1, ho60, hs27, (RM _), fI⟩ ?_
   rintro m76 f w63 ⟨s62, F5, hit77, hs64, le65, ⟨_, rfl⟩⟩
   obtain ⟨m78, fl79, rfl, hb80, hnx81⟩ := AR hit77
   refine Sq ?_
   refine Sq (Rg [0, 1, 2, 3, 4] ?_)
   refine Vs 2 ?_
   refine Ld hs64.at0 ?_
   refine Vs 2 ?_
   refine Nt ?_
   refine Cd hb80 (fun hb82 h83 => ?_) (fun hb82 h84 => ?_)
   ·refine Sc ?_
    refine Ac ?_
    refine Sq ?_
    refine Bk ?_
    refine Rg [0, 1, 2, 3, 4, 5, 6, 7, 8] ?_
    refine Vs 2 ?_
    refine Ld hs64.at0 ?_
    refine Vs 1 ?_
    obtain ⟨x85, hx86, h88⟩ := bind_some h83
    obtain ⟨hi87, hx86'⟩ := As hx86
    obtain ⟨b89, o90, C91, E92, fz93, rfl, hF95, hE96⟩ := RV (RO hs0_3 (le28.trans le65)) hx86'
    obtain ⟨ae97_2, ne97_2, hc98, hbe97_2, hse97_2⟩ := (AC (hE96 _ _ hx86'))
    refine Ix hi87 ?_
    refine Lx 0 (hs64.pers _ _ hF95) hc98 ?_
    obtain ⟨r99, hr100, h101⟩ := bind_some h88
    refine Cl' C6 hs64 (DD N w63 F5 hs64.pers x85 ae97_2 ne97_2 hbe97_2 hse97_2 _ hr100) ?_
    rintro _ F7 w103 hs104 le105 rfl
    refine Vs 2 ?_
    refine RF ?_
    refine Ap ?_
    refine Ac ?_
    refine Rg [0, 1, 2] ?_
    refine Vs 3 ?_
    refine RF ?_
    have hn107 := AL h101 hnx81
    exact ⟨m78, Nat.lt_succ_self _, ((W64 (s62.1 + r99)), (W64 (s62.2 + 1))), F7, hn107, hs104, (le65.trans le105), fI⟩
   ·refine Ex ?_
    refine Ax ?_
    refine Ax ?_
    refine AF rfl ?_
    have ho108 := AU h84 hnx81
    exact .inl ⟨rfl, (s62.1, s62.2), F5, ho108, hs64.dr0, le65, fI⟩
  ·rintro f w71 ⟨s70, F6, rfl, hs72, le73, ⟨_, rfl⟩⟩
   have h109 := Bm h61
   refine Ac ?_
   refine Sq (Rg [0, 1, 2] ?_)
   refine Vs 3 ?_
   refine Nt ?_
   refine Rt ?_
   obtain rfl := Aa h109
   exact Re [(.bool (decide (s70.1 <= 2000)))] hs72 rfl
def A4 (N : Nat) (x1 : Int) : Option (List Clause) :=
 (bif (decide (x1 < 0)) then none else (bif (decide ((W64 (x1 - (W64 (0 - (([] : List Clause).length : Int))))) > 0)) then ((mk0 ({ When := ({ Op := 0, Value := 0, Kids := ([] : List Expr) } : Expr), Then := ({ Op := 0, Value := 0, Kids := ([] : List Expr) } : Expr) } : Clause) (W64 (x1 - (W64 (0 - (([] : List Clause).length : Int)))))).bind fun r7 => ((sub r7 0 (([] : List Clause).length : Int)).bind fun r17 => some r17)) else some ([] : List Clause)))
theorem Cz : Ak Tryz.prog 173 := fun _ _ => by kernel_rfl
theorem CF (N : Nat) (w0 : World) (F0 : Mem) (hF : Sa w0 F0) (x1 : Int) (r : (List Clause)) (h : A4 N x1 = some r) :
  Calls Tryz.prog 173 ([.slice none 0 0, (vi x1)] : List Value).toArray w0 (PG w0 F0 fun F' v L' => ∃ (a : R9) (n : Nat) (e : Option Nat × Obj), v = .slice a r.length n /\ L' = [e] /\ Aq Av 56 F' a n r e) := by
 have hs0 := RN hF
 refine DP (n := 27) (c := BQ Tryz.f173) Tryz.func173 (by kernel_rfl) (by kernel_rfl) (by kernel_rfl) ?_
 refine Sq (Rg [0] ?_)
 refine Vs 1 ?_
 refine Nss ?_
 refine Sq (Rg [0, 1] ?_)
 refine Vs 1 ?_
 refine Vs 1 ?_
 refine Nt ?_
 refine Cd h (fun hb1 h2 => ?_) (fun hb1 h3 => ?_)
 ·refine Rg [0, 1] ?_
  refine V 7 20 (FC (t := 9) (x := (.const (.string ⟨([99, 97, 110, 110, 111, 116, 32, 98, 101, 32, 110, 101, 103, 97, 116, 105, 118, 101] : R8).toArray⟩))) (v := (.string ⟨(([99, 97, 110, 110, 111, 116, 32, 98, 101, 32, 110, 101, 103, 97, 116, 105, 118, 101] : R8)).toArray⟩)) rfl (by kernel_rfl)) ?_
  cases h2
 ·refine Sc ?_
  refine Ac ?_
  refine Sq ?_
  refine Sq (Rg [0, 1, 2, 3, 4, 5, 6, 7] ?_)
  refine Vs 1 ?_
  refine Vs 1 ?_
  refine V 10 3 (Ho (x := (.tmp 9)) (ats := #[23]) (a := none) (n := 0) (c := 0) (E := 56) (s := 6) (by_ := 80) rfl rfl (by kernel_rfl)) ?_
  refine Vs 1 ?_
  refine Vs 1 ?_
  refine Vs 1 ?_
  refine Vs 1 ?_
  refine Vs 1 ?_
  refine Nss (Rg [0, 1] ?_)
  refine Vs 1 ?_
  refine Vs 1 ?_
  refine Nt ?_
  refine Cd h3 (fun hb4 h5 => ?_) (fun hb4 h6 => ?_)
  ·refine Rg [0, 1, 2, 3, 4, 5, 6, 7, 8, 9] ?_
   refine Vs 1 ?_
   refine Vs 1 ?_
   refine V 19 3 (Ho (x := (.tmp 18)) (ats := #[23]) (a := none) (n := 0) (c := 0) (E := 56) (s := 6) (by_ := 80) rfl rfl (by kernel_rfl)) ?_
   refine V 20 23 (Ll (t := 23) (x := (.tmp 17)) (y := (.tmp 19)) (E := 56) (s := 6) (by_ := 80) rfl (by kernel_rfl) (by kernel_rfl) rfl) ?_
   refine Vs 1 ?_
   obtain ⟨r7, hm8, h9⟩ := bind_some h5
   refine RWP.appendNil (dst := (some 22)) (ty := 23) (g := none) (by kernel_rfl) rfl (x := (.tmp 20)) (y := (.tmp 21)) (t := 23) (t2 := 3) (by_ := 80) (z := (.agg #[(vi 0), (vi 0), (.slice none ([] : List Expr).length 0), (vi 0), (vi 0), (.slice none ([] : List Expr).length 0)])) (T := Av) (E := 56) rfl rfl (by kernel_rfl) (by decide) (by kernel_rfl) (by kernel_rfl) (z0 := ({ When := ({ Op := 0, Value := 0, Kids := ([] : List Expr) } : Expr), Then := ({ Op := 0, Value := 0, Kids := ([] : List Expr) } : Expr) } : Clause)) (fun _ => ⟨none, 0, none, 0, rfl, RP, (.inl rfl), RP, (.inl rfl)⟩) (by decide) hs0 hm8 (fun a10 n11 e12 w13 (hs14 : HS w0 F0 w13 F0 [e12]) hr15 => ?_)
   refine Vs 1 ?_
   refine Vs 1 ?_
   obtain ⟨r17, hr18, h19⟩ := bind_some h9
   refine RWP.sliceRow (T := Av) (x := (.tmp 22)) (y := (.tmp 24)) (t := 23) (E := 56) (by_ := 80) (c := n11) (a := a10) (l := r7) (r := r17) (ih := (([] : List Clause).length : Int)) (dst := (some 25)) (ty := 23) (g := none) (by kernel_rfl) rfl rfl (by kernel_rfl) (by kernel_rfl) hr15 rfl hr18 (fun hr20 => ?_)
   refine Vs 1 ?_
   refine Nss (Rg [0, 1] ?_)
   refine Vs 1 ?_
   refine Vs 1 ?_
   refine Nt ?_
   refine Rt ?_
   have hfin := Aa h19
   subst hfin
   exact ⟨rfl, (.slice a10 r17.length n11), AA (l := [.tmp 4]) (by kernel_rfl) (vs := [(.slice a10 r17.length n11)]) ⟨rfl, trivial⟩, (.slice a10 r17.length n11), F0, _, rfl, hs14, _, _, _, rfl, rfl, hr20⟩
  ·refine Sc ?_
   refine Ac ?_
   refine Sq (Rg [0, 1] ?_)
   refine Vs 1 ?_
   refine Vs 1 ?_
   refine Nt ?_
   refine Rt ?_
   have hs21 := hs0.dummy (oc #[] 0)
   have hfin := Aa h6
   subst hfin
   exact ⟨rfl, (.slice none ([] : List Clause).length 0), AA (l := [.tmp 4]) (by kernel_rfl) (vs := [(.slice none ([] : List Clause).length 0)]) ⟨rfl, trivial⟩, (.slice none ([] : List Clause).length 0), F0, _, rfl, hs21, _, _, _, rfl, rfl, (R5 Av 56 F0 _)⟩
def AD (N : Nat) (x0 : (List (List Clause))) : (Int × Int) -> Option (Be (List Clause) (Int × Int)) := fun s24 =>
 (bif (decide (s24.2 < (x0.length : Int))) then ((idx x0 s24.2).bind fun x50 => (bif (decide ((W64 (s24.1 + (x50.length : Int))) < 0)) then none else some (.next ((W64 (s24.1 + (x50.length : Int))), (W64 (s24.2 + 1)))))) else some (.done (s24.1, s24.2)))
def AM (N : Nat) (x0 : (List (List Clause))) (s34 : (Int × Int)) (r70 : (List Clause)) : (List Clause × Int) -> Option (Be (List Clause) (List Clause × Int)) := fun s87 =>
 (bif (decide (s87.2 < (x0.length : Int))) then ((idx x0 s87.2).bind fun x111 => ((EG s87.1 x111).bind fun r125 => some (.next (r125, (W64 (s87.2 + 1)))))) else some (.done (s87.1, s87.2)))
def A0 (N : Nat) (x0 : (List (List Clause))) : Option (List Clause) :=
 ((AZ (AD N x0) N (0, 0)).bind fun o => o.k (fun r => some r) (fun s34 => ((A4 N s34.1).bind fun r70 => ((AZ (AM N x0 s34 r70) N (r70, 0)).bind fun o => o.k (fun r => some r) (fun s96 => some s96.1)))))
theorem Co : Ak Tryz.prog 122 := fun _ _ => by kernel_rfl
theorem Cy (N : Nat) (w0 : World) (F0 : Mem) (hF : Sa w0 F0) (x0 : (List (List Clause))) (a0_0 : R9) (n0_0 : Nat) (hb0_0 : LC x0.length n0_0) (hs0_0 : SlA (tSl Av) F0 a0_0 x0) (r : (List Clause)) (h : A0 N x0 = some r) :
  Calls Tryz.prog 122 ([(.slice a0_0 x0.length n0_0)] : List Value).toArray w0 (AK w0 F0 fun F' v => ∃ (aq0_0 : R9) (nq0_0 : Nat), v = (.slice aq0_0 r.length nq0_0) /\ LC r.length nq0_0 /\ SlA Av F' aq0_0 r) := by
 have hs0 := RN hF
 refine Go 36 Tryz.func122 ?_
 refine Sq (Rg [0] ?_)
 refine Vs 1 ?_
 refine Nss (Rg [0] ?_)
 refine Vs 1 ?_
 refine Nss ?_
 refine Sq (Rg [0, 1, 2] ?_)
 refine Vs 3 ?_
 refine Nt ?_
 obtain ⟨o21, ho22, h23⟩ := bind_some h
 refine RS (fun f w => ∃ (s34 : (Int × Int)) (F2 : Mem), o21 = .done s34 /\ HS w0 F0 w F2 [] /\ RL F0 F2 /\ FI f [] [(0, (.slice a0_0 x0.length n0_0)), (3, (vi s34.1))]) ?_ ?_
 ·refine Bk ?_
  refine RK (by kernel_rfl) (fun m f w => ∃ (s24 : (Int × Int)) (F1 : Mem), AZ (AD N x0) m s24 = some o21 /\ HS w0 F0 w F1 [] /\ RL F0 F1 /\ FI f [] [(0, (.slice a0_0 x0.length n0_0)), (3, (vi s24.1)), (9, (.slice a0_0 x0.length n0_0)), (10, (vi (x0.length : Int))), (11, (vi s24.2))]) N ⟨(0, 0), F0, ho22, hs0, (RM _), fI⟩ ?_
  rintro m41 f w25 ⟨s24, F1, hit42, hs26, le27, ⟨_, rfl⟩⟩
  obtain ⟨m43, fl44, rfl, hb45, hnx46⟩ := AR hit42
  refine Sq (Rg [0] ?_)
  refine Vs 1 ?_
  refine Nss ?_
  refine Cd hb45 (fun hb47 h48 => ?_) (fun hb47 h49 => ?_)
  ·refine Sc ?_
   refine Ac ?_
   refine Sq ?_
   refine Bk ?_
   refine Sq (Rg [0, 1, 2] ?_)
   obtain ⟨x50, hx51, h53⟩ := bind_some h48
   obtain ⟨hi52, hx51'⟩ := As hx51
   obtain ⟨b54, o55, C56, E57, fz58, rfl, hF60, hE61⟩ := RV (RO hs0_0 le27) hx51'
   obtain ⟨ae62_0, ne62_0, hc63, hbe62_0, hse62_0⟩ := hE61 _ _ hx51'
   refine Ix hi52 ?_
   refine Lx 0 (hs26.pers _ _ hF60) hc63 ?_
   refine Vs 1 ?_
   refine Nss (Rg [0, 1, 2, 3, 4] ?_)
   refine Vs 5 ?_
   refine Nss (Rg [0, 1] ?_)
   refine Vs 2 ?_
   refine Nt ?_
   refine Cd h53 (fun hb64 h65 => ?_) (fun hb64 h66 => ?_)
   ·refine Rg [0, 1] ?_
    refine V 21 20 (FC (t := 9) (x := (.const (.string ⟨([108, 101, 110, 32, 111, 117, 116, 32, 111, 102, 32, 114, 97, 110, 103, 101] : R8).toArray⟩))) (v := (.string ⟨(([108, 101, 110, 32, 111, 117, 116, 32, 111, 102, 32, 114, 97, 110, 103, 101] : R8)).toArray⟩)) rfl (by kernel_rfl)) ?_
    cases h65
   ·refine Sc ?_
    refine Ap ?_
    refine Ac ?_
    refine Rg [0, 1] ?_
    refine Vs 2 ?_
    refine RF ?_
    have hn67 := AL h66 hnx46
    exact ⟨m43, Nat.lt_succ_self _, ((W64 (s24.1 + (x50.length : Int))), (W64 (s24.2 + 1))), F1, hn67, hs26, le27, fI⟩
  ·refine Ex ?_
   refine Ax ?_
   refine Ax ?_
   refine AF rfl ?_
   have ho68 := AU h49 hnx46
   exact .inl ⟨rfl, (s24.1, s24.2), F1, ho68, hs26, le27, fI⟩
 ·rintro f w35 ⟨s34, F2, rfl, hs36, le37, ⟨_, rfl⟩⟩
  have h69 := Bm h23
  refine Ac ?_
  refine Sq (Rg [0, 1, 2] ?_)
  refine Vs 1 ?_
  obtain ⟨r70, hr71, h72⟩ := bind_some h69
  refine RWP.callO (dst := (some 24)) (ty := 23) (g := none) (by kernel_rfl) rfl (f0 := (.func 173)) (aos := #[(.const (.slice none 0 0)), (.tmp 23)]) (ats := #[23, 3]) (fid := 173) (first := #[]) (cap := #[]) (args := [(.slice none ([] : List Clause).length 0), (vi s34.1)]) rfl Cz rfl hs36 (CF N w35 F2 hs36.pers s34.1 _ hr71) ?_
  rintro _ F3 w74 _ hs75 le76 ⟨a78, n79, e80, rfl, rfl, hr81⟩
  have hs83 : HS w0 F0 w74 F3 [e80] := hs75
  refine Vs 1 ?_
  refine Nss ?_
  refine Sq (Rg [0, 1, 2] ?_)
  refine Vs 3 ?_
  refine Nt ?_
  obtain ⟨o84, ho85, h86⟩ := bind_some h72
  refine RS (fun f w => ∃ (s96 : (List Clause × Int)) (F5 : Mem) (as96_0 : R9) (ns96_0 : Nat) (es96_0 : Option Nat × Obj), o84 = .done s96 /\ HS w0 F0 w F5 [es96_0] /\ RL F3 F5 /\ FI f [] [(6, (.slice as96_0 s96.1.length ns96_0))] /\ Aq Av 56 F5 as96_0 ns96_0 s96.1 es96_0) ?_ ?_
  ·refine Bk ?_
   refine RK (by kernel_rfl) (fun m f w => ∃ (s87 : (List Clause × Int)) (F4 : Mem) (as87_0 : R9) (ns87_0 : Nat) (es87_0 : Option Nat × Obj), AZ (AM N x0 s34 r70) m s87 = some o84 /\ HS w0 F0 w F4 [es87_0] /\ RL F3 F4 /\ FI f [] [(6, (.slice as87_0 s87.1.length ns87_0)), (25, (.slice a0_0 x0.length n0_0)), (26, (vi (x0.length : Int))), (27, (vi s87.2))] /\ Aq Av 56 F4 as87_0 ns87_0 s87.1 es87_0) N ⟨(r70, 0), F3, a78, n79, e80, ho85, hs83, (RM _), fI, hr81⟩ ?_
   rintro m102 f w88 ⟨s87, F4, as87_0, ns87_0, es87_0, hit103, hs89, le90, ⟨_, rfl⟩, hrs87_0⟩
   obtain ⟨m104, fl105, rfl, hb106, hnx107⟩ := AR hit103
   refine Sq (Rg [0] ?_)
   refine Vs 1 ?_
   refine Nss ?_
   refine Cd hb106 (fun hb108 h109 => ?_) (fun hb108 h110 => ?_)
   ·refine Sc ?_
    refine Ac ?_
    refine Sq ?_
    refine Bk ?_
    refine Sq (Rg [0, 1, 2] ?_)
    obtain ⟨x111, hx112, h114⟩ := bind_some h109
    obtain ⟨hi113, hx112'⟩ := As hx112
    obtain ⟨b115, o116, C117, E118, fz119, rfl, hF121, hE122⟩ := RV (RO hs0_0 ((le37.trans le76).trans le90)) hx112'
    obtain ⟨ae123_0, ne123_0, hc124, hbe123_0, hse123_0⟩ := hE122 _ _ hx112'
    refine Ix hi113 ?_
    refine Lx 0 (hs89.pers _ _ hF121) hc124 ?_
    refine Vs 1 ?_
    refine Nt ?_
    refine Rg [0, 1, 2, 3] ?_
    refine Vs 2 ?_
    obtain ⟨r125, hap126, h127⟩ := bind_some h114
    refine Ap0 Od hs89 hrs87_0 (SlA.rd hs89 hse123_0) hap126 (fun a128 n129 e130 w131 hs132 hr133 => ?_)
    refine Vs 1 ?_
    refine RF ?_
    refine Ap ?_
    refine Ac ?_
    refine Rg [0, 1] ?_
    refine Vs 2 ?_
    refine RF ?_
    have hn134 := AL h127 hnx107
    exact ⟨m104, Nat.lt_succ_self _, (r125, (W64 (s87.2 + 1))), F4, a128, n129, e130, hn134, hs132, le90, fI, hr133⟩
   ·refine Ex ?_
    refine Ax ?_
    refine Ax ?_
    refine AF rfl ?_
    have ho135 := AU h110 hnx107
    exact .inl ⟨rfl, (s87.1, s87.2), F4, as87_0, ns87_0, es87_0, ho135, hs89, le90, fI, hrs87_0⟩
  ·rintro f w97 ⟨s96, F5, as96_0, ns96_0, es96_0, rfl, hs98, le99, ⟨_, rfl⟩, hrs96_0⟩
   have h136 := Bm h86
   refine Ac ?_
   refine Sq (Rg [0, 1] ?_)
   refine Vs 2 ?_
   refine Nt ?_
   refine Rt ?_
   have hb140 := R4 hrs96_0
   obtain ⟨F6, hs137, le138, hs139⟩ := hs98.fr0 hrs96_0
   obtain rfl := Aa h136
   exact Re [(.slice as96_0 s96.1.length ns96_0)] hs137 ⟨as96_0, ns96_0, rfl, hb140, hs139⟩
def Cm (N : Nat) (x0 : Bp) (r36 : (List Clause)) : (Int × Int) -> Option (Be (Int × Int) (Int × Int)) := fun s47 =>
 (bif (decide (s47.2 < (r36.length : Int))) then ((idx r36 s47.2).bind fun x73 => ((Cf N x73).bind fun r92 => (bif (!r92) then some (.ret (62, (W64 (s47.1 + 1)))) else some (.next ((W64 (s47.1 + 1)), (W64 (s47.2 + 1))))))) else some (.done (s47.1, s47.2)))
def Cl (N : Nat) (x0 : Bp) (r36 : (List Clause)) (s57 : (Int × Int)) : (Int × Int) -> Option (Be (Int × Int) (Int × Int)) := fun s109 =>
 (bif (decide (s109.2 < (x0.Repeats.length : Int))) then ((idx x0.Repeats s109.2).bind fun x132 => ((Fh N x132 1).bind fun r151 => (bif (!r151) then some (.ret (62, (W64 (s109.1 + 1)))) else some (.next ((W64 (s109.1 + 1)), (W64 (s109.2 + 1))))))) else some (.done (s109.1, s109.2)))
def DI (N : Nat) (x0 : Bp) : Option (Int × Int) :=
 (bif (decide ((max (max (max (x0.Points.length : Int) (x0.Multipliers.length : Int)) (x0.Penalties.length : Int)) (x0.Repeats.length : Int)) > 64)) then some (2, 0) else ((A0 N ([x0.Points, x0.Multipliers, x0.Penalties])).bind fun r36 => ((AZ (Cm N x0 r36) N (0, 0)).bind fun o => o.k (fun r => some r) (fun s57 => ((AZ (Cl N x0 r36 s57) N (s57.1, 0)).bind fun o => o.k (fun r => some r) (fun s118 => some (0, 0)))))))
theorem GL : Ak Tryz.prog 70 := fun _ _ => by kernel_rfl
theorem Hz (N : Nat) (w0 : World) (F0 : Mem) (hF : Sa w0 F0) (x0 : Bp) (a0_0 : R9) (n0_0 : Nat) (hb0_0 : LC x0.Points.length n0_0) (hs0_0 : SlA Av F0 a0_0 x0.Points) (a0_1 : R9) (n0_1 : Nat) (hb0_1 : LC x0.Multipliers.length n0_1) (hs0_1 : SlA Av F0 a0_1 x0.Multipliers) (a0_2 : R9) (n0_2 : Nat) (hb0_2 : LC x0.Penalties.length n0_2) (hs0_2 : SlA Av F0 a0_2 x0.Penalties) (a0_3 : R9) (n0_3 : Nat) (hb0_3 : LC x0.Repeats.length n0_3) (hs0_3 : SlA Ao F0 a0_3 x0.Repeats) (r : (Int × Int)) (h : DI N x0 = some r) :
  Calls Tryz.prog 70 ([(.agg (AY x0 a0_0 n0_0 a0_1 n0_1 a0_2 n0_2 a0_3 n0_3))] : List Value).toArray w0 (AK w0 F0 fun F' v => v = (.tuple #[(vi r.1), (vi r.2)])) := by
 have hs0 := RN hF
 refine Go 57 Tryz.func70 ?_
 refine Sq (Rg [0, 1, 2] ?_)
 refine Bx' 26 (AY x0 a0_0 n0_0 a0_1 n0_1 a0_2 n0_2 a0_3 n0_3) hs0 (fun b21 w22 hs23 => ?_)
 refine Vs 2 ?_
 refine Nss ?_
 refine Sq (Rg [0, 1, 2, 3, 4, 5, 6, 7, 8, 9, 10, 11, 12, 13] ?_)
 refine Vs 1 ?_
 refine Ld hs23.at0 ?_
 refine Vs 2 ?_
 refine Ld hs23.at0 ?_
 refine Vs 2 ?_
 refine Ld hs23.at0 ?_
 refine Vs 2 ?_
 refine Ld hs23.at0 ?_
 refine Vs 1 ?_
 refine V 21 3 (O2 (x := (.tmp 11)) (y := (.tmp 14)) (z := (.tmp 17)) (u := (.tmp 20)) (ats := #[3, 3, 3, 3]) (a := (x0.Points.length : Int)) (b := (x0.Multipliers.length : Int)) (c := (x0.Penalties.length : Int)) (d := (x0.Repeats.length : Int)) rfl rfl rfl rfl) ?_
 refine Vs 1 ?_
 refine Nt ?_
 refine Cd h (fun hb24 h25 => ?_) (fun hb24 h26 => ?_)
 ·refine Sq (Rg [0, 1] ?_)
  refine Vs 2 ?_
  refine Nt ?_
  refine Rt ?_
  refine Ae ?_
  obtain rfl := Aa h25
  exact Re [(vi 2), (vi 0)] hs23 rfl
 ·refine Sc ?_
  refine Ac ?_
  refine Sq (Rg [0] ?_)
  refine Vs 1 ?_
  refine Nss ?_
  refine Sq (Rg [0, 1, 2, 3, 4, 5, 6, 7, 8, 9] ?_)
  refine Vs 1 ?_
  refine Ld hs23.at0 ?_
  refine Vs 1 ?_
  refine Ld hs23.at0 ?_
  refine Vs 1 ?_
  refine Ld hs23.at0 ?_
  refine Bs 23 [(.slice a0_0 x0.Points.length n0_0), (.slice a0_1 x0.Multipliers.length n0_1), (.slice a0_2 x0.Penalties.length n0_2)] hs23 (fun b27 w28 hs29 => ?_)
  have hr31 : Aq (tSl Av) 23 F0 (some ⟨b27, 0, none⟩) 3 [x0.Points, x0.Multipliers, x0.Penalties] (some b27, .cells ([(.slice a0_0 x0.Points.length n0_0), (.slice a0_1 x0.Multipliers.length n0_1), (.slice a0_2 x0.Penalties.length n0_2)] : List Value).toArray 23 (0, 0)) := R6 ⟨⟨a0_0, n0_0, rfl, hb0_0, hs0_0⟩, ⟨⟨a0_1, n0_1, rfl, hb0_1, hs0_1⟩, ⟨⟨a0_2, n0_2, rfl, hb0_2, hs0_2⟩, rfl⟩⟩⟩ (by simp)
  have hb35 := R4 hr31
  obtain ⟨F1, hs32, le33, hs34⟩ := hs29.fr0 hr31
  obtain ⟨r36, hr37, h38⟩ := bind_some h26
  refine Cl' Co hs32 (Cy N w28 F1 hs32.pers ([x0.Points, x0.Multipliers, x0.Penalties]) (some ⟨b27, 0, none⟩) 3 hb35 hs34 _ hr37) ?_
  rintro _ F2 w40 hs41 le42 ⟨ar36_0_0, nr36_0_0, rfl, hbr36_0_0, hsr36_0_0⟩
  refine Vs 2 ?_
  refine Nt ?_
  obtain ⟨o44, ho45, h46⟩ := bind_some h38
  refine RS (fun f w => ∃ (s57 : (Int × Int)) (F4 : Mem), o44 = .done s57 /\ HS w0 F0 w F4 [(sb b21 (AY x0 a0_0 n0_0 a0_1 n0_1 a0_2 n0_2 a0_3 n0_3) 26)] /\ RL F2 F4 /\ FI f [] [(1, (pt b21 0)), (4, (vi s57.1))]) ?_ ?_
  ·refine Bk ?_
   refine RK (by kernel_rfl) (fun m f w => ∃ (s47 : (Int × Int)) (F3 : Mem), AZ (Cm N x0 r36) m s47 = some o44 /\ HS w0 F0 w F3 [(sb b21 (AY x0 a0_0 n0_0 a0_1 n0_1 a0_2 n0_2 a0_3 n0_3) 26)] /\ RL F2 F3 /\ FI f [] [(1, (pt b21 0)), (4, (vi s47.1)), (30, (.slice ar36_0_0 r36.length nr36_0_0)), (31, (vi (r36.length : Int))), (32, (vi s47.2))]) N ⟨(0, 0), F2, ho45, hs41, (RM _), fI⟩ ?_
   rintro m64 f w48 ⟨s47, F3, hit65, hs49, le50, ⟨_, rfl⟩⟩
   obtain ⟨m66, fl67, rfl, hb68, hnx69⟩ := AR hit65
   refine Sq (Rg [0] ?_)
   refine Vs 1 ?_
   refine Nss ?_
   refine Cd hb68 (fun hb70 h71 => ?_) (fun hb70 h72 => ?_)
   ·refine Sc ?_
    refine Ac ?_
    refine Sq ?_
    refine Bk ?_
    refine Sq (Rg [0, 1, 2, 3] ?_)
    obtain ⟨x73, hx74, h76⟩ := bind_some h71
    obtain ⟨hi75, hx74'⟩ := As hx74
    obtain ⟨b77, o78, C79, E80, fz81, rfl, hF83, hE84⟩ := RV (RO hsr36_0_0 le50) hx74'
    obtain ⟨ae85_2, ne85_2, ae85_5, ne85_5, hc86, hbe85_2, hse85_2, hbe85_5, hse85_5⟩ := hE84 _ _ hx74'
    refine Ix hi75 ?_
    refine Lx 0 (hs49.pers _ _ hF83) hc86 ?_
    refine Al' 56 #[(vi 0), (vi 0), (.slice none ([] : List Expr).length 0), (vi 0), (vi 0), (.slice none ([] : List Expr).length 0)] hs49 (fun b87 w88 hs89 => ?_)
    refine St0 (FM x73 ae85_2 ne85_2 ae85_5 ne85_5) hs89 (fun w90 hs91 => ?_)
    refine Nss (Rg [0, 1, 2] ?_)
    refine Vs 3 ?_
    refine Nss (Rg [0, 1, 2] ?_)
    refine Ld hs91.at0 ?_
    obtain ⟨r92, hr93, h94⟩ := bind_some h76
    refine Cl' Gz hs91 (Ha N w90 F3 hs91.pers x73 ae85_2 ne85_2 hbe85_2 hse85_2 ae85_5 ne85_5 hbe85_5 hse85_5 _ hr93) ?_
    rintro _ F5 w96 hs97 le98 rfl
    refine Vs 1 ?_
    refine Nt ?_
    refine Cd h94 (fun hb100 h101 => ?_) (fun hb100 h102 => ?_)
    ·refine Sq (Rg [0, 1, 2] ?_)
     refine Vs 3 ?_
     refine Nt ?_
     refine Rt ?_
     refine Ai ?_
     refine Ae ?_
     refine Ae ?_
     refine Ai ?_
     have hret := Bo h101 hnx69
     subst hret
     refine .inr ?_
     refine Ae ?_
     obtain rfl := Aa h46
     exact Re [(vi 62), (vi (W64 (s47.1 + 1)))] hs97 rfl
    ·refine Sc ?_
     refine Ap ?_
     refine Ac ?_
     refine Rg [0, 1] ?_
     refine Vs 2 ?_
     refine RF ?_
     have hn103 := AL h102 hnx69
     exact ⟨m66, Nat.lt_succ_self _, ((W64 (s47.1 + 1)), (W64 (s47.2 + 1))), F5, hn103, hs97.dr0, (le50.trans le98), fI⟩
   ·refine Ex ?_
    refine Ax ?_
    refine Ax ?_
    refine AF rfl ?_
    have ho104 := AU h72 hnx69
    exact .inl ⟨rfl, (s47.1, s47.2), F3, ho104, hs49, le50, fI⟩
  ·rintro f w58 ⟨s57, F4, rfl, hs59, le60, ⟨_, rfl⟩⟩
   have h105 := Bm h46
   refine Ac ?_
   refine Sq ?_
   refine Sq (Rg [0, 1, 2, 3] ?_)
   refine Vs 1 ?_
   refine Ld hs59.at0 ?_
   refine Vs 2 ?_
   refine Nt ?_
   obtain ⟨o106, ho107, h108⟩ := bind_some h105
   refine RS (fun f w => ∃ (s118 : (Int × Int)) (F7 : Mem), o106 = .done s118 /\ HS w0 F0 w F7 [] /\ RL F4 F7 /\ FI f [] []) ?_ ?_
   ·refine Bk ?_
    refine RK (by kernel_rfl) (fun m f w => ∃ (s109 : (Int × Int)) (F6 : Mem), AZ (Cl N x0 r36 s57) m s109 = some o106 /\ HS w0 F0 w F6 [] /\ RL F4 F6 /\ FI f [] [(4, (vi s109.1)), (44, (.slice a0_3 x0.Repeats.length n0_3)), (45, (vi (x0.Repeats.length : Int))), (46, (vi s109.2))]) N ⟨(s57.1, 0), F4, ho107, hs59.dr0, (RM _), fI⟩ ?_
    rintro m123 f w110 ⟨s109, F6, hit124, hs111, le112, ⟨_, rfl⟩⟩
    obtain ⟨m125, fl126, rfl, hb127, hnx128⟩ := AR hit124
    refine Sq (Rg [0] ?_)
    refine Vs 1 ?_
    refine Nss ?_
    refine Cd hb127 (fun hb129 h130 => ?_) (fun hb129 h131 => ?_)
    ·refine Sc ?_
     refine Ac ?_
     refine Sq ?_
     refine Bk ?_
     refine Sq (Rg [0, 1, 2, 3] ?_)
     obtain ⟨x132, hx133, h135⟩ := bind_some h130
     obtain ⟨hi134, hx133'⟩ := As hx133
     obtain ⟨b136, o137, C138, E139, fz140, rfl, hF142, hE143⟩ := RV (RO hs0_3 (((le33.trans le42).trans le60).trans le112)) hx133'
     obtain ⟨ae144_2, ne144_2, hc145, hbe144_2, hse144_2⟩ := (AC (hE143 _ _ hx133'))
     refine Ix hi134 ?_
     refine Lx 0 (hs111.pers _ _ hF142) hc145 ?_
     refine Al' 33 #[(vi 0), (vi 0), (.slice none ([] : List Expr).length 0)] hs111 (fun b146 w147 hs148 => ?_)
     refine St0 (Ag x132 ae144_2 ne144_2) hs148 (fun w149 hs150 => ?_)
     refine Nss (Rg [0, 1, 2] ?_)
     refine Vs 3 ?_
     refine Nss (Rg [0, 1, 2] ?_)
     refine Ld hs150.at0 ?_
     obtain ⟨r151, hr152, h153⟩ := bind_some h135
     refine Cl' GH hs150 (HO N w149 F6 hs150.pers x132 ae144_2 ne144_2 hbe144_2 hse144_2 1 _ hr152) ?_
     rintro _ F8 w155 hs156 le157 rfl
     refine Vs 1 ?_
     refine Nt ?_
     refine Cd h153 (fun hb159 h160 => ?_) (fun hb159 h161 => ?_)
     ·refine Sq (Rg [0, 1, 2] ?_)
      refine Vs 3 ?_
      refine Nt ?_
      refine Rt ?_
      refine Ai ?_
      refine Ae ?_
      refine Ae ?_
      refine Ai ?_
      have hret := Bo h160 hnx128
      subst hret
      refine .inr ?_
      refine Ae ?_
      obtain rfl := Aa h108
      exact Re [(vi 62), (vi (W64 (s109.1 + 1)))] hs156 rfl
     ·refine Sc ?_
      refine Ap ?_
      refine Ac ?_
      refine Rg [0, 1] ?_
      refine Vs 2 ?_
      refine RF ?_
      have hn162 := AL h161 hnx128
      exact ⟨m125, Nat.lt_succ_self _, ((W64 (s109.1 + 1)), (W64 (s109.2 + 1))), F8, hn162, hs156.dr0, (le112.trans le157), fI⟩
    ·refine Ex ?_
     refine Ax ?_
     refine Ax ?_
     refine AF rfl ?_
     have ho163 := AU h131 hnx128
     exact .inl ⟨rfl, (s109.1, s109.2), F6, ho163, hs111, le112, fI⟩
   ·rintro f w119 ⟨s118, F7, rfl, hs120, le121, ⟨_, rfl⟩⟩
    have h164 := Bm h108
    refine Ac ?_
    refine Sq (Rg [0, 1] ?_)
    refine Vs 2 ?_
    refine Nt ?_
    refine Rt ?_
    obtain rfl := Aa h164
    exact Re [(vi 0), (vi 0)] hs120 rfl
def DF (N : Nat) (x0 : Bp) : Option Bool :=
 ((DI N x0).bind fun r24 => some (r24.1 == 0))
theorem GI : Ak Tryz.prog 54 := fun _ _ => by kernel_rfl
theorem Hx (N : Nat) (w0 : World) (F0 : Mem) (hF : Sa w0 F0) (x0 : Bp) (a0_0 : R9) (n0_0 : Nat) (hb0_0 : LC x0.Points.length n0_0) (hs0_0 : SlA Av F0 a0_0 x0.Points) (a0_1 : R9) (n0_1 : Nat) (hb0_1 : LC x0.Multipliers.length n0_1) (hs0_1 : SlA Av F0 a0_1 x0.Multipliers) (a0_2 : R9) (n0_2 : Nat) (hb0_2 : LC x0.Penalties.length n0_2) (hs0_2 : SlA Av F0 a0_2 x0.Penalties) (a0_3 : R9) (n0_3 : Nat) (hb0_3 : LC x0.Repeats.length n0_3) (hs0_3 : SlA Ao F0 a0_3 x0.Repeats) (r : Bool) (h : DF N x0 = some r) :
  Calls Tryz.prog 54 ([(.agg (AY x0 a0_0 n0_0 a0_1 n0_1 a0_2 n0_2 a0_3 n0_3))] : List Value).toArray w0 (AK w0 F0 fun F' v => v = (.bool r)) := by
 have hs0 := RN hF
 refine Go 12 Tryz.func54 ?_
 refine Sq (Rg [0, 1] ?_)
 refine Bx' 26 (AY x0 a0_0 n0_0 a0_1 n0_1 a0_2 n0_2 a0_3 n0_3) hs0 (fun b21 w22 hs23 => ?_)
 refine Vs 1 ?_
 refine Nss (Rg [0, 1, 2, 3, 4, 5, 6] ?_)
 refine Ld hs23.at0 ?_
 obtain ⟨r24, hr25, h26⟩ := bind_some h
 refine Cl' GL hs23 (Hz N w22 F0 hs23.pers x0 a0_0 n0_0 hb0_0 hs0_0 a0_1 n0_1 hb0_1 hs0_1 a0_2 n0_2 hb0_2 hs0_2 a0_3 n0_3 hb0_3 hs0_3 _ hr25) ?_
 rintro _ F1 w28 hs29 le30 rfl
 refine Vs 5 ?_
 refine Nss (Rg [0, 1, 2] ?_)
 refine Vs 3 ?_
 refine Nt ?_
 refine Rt ?_
 obtain rfl := Aa h26
 exact Re [(.bool (r24.1 == 0))] hs29 rfl
def Jz (N : Nat) (x0 : Bp) (x1 : (List Int)) : Option Int :=
 ((DF N x0).bind fun r24 => (bif (!r24) then some 62 else ((Ff N x1).bind fun r35 => (bif (!r35) then some 63 else some 0))))
theorem KR : Ak Tryz.prog 106 := fun _ _ => by kernel_rfl
theorem Lv (N : Nat) (w0 : World) (F0 : Mem) (hF : Sa w0 F0) (x0 : Bp) (a0_0 : R9) (n0_0 : Nat) (hb0_0 : LC x0.Points.length n0_0) (hs0_0 : SlA Av F0 a0_0 x0.Points) (a0_1 : R9) (n0_1 : Nat) (hb0_1 : LC x0.Multipliers.length n0_1) (hs0_1 : SlA Av F0 a0_1 x0.Multipliers) (a0_2 : R9) (n0_2 : Nat) (hb0_2 : LC x0.Penalties.length n0_2) (hs0_2 : SlA Av F0 a0_2 x0.Penalties) (a0_3 : R9) (n0_3 : Nat) (hb0_3 : LC x0.Repeats.length n0_3) (hs0_3 : SlA Ao F0 a0_3 x0.Repeats) (x1 : (List Int)) (a1_0 : R9) (n1_0 : Nat) (hb1_0 : LC x1.length n1_0) (hs1_0 : SlA Bg F0 a1_0 x1) (r : Int) (h : Jz N x0 x1 = some r) :
  Calls Tryz.prog 106 ([(.agg (AY x0 a0_0 n0_0 a0_1 n0_1 a0_2 n0_2 a0_3 n0_3)), (.slice a1_0 x1.length n1_0)] : List Value).toArray w0 (AK w0 F0 fun F' v => v = (vi r)) := by
 have hs0 := RN hF
 refine Go 13 Tryz.func106 ?_
 refine Sq (Rg [0, 1] ?_)
 refine Bx' 26 (AY x0 a0_0 n0_0 a0_1 n0_1 a0_2 n0_2 a0_3 n0_3) hs0 (fun b21 w22 hs23 => ?_)
 refine Vs 1 ?_
 refine Nss ?_
 refine Bk ?_
 refine Sq (Rg [0, 1, 2, 3] ?_)
 refine Ld hs23.at0 ?_
 obtain ⟨r24, hr25, h26⟩ := bind_some h
 refine Cl' GI hs23 (Hx N w22 F0 hs23.pers x0 a0_0 n0_0 hb0_0 hs0_0 a0_1 n0_1 hb0_1 hs0_1 a0_2 n0_2 hb0_2 hs0_2 a0_3 n0_3 hb0_3 hs0_3 _ hr25) ?_
 rintro _ F1 w28 hs29 le30 rfl
 refine Vs 2 ?_
 refine Nt ?_
 refine Cd h26 (fun hb32 h33 => ?_) (fun hb32 h34 => ?_)
 ·refine Sq (Rg [0] ?_)
  refine Vs 1 ?_
  refine Nt ?_
  refine Rt ?_
  refine Ai ?_
  refine Ae ?_
  obtain rfl := Aa h33
  exact Re [(vi 62)] hs29 rfl
 ·refine Sq (Rg [0, 1, 2, 3] ?_)
  refine Vs 1 ?_
  obtain ⟨r35, hr36, h37⟩ := bind_some h34
  refine Cl' G7 hs29 (HM N w28 F1 hs29.pers x1 a1_0 n1_0 hb1_0 (RO hs1_0 le30) _ hr36) ?_
  rintro _ F2 w39 hs40 le41 rfl
  refine Vs 2 ?_
  refine Nt ?_
  refine Cd h37 (fun hb43 h44 => ?_) (fun hb43 h45 => ?_)
  ·refine Sq (Rg [0] ?_)
   refine Vs 1 ?_
   refine Nt ?_
   refine Rt ?_
   refine Ai ?_
   refine Ae ?_
   obtain rfl := Aa h44
   exact Re [(vi 63)] hs40 rfl
  ·refine Sc ?_
   refine Ap ?_
   refine Ac ?_
   refine Sq (Rg [0] ?_)
   refine Vs 1 ?_
   refine Nt ?_
   refine Rt ?_
   obtain rfl := Aa h45
   exact Re [(vi 0)] hs40 rfl
def B3 (N : Nat) (x0 : Bp) : (Int × Int) -> Option (Be (Int × Int) (Int × Int)) := fun s44 =>
 (bif (decide (s44.2 < ([x0.Points, x0.Multipliers, x0.Penalties].length : Int))) then ((idx [x0.Points, x0.Multipliers, x0.Penalties] s44.2).bind fun x69 => ((Dz N x69).bind fun r80 => ((idx [x0.Points, x0.Multipliers, x0.Penalties] s44.2).bind fun x88 => (bif (decide (r80 < (x88.length : Int))) then some (.ret (62, (W64 (s44.1 + r80)))) else some (.next ((W64 (s44.1 + r80)), (W64 (s44.2 + 1)))))))) else some (.done (s44.1, s44.2)))
def CZ (N : Nat) (x0 : Bp) (s53 : (Int × Int)) : Int -> Option (Be (Int × Int) Int) := fun s108 =>
 (bif (decide (s108 < (x0.Repeats.length : Int))) then ((idx x0.Repeats s108).bind fun x130 => ((CO N x130 1).bind fun r144 => (bif (!r144) then some (.ret (62, (W64 (s53.1 + s108)))) else some (.next (W64 (s108 + 1)))))) else some (.done s108))
def DJ (N : Nat) (x0 : Bp) : Option (Int × Int) :=
 (bif ((decide ((x0.Points.length : Int) > 64)) || ((decide ((x0.Multipliers.length : Int) > 64)) || ((decide ((x0.Penalties.length : Int) > 64)) || (decide ((x0.Repeats.length : Int) > 64))))) then some (2, 0) else ((AZ (B3 N x0) N (1, 0)).bind fun o => o.k (fun r => some r) (fun s53 => ((AZ (CZ N x0 s53) N 0).bind fun o => o.k (fun r => some r) (fun s116 => some (0, 0))))))
theorem GO : Ak Tryz.prog 71 := fun _ _ => by kernel_rfl
theorem HB (N : Nat) (w0 : World) (F0 : Mem) (hF : Sa w0 F0) (x0 : Bp) (a0_0 : R9) (n0_0 : Nat) (hb0_0 : LC x0.Points.length n0_0) (hs0_0 : SlA Av F0 a0_0 x0.Points) (a0_1 : R9) (n0_1 : Nat) (hb0_1 : LC x0.Multipliers.length n0_1) (hs0_1 : SlA Av F0 a0_1 x0.Multipliers) (a0_2 : R9) (n0_2 : Nat) (hb0_2 : LC x0.Penalties.length n0_2) (hs0_2 : SlA Av F0 a0_2 x0.Penalties) (a0_3 : R9) (n0_3 : Nat) (hb0_3 : LC x0.Repeats.length n0_3) (hs0_3 : SlA Ao F0 a0_3 x0.Repeats) (r : (Int × Int)) (h : DJ N x0 = some r) :
  Calls Tryz.prog 71 ([(.agg (AY x0 a0_0 n0_0 a0_1 n0_1 a0_2 n0_2 a0_3 n0_3))] : List Value).toArray w0 (AK w0 F0 fun F' v => v = (.tuple #[(vi r.1), (vi r.2)])) := by
 have hs0 := RN hF
 refine Go 79 Tryz.func71 ?_
 refine Sq (Rg [0, 1, 2] ?_)
 refine Bx' 26 (AY x0 a0_0 n0_0 a0_1 n0_1 a0_2 n0_2 a0_3 n0_3) hs0 (fun b21 w22 hs23 => ?_)
 refine Vs 2 ?_
 refine Nss ?_
 refine Sq (Rg [0, 1, 2, 3, 4, 5, 6, 7, 8, 9, 10, 11, 12, 13, 14, 15, 16, 17, 18, 19, 20, 21] ?_)
 refine RR (fun f w => ∃ (F1 : Mem), HS w0 F0 w F1 [(sb b21 (AY x0 a0_0 n0_0 a0_1 n0_1 a0_2 n0_2 a0_3 n0_3) 26)] /\ RL F0 F1 /\ FI f [] [(1, (pt b21 0)), (30, (.bool ((decide ((x0.Points.length : Int) > 64)) || ((decide ((x0.Multipliers.length : Int) > 64)) || ((decide ((x0.Penalties.length : Int) > 64)) || (decide ((x0.Repeats.length : Int) > 64)))))))]) ?_ ?_
 ·refine Vs 1 ?_
  refine Ld hs23.at0 ?_
  refine Vs 3 ?_
  refine RQ (decide ((x0.Points.length : Int) > 64)) (fun hb30 => ?_) (fun hb30 => ?_)
  ·refine Ss hb30 4 ?_
   refine Pk1 hb30 ?_
   refine Vs 1 ?_
   refine Ss (rfl : true = true) 4 ?_
   refine Pk1 (rfl : true = true) ?_
   refine Vs 1 ?_
   refine Ss (rfl : true = true) 4 ?_
   refine Pk1 (rfl : true = true) ?_
   exact RF ⟨rfl, F0, hs23, (RM _), (fJ ⟨rfl, (congrArg Value.bool (Fj hb30 rfl)), trivial⟩)⟩
  ·refine Vgs hb30 1 ?_
   refine Lg hb30 hs23.at0 ?_
   refine Vgs hb30 2 ?_
   refine Pk0 hb30 ?_
   refine Vs 1 ?_
   refine RQ (decide ((x0.Multipliers.length : Int) > 64)) (fun hb31 => ?_) (fun hb31 => ?_)
   ·refine Ss hb31 4 ?_
    refine Pk1 hb31 ?_
    refine Vs 1 ?_
    refine Ss (rfl : true = true) 4 ?_
    refine Pk1 (rfl : true = true) ?_
    exact RF ⟨rfl, F0, hs23, (RM _), (fJ ⟨rfl, (congrArg Value.bool (BJ hb30 (Fj hb31 rfl))), trivial⟩)⟩
   ·refine Vgs hb31 1 ?_
    refine Lg hb31 hs23.at0 ?_
    refine Vgs hb31 2 ?_
    refine Pk0 hb31 ?_
    refine Vs 1 ?_
    refine RQ (decide ((x0.Penalties.length : Int) > 64)) (fun hb32 => ?_) (fun hb32 => ?_)
    ·refine Ss hb32 4 ?_
     refine Pk1 hb32 ?_
     exact RF ⟨rfl, F0, hs23, (RM _), (fJ ⟨rfl, (congrArg Value.bool (BJ hb30 (BJ hb31 (Fj hb32 rfl)))), trivial⟩)⟩
    ·refine Vgs hb32 1 ?_
     refine Lg hb32 hs23.at0 ?_
     refine Vgs hb32 2 ?_
     refine Pk0 hb32 ?_
     exact RF ⟨rfl, F0, hs23, (RM _), (fJ ⟨rfl, (congrArg Value.bool (BJ hb30 (BJ hb31 (BJ hb32 rfl)))), trivial⟩)⟩
 ·rintro f w24 ⟨F1, hs25, le26, ⟨_, rfl⟩⟩
  refine Ac ?_
  refine Cd h (fun hb33 h34 => ?_) (fun hb33 h35 => ?_)
  ·refine Sq (Rg [0, 1] ?_)
   refine Vs 2 ?_
   refine Nt ?_
   refine Rt ?_
   refine Ae ?_
   obtain rfl := Aa h34
   exact Re [(vi 2), (vi 0)] hs25 rfl
  ·refine Sc ?_
   refine Ac ?_
   refine Sq (Rg [0] ?_)
   refine Vs 1 ?_
   refine Nss (Rg [0, 1, 2, 3, 4, 5, 6, 7] ?_)
   refine Vs 1 ?_
   refine Ld hs25.at0 ?_
   refine Vs 1 ?_
   refine Ld hs25.at0 ?_
   refine Vs 1 ?_
   refine Ld hs25.at0 ?_
   refine Bs 23 [(.slice a0_0 x0.Points.length n0_0), (.slice a0_1 x0.Multipliers.length n0_1), (.slice a0_2 x0.Penalties.length n0_2)] hs25 (fun b36 w37 hs38 => ?_)
   have hr40 : Aq (tSl Av) 23 F1 (some ⟨b36, 0, none⟩) 3 [x0.Points, x0.Multipliers, x0.Penalties] (some b36, .cells ([(.slice a0_0 x0.Points.length n0_0), (.slice a0_1 x0.Multipliers.length n0_1), (.slice a0_2 x0.Penalties.length n0_2)] : List Value).toArray 23 (0, 0)) := R6 ⟨⟨a0_0, n0_0, rfl, hb0_0, (RO hs0_0 le26)⟩, ⟨⟨a0_1, n0_1, rfl, hb0_1, (RO hs0_1 le26)⟩, ⟨⟨a0_2, n0_2, rfl, hb0_2, (RO hs0_2 le26)⟩, rfl⟩⟩⟩ (by simp)
   refine Vs 1 ?_
   refine Nss ?_
   refine Sq (Rg [0] ?_)
   refine Vs 1 ?_
   refine Nt ?_
   obtain ⟨o41, ho42, h43⟩ := bind_some h35
   refine RS (fun f w => ∃ (s53 : (Int × Int)) (F3 : Mem), o41 = .done s53 /\ HS w0 F0 w F3 [(sb b21 (AY x0 a0_0 n0_0 a0_1 n0_1 a0_2 n0_2 a0_3 n0_3) 26)] /\ RL F1 F3 /\ FI f [] [(1, (pt b21 0)), (4, (vi s53.1))]) ?_ ?_
   ·refine Bk ?_
    refine RK (by kernel_rfl) (fun m f w => ∃ (s44 : (Int × Int)) (F2 : Mem), AZ (B3 N x0) m s44 = some o41 /\ HS w0 F0 w F2 [(some b36, .cells ([(.slice a0_0 x0.Points.length n0_0), (.slice a0_1 x0.Multipliers.length n0_1), (.slice a0_2 x0.Penalties.length n0_2)] : List Value).toArray 23 (0, 0)), (sb b21 (AY x0 a0_0 n0_0 a0_1 n0_1 a0_2 n0_2 a0_3 n0_3) 26)] /\ RL F1 F2 /\ FI f [] [(1, (pt b21 0)), (4, (vi s44.1)), (5, (.slice (some ⟨b36, 0, none⟩) [x0.Points, x0.Multipliers, x0.Penalties].length 3)), (6, (vi s44.2))]) N ⟨(1, 0), F1, ho42, hs38, (RM _), fI⟩ ?_
    rintro m60 f w45 ⟨s44, F2, hit61, hs46, le47, ⟨_, rfl⟩⟩
    obtain ⟨m62, fl63, rfl, hb64, hnx65⟩ := AR hit61
    refine Sq ?_
    refine Sq (Rg [0, 1, 2, 3] ?_)
    refine Vs 4 ?_
    refine Nt ?_
    refine Cd hb64 (fun hb66 h67 => ?_) (fun hb66 h68 => ?_)
    ·refine Sc ?_
     refine Ac ?_
     refine Sq ?_
     refine Bk ?_
     refine Sq (Rg [0, 1, 2, 3, 4, 5] ?_)
     refine Vs 2 ?_
     obtain ⟨x69, hx70, h72⟩ := bind_some h67
     obtain ⟨hi71, hx70'⟩ := As hx70
     obtain ⟨b73, C74, ha75, he76, hE77⟩ := Aq.open (hr40.mono le47) hx70'
     cases ha75
     cases he76
     obtain ⟨ae78_0, ne78_0, hc79, hbe78_0, hse78_0⟩ := hE77 _ _ hx70'
     refine Ix0 hi71 ?_
     refine Lx 0 hs46.at0 hc79 ?_
     obtain ⟨r80, hr81, h82⟩ := bind_some h72
     refine Cl' Jl hs46 (J2 N w45 F2 hs46.pers x69 ae78_0 ne78_0 hbe78_0 hse78_0 _ hr81) ?_
     rintro _ F4 w84 hs85 le86 rfl
     refine Vs 1 ?_
     refine Nss ?_
     refine Sq (Rg [0, 1, 2, 3, 4, 5, 6] ?_)
     refine Vs 3 ?_
     obtain ⟨x88, hx89, h91⟩ := bind_some h82
     obtain ⟨hi90, hx89'⟩ := As hx89
     obtain ⟨b92, C93, ha94, he95, hE96⟩ := Aq.open (hr40.mono (le47.trans le86)) hx89'
     cases ha94
     cases he95
     obtain ⟨ae97_0, ne97_0, hc98, hbe97_0, hse97_0⟩ := hE96 _ _ hx89'
     refine Ix0 hi90 ?_
     refine Lx 0 hs85.at0 hc98 ?_
     refine Vs 2 ?_
     refine Nt ?_
     refine Cd h91 (fun hb99 h100 => ?_) (fun hb99 h101 => ?_)
     ·refine Sq (Rg [0, 1, 2, 3, 4] ?_)
      refine Vs 5 ?_
      refine Nt ?_
      refine Rt ?_
      refine Ae ?_
      refine Ai ?_
      refine Ae ?_
      refine Ae ?_
      refine Ai ?_
      have hret := Bo h100 hnx65
      subst hret
      refine .inr ?_
      refine Ae ?_
      obtain rfl := Aa h43
      exact Re [(vi 62), (vi (W64 (s44.1 + r80)))] hs85 rfl
     ·refine Sc ?_
      refine Ac ?_
      refine Rg [0, 1, 2, 3] ?_
      refine Vs 4 ?_
      refine RF ?_
      refine Ap ?_
      refine Ac ?_
      refine Rg [0, 1, 2] ?_
      refine Vs 3 ?_
      refine RF ?_
      have hn102 := AL h101 hnx65
      exact ⟨m62, Nat.lt_succ_self _, ((W64 (s44.1 + r80)), (W64 (s44.2 + 1))), F4, hn102, hs85, (le47.trans le86), fI⟩
    ·refine Ex ?_
     refine Ax ?_
     refine Ax ?_
     refine AF rfl ?_
     have ho103 := AU h68 hnx65
     exact .inl ⟨rfl, (s44.1, s44.2), F2, ho103, hs46.dr0, le47, fI⟩
   ·rintro f w54 ⟨s53, F3, rfl, hs55, le56, ⟨_, rfl⟩⟩
    have h104 := Bm h43
    refine Ac ?_
    refine Sq ?_
    refine Sq (Rg [0] ?_)
    refine Vs 1 ?_
    refine Nt ?_
    obtain ⟨o105, ho106, h107⟩ := bind_some h104
    refine RS (fun f w => ∃ (s116 : Int) (F6 : Mem), o105 = .done s116 /\ HS w0 F0 w F6 [] /\ RL F3 F6 /\ FI f [] []) ?_ ?_
    ·refine Bk ?_
     refine RK (by kernel_rfl) (fun m f w => ∃ (s108 : Int) (F5 : Mem), AZ (CZ N x0 s53) m s108 = some o105 /\ HS w0 F0 w F5 [(sb b21 (AY x0 a0_0 n0_0 a0_1 n0_1 a0_2 n0_2 a0_3 n0_3) 26)] /\ RL F3 F5 /\ FI f [] [(1, (pt b21 0)), (4, (vi s53.1)), (8, (vi s108))]) N ⟨0, F3, ho106, hs55, (RM _), fI⟩ ?_
     rintro m121 f w109 ⟨s108, F5, hit122, hs110, le111, ⟨_, rfl⟩⟩
     obtain ⟨m123, fl124, rfl, hb125, hnx126⟩ := AR hit122
     refine Sq ?_
     refine Sq (Rg [0, 1, 2, 3, 4] ?_)
     refine Vs 2 ?_
     refine Ld hs110.at0 ?_
     refine Vs 2 ?_
     refine Nt ?_
     refine Cd hb125 (fun hb127 h128 => ?_) (fun hb127 h129 => ?_)
     ·refine Sc ?_
      refine Ac ?_
      refine Sq ?_
      refine Bk ?_
      refine Sq (Rg [0, 1, 2, 3, 4, 5, 6] ?_)
      refine Vs 1 ?_
      refine Ld hs110.at0 ?_
      refine Vs 1 ?_
      obtain ⟨x130, hx131, h133⟩ := bind_some h128
      obtain ⟨hi132, hx131'⟩ := As hx131
      obtain ⟨b134, o135, C136, E137, fz138, rfl, hF140, hE141⟩ := RV (RO hs0_3 ((le26.trans le56).trans le111)) hx131'
      obtain ⟨ae142_2, ne142_2, hc143, hbe142_2, hse142_2⟩ := (AC (hE141 _ _ hx131'))
      refine Ix hi132 ?_
      refine Lx 0 (hs110.pers _ _ hF140) hc143 ?_
      obtain ⟨r144, hr145, h146⟩ := bind_some h133
      refine Cl' EB hs110 (E9 N w109 F5 hs110.pers x130 ae142_2 ne142_2 hbe142_2 hse142_2 1 _ hr145) ?_
      rintro _ F7 w148 hs149 le150 rfl
      refine Vs 1 ?_
      refine Nt ?_
      refine Cd h146 (fun hb152 h153 => ?_) (fun hb152 h154 => ?_)
      ·refine Sq (Rg [0, 1, 2, 3, 4] ?_)
       refine Vs 5 ?_
       refine Nt ?_
       refine Rt ?_
       refine Ai ?_
       refine Ae ?_
       refine Ae ?_
       refine Ai ?_
       have hret := Bo h153 hnx126
       subst hret
       refine .inr ?_
       refine Ae ?_
       obtain rfl := Aa h107
       exact Re [(vi 62), (vi (W64 (s53.1 + s108)))] hs149 rfl
      ·refine Sc ?_
       refine Ap ?_
       refine Ac ?_
       refine Rg [0, 1, 2] ?_
       refine Vs 3 ?_
       refine RF ?_
       have hn155 := AL h154 hnx126
       exact ⟨m123, Nat.lt_succ_self _, (W64 (s108 + 1)), F7, hn155, hs149, (le111.trans le150), fI⟩
     ·refine Ex ?_
      refine Ax ?_
      refine Ax ?_
      refine AF rfl ?_
      have ho156 := AU h129 hnx126
      exact .inl ⟨rfl, s108, F5, ho156, hs110.dr0, le111, fI⟩
    ·rintro f w117 ⟨s116, F6, rfl, hs118, le119, ⟨_, rfl⟩⟩
     have h157 := Bm h107
     refine Ac ?_
     refine Sq (Rg [0, 1] ?_)
     refine Vs 2 ?_
     refine Nt ?_
     refine Rt ?_
     obtain rfl := Aa h157
     exact Re [(vi 0), (vi 0)] hs118 rfl
def EQ (N : Nat) (x0 : Bp) : Option Bool :=
 ((DJ N x0).bind fun r24 => some (r24.1 == 0))
theorem KU : Ak Tryz.prog 74 := fun _ _ => by kernel_rfl
theorem LB (N : Nat) (w0 : World) (F0 : Mem) (hF : Sa w0 F0) (x0 : Bp) (a0_0 : R9) (n0_0 : Nat) (hb0_0 : LC x0.Points.length n0_0) (hs0_0 : SlA Av F0 a0_0 x0.Points) (a0_1 : R9) (n0_1 : Nat) (hb0_1 : LC x0.Multipliers.length n0_1) (hs0_1 : SlA Av F0 a0_1 x0.Multipliers) (a0_2 : R9) (n0_2 : Nat) (hb0_2 : LC x0.Penalties.length n0_2) (hs0_2 : SlA Av F0 a0_2 x0.Penalties) (a0_3 : R9) (n0_3 : Nat) (hb0_3 : LC x0.Repeats.length n0_3) (hs0_3 : SlA Ao F0 a0_3 x0.Repeats) (r : Bool) (h : EQ N x0 = some r) :
  Calls Tryz.prog 74 ([(.agg (AY x0 a0_0 n0_0 a0_1 n0_1 a0_2 n0_2 a0_3 n0_3))] : List Value).toArray w0 (AK w0 F0 fun F' v => v = (.bool r)) := by
 have hs0 := RN hF
 refine Go 12 Tryz.func74 ?_
 refine Sq (Rg [0, 1] ?_)
 refine Bx' 26 (AY x0 a0_0 n0_0 a0_1 n0_1 a0_2 n0_2 a0_3 n0_3) hs0 (fun b21 w22 hs23 => ?_)
 refine Vs 1 ?_
 refine Nss (Rg [0, 1, 2, 3, 4, 5, 6] ?_)
 refine Ld hs23.at0 ?_
 obtain ⟨r24, hr25, h26⟩ := bind_some h
 refine Cl' GO hs23 (HB N w22 F0 hs23.pers x0 a0_0 n0_0 hb0_0 hs0_0 a0_1 n0_1 hb0_1 hs0_1 a0_2 n0_2 hb0_2 hs0_2 a0_3 n0_3 hb0_3 hs0_3 _ hr25) ?_
 rintro _ F1 w28 hs29 le30 rfl
 refine Vs 5 ?_
 refine Nss (Rg [0, 1, 2] ?_)
 refine Vs 3 ?_
 refine Nt ?_
 refine Rt ?_
 obtain rfl := Aa h26
 exact Re [(.bool (r24.1 == 0))] hs29 rfl

structure NZ (N : Nat) (l : List Clause) : Prop where
 n : l.length < N
 w : l.length < 9223372036854775808
 c : ∀ c, c ∈ l -> PF N c
structure Rk (N : Nat) (l : List Expr) : Prop where
 n : l.length < N
 w : l.length < 9223372036854775808
 c : ∀ c, c ∈ l -> Fit N c
structure N0 (N : Nat) (b : Bp) : Prop where
 p : NZ N b.Points
 m : NZ N b.Multipliers
 e : NZ N b.Penalties
 r : Rk N b.Repeats
def fi {α : Type} (p : α -> Bool) (l : List α) : Int := if l.any p then (l.findIdx p : Int) else -1
section
variable {N : Nat} {f : List Int}
theorem Nm {l : List Clause} (h : NZ N l) : Dz N l = some ((l.findIdx fun c => !CQ c : Nat) : Int) := by
 unfold Dz
 rw [Ew l (fun c => !CQ c) (fun i => (i : Int)) (fun i hi => by
  unfold Cu
  rw [I7 hi, cond_true, Cw hi, Option.bind_some, OY (h.c _ (List.getElem_mem hi)), Option.bind_some]) (by unfold Cu; rw [I8, cond_false]) h.n h.w]
 cases ha : l.any fun c => !CQ c with
 | true => rfl
 | false =>
  rw [List.findIdx_eq_length.2 (fun x hx => by
   rw [List.any_eq_false] at ha; have := ha x hx; simpa using this)]
  rfl
def isT (f : List Int) (c : Clause) : Bool := val f c.When == 1
noncomputable def wt (l : List Clause) : Int := l.foldl (fun s c => W64 (s + W64 (nd c.When + nd c.Then))) (l.length : Int)
theorem Kh {l : List Clause} (h : NZ N l) : Cv N l = some (wt l) := by
 unfold Cv wt
 rw [Fk l (fun c => (Bl N c.When).bind fun r78 => ((Bl N c.Then).bind fun r86 => some (W64 (r78 + r86)))) (fun c => W64 (nd c.When + nd c.Then)) (fun s r => W64 (s + r)) (fun c hc => by rw [J6 (h.c c hc).1, Option.bind_some, J6 (h.c c hc).2]; rfl) (fun s i => by
  unfold DW
  simp only
  cases decide (i < (l.length : Int)) with
  | false => rfl
  | true =>
   rw [cond_true, cond_true]
   cases idx l i with
   | none => rfl
   | some c =>
    simp only [Option.bind_some]
    cases Bl N c.When with
    | none => rfl
    | some a =>
     simp only [Option.bind_some]
     cases Bl N c.Then <;> rfl) h.n h.w]
 rfl
noncomputable def NE (b : Bp) : Bool := decide (b.Repeats.foldl (fun s e => W64 (s + nd e)) (W64 (W64 (wt b.Points + wt b.Multipliers) + wt b.Penalties)) <= 2000)
theorem PK {b : Bp} (h : N0 N b) : ES N b = some (NE b) := by
 unfold ES NE
 rw [Kh h.p, Option.bind_some, Kh h.m, Option.bind_some, Kh h.e, Option.bind_some, Option.bind_some]
 rw [Fk b.Repeats (fun e => Bl N e) nd (fun s r => W64 (s + r)) (fun e he => J6 (h.r.c e he)) (fun s i => rfl) h.r.n h.r.w]
 rfl
end
section
variable {N : Nat} {f : List Int}
noncomputable def chk (b : Bp) : Int × Int :=
 if b.Points.length > 64 \/ b.Multipliers.length > 64 \/ b.Penalties.length > 64 \/ b.Repeats.length > 64 then (2, 0)
 else if (b.Points ++ b.Multipliers ++ b.Penalties).any (fun c => !CQ c) then (62, ((b.Points ++ b.Multipliers ++ b.Penalties).findIdx (fun c => !CQ c) : Int) + 1)
 else if b.Repeats.any (fun e => !HT e 1) then (62, ((b.Points ++ b.Multipliers ++ b.Penalties).length : Int) + (b.Repeats.findIdx (fun e => !HT e 1) : Int) + 1)
 else (0, 0)
theorem O0 (hN : 1000 < N) {a b c : List Clause} (ha : a.length <= 64) (hb : b.length <= 64) (hc : c.length <= 64) : A0 N [a, b, c] = some (a ++ b ++ c) := by
 obtain ⟨m, rfl⟩ : ∃ m, N = m + 4 := ⟨N - 4, by omega⟩
 unfold A0
 have h1 : AZ (AD (m + 4) [a, b, c]) (m + 4) (0, 0) = some (.done (((a.length + b.length + c.length : Nat) : Int), 3)) := by
  have st : ∀ (n k : Nat) (x : List Clause), n <= 1000 -> x.length <= 64 -> k < 3 -> [a, b, c][k]? = some x -> AD (m + 4) [a, b, c] ((n : Int), (k : Int)) = some (.next (((n + x.length : Nat) : Int), ((k + 1 : Nat) : Int))) := by
   intro n k x hn hx hk hg
   unfold AD
   simp only
   rw [show ([a, b, c].length : Int) = ((3 : Nat) : Int) from rfl, I7 hk, cond_true, KK, hg, Option.bind_some]
   have e : W64 ((n : Int) + (x.length : Int)) = ((n + x.length : Nat) : Int) := by rw [<- Int.natCast_add, Kb (by omega)]
   rw [e, decide_eq_false (by omega), cond_false, Cr (by omega)]
  rw [AZ, show ((0 : Int), (0 : Int)) = (((0 : Nat) : Int), ((0 : Nat) : Int)) from rfl, st 0 0 a (by omega) ha (by omega) rfl]
  simp only
  rw [AZ, st _ 1 b (by omega) hb (by omega) rfl]
  simp only
  rw [AZ, st _ 2 c (by omega) hc (by omega) rfl]
  simp only
  rw [AZ]
  unfold AD
  simp only
  rw [show ([a, b, c].length : Int) = ((2 + 1 : Nat) : Int) from rfl, I8, cond_false]
  simp only [Nat.zero_add]
  rfl
 rw [h1]
 have h2 : A4 (m + 4) ((a.length + b.length + c.length : Nat) : Int) = some [] := by
  unfold A4
  rw [decide_eq_false (by omega), cond_false]
  have e0 : W64 (0 - (([] : List Clause).length : Int)) = 0 := rfl
  rw [e0, Int.sub_zero, Kb (by omega)]
  by_cases h0 : (0 : Int) < ((a.length + b.length + c.length : Nat) : Int)
  ·rw [decide_eq_true h0, cond_true]
   unfold mk0
   rw [if_pos ⟨by omega, by omega⟩]
   simp [sub]
  ·rw [decide_eq_false (by omega), cond_false]
 simp only [Be.k, Option.bind_some]
 rw [h2, Option.bind_some]
 have st : ∀ (s : List Clause) (k : Nat) (x : List Clause), s.length <= 1000 -> x.length <= 64 -> k < 3 -> [a, b, c][k]? = some x -> AM (m + 4) [a, b, c] (((a.length + b.length + c.length : Nat) : Int), 3) [] (s, (k : Int)) = some (.next (s ++ x, ((k + 1 : Nat) : Int))) := by
  intro s k x hn hx hk hg
  unfold AM
  simp only
  rw [show ([a, b, c].length : Int) = ((3 : Nat) : Int) from rfl, I7 hk, cond_true, KK, hg, Option.bind_some, Mq (by omega), Option.bind_some, Cr (by omega)]
 rw [AZ, show (([] : List Clause), (0 : Int)) = (([] : List Clause), ((0 : Nat) : Int)) from rfl, st [] 0 a (by simp) ha (by omega) rfl]
 simp only
 rw [AZ, st _ 1 b (by simp; omega) hb (by omega) rfl]
 simp only
 rw [AZ, st _ 2 c (by simp; omega) hc (by omega) rfl]
 simp only
 rw [AZ]
 unfold AM
 simp only
 rw [show ([a, b, c].length : Int) = ((2 + 1 : Nat) : Int) from rfl, I8, cond_false]
 simp only [Option.bind_some, List.nil_append]
end
theorem Md {x : Expr} (h : H1 x) : ∃ n0, ∀ N, n0 <= N -> Fit N x := by
 obtain ⟨n, hn⟩ := h
 exact ⟨3518437208781 + (2 * n + 10), fun N hN => ⟨n, hn.wide (by omega), by omega⟩⟩
theorem Me {α : Type} {P : Nat -> α -> Prop} : ∀ {l : List α}, (∀ x, x ∈ l -> ∃ n0, ∀ N, n0 <= N -> P N x) -> ∃ n0, ∀ N, n0 <= N -> ∀ x, x ∈ l -> P N x
 | [], _ => ⟨0, fun _ _ x hx => by cases hx⟩
 | a :: l, h => by
  obtain ⟨n, hn⟩ := h a (List.mem_cons_self ..)
  obtain ⟨m, hm⟩ := Me fun x hx => h x (List.mem_cons_of_mem _ hx)
  refine ⟨n + m, fun N hN x hx => ?_⟩
  rcases List.mem_cons.1 hx with rfl | hx
  ·exact hn N (by omega)
  ·exact hm N (by omega) x hx
theorem Mf {l : List Clause} (h : l.length < 9223372036854775808 /\ ∀ c, c ∈ l -> H2 c) : ∃ n0, ∀ N, n0 <= N -> NZ N l := by
 obtain ⟨n, hn⟩ := Me (P := PF) (l := l) (fun c hc => by
  obtain ⟨a, ha⟩ := Md (h.2 c hc).1
  obtain ⟨b, hb⟩ := Md (h.2 c hc).2
  exact ⟨a + b, fun N hN => ⟨ha N (by omega), hb N (by omega)⟩⟩)
 exact ⟨n + l.length + 1, fun N hN => ⟨by omega, h.1, hn N (by omega)⟩⟩
theorem Qf {l : List Expr} (h : l.length < 9223372036854775808 /\ ∀ c, c ∈ l -> H1 c) : ∃ n0, ∀ N, n0 <= N -> Rk N l := by
 obtain ⟨n, hn⟩ := Me (P := Fit) (l := l) (fun c hc => Md (h.2 c hc))
 exact ⟨n + l.length + 1, fun N hN => ⟨by omega, h.1, hn N (by omega)⟩⟩
theorem Qg {b : Bp} (h : O6 b) : ∃ n0, ∀ N, n0 <= N -> N0 N b := by
 obtain ⟨h1, h2, h3, h4⟩ := h
 obtain ⟨a, ha⟩ := Mf h1
 obtain ⟨b, hb⟩ := Mf h2
 obtain ⟨c, hc⟩ := Mf h3
 obtain ⟨d, hd⟩ := Qf h4
 exact ⟨a + b + c + d, fun N hN => ⟨ha N (by omega), hb N (by omega), hc N (by omega), hd N (by omega)⟩⟩
def HZ (N : Nat) (x0 : Bp) (x1 : (List Int)) : Option (Int × Int) :=
 ((Jz N x0 x1).bind fun r24 => (bif (r24 != 0) then some (0, r24) else ((JA N x0.Points x1).bind fun r35 => (bif (decide (r35 < 0)) then some (0, 70) else ((idx x0.Points r35).bind fun x46 => ((EK N x46.Then x1).bind fun r60 => some (r60, 0)))))))
theorem JR : Ak Tryz.prog 41 := fun _ _ => by kernel_rfl
theorem K2 (N : Nat) (w0 : World) (F0 : Mem) (hF : Sa w0 F0) (x0 : Bp) (a0_0 : R9) (n0_0 : Nat) (hb0_0 : LC x0.Points.length n0_0) (hs0_0 : SlA Av F0 a0_0 x0.Points) (a0_1 : R9) (n0_1 : Nat) (hb0_1 : LC x0.Multipliers.length n0_1) (hs0_1 : SlA Av F0 a0_1 x0.Multipliers) (a0_2 : R9) (n0_2 : Nat) (hb0_2 : LC x0.Penalties.length n0_2) (hs0_2 : SlA Av F0 a0_2 x0.Penalties) (a0_3 : R9) (n0_3 : Nat) (hb0_3 : LC x0.Repeats.length n0_3) (hs0_3 : SlA Ao F0 a0_3 x0.Repeats) (x1 : (List Int)) (a1_0 : R9) (n1_0 : Nat) (hb1_0 : LC x1.length n1_0) (hs1_0 : SlA Bg F0 a1_0 x1) (r : (Int × Int)) (h : HZ N x0 x1 = some r) :
  Calls Tryz.prog 41 ([(.agg (AY x0 a0_0 n0_0 a0_1 n0_1 a0_2 n0_2 a0_3 n0_3)), (.slice a1_0 x1.length n1_0)] : List Value).toArray w0 (AK w0 F0 fun F' v => v = (.tuple #[(vi r.1), (vi r.2)])) := by
 have hs0 := RN hF
 refine Go 28 Tryz.func41 ?_
 refine Sq (Rg [0, 1, 2] ?_)
 refine Bx' 26 (AY x0 a0_0 n0_0 a0_1 n0_1 a0_2 n0_2 a0_3 n0_3) hs0 (fun b21 w22 hs23 => ?_)
 refine Vs 2 ?_
 refine Nss ?_
 refine Sq (Rg [0, 1, 2, 3] ?_)
 refine Ld hs23.at0 ?_
 refine Vs 1 ?_
 obtain ⟨r24, hr25, h26⟩ := bind_some h
 refine Cl' KR hs23 (Lv N w22 F0 hs23.pers x0 a0_0 n0_0 hb0_0 hs0_0 a0_1 n0_1 hb0_1 hs0_1 a0_2 n0_2 hb0_2 hs0_2 a0_3 n0_3 hb0_3 hs0_3 x1 a1_0 n1_0 hb1_0 hs1_0 _ hr25) ?_
 rintro _ F1 w28 hs29 le30 rfl
 refine Vs 1 ?_
 refine Nss (Rg [0, 1] ?_)
 refine Vs 2 ?_
 refine Nt ?_
 refine Cd h26 (fun hb32 h33 => ?_) (fun hb32 h34 => ?_)
 ·refine Sq (Rg [0, 1, 2] ?_)
  refine Vs 3 ?_
  refine Nt ?_
  refine Rt ?_
  refine Ae ?_
  obtain rfl := Aa h33
  exact Re [(vi 0), (vi r24)] hs29 rfl
 ·refine Sc ?_
  refine Ac ?_
  refine Sq (Rg [0, 1, 2, 3, 4] ?_)
  refine Vs 1 ?_
  refine Ld hs29.at0 ?_
  refine Vs 1 ?_
  obtain ⟨r35, hr36, h37⟩ := bind_some h34
  refine Cl' KT hs29 (Ly N w28 F1 hs29.pers x0.Points a0_0 n0_0 hb0_0 (RO hs0_0 le30) x1 a1_0 n1_0 hb1_0 (RO hs1_0 le30) _ hr36) ?_
  rintro _ F2 w39 hs40 le41 rfl
  refine Vs 1 ?_
  refine Nss ?_
  refine Sq (Rg [0, 1] ?_)
  refine Vs 2 ?_
  refine Nt ?_
  refine Cd h37 (fun hb43 h44 => ?_) (fun hb43 h45 => ?_)
  ·refine Sq (Rg [0, 1] ?_)
   refine Vs 2 ?_
   refine Nt ?_
   refine Rt ?_
   refine Ae ?_
   obtain rfl := Aa h44
   exact Re [(vi 0), (vi 70)] hs40 rfl
  ·refine Sc ?_
   refine Ac ?_
   refine Sq (Rg [0, 1, 2, 3, 4, 5, 6, 7, 8, 9] ?_)
   refine Vs 1 ?_
   refine Ld hs40.at0 ?_
   refine Vs 1 ?_
   obtain ⟨x46, hx47, h49⟩ := bind_some h45
   obtain ⟨hi48, hx47'⟩ := As hx47
   obtain ⟨b50, o51, C52, E53, fz54, rfl, hF56, hE57⟩ := RV (RO hs0_0 (le30.trans le41)) hx47'
   obtain ⟨ae58_2, ne58_2, ae58_5, ne58_5, hc59, hbe58_2, hse58_2, hbe58_5, hse58_5⟩ := hE57 _ _ hx47'
   refine Ix hi48 ?_
   refine Vs 1 ?_
   refine Lx 3 (hs40.pers _ _ hF56) hc59 ?_
   refine Vs 1 ?_
   obtain ⟨r60, hr61, h62⟩ := bind_some h49
   refine Cl' C3 hs40 (E6 N w39 F2 hs40.pers x46.Then ae58_5 ne58_5 hbe58_5 hse58_5 x1 a1_0 n1_0 hb1_0 (RO hs1_0 (le30.trans le41)) _ hr61) ?_
   rintro _ F3 w64 hs65 le66 rfl
   refine Vs 2 ?_
   refine Nt ?_
   refine Rt ?_
   obtain rfl := Aa h62
   exact Re [(vi r60), (vi 0)] hs65 rfl








def DC (N : Nat) (x0 : (List Int)) (x1 : (List Int)) : Int -> Option (Be Bool Int) := fun s27 =>
 (bif (decide (s27 < (x0.length : Int))) then (((idx x0 s27).bind fun x62 => ((idx x1 s27).bind fun x76 => some (x62 != x76))).bind fun j54 => (bif j54 then some (.ret false) else some (.next (W64 (s27 + 1))))) else some (.done s27))
def Ev (N : Nat) (x0 : (List Int)) (x1 : (List Int)) : Option Bool :=
 (bif ((x0.length : Int) != (x1.length : Int)) then some false else ((AZ (DC N x0 x1) N 0).bind fun o => o.k (fun r => some r) (fun s35 => some true)))
theorem Lt : Ak Tryz.prog 50 := fun _ _ => by kernel_rfl
theorem Mp (N : Nat) (w0 : World) (F0 : Mem) (hF : Sa w0 F0) (x0 : (List Int)) (a0_0 : R9) (n0_0 : Nat) (hb0_0 : LC x0.length n0_0) (hs0_0 : SlA Bg F0 a0_0 x0) (x1 : (List Int)) (a1_0 : R9) (n1_0 : Nat) (hb1_0 : LC x1.length n1_0) (hs1_0 : SlA Bg F0 a1_0 x1) (r : Bool) (h : Ev N x0 x1 = some r) :
  Calls Tryz.prog 50 ([(.slice a0_0 x0.length n0_0), (.slice a1_0 x1.length n1_0)] : List Value).toArray w0 (AK w0 F0 fun F' v => v = (.bool r)) := by
 have hs0 := RN hF
 refine Go 26 Tryz.func50 ?_
 refine Sq (Rg [0] ?_)
 refine Vs 1 ?_
 refine Nss ?_
 refine Sq (Rg [0, 1, 2, 3, 4] ?_)
 refine Vs 5 ?_
 refine Nt ?_
 refine Cd h (fun hb21 h22 => ?_) (fun hb21 h23 => ?_)
 ·refine Sq (Rg [0] ?_)
  refine Vs 1 ?_
  refine Nt ?_
  refine Rt ?_
  refine Ae ?_
  obtain rfl := Aa h22
  exact Re [(.bool false)] hs0 rfl
 ·refine Sc ?_
  refine Ac ?_
  refine Sq ?_
  refine Sq (Rg [0] ?_)
  refine Vs 1 ?_
  refine Nt ?_
  obtain ⟨o24, ho25, h26⟩ := bind_some h23
  refine RS (fun f w => ∃ (s35 : Int) (F2 : Mem), o24 = .done s35 /\ HS w0 F0 w F2 [] /\ RL F0 F2 /\ FI f [] []) ?_ ?_
  ·refine Bk ?_
   refine RK (by kernel_rfl) (fun m f w => ∃ (s27 : Int) (F1 : Mem), AZ (DC N x0 x1) m s27 = some o24 /\ HS w0 F0 w F1 [] /\ RL F0 F1 /\ FI f [] [(0, (.slice a0_0 x0.length n0_0)), (1, (.slice a1_0 x1.length n1_0)), (5, (vi s27))]) N ⟨0, F0, ho25, hs0, (RM _), fI⟩ ?_
   rintro m40 f w28 ⟨s27, F1, hit41, hs29, le30, ⟨_, rfl⟩⟩
   obtain ⟨m42, fl43, rfl, hb44, hnx45⟩ := AR hit41
   refine Sq ?_
   refine Sq (Rg [0, 1, 2, 3] ?_)
   refine Vs 4 ?_
   refine Nt ?_
   refine Cd hb44 (fun hb46 h47 => ?_) (fun hb46 h48 => ?_)
   ·refine Sc ?_
    refine Ac ?_
    refine Sq ?_
    refine Bk ?_
    refine Sq ?_
    obtain ⟨j54, hj60, h61⟩ := bind_some h47
    refine RD 9 9 [] [] hs29 (fun f w => ∃ (F3 : Mem), HS w0 F0 w F3 [] /\ RL F1 F3 /\ FI f [] [(0, (.slice a0_0 x0.length n0_0)), (1, (.slice a1_0 x1.length n1_0)), (5, (vi s27)), (25, (.bool j54))]) (fun wd49 hw50 => ?_) ?_
    ·refine Dv [0, 1] ?_
     obtain ⟨x62, hx63, h65⟩ := bind_some hj60
     obtain ⟨hi64, hx63'⟩ := As hx63
     obtain ⟨b66, o67, C68, E69, fz70, rfl, hF72, hE73⟩ := RV (RO hs0_0 le30) hx63'
     have hc75 := hE73 _ _ hx63'
     refine Di 2 hi64 ?_
     refine Dx 3 0 (fun _ hq => hq.1.1 _ _ hF72) hc75 ?_
     refine Dv [4, 5] ?_
     obtain ⟨x76, hx77, h79⟩ := bind_some h65
     obtain ⟨hi78, hx77'⟩ := As hx77
     obtain ⟨b80, o81, C82, E83, fz84, rfl, hF86, hE87⟩ := RV (RO hs1_0 le30) hx77'
     have hc89 := hE87 _ _ hx77'
     refine Di 6 hi78 ?_
     refine Dx 7 0 (fun _ hq => hq.1.1 _ _ hF86) hc89 ?_
     refine Dv [8] ?_
     obtain rfl := Aa h79
     exact R3 (by kernel_rfl) ⟨F1, hw50, (RM _), fI⟩
    ·rintro f w51 ⟨F3, hs52, le53, ⟨_, rfl⟩⟩
     refine Ac ?_
     refine Cd h61 (fun hb90 h91 => ?_) (fun hb90 h92 => ?_)
     ·refine Sq (Rg [0] ?_)
      refine Vs 1 ?_
      refine Nt ?_
      refine Rt ?_
      refine Ai ?_
      refine Ae ?_
      refine Ae ?_
      refine Ai ?_
      have hret := Bo h91 hnx45
      subst hret
      refine .inr ?_
      refine Ae ?_
      obtain rfl := Aa h26
      exact Re [(.bool false)] hs52 rfl
     ·refine Sc ?_
      refine Ap ?_
      refine Ac ?_
      refine Rg [0, 1, 2] ?_
      refine Vs 3 ?_
      refine RF ?_
      have hn93 := AL h92 hnx45
      exact ⟨m42, Nat.lt_succ_self _, (W64 (s27 + 1)), F3, hn93, hs52, (le30.trans le53), fI⟩
   ·refine Ex ?_
    refine Ax ?_
    refine Ax ?_
    refine AF rfl ?_
    have ho94 := AU h48 hnx45
    exact .inl ⟨rfl, s27, F1, ho94, hs29, le30, fI⟩
  ·rintro f w36 ⟨s35, F2, rfl, hs37, le38, ⟨_, rfl⟩⟩
   have h95 := Bm h26
   refine Ac ?_
   refine Sq (Rg [0] ?_)
   refine Vs 1 ?_
   refine Nt ?_
   refine Rt ?_
   obtain rfl := Aa h95
   exact Re [(.bool true)] hs37 rfl
section
variable {N : Nat} {f : List Int}
theorem Qz {a b c d : Nat} : decide ((max (max (max (a : Int) (b : Int)) (c : Int)) (d : Int)) > 64) = decide (a > 64 \/ b > 64 \/ c > 64 \/ d > 64) := by
 congr 1; rw [eq_iff_iff]; omega
theorem KJ {α : Type} (l : List α) (p : α -> Bool) (n0 : Nat) {body : Int × Int -> Option (Be (Int × Int) (Int × Int))} (hs : n0 + l.length < 1000000)
  (hb : ∀ (n : Nat) (i : Nat) (h : i < l.length), body ((n : Int), (i : Int)) = bif p l[i] then some (.ret (62, W64 ((n : Int) + 1))) else some (.next (W64 ((n : Int) + 1), W64 ((i : Int) + 1)))) (he : ∀ n, body (n, (l.length : Int)) = some (.done (n, (l.length : Int))))
  (hN : l.length < N) :
  AZ body N ((n0 : Int), 0) = some (bif l.any p then .ret (62, (n0 : Int) + (l.findIdx p : Int) + 1) else .done (((n0 + l.length : Nat) : Int), (l.length : Int))) := by
 obtain ⟨o, ho, rfl⟩ := G4 (body := body) l.length (fun i s => s = (((n0 + i : Nat) : Int), (i : Int)) /\ ∀ k (h : k < l.length), k < i -> p l[k] = false) (fun o => o = bif l.any p then .ret (62, (n0 : Int) + (l.findIdx p : Int) + 1) else .done (((n0 + l.length : Nat) : Int), (l.length : Int))) (by
  rintro i s hi ⟨rfl, hk⟩
  by_cases h : i < l.length
  ·cases e : p l[i] with
   | false =>
    refine .inl ⟨_, by rw [hb _ i h, e, cond_false, Cr (by omega), Cr (by omega)]; rfl, ⟨rfl, fun k hk' hki => ?_⟩, h⟩
    by_cases hki' : k = i
    ·subst hki'; exact e
    ·exact hk k hk' (by omega)
   | true =>
    refine .inr ⟨_, by rw [hb _ i h, e, cond_true, Cr (by omega)], fun _ h => (by cases h), ?_⟩
    have h1 : l.any p = true := List.any_eq_true.2 ⟨_, List.getElem_mem h, e⟩
    have h2 : l.findIdx p = i := by
     rw [List.findIdx_eq h]
     exact ⟨e, fun k hk' => hk k (by omega) hk'⟩
    rw [h1, cond_true, h2]
    congr 2
  ·have : i = l.length := by omega
   subst this
   refine .inr ⟨_, he _, fun _ h => (by cases h), ?_⟩
   have h1 : l.any p = false := by
    rw [List.any_eq_false]
    intro x hx
    obtain ⟨k, hk', rfl⟩ := List.getElem_of_mem hx
    rw [hk k hk' hk']; simp
   rw [h1, cond_false]) l.length N 0 ((n0 : Int), 0) (by omega) ⟨rfl, fun k h hk => by omega⟩ hN
 exact ho
theorem N5 (hN : 1000 < N) {b : Bp} (h : N0 N b) : DI N b = some (chk b) := by
 unfold DI chk
 rw [Qz]
 by_cases hl : b.Points.length > 64 \/ b.Multipliers.length > 64 \/ b.Penalties.length > 64 \/ b.Repeats.length > 64
 ·rw [decide_eq_true hl, cond_true, if_pos hl]
 ·rw [decide_eq_false hl, cond_false, if_neg hl]
  have hl' : b.Points.length <= 64 /\ b.Multipliers.length <= 64 /\ b.Penalties.length <= 64 /\ b.Repeats.length <= 64 := by omega
  rw [O0 hN hl'.1 hl'.2.1 hl'.2.2.1, Option.bind_some]
  generalize hal : b.Points ++ b.Multipliers ++ b.Penalties = al
  have hlen : al.length <= 192 := by rw [<- hal]; simp; omega
  have hfit : ∀ c, c ∈ al -> PF N c := by
   intro c hc
   rw [<- hal] at hc
   simp only [List.mem_append] at hc
   rcases hc with (hc | hc) | hc
   ·exact h.p.c c hc
   ·exact h.m.c c hc
   ·exact h.e.c c hc
  have h1 := KJ (N := N) al (fun c => !CQ c) 0 (body := Cm N b al) (by omega) (fun n i hi => by
   unfold Cm
   simp only
   rw [I7 hi, cond_true, Cw hi, Option.bind_some, Lj (hfit _ (List.getElem_mem hi)), Option.bind_some]) (fun n => by unfold Cm; simp only; rw [I8, cond_false]) (by omega)
  rw [show ((0 : Int), (0 : Int)) = (((0 : Nat) : Int), (0 : Int)) from rfl, h1]
  cases ha : al.any fun c => !CQ c with
  | true => simp [Be.k]
  | false =>
   have h2 := KJ (N := N) b.Repeats (fun e => !HT e 1) (0 + al.length) (body := Cl N b al (((0 + al.length : Nat) : Int), (al.length : Int))) (by omega) (fun n i hi => by
    unfold Cl
    simp only
    rw [I7 hi, cond_true, Cw hi, Option.bind_some, Qt (h.r.c _ (List.getElem_mem hi)) (by decide), Option.bind_some]) (fun n => by unfold Cl; simp only; rw [I8, cond_false]) (by omega)
   simp only [Be.k, cond_false, Option.bind_some, Bool.false_eq_true, if_false]
   rw [h2]
   cases b.Repeats.any fun e => !HT e 1 with
   | true => simp
   | false => simp
theorem QG {α : Type} {l : List α} {p : α -> Bool} : l.findIdx p < l.length ↔ l.any p = true := by
 rw [List.findIdx_lt_length]; simp
theorem ML (hN : 1000 < N) {b : Bp} (h : N0 N b) : DJ N b = some (chk b) := by
 unfold DJ chk
 by_cases hl : b.Points.length > 64 \/ b.Multipliers.length > 64 \/ b.Penalties.length > 64 \/ b.Repeats.length > 64
 ·rw [if_pos hl]
  have : (decide ((b.Points.length : Int) > 64) || (decide ((b.Multipliers.length : Int) > 64) || (decide ((b.Penalties.length : Int) > 64) || decide ((b.Repeats.length : Int) > 64)))) = true := by
   simp; omega
  rw [this, cond_true]
 ·rw [if_neg hl]
  have hl' : b.Points.length <= 64 /\ b.Multipliers.length <= 64 /\ b.Penalties.length <= 64 /\ b.Repeats.length <= 64 := by omega
  have : (decide ((b.Points.length : Int) > 64) || (decide ((b.Multipliers.length : Int) > 64) || (decide ((b.Penalties.length : Int) > 64) || decide ((b.Repeats.length : Int) > 64)))) = false := by
   simp; omega
  rw [this, cond_false]
  obtain ⟨m, rfl⟩ : ∃ m, N = m + 4 := ⟨N - 4, by omega⟩
  have st : ∀ (n k : Nat) (x : List Clause), n <= 1000 -> x.length <= 64 -> NZ (m + 4) x -> k < 3 -> [b.Points, b.Multipliers, b.Penalties][k]? = some x ->
    B3 (m + 4) b ((n : Int), (k : Int)) = some (bif x.any (fun c => !CQ c) then .ret (62, (n : Int) + (x.findIdx (fun c => !CQ c) : Int)) else .next (((n + x.length : Nat) : Int), ((k + 1 : Nat) : Int))) := by
   intro n k x hn hx hfit hk hg
   unfold B3
   simp only
   rw [show ([b.Points, b.Multipliers, b.Penalties].length : Int) = ((3 : Nat) : Int) from rfl, I7 hk, cond_true, KK, hg, Option.bind_some, Nm hfit, Option.bind_some, Option.bind_some]
   have hle : x.findIdx (fun c => !CQ c) <= x.length := List.findIdx_le_length
   rw [<- Int.natCast_add, Kb (by omega)]
   cases ha : x.any fun c => !CQ c with
   | true =>
    rw [decide_eq_true (by have := QG.2 ha; omega)]; rfl
   | false =>
    have he : x.findIdx (fun c => !CQ c) = x.length := by
     rcases Nat.lt_or_ge (x.findIdx fun c => !CQ c) x.length with h | h
     ·rw [QG] at h; rw [ha] at h; cases h
     ·omega
    rw [decide_eq_false (by omega), cond_false, cond_false, Cr (by omega), he]
  have hany : (b.Points ++ b.Multipliers ++ b.Penalties).any (fun c => !CQ c) = (b.Points.any (fun c => !CQ c) || b.Multipliers.any (fun c => !CQ c) || b.Penalties.any (fun c => !CQ c)) := by
   rw [List.any_append, List.any_append]
  have s1 := st 1 0 b.Points (by omega) hl'.1 h.p (by omega) rfl
  have s2 := st (1 + b.Points.length) 1 b.Multipliers (by omega) hl'.2.1 h.m (by omega) rfl
  have s3 := st (1 + b.Points.length + b.Multipliers.length) 2 b.Penalties (by omega) hl'.2.2.1 h.e (by omega) rfl
  have hfi : (b.Points ++ b.Multipliers ++ b.Penalties).findIdx (fun c => !CQ c) = if b.Points.any (fun c => !CQ c) then b.Points.findIdx (fun c => !CQ c) else if b.Multipliers.any (fun c => !CQ c) then b.Points.length + b.Multipliers.findIdx (fun c => !CQ c) else b.Points.length + b.Multipliers.length + b.Penalties.findIdx (fun c => !CQ c) := by
   rw [List.append_assoc, List.findIdx_append, List.findIdx_append]
   simp only [QG]
   split
   ·rfl
   ·split <;> omega
  rw [hany, hfi]
  rw [AZ, show ((1 : Int), (0 : Int)) = (((1 : Nat) : Int), ((0 : Nat) : Int)) from rfl, s1]
  cases hp : b.Points.any fun c => !CQ c with
  | true => simp [Be.k]; omega
  | false =>
   simp only [cond_false]
   rw [AZ, s2]
   cases hm : b.Multipliers.any fun c => !CQ c with
   | true => simp [Be.k]; omega
   | false =>
    simp only [cond_false]
    rw [AZ, s3]
    cases hq : b.Penalties.any fun c => !CQ c with
    | true => simp [Be.k]; omega
    | false =>
     simp only [cond_false]
     rw [AZ]
     have s4 : ∀ n, B3 (m + 4) b (n, ((2 + 1 : Nat) : Int)) = some (.done (n, ((2 + 1 : Nat) : Int))) := fun n => by
      unfold B3; simp only
      rw [show ([b.Points, b.Multipliers, b.Penalties].length : Int) = ((2 + 1 : Nat) : Int) from rfl, I8, cond_false]
     rw [s4]
     simp only [Be.k, Option.bind_some, Bool.or_self, Bool.false_eq_true, if_false]
     rw [Ew b.Repeats (fun e => !HT e 1) (fun i => (62, ((1 + b.Points.length + b.Multipliers.length + b.Penalties.length + i : Nat) : Int))) (fun i hi => by
      unfold CZ
      rw [I7 hi, cond_true, Cw hi, Option.bind_some, Ki (h.r.c _ (List.getElem_mem hi)), Option.bind_some]
      simp only
      rw [<- Int.natCast_add, Kb (by omega)]) (by unfold CZ; rw [I8, cond_false]) h.r.n h.r.w]
     cases b.Repeats.any fun e => !HT e 1 with
     | true => simp; omega
     | false => simp
noncomputable def vld (b : Bp) : Bool := (chk b).1 == 0
theorem PL (hN : 1000 < N) {b : Bp} (h : N0 N b) : DF N b = some (vld b) := by unfold DF vld; rw [N5 hN h]; rfl
theorem OW (hN : 1000 < N) {b : Bp} (h : N0 N b) : EQ N b = some (vld b) := by unfold EQ vld; rw [ML hN h]; rfl
theorem Pz {α : Type} {l : List α} : (l.any fun _ => false) = false := by rw [List.any_eq_false]; simp
theorem M1 {l : List Int} (hN : l.length < N) (hl : l.length < 9223372036854775808) : Ev N l l = some true := by
 unfold Ev
 rw [show ((l.length : Int) != (l.length : Int)) = false by simp, cond_false]
 rw [Ew l (fun _ => false) (fun _ => false) (fun i hi => by
  unfold DC
  rw [I7 hi, cond_true, Cw hi]; simp) (by unfold DC; rw [I8, cond_false]) hN hl, Pz]
 rfl
end
def upto (a b : Int) : List Int := (List.range (b + 1 - a).toNat).map fun k : Nat => a + (k : Int)
def QI : List Qi -> List (List Int)
 | [] => [[]]
 | s :: d => (upto s.Lo s.Hi).flatMap fun v => (QI d).map (v :: ·)
def box : List Qi -> List Int -> Prop
 | [], [] => True
 | s :: d, v :: f => (s.Lo <= v /\ v <= s.Hi) /\ box d f
 | _, _ => False








section
variable {N : Nat}
variable {σ : Type}
end














section
variable {N : Nat}
end
def CW (N : Nat) (x0 : Int) : Option Expr :=
 some ({ Op := 1, Value := x0, Kids := ([] : List Expr) } : Expr)
theorem C4 : Ak Tryz.prog 191 := fun _ _ => by kernel_rfl
theorem Dr (N : Nat) (w0 : World) (F0 : Mem) (hF : Sa w0 F0) (x0 : Int) (r : Expr) (h : CW N x0 = some r) :
  Calls Tryz.prog 191 ([(vi x0)] : List Value).toArray w0 (AK w0 F0 fun F' v => ∃ (aq0_2 : R9) (nq0_2 : Nat), v = (.agg (Ag r aq0_2 nq0_2)) /\ LC r.Kids.length nq0_2 /\ SlA Ao F' aq0_2 r.Kids) := by
 have hs0 := RN hF
 refine Go 5 Tryz.func191 ?_
 refine Sq (Rg [0] ?_)
 refine Al' 33 #[(vi 0), (vi 0), (.slice none ([] : List Expr).length 0)] hs0 (fun b21 w22 hs23 => ?_)
 refine Nss (Rg [0, 1, 2] ?_)
 refine Vs 2 ?_
 refine St0 #[(vi 1), (vi x0), (.slice none ([] : List Expr).length 0)] hs23 (fun w24 hs25 => ?_)
 refine Nt ?_
 refine Rt ?_
 obtain rfl := Aa h
 exact ⟨rfl, (.agg #[(vi 1), (vi x0), (.slice none ([] : List Expr).length 0)]), AA (l := [.cell 2 33]) (by kernel_rfl) (vs := [(.agg #[(vi 1), (vi x0), (.slice none ([] : List Expr).length 0)])]) ⟨b21, 0, rfl, Aj (t := 33) (g := true) (s := 3) (by kernel_rfl) hs25.at0 rfl (by decide), trivial⟩, (.agg #[(vi 1), (vi x0), (.slice none ([] : List Expr).length 0)]), F0, rfl, hs25.clear, ⟨none, 0, rfl, RP, (.inl rfl)⟩⟩
def EY (N : Nat) (x0 : Bool) : Option Expr :=
 ((CW N 0).bind fun r31 => ((CW N 0).bind fun r39 => some ({ Op := (bif x0 then 6 else 7), Value := 0, Kids := [r31, r39] } : Expr)))
theorem Fo : Ak Tryz.prog 188 := fun _ _ => by kernel_rfl
theorem FY (N : Nat) (w0 : World) (F0 : Mem) (hF : Sa w0 F0) (x0 : Bool) (r : Expr) (h : EY N x0 = some r) :
  Calls Tryz.prog 188 ([(.bool x0)] : List Value).toArray w0 (AK w0 F0 fun F' v => ∃ (aq0_2 : R9) (nq0_2 : Nat), v = (.agg (Ag r aq0_2 nq0_2)) /\ LC r.Kids.length nq0_2 /\ SlA Ao F' aq0_2 r.Kids) := by
 have hs0 := RN hF
 refine Go 10 Tryz.func188 ?_
 refine Sq (Rg [0] ?_)
 refine Al' 33 #[(vi 0), (vi 0), (.slice none ([] : List Expr).length 0)] hs0 (fun b21 w22 hs23 => ?_)
 refine Nss (Rg [0] ?_)
 refine Vs 1 ?_
 refine Nss ?_
 refine Sq (Rg [0] ?_)
 refine Vs 1 ?_
 refine Nt ?_
 refine RS (fun f w => ∃ (F1 : Mem), HS w0 F0 w F1 [(sb b21 #[(vi 0), (vi 0), (.slice none ([] : List Expr).length 0)] 33)] /\ RL F0 F1 /\ FI f [] [(2, (pt b21 0)), (3, (vi (bif x0 then 6 else 7)))]) ?_ ?_
 ·refine Cp x0 (fun hb30 => ?_) (fun hb30 => ?_)
  ·refine Rg [0] ?_
   refine Vs 1 ?_
   refine RF ?_
   exact .inl ⟨rfl, F0, hs23, (RM _), (fJ ⟨rfl, (congrArg (Value.int .i64) (Fw hb30 rfl)), trivial⟩)⟩
  ·refine Sc ?_
   exact .inl ⟨rfl, F0, hs23, (RM _), (fJ ⟨rfl, (congrArg (Value.int .i64) (Fx hb30 rfl)), trivial⟩)⟩
 ·rintro f w24 ⟨F1, hs25, le26, ⟨_, rfl⟩⟩
  refine Ac ?_
  refine Sq (Rg [0, 1, 2, 3, 4, 5] ?_)
  refine Vs 1 ?_
  obtain ⟨r31, hr32, h33⟩ := bind_some h
  refine Cl' C4 hs25 (Dr N w24 F1 hs25.pers 0 _ hr32) ?_
  rintro _ F2 w35 hs36 le37 ⟨ar31_0_2, nr31_0_2, rfl, hbr31_0_2, hsr31_0_2⟩
  obtain ⟨r39, hr40, h41⟩ := bind_some h33
  refine Cl' C4 hs36 (Dr N w35 F2 hs36.pers 0 _ hr40) ?_
  rintro _ F3 w43 hs44 le45 ⟨ar39_0_2, nr39_0_2, rfl, hbr39_0_2, hsr39_0_2⟩
  refine Bs 33 [(vi r31.Op), (vi r31.Value), (.slice ar31_0_2 r31.Kids.length nr31_0_2), (vi r39.Op), (vi r39.Value), (.slice ar39_0_2 r39.Kids.length nr39_0_2)] hs44 (fun b47 w48 hs49 => ?_)
  have hr51 : Aq Ao 33 F3 (some ⟨b47, 0, none⟩) 2 [r31, r39] (some b47, .cells ([(vi r31.Op), (vi r31.Value), (.slice ar31_0_2 r31.Kids.length nr31_0_2), (vi r39.Op), (vi r39.Value), (.slice ar39_0_2 r39.Kids.length nr39_0_2)] : List Value).toArray 33 (0, 0)) := R6 ⟨(A7 ⟨ar31_0_2, nr31_0_2, rfl, hbr31_0_2, (RO hsr31_0_2 le45)⟩), ⟨(A7 ⟨ar39_0_2, nr39_0_2, rfl, hbr39_0_2, hsr39_0_2⟩), rfl⟩⟩ (by simp)
  refine Vs 1 ?_
  refine St1 #[(vi (bif x0 then 6 else 7)), (vi 0), (.slice (some ⟨b47, 0, none⟩) [r31, r39].length 2)] hs49 (fun w52 hs53 => ?_)
  refine Nt ?_
  refine Rt ?_
  have hb57 := R4 hr51
  obtain ⟨F4, hs54, le55, hs56⟩ := hs53.fr0 hr51
  obtain rfl := Aa h41
  exact ⟨rfl, (.agg #[(vi (bif x0 then 6 else 7)), (vi 0), (.slice (some ⟨b47, 0, none⟩) [r31, r39].length 2)]), AA (l := [.cell 2 33]) (by kernel_rfl) (vs := [(.agg #[(vi (bif x0 then 6 else 7)), (vi 0), (.slice (some ⟨b47, 0, none⟩) [r31, r39].length 2)])]) ⟨b21, 0, rfl, Aj (t := 33) (g := true) (s := 3) (by kernel_rfl) hs54.at0 rfl (by decide), trivial⟩, (.agg #[(vi (bif x0 then 6 else 7)), (vi 0), (.slice (some ⟨b47, 0, none⟩) [r31, r39].length 2)]), F4, rfl, hs54.clear, ⟨(some ⟨b47, 0, none⟩), 2, rfl, hb57, hs56⟩⟩
def EZ (N : Nat) (x0 : Expr) (x1 : Bool) : Option Bool :=
 (((EY N x1).bind fun r34 => ((Es N x0 r34).bind fun r42 => some r42)).bind fun j29 => some j29)
theorem Ft : Ak Tryz.prog 187 := fun _ _ => by kernel_rfl
theorem FZ (N : Nat) (w0 : World) (F0 : Mem) (hF : Sa w0 F0) (x0 : Expr) (a0_2 : R9) (n0_2 : Nat) (hb0_2 : LC x0.Kids.length n0_2) (hs0_2 : SlA Ao F0 a0_2 x0.Kids) (x1 : Bool) (r : Bool) (h : EZ N x0 x1 = some r) :
  Calls Tryz.prog 187 ([(.agg (Ag x0 a0_2 n0_2)), (.bool x1)] : List Value).toArray w0 (AK w0 F0 fun F' v => v = (.bool r)) := by
 have hs0 := RN hF
 refine Go 9 Tryz.func187 ?_
 refine Sq (Rg [0, 1] ?_)
 refine Bx' 33 (Ag x0 a0_2 n0_2) hs0 (fun b21 w22 hs23 => ?_)
 refine Vs 1 ?_
 refine Nss ?_
 obtain ⟨j29, hj32, h33⟩ := bind_some h
 refine RD 5 5 [(sb b21 (Ag x0 a0_2 n0_2) 33)] [] hs23 (fun f w => ∃ (F1 : Mem), HS w0 F0 w F1 [] /\ RL F0 F1 /\ FI f [] [(4, (.bool j29))]) (fun wd24 hw25 => ?_) ?_
 ·refine Dl 0 (fun _ hq => (hq.1.2 0 _ _ rfl)) ?_
  refine Dv [1] ?_
  refine D1 2 ?_
  obtain ⟨r34, hr35, h36⟩ := bind_some hj32
  refine DCl Fo hw25 (FY N wd24 F0 hw25.pers x1 _ hr35) ?_
  rintro _ F2 w38 hs39 le40 ⟨ar34_0_2, nr34_0_2, rfl, hbr34_0_2, hsr34_0_2⟩
  refine D1 3 ?_
  obtain ⟨r42, hr43, h44⟩ := bind_some h36
  refine DCl CE hs39 (El N w38 F2 hs39.pers x0 a0_2 n0_2 hb0_2 (RO hs0_2 le40) r34 ar34_0_2 nr34_0_2 hbr34_0_2 hsr34_0_2 _ hr43) ?_
  rintro _ F3 w46 hs47 le48 rfl
  refine Dv [4] ?_
  obtain rfl := Aa h44
  exact R3 (by kernel_rfl) ⟨F3, hs47.dr0, (le40.trans le48), fI⟩
 ·rintro f w26 ⟨F1, hs27, le28, ⟨_, rfl⟩⟩
  refine Ac ?_
  refine Rt ?_
  obtain rfl := Aa h33
  exact Re [(.bool j29)] hs27 rfl

def Do (N : Nat) (x0 : Expr) (x1 : Int) : Option Bool :=
 some ((x0.Op == 1) && (x0.Value == x1))
theorem Ea : Ak Tryz.prog 215 := fun _ _ => by kernel_rfl
theorem EE (N : Nat) (w0 : World) (F0 : Mem) (hF : Sa w0 F0) (x0 : Expr) (a0_2 : R9) (n0_2 : Nat) (hb0_2 : LC x0.Kids.length n0_2) (hs0_2 : SlA Ao F0 a0_2 x0.Kids) (x1 : Int) (r : Bool) (h : Do N x0 x1 = some r) :
  Calls Tryz.prog 215 ([(.agg (Ag x0 a0_2 n0_2)), (vi x1)] : List Value).toArray w0 (AK w0 F0 fun F' v => v = (.bool r)) := by
 have hs0 := RN hF
 refine Go 14 Tryz.func215 ?_
 refine Sq (Rg [0, 1] ?_)
 refine Bx' 33 (Ag x0 a0_2 n0_2) hs0 (fun b21 w22 hs23 => ?_)
 refine Vs 1 ?_
 refine Nss (Rg [0, 1, 2, 3, 4, 5, 6, 7, 8, 9] ?_)
 refine RR (fun f w => ∃ (F1 : Mem), HS w0 F0 w F1 [] /\ RL F0 F1 /\ FI f [] [(4, (.bool ((x0.Op == 1) && (x0.Value == x1))))]) ?_ ?_
 ·refine Vs 1 ?_
  refine Ld hs23.at0 ?_
  refine Vs 2 ?_
  refine RQ (x0.Op == 1) (fun hb29 => ?_) (fun hb29 => ?_)
  ·refine Vgs hb29 1 ?_
   refine Lg hb29 hs23.at0 ?_
   refine Vgs hb29 2 ?_
   refine Pk1 hb29 ?_
   refine Vs 1 ?_
   exact RF ⟨rfl, F0, hs23.dr0, (RM _), (fJ ⟨(congrArg Value.bool (BX hb29 rfl)), trivial⟩)⟩
  ·refine Ss hb29 4 ?_
   refine Pk0 hb29 ?_
   refine Vs 1 ?_
   exact RF ⟨rfl, F0, hs23.dr0, (RM _), (fJ ⟨(congrArg Value.bool (C9 hb29 rfl)), trivial⟩)⟩
 ·rintro f w24 ⟨F1, hs25, le26, ⟨_, rfl⟩⟩
  refine Ac ?_
  refine Rt ?_
  obtain rfl := Aa h
  exact Re [(.bool ((x0.Op == 1) && (x0.Value == x1)))] hs25 rfl
def Gj (N : Nat) (x0 : Expr) (x1 : Expr) (x2 : Expr) : Option Expr :=
 (bif (x0.Op == 8) then ((Do N x1 0).bind fun r36 => (bif r36 then some x2 else ((Do N x2 0).bind fun r49 => (bif r49 then some x1 else some x0)))) else none)
theorem IG : Ak Tryz.prog 192 := fun _ _ => by kernel_rfl
theorem Jp (N : Nat) (w0 : World) (F0 : Mem) (hF : Sa w0 F0) (x0 : Expr) (a0_2 : R9) (n0_2 : Nat) (hb0_2 : LC x0.Kids.length n0_2) (hs0_2 : SlA Ao F0 a0_2 x0.Kids) (x1 : Expr) (a1_2 : R9) (n1_2 : Nat) (hb1_2 : LC x1.Kids.length n1_2) (hs1_2 : SlA Ao F0 a1_2 x1.Kids) (x2 : Expr) (a2_2 : R9) (n2_2 : Nat) (hb2_2 : LC x2.Kids.length n2_2) (hs2_2 : SlA Ao F0 a2_2 x2.Kids) (r : Expr) (h : Gj N x0 x1 x2 = some r) :
  Calls Tryz.prog 192 ([(.agg (Ag x0 a0_2 n0_2)), (.agg (Ag x1 a1_2 n1_2)), (.agg (Ag x2 a2_2 n2_2))] : List Value).toArray w0 (AK w0 F0 fun F' v => ∃ (aq0_2 : R9) (nq0_2 : Nat), v = (.agg (Ag r aq0_2 nq0_2)) /\ LC r.Kids.length nq0_2 /\ SlA Ao F' aq0_2 r.Kids) := by
 have hs0 := RN hF
 refine Go 49 Tryz.func192 ?_
 refine Sq (Rg [0, 1, 2, 3] ?_)
 refine Bx' 33 (Ag x0 a0_2 n0_2) hs0 (fun b21 w22 hs23 => ?_)
 refine Bx' 33 (Ag x1 a1_2 n1_2) hs23 (fun b24 w25 hs26 => ?_)
 refine Bx' 33 (Ag x2 a2_2 n2_2) hs26 (fun b27 w28 hs29 => ?_)
 refine Al' 33 #[(vi 0), (vi 0), (.slice none ([] : List Expr).length 0)] hs29 (fun b30 w31 hs32 => ?_)
 refine Nss ?_
 refine Sq (Rg [0, 1] ?_)
 refine Vs 1 ?_
 refine Ld hs32.at3 ?_
 refine Nt ?_
 refine Bk ?_
 refine Sq (Rg [0, 1] ?_)
 refine Vs 2 ?_
 refine Nt ?_
 refine Cd h (fun hb33 h34 => ?_) (fun hb33 h35 => ?_)
 ·refine Bk ?_
  refine Sq (Rg [0, 1, 2] ?_)
  refine Ld hs32.at2 ?_
  obtain ⟨r36, hr37, h38⟩ := bind_some h34
  refine Cl' Ea hs32 (EE N w31 F0 hs32.pers x1 a1_2 n1_2 hb1_2 hs1_2 0 _ hr37) ?_
  rintro _ F1 w40 hs41 le42 rfl
  refine Vs 1 ?_
  refine Nt ?_
  refine Cd h38 (fun hb44 h45 => ?_) (fun hb44 h46 => ?_)
  ·refine Sq (Rg [0, 1] ?_)
   refine Ld hs41.at1 ?_
   refine St0 (Ag x2 a2_2 n2_2) hs41 (fun w47 hs48 => ?_)
   refine Nt ?_
   refine Rt ?_
   refine Ai ?_
   refine Ai ?_
   refine Ae ?_
   obtain rfl := Aa h45
   exact ⟨rfl, (.agg (Ag x2 a2_2 n2_2)), AA (l := [.cell 6 33]) (by kernel_rfl) (vs := [(.agg (Ag x2 a2_2 n2_2))]) ⟨b30, 0, rfl, Aj (t := 33) (g := true) (s := 3) (by kernel_rfl) hs48.at0 rfl (by decide), trivial⟩, (.agg (Ag x2 a2_2 n2_2)), F1, rfl, hs48.clear, ⟨a2_2, n2_2, rfl, hb2_2, (RO hs2_2 le42)⟩⟩
  ·refine Sq (Rg [0, 1, 2] ?_)
   refine Ld hs41.at1 ?_
   obtain ⟨r49, hr50, h51⟩ := bind_some h46
   refine Cl' Ea hs41 (EE N w40 F1 hs41.pers x2 a2_2 n2_2 hb2_2 (RO hs2_2 le42) 0 _ hr50) ?_
   rintro _ F2 w53 hs54 le55 rfl
   refine Vs 1 ?_
   refine Nt ?_
   refine Cd h51 (fun hb57 h58 => ?_) (fun hb57 h59 => ?_)
   ·refine Sq (Rg [0, 1] ?_)
    refine Ld hs54.at2 ?_
    refine St0 (Ag x1 a1_2 n1_2) hs54 (fun w60 hs61 => ?_)
    refine Nt ?_
    refine Rt ?_
    refine Ai ?_
    refine Ai ?_
    refine Ae ?_
    obtain rfl := Aa h58
    exact ⟨rfl, (.agg (Ag x1 a1_2 n1_2)), AA (l := [.cell 6 33]) (by kernel_rfl) (vs := [(.agg (Ag x1 a1_2 n1_2))]) ⟨b30, 0, rfl, Aj (t := 33) (g := true) (s := 3) (by kernel_rfl) hs61.at0 rfl (by decide), trivial⟩, (.agg (Ag x1 a1_2 n1_2)), F2, rfl, hs61.clear, ⟨a1_2, n1_2, rfl, hb1_2, (RO hs1_2 (le42.trans le55))⟩⟩
   ·refine Sc ?_
    refine Ap ?_
    refine Ap ?_
    refine Ac ?_
    refine Sq (Rg [0, 1] ?_)
    refine Ld hs54.at3 ?_
    refine St0 (Ag x0 a0_2 n0_2) hs54 (fun w62 hs63 => ?_)
    refine Nt ?_
    refine Rt ?_
    obtain rfl := Aa h59
    exact ⟨rfl, (.agg (Ag x0 a0_2 n0_2)), AA (l := [.cell 6 33]) (by kernel_rfl) (vs := [(.agg (Ag x0 a0_2 n0_2))]) ⟨b30, 0, rfl, Aj (t := 33) (g := true) (s := 3) (by kernel_rfl) hs63.at0 rfl (by decide), trivial⟩, (.agg (Ag x0 a0_2 n0_2)), F2, rfl, hs63.clear, ⟨a0_2, n0_2, rfl, hb0_2, (RO hs0_2 (le42.trans le55))⟩⟩
 ·cases h35
def Hq (N : Nat) (x0 : Expr) : Option Expr :=
 (bif ((x0.Kids.length : Int) == 0) then some x0 else ((idx x0.Kids 0).bind fun x32 => (bif (x0.Op == 3) then none else ((idx x0.Kids 1).bind fun x54 => (bif (bif (x0.Op == 6) then (x0.Op == 6) else (x0.Op == 7)) then ((bif ((x32.Op == 1) && (x54.Op == 1)) then some true else ((Es N x32 x54).bind fun r106 => some r106)).bind fun j93 => (bif j93 then (bif (x0.Op == 6) then ((Es N x32 x54).bind fun r120 => (bif r120 then ((EY N true).bind fun r131 => some r131) else (bif (x0.Op == 7) then none else none))) else (bif (x0.Op == 7) then none else none)) else some x0)) else (bif (bif (x0.Op == 4) then (x0.Op == 4) else (x0.Op == 5)) then none else (bif (bif (x0.Op == 8) then (x0.Op == 8) else (bif (x0.Op == 9) then (x0.Op == 9) else (x0.Op == 10))) then (((mk0 0 14).bind fun r206 => ((EK N x0 r206).bind fun r220 => some r220)).bind fun j196 => (bif (((x32.Op == 1) && (x54.Op == 1)) && (decide (j196 >= 0))) then ((CW N j196).bind fun r242 => some r242) else ((Gj N x0 x32 x54).bind fun r252 => some r252))) else (bif (x0.Op == 11) then ((EZ N x32 true).bind fun r265 => (bif r265 then some x54 else ((EZ N x32 false).bind fun r278 => (bif r278 then ((idx x0.Kids 2).bind fun x289 => some x289) else (((idx x0.Kids 2).bind fun x310 => ((Es N x54 x310).bind fun r316 => some r316)).bind fun j302 => (bif j302 then some x54 else some x0)))))) else none))))))))
theorem Jh : Ak Tryz.prog 148 := fun _ _ => by kernel_rfl
theorem JX (N : Nat) (w0 : World) (F0 : Mem) (hF : Sa w0 F0) (x0 : Expr) (a0_2 : R9) (n0_2 : Nat) (hb0_2 : LC x0.Kids.length n0_2) (hs0_2 : SlA Ao F0 a0_2 x0.Kids) (r : Expr) (h : Hq N x0 = some r) :
  Calls Tryz.prog 148 ([(.agg (Ag x0 a0_2 n0_2))] : List Value).toArray w0 (AK w0 F0 fun F' v => ∃ (aq0_2 : R9) (nq0_2 : Nat), v = (.agg (Ag r aq0_2 nq0_2)) /\ LC r.Kids.length nq0_2 /\ SlA Ao F' aq0_2 r.Kids) := by
 have hs0 := RN hF
 refine Go 130 Tryz.func148 ?_
 refine Sq (Rg [0, 1] ?_)
 refine Bx' 33 (Ag x0 a0_2 n0_2) hs0 (fun b21 w22 hs23 => ?_)
 refine Al' 33 #[(vi 0), (vi 0), (.slice none ([] : List Expr).length 0)] hs23 (fun b24 w25 hs26 => ?_)
 refine Nss ?_
 refine Sq (Rg [0, 1, 2, 3] ?_)
 refine Vs 1 ?_
 refine Ld hs26.at1 ?_
 refine Vs 2 ?_
 refine Nt ?_
 refine Cd h (fun hb27 h28 => ?_) (fun hb27 h29 => ?_)
 ·refine Sq (Rg [0, 1] ?_)
  refine Ld hs26.at1 ?_
  refine St0 (Ag x0 a0_2 n0_2) hs26 (fun w30 hs31 => ?_)
  refine Nt ?_
  refine Rt ?_
  refine Ae ?_
  obtain rfl := Aa h28
  exact ⟨rfl, (.agg (Ag x0 a0_2 n0_2)), AA (l := [.cell 2 33]) (by kernel_rfl) (vs := [(.agg (Ag x0 a0_2 n0_2))]) ⟨b24, 0, rfl, Aj (t := 33) (g := true) (s := 3) (by kernel_rfl) hs31.at0 rfl (by decide), trivial⟩, (.agg (Ag x0 a0_2 n0_2)), F0, rfl, hs31.clear, ⟨a0_2, n0_2, rfl, hb0_2, hs0_2⟩⟩
 ·refine Sc ?_
  refine Ac ?_
  refine Sq (Rg [0, 1, 2, 3, 4, 5] ?_)
  refine Vs 1 ?_
  refine Ld hs26.at1 ?_
  obtain ⟨x32, hx33, h35⟩ := bind_some h29
  obtain ⟨hi34, hx33'⟩ := As hx33
  obtain ⟨b36, o37, C38, E39, fz40, rfl, hF42, hE43⟩ := RV hs0_2 hx33'
  obtain ⟨ae44_2, ne44_2, hc45, hbe44_2, hse44_2⟩ := (AC (hE43 _ _ hx33'))
  refine Ix hi34 ?_
  refine Lx 0 (hs26.pers _ _ hF42) hc45 ?_
  refine Al' 33 #[(vi 0), (vi 0), (.slice none ([] : List Expr).length 0)] hs26 (fun b46 w47 hs48 => ?_)
  refine St0 (Ag x32 ae44_2 ne44_2) hs48 (fun w49 hs50 => ?_)
  refine Nss ?_
  refine Sq (Rg [0, 1, 2] ?_)
  refine Vs 1 ?_
  refine Ld hs50.at2 ?_
  refine Vs 1 ?_
  refine Nt ?_
  refine Cd h35 (fun hb51 h52 => ?_) (fun hb51 h53 => ?_)
  ·cases h52
  ·refine Sc ?_
   refine Ac ?_
   refine Sq (Rg [0, 1, 2, 3, 4, 5] ?_)
   refine Vs 1 ?_
   refine Ld hs50.at2 ?_
   obtain ⟨x54, hx55, h57⟩ := bind_some h53
   obtain ⟨hi56, hx55'⟩ := As hx55
   obtain ⟨ae58_2, ne58_2, hc59, hbe58_2, hse58_2⟩ := (AC (hE43 _ _ hx55'))
   refine Ix hi56 ?_
   refine Lx 0 (hs50.pers _ _ hF42) hc59 ?_
   refine Al' 33 #[(vi 0), (vi 0), (.slice none ([] : List Expr).length 0)] hs50 (fun b60 w61 hs62 => ?_)
   refine St0 (Ag x54 ae58_2 ne58_2) hs62 (fun w63 hs64 => ?_)
   refine Nss (Rg [0, 1, 2, 3, 4, 5, 6, 7, 8] ?_)
   refine RR (fun f w => ∃ (F1 : Mem), HS w0 F0 w F1 [(sb b60 (Ag x54 ae58_2 ne58_2) 33), (sb b46 (Ag x32 ae44_2 ne44_2) 33), (sb b24 #[(vi 0), (vi 0), (.slice none ([] : List Expr).length 0)] 33), (sb b21 (Ag x0 (some ⟨b36, o37, none⟩) n0_2) 33)] /\ RL F0 F1 /\ FI f [] [(1, (pt b21 0)), (2, (pt b24 0)), (3, (pt b46 0)), (4, (pt b60 0)), (5, (.bool ((x32.Op == 1) && (x54.Op == 1))))]) ?_ ?_
   ·refine Vs 1 ?_
    refine Ld hs64.at1 ?_
    refine Vs 2 ?_
    refine RQ (x32.Op == 1) (fun hb74 => ?_) (fun hb74 => ?_)
    ·refine Vgs hb74 1 ?_
     refine Lg hb74 hs64.at0 ?_
     refine Vgs hb74 1 ?_
     refine Pk1 hb74 ?_
     refine Vs 1 ?_
     exact RF ⟨rfl, F0, hs64, (RM _), (fJ ⟨rfl, rfl, rfl, rfl, (congrArg Value.bool (BX hb74 rfl)), trivial⟩)⟩
    ·refine Ss hb74 3 ?_
     refine Pk0 hb74 ?_
     refine Vs 1 ?_
     exact RF ⟨rfl, F0, hs64, (RM _), (fJ ⟨rfl, rfl, rfl, rfl, (congrArg Value.bool (C9 hb74 rfl)), trivial⟩)⟩
   ·rintro f w65 ⟨F1, hs66, le67, ⟨_, rfl⟩⟩
    refine Ac ?_
    refine Sq ?_
    refine Sq (Rg [0, 1] ?_)
    refine Vs 1 ?_
    refine Ld hs66.at3 ?_
    refine Nt ?_
    refine Bk ?_
    refine Sq ?_
    refine Sq (Rg [0, 1] ?_)
    refine Vs 2 ?_
    refine Nt ?_
    refine RS (fun f w => ∃ (F2 : Mem), HS w0 F0 w F2 [(sb b60 (Ag x54 ae58_2 ne58_2) 33), (sb b46 (Ag x32 ae44_2 ne44_2) 33), (sb b24 #[(vi 0), (vi 0), (.slice none ([] : List Expr).length 0)] 33), (sb b21 (Ag x0 (some ⟨b36, o37, none⟩) n0_2) 33)] /\ RL F1 F2 /\ FI f [] [(1, (pt b21 0)), (2, (pt b24 0)), (3, (pt b46 0)), (4, (pt b60 0)), (5, (.bool ((x32.Op == 1) && (x54.Op == 1)))), (49, (vi x0.Op)), (50, (.bool (bif (x0.Op == 6) then (x0.Op == 6) else (x0.Op == 7))))]) ?_ ?_
    ·refine Cp (x0.Op == 6) (fun hb86 => ?_) (fun hb86 => ?_)
     ·refine Sc ?_
      exact .inl ⟨rfl, F1, hs66, (RM _), (fJ ⟨rfl, rfl, rfl, rfl, rfl, rfl, (congrArg Value.bool (Fw hb86 rfl)), trivial⟩)⟩
     ·refine Rg [0, 1] ?_
      refine Vs 2 ?_
      refine RF ?_
      exact .inl ⟨rfl, F1, hs66, (RM _), (fJ ⟨rfl, rfl, rfl, rfl, rfl, rfl, (congrArg Value.bool (Fx hb86 rfl)), trivial⟩)⟩
    ·rintro f w75 ⟨F2, hs76, le77, ⟨_, rfl⟩⟩
     refine Ac ?_
     refine Cd h57 (fun hb87 h88 => ?_) (fun hb87 h89 => ?_)
     ·refine Sq (Rg [0, 1, 2, 3, 4, 5] ?_)
      obtain ⟨j93, hj101, h102⟩ := bind_some h88
      refine RR (fun f w => ∃ (F3 : Mem), HS w0 F0 w F3 [(sb b60 (Ag x54 ae58_2 ne58_2) 33), (sb b46 (Ag x32 ae44_2 ne44_2) 33), (sb b24 #[(vi 0), (vi 0), (.slice none ([] : List Expr).length 0)] 33), (sb b21 (Ag x0 (some ⟨b36, o37, none⟩) n0_2) 33)] /\ RL F2 F3 /\ FI f [] [(1, (pt b21 0)), (2, (pt b24 0)), (3, (pt b46 0)), (4, (pt b60 0)), (5, (.bool ((x32.Op == 1) && (x54.Op == 1)))), (58, (.bool j93))]) ?_ ?_
      ·refine Vs 2 ?_
       refine Sp hj101 (fun hb103 h104 => ?_) (fun hb103 h105 => ?_)
       ·refine Ss hb103 3 ?_
        refine Pk1 hb103 ?_
        obtain rfl := Aa h104
        exact RF ⟨rfl, F2, hs76, (RM _), fI⟩
       ·refine Lg hb103 hs76.at1 ?_
        refine Lg hb103 hs76.at0 ?_
        obtain ⟨r106, hr107, h108⟩ := bind_some h105
        refine Cg hb103 CE hs76 (El N w75 F2 hs76.pers x32 ae44_2 ne44_2 hbe44_2 (RO hse44_2 (le67.trans le77)) x54 ae58_2 ne58_2 hbe58_2 (RO hse58_2 (le67.trans le77)) _ hr107) ?_
        rintro _ F4 w110 hs111 le112 rfl
        refine Pk0 hb103 ?_
        obtain rfl := Aa h108
        exact RF ⟨rfl, F4, hs111, le112, fI⟩
      ·rintro f w90 ⟨F3, hs91, le92, ⟨_, rfl⟩⟩
       refine Ac ?_
       refine Cd h102 (fun hb114 h115 => ?_) (fun hb114 h116 => ?_)
       ·refine Sq (Rg [0, 1, 2, 3, 4, 5, 6, 7, 8, 9, 10, 11, 12, 13, 14, 15, 16, 17, 18, 19, 20, 21, 22, 23, 24] ?_)
        refine Vs 1 ?_
        refine Ld hs91.at3 ?_
        refine Vs 2 ?_
        refine Sp h115 (fun hb117 h118 => ?_) (fun hb117 h119 => ?_)
        ·refine Lg hb117 hs91.at1 ?_
         refine Lg hb117 hs91.at0 ?_
         obtain ⟨r120, hr121, h122⟩ := bind_some h118
         refine Cg hb117 CE hs91 (El N w90 F3 hs91.pers x32 ae44_2 ne44_2 hbe44_2 (RO hse44_2 ((le67.trans le77).trans le92)) x54 ae58_2 ne58_2 hbe58_2 (RO hse58_2 ((le67.trans le77).trans le92)) _ hr121) ?_
         rintro _ F5 w124 hs125 le126 rfl
         refine Pk1 hb117 ?_
         refine Vs 1 ?_
         refine Sp h122 (fun hb128 h129 => ?_) (fun hb128 h130 => ?_)
         ·refine Ss hb128 4 ?_
          refine Su' 1 ?_
          refine Ss hb128 2 ?_
          refine Su' 5 ?_
          refine Ss hb128 1 ?_
          refine Pk1 hb128 ?_
          obtain ⟨r131, hr132, h133⟩ := bind_some h129
          refine Cl' Fo hs125 (FY N w124 F5 hs125.pers true _ hr132) ?_
          rintro _ F6 w135 hs136 le137 ⟨ar131_0_2, nr131_0_2, rfl, hbr131_0_2, hsr131_0_2⟩
          refine St2 (Ag r131 ar131_0_2 nr131_0_2) hs136 (fun w139 hs140 => ?_)
          refine Nt ?_
          refine Rt ?_
          refine Ai ?_
          refine Ae ?_
          obtain rfl := Aa h133
          exact ⟨rfl, (.agg (Ag r131 ar131_0_2 nr131_0_2)), AA (l := [.cell 2 33]) (by kernel_rfl) (vs := [(.agg (Ag r131 ar131_0_2 nr131_0_2))]) ⟨b24, 0, rfl, Aj (t := 33) (g := true) (s := 3) (by kernel_rfl) hs140.at2 rfl (by decide), trivial⟩, (.agg (Ag r131 ar131_0_2 nr131_0_2)), F6, rfl, hs140.clear, ⟨ar131_0_2, nr131_0_2, rfl, hbr131_0_2, hsr131_0_2⟩⟩
         ·refine Vgs hb128 1 ?_
          refine Lg hb128 hs125.at3 ?_
          refine Vgs hb128 2 ?_
          refine Sp h130 (fun hb141 h142 => ?_) (fun hb141 h143 => ?_)
          ·cases h142
          ·cases h143
        ·refine Ss hb117 3 ?_
         refine Pk0 hb117 ?_
         refine Vs 1 ?_
         refine Vg 68 0 8 false 67 rfl (fa 33 1 0 0 1 b21 0 0) ?_
         refine Vg 69 3 8 false 67 rfl (ld 3 68 b21 0 false 1 (vi x0.Op) hs91.at3) ?_
         refine Vg 70 4 8 false 67 rfl (FD (t := 3) (t' := 3) (x := (.tmp 69)) (y := (.const (vi 7))) (k := .i64) (a := x0.Op) (b := 7) rfl rfl) ?_
         refine Vg 71 4 8 false 67 rfl (mv 70 (.bool (x0.Op == 7))) ?_
         refine Sp h119 (fun hb144 h145 => ?_) (fun hb144 h146 => ?_)
         ·cases h145
         ·cases h146
       ·refine Sc ?_
        refine Ap ?_
        refine Ac ?_
        refine Sq (Rg [0, 1] ?_)
        refine Ld hs91.at3 ?_
        refine St2 (Ag x0 (some ⟨b36, o37, none⟩) n0_2) hs91 (fun w147 hs148 => ?_)
        refine Nt ?_
        refine Rt ?_
        obtain rfl := Aa h116
        exact ⟨rfl, (.agg (Ag x0 (some ⟨b36, o37, none⟩) n0_2)), AA (l := [.cell 2 33]) (by kernel_rfl) (vs := [(.agg (Ag x0 (some ⟨b36, o37, none⟩) n0_2))]) ⟨b24, 0, rfl, Aj (t := 33) (g := true) (s := 3) (by kernel_rfl) hs148.at2 rfl (by decide), trivial⟩, (.agg (Ag x0 (some ⟨b36, o37, none⟩) n0_2)), F3, rfl, hs148.clear, ⟨(some ⟨b36, o37, none⟩), n0_2, rfl, hb0_2, (RO hs0_2 ((le67.trans le77).trans le92))⟩⟩
     ·refine Sq ?_
      refine Sq (Rg [0, 1] ?_)
      refine Vs 2 ?_
      refine Nt ?_
      refine RS (fun f w => ∃ (F7 : Mem), HS w0 F0 w F7 [(sb b60 (Ag x54 ae58_2 ne58_2) 33), (sb b46 (Ag x32 ae44_2 ne44_2) 33), (sb b24 #[(vi 0), (vi 0), (.slice none ([] : List Expr).length 0)] 33), (sb b21 (Ag x0 (some ⟨b36, o37, none⟩) n0_2) 33)] /\ RL F2 F7 /\ FI f [] [(1, (pt b21 0)), (2, (pt b24 0)), (3, (pt b46 0)), (4, (pt b60 0)), (5, (.bool ((x32.Op == 1) && (x54.Op == 1)))), (49, (vi x0.Op)), (83, (.bool (bif (x0.Op == 4) then (x0.Op == 4) else (x0.Op == 5))))]) ?_ ?_
      ·refine Cp (x0.Op == 4) (fun hb160 => ?_) (fun hb160 => ?_)
       ·refine Sc ?_
        exact .inl ⟨rfl, F2, hs76, (RM _), (fJ ⟨rfl, rfl, rfl, rfl, rfl, rfl, (congrArg Value.bool (Fw hb160 rfl)), trivial⟩)⟩
       ·refine Rg [0, 1] ?_
        refine Vs 2 ?_
        refine RF ?_
        exact .inl ⟨rfl, F2, hs76, (RM _), (fJ ⟨rfl, rfl, rfl, rfl, rfl, rfl, (congrArg Value.bool (Fx hb160 rfl)), trivial⟩)⟩
      ·rintro f w149 ⟨F7, hs150, le151, ⟨_, rfl⟩⟩
       refine Ac ?_
       refine Cd h89 (fun hb161 h162 => ?_) (fun hb161 h163 => ?_)
       ·cases h162
       ·refine Sq ?_
        refine Sq (Rg [0, 1] ?_)
        refine Vs 2 ?_
        refine Nt ?_
        refine RS (fun f w => ∃ (F8 : Mem), HS w0 F0 w F8 [(sb b60 (Ag x54 ae58_2 ne58_2) 33), (sb b46 (Ag x32 ae44_2 ne44_2) 33), (sb b24 #[(vi 0), (vi 0), (.slice none ([] : List Expr).length 0)] 33), (sb b21 (Ag x0 (some ⟨b36, o37, none⟩) n0_2) 33)] /\ RL F7 F8 /\ FI f [] [(1, (pt b21 0)), (2, (pt b24 0)), (3, (pt b46 0)), (4, (pt b60 0)), (5, (.bool ((x32.Op == 1) && (x54.Op == 1)))), (49, (vi x0.Op)), (90, (.bool (bif (x0.Op == 8) then (x0.Op == 8) else (bif (x0.Op == 9) then (x0.Op == 9) else (x0.Op == 10)))))]) ?_ ?_
        ·refine Cp (x0.Op == 8) (fun hb175 => ?_) (fun hb175 => ?_)
         ·refine Sc ?_
          exact .inl ⟨rfl, F7, hs150, (RM _), (fJ ⟨rfl, rfl, rfl, rfl, rfl, rfl, (congrArg Value.bool (Fw hb175 rfl)), trivial⟩)⟩
         ·refine Sq (Rg [0, 1] ?_)
          refine Vs 2 ?_
          refine Nt ?_
          refine RS (fun f w => ∃ (F9 : Mem), HS w0 F0 w F9 [(sb b60 (Ag x54 ae58_2 ne58_2) 33), (sb b46 (Ag x32 ae44_2 ne44_2) 33), (sb b24 #[(vi 0), (vi 0), (.slice none ([] : List Expr).length 0)] 33), (sb b21 (Ag x0 (some ⟨b36, o37, none⟩) n0_2) 33)] /\ RL F7 F9 /\ FI f [] [(1, (pt b21 0)), (2, (pt b24 0)), (3, (pt b46 0)), (4, (pt b60 0)), (5, (.bool ((x32.Op == 1) && (x54.Op == 1)))), (49, (vi x0.Op)), (90, (.bool (bif (x0.Op == 9) then (x0.Op == 9) else (x0.Op == 10))))]) ?_ ?_
          ·refine Cp (x0.Op == 9) (fun hb187 => ?_) (fun hb187 => ?_)
           ·refine Sc ?_
            exact .inl ⟨rfl, F7, hs150, (RM _), (fJ ⟨rfl, rfl, rfl, rfl, rfl, rfl, (congrArg Value.bool (Fw hb187 rfl)), trivial⟩)⟩
           ·refine Rg [0, 1] ?_
            refine Vs 2 ?_
            refine RF ?_
            exact .inl ⟨rfl, F7, hs150, (RM _), (fJ ⟨rfl, rfl, rfl, rfl, rfl, rfl, (congrArg Value.bool (Fx hb187 rfl)), trivial⟩)⟩
          ·rintro f w176 ⟨F9, hs177, le178, ⟨_, rfl⟩⟩
           exact .inl ⟨rfl, F9, hs177, le178, (fJ ⟨rfl, rfl, rfl, rfl, rfl, rfl, (congrArg Value.bool (Fx hb175 rfl)), trivial⟩)⟩
        ·rintro f w164 ⟨F8, hs165, le166, ⟨_, rfl⟩⟩
         refine Ac ?_
         refine Cd h163 (fun hb188 h189 => ?_) (fun hb188 h190 => ?_)
         ·refine Sq ?_
          refine Sq ?_
          obtain ⟨j196, hj204, h205⟩ := bind_some h189
          refine RD 4 4 [(sb b60 (Ag x54 ae58_2 ne58_2) 33), (sb b46 (Ag x32 ae44_2 ne44_2) 33), (sb b24 #[(vi 0), (vi 0), (.slice none ([] : List Expr).length 0)] 33), (sb b21 (Ag x0 (some ⟨b36, o37, none⟩) n0_2) 33)] [] hs165 (fun f w => ∃ (F10 : Mem), HS w0 F0 w F10 [(sb b60 (Ag x54 ae58_2 ne58_2) 33), (sb b46 (Ag x32 ae44_2 ne44_2) 33), (sb b24 #[(vi 0), (vi 0), (.slice none ([] : List Expr).length 0)] 33), (sb b21 (Ag x0 (some ⟨b36, o37, none⟩) n0_2) 33)] /\ RL F8 F10 /\ FI f [] [(1, (pt b21 0)), (2, (pt b24 0)), (3, (pt b46 0)), (4, (pt b60 0)), (5, (.bool ((x32.Op == 1) && (x54.Op == 1)))), (6, (vi j196))]) (fun wd191 hw192 => ?_) ?_
          ·refine Dl 0 (fun _ hq => (hq.1.2 3 _ _ rfl)) ?_
           refine D1 1 ?_
           obtain ⟨r206, hm207, h208⟩ := bind_some hj204
           refine Az.makeSlice (l' := [true, true, false, false]) (zd := true) (by kernel_rfl) (by kernel_rfl) (dst := (some 95)) (ty := 47) (g := none) (by kernel_rfl) rfl (x := (.const (vi 14))) (y := (.const (vi 14))) (t := 47) (by_ := 8) (z := (vi 0)) (T := Bg) (E := 3) rfl rfl (by kernel_rfl) (by decide) (by kernel_rfl) (z0 := 0) (fun _ => rfl) (by decide) hw192 hm207 (RM _) (by simp) (fun e => by cases e) (fun b209 n210 C211 w212 (hs213 : HS w0 F0 w212 F8 [(some b209, .cells C211 3 (0, 0)), (sb b60 (Ag x54 ae58_2 ne58_2) 33), (sb b46 (Ag x32 ae44_2 ne44_2) 33), (sb b24 #[(vi 0), (vi 0), (.slice none ([] : List Expr).length 0)] 33), (sb b21 (Ag x0 (some ⟨b36, o37, none⟩) n0_2) 33)]) hr214 => ?_)
           refine D1 2 ?_
           have hb219 := R4 hr214
           obtain ⟨F11, hs216, le217, hs218⟩ := hs213.fr0 hr214
           obtain ⟨r220, hr221, h222⟩ := bind_some h208
           refine DCl C3 hs216 (E6 N w212 F11 hs216.pers x0 (some ⟨b36, o37, none⟩) n0_2 hb0_2 (RO hs0_2 ((((le67.trans le77).trans le151).trans le166).trans le217)) r206 (some ⟨b209, 0, none⟩) n210 hb219 hs218 _ hr221) ?_
           rintro _ F12 w224 hs225 le226 rfl
           refine Dv [3] ?_
           obtain rfl := Aa h222
           exact R3 (by kernel_rfl) ⟨F12, hs225, (le217.trans le226), fI⟩
          ·rintro f w193 ⟨F10, hs194, le195, ⟨_, rfl⟩⟩
           refine Ac ?_
           refine Sq (Rg [0, 1, 2, 3, 4] ?_)
           refine RR (fun f w => ∃ (F13 : Mem), HS w0 F0 w F13 [(sb b60 (Ag x54 ae58_2 ne58_2) 33), (sb b46 (Ag x32 ae44_2 ne44_2) 33), (sb b24 #[(vi 0), (vi 0), (.slice none ([] : List Expr).length 0)] 33), (sb b21 (Ag x0 (some ⟨b36, o37, none⟩) n0_2) 33)] /\ RL F10 F13 /\ FI f [] [(1, (pt b21 0)), (2, (pt b24 0)), (3, (pt b46 0)), (4, (pt b60 0)), (6, (vi j196)), (101, (.bool (((x32.Op == 1) && (x54.Op == 1)) && (decide (j196 >= 0)))))]) ?_ ?_
           ·refine Vs 2 ?_
            refine RQ ((x32.Op == 1) && (x54.Op == 1)) (fun hb238 => ?_) (fun hb238 => ?_)
            ·refine Vgs hb238 2 ?_
             refine Pk1 hb238 ?_
             exact RF ⟨rfl, F10, hs194, (RM _), (fJ ⟨rfl, rfl, rfl, rfl, rfl, (congrArg Value.bool (BX hb238 rfl)), trivial⟩)⟩
            ·refine Ss hb238 2 ?_
             refine Pk0 hb238 ?_
             exact RF ⟨rfl, F10, hs194, (RM _), (fJ ⟨rfl, rfl, rfl, rfl, rfl, (congrArg Value.bool (C9 hb238 rfl)), trivial⟩)⟩
           ·rintro f w228 ⟨F13, hs229, le230, ⟨_, rfl⟩⟩
            refine Ac ?_
            refine Cd h205 (fun hb239 h240 => ?_) (fun hb239 h241 => ?_)
            ·refine Sq (Rg [0, 1, 2] ?_)
             refine Vs 1 ?_
             obtain ⟨r242, hr243, h244⟩ := bind_some h240
             refine Cl' C4 hs229 (Dr N w228 F13 hs229.pers j196 _ hr243) ?_
             rintro _ F14 w246 hs247 le248 ⟨ar242_0_2, nr242_0_2, rfl, hbr242_0_2, hsr242_0_2⟩
             refine St2 (Ag r242 ar242_0_2 nr242_0_2) hs247 (fun w250 hs251 => ?_)
             refine Nt ?_
             refine Rt ?_
             refine Ae ?_
             refine Ai ?_
             refine Ae ?_
             obtain rfl := Aa h244
             exact ⟨rfl, (.agg (Ag r242 ar242_0_2 nr242_0_2)), AA (l := [.cell 2 33]) (by kernel_rfl) (vs := [(.agg (Ag r242 ar242_0_2 nr242_0_2))]) ⟨b24, 0, rfl, Aj (t := 33) (g := true) (s := 3) (by kernel_rfl) hs251.at2 rfl (by decide), trivial⟩, (.agg (Ag r242 ar242_0_2 nr242_0_2)), F14, rfl, hs251.clear, ⟨ar242_0_2, nr242_0_2, rfl, hbr242_0_2, hsr242_0_2⟩⟩
            ·refine Sc ?_
             refine Ac ?_
             refine Sq (Rg [0, 1, 2, 3, 4] ?_)
             refine Ld hs229.at3 ?_
             refine Ld hs229.at1 ?_
             refine Ld hs229.at0 ?_
             obtain ⟨r252, hr253, h254⟩ := bind_some h241
             refine Cl' IG hs229 (Jp N w228 F13 hs229.pers x0 (some ⟨b36, o37, none⟩) n0_2 hb0_2 (RO hs0_2 (((((le67.trans le77).trans le151).trans le166).trans le195).trans le230)) x32 ae44_2 ne44_2 hbe44_2 (RO hse44_2 (((((le67.trans le77).trans le151).trans le166).trans le195).trans le230)) x54 ae58_2 ne58_2 hbe58_2 (RO hse58_2 (((((le67.trans le77).trans le151).trans le166).trans le195).trans le230)) _ hr253) ?_
             rintro _ F15 w256 hs257 le258 ⟨ar252_0_2, nr252_0_2, rfl, hbr252_0_2, hsr252_0_2⟩
             refine St2 (Ag r252 ar252_0_2 nr252_0_2) hs257 (fun w260 hs261 => ?_)
             refine Nt ?_
             refine Rt ?_
             refine Ai ?_
             refine Ae ?_
             obtain rfl := Aa h254
             exact ⟨rfl, (.agg (Ag r252 ar252_0_2 nr252_0_2)), AA (l := [.cell 2 33]) (by kernel_rfl) (vs := [(.agg (Ag r252 ar252_0_2 nr252_0_2))]) ⟨b24, 0, rfl, Aj (t := 33) (g := true) (s := 3) (by kernel_rfl) hs261.at2 rfl (by decide), trivial⟩, (.agg (Ag r252 ar252_0_2 nr252_0_2)), F15, rfl, hs261.clear, ⟨ar252_0_2, nr252_0_2, rfl, hbr252_0_2, hsr252_0_2⟩⟩
         ·refine Sq (Rg [0, 1] ?_)
          refine Vs 2 ?_
          refine Nt ?_
          refine Cd h190 (fun hb262 h263 => ?_) (fun hb262 h264 => ?_)
          ·refine Bk ?_
           refine Sq (Rg [0, 1, 2] ?_)
           refine Ld hs165.at1 ?_
           obtain ⟨r265, hr266, h267⟩ := bind_some h263
           refine Cl' Ft hs165 (FZ N w164 F8 hs165.pers x32 ae44_2 ne44_2 hbe44_2 (RO hse44_2 (((le67.trans le77).trans le151).trans le166)) true _ hr266) ?_
           rintro _ F16 w269 hs270 le271 rfl
           refine Vs 1 ?_
           refine Nt ?_
           refine Cd h267 (fun hb273 h274 => ?_) (fun hb273 h275 => ?_)
           ·refine Sq (Rg [0, 1] ?_)
            refine Ld hs270.at0 ?_
            refine St2 (Ag x54 ae58_2 ne58_2) hs270 (fun w276 hs277 => ?_)
            refine Nt ?_
            refine Rt ?_
            refine Ai ?_
            refine Ai ?_
            refine Ae ?_
            obtain rfl := Aa h274
            exact ⟨rfl, (.agg (Ag x54 ae58_2 ne58_2)), AA (l := [.cell 2 33]) (by kernel_rfl) (vs := [(.agg (Ag x54 ae58_2 ne58_2))]) ⟨b24, 0, rfl, Aj (t := 33) (g := true) (s := 3) (by kernel_rfl) hs277.at2 rfl (by decide), trivial⟩, (.agg (Ag x54 ae58_2 ne58_2)), F16, rfl, hs277.clear, ⟨ae58_2, ne58_2, rfl, hbe58_2, (RO hse58_2 ((((le67.trans le77).trans le151).trans le166).trans le271))⟩⟩
           ·refine Sq (Rg [0, 1, 2] ?_)
            refine Ld hs270.at1 ?_
            obtain ⟨r278, hr279, h280⟩ := bind_some h275
            refine Cl' Ft hs270 (FZ N w269 F16 hs270.pers x32 ae44_2 ne44_2 hbe44_2 (RO hse44_2 ((((le67.trans le77).trans le151).trans le166).trans le271)) false _ hr279) ?_
            rintro _ F17 w282 hs283 le284 rfl
            refine Vs 1 ?_
            refine Nt ?_
            refine Cd h280 (fun hb286 h287 => ?_) (fun hb286 h288 => ?_)
            ·refine Sq (Rg [0, 1, 2, 3, 4] ?_)
             refine Vs 1 ?_
             refine Ld hs283.at3 ?_
             obtain ⟨x289, hx290, h292⟩ := bind_some h287
             obtain ⟨hi291, hx290'⟩ := As hx290
             obtain ⟨ae293_2, ne293_2, hc294, hbe293_2, hse293_2⟩ := (AC (hE43 _ _ hx290'))
             refine Ix hi291 ?_
             refine Lx 0 (hs283.pers _ _ ((((((le67.trans le77).trans le151).trans le166).trans le271).trans le284) _ _ hF42)) hc294 ?_
             refine St2 (Ag x289 ae293_2 ne293_2) hs283 (fun w295 hs296 => ?_)
             refine Nt ?_
             refine Rt ?_
             refine Ai ?_
             refine Ai ?_
             refine Ae ?_
             obtain rfl := Aa h292
             exact ⟨rfl, (.agg (Ag x289 ae293_2 ne293_2)), AA (l := [.cell 2 33]) (by kernel_rfl) (vs := [(.agg (Ag x289 ae293_2 ne293_2))]) ⟨b24, 0, rfl, Aj (t := 33) (g := true) (s := 3) (by kernel_rfl) hs296.at2 rfl (by decide), trivial⟩, (.agg (Ag x289 ae293_2 ne293_2)), F17, rfl, hs296.clear, ⟨ae293_2, ne293_2, rfl, hbe293_2, (RO hse293_2 (((((le67.trans le77).trans le151).trans le166).trans le271).trans le284))⟩⟩
            ·refine Sq ?_
             obtain ⟨j302, hj308, h309⟩ := bind_some h288
             refine RD 7 7 [(sb b60 (Ag x54 ae58_2 ne58_2) 33), (sb b46 (Ag x32 ae44_2 ne44_2) 33), (sb b24 #[(vi 0), (vi 0), (.slice none ([] : List Expr).length 0)] 33), (sb b21 (Ag x0 (some ⟨b36, o37, none⟩) n0_2) 33)] [] hs283 (fun f w => ∃ (F18 : Mem), HS w0 F0 w F18 [(sb b60 (Ag x54 ae58_2 ne58_2) 33), (sb b24 #[(vi 0), (vi 0), (.slice none ([] : List Expr).length 0)] 33), (sb b21 (Ag x0 (some ⟨b36, o37, none⟩) n0_2) 33)] /\ RL F17 F18 /\ FI f [] [(1, (pt b21 0)), (2, (pt b24 0)), (4, (pt b60 0)), (121, (.bool j302))]) (fun wd297 hw298 => ?_) ?_
             ·refine Dl 0 (fun _ hq => (hq.1.2 0 _ _ rfl)) ?_
              refine Dv [1] ?_
              refine Dl 2 (fun _ hq => (hq.1.2 3 _ _ rfl)) ?_
              obtain ⟨x310, hx311, h313⟩ := bind_some hj308
              obtain ⟨hi312, hx311'⟩ := As hx311
              obtain ⟨ae314_2, ne314_2, hc315, hbe314_2, hse314_2⟩ := (AC (hE43 _ _ hx311'))
              refine Di 3 hi312 ?_
              refine Dx 4 0 (fun _ hq => hq.1.1 _ _ ((((((le67.trans le77).trans le151).trans le166).trans le271).trans le284) _ _ hF42)) hc315 ?_
              refine D1 5 ?_
              obtain ⟨r316, hr317, h318⟩ := bind_some h313
              refine DCl CE hw298 (El N wd297 F17 hw298.pers x54 ae58_2 ne58_2 hbe58_2 (RO hse58_2 (((((le67.trans le77).trans le151).trans le166).trans le271).trans le284)) x310 ae314_2 ne314_2 hbe314_2 (RO hse314_2 (((((le67.trans le77).trans le151).trans le166).trans le271).trans le284)) _ hr317) ?_
              rintro _ F19 w320 hs321 le322 rfl
              refine Dv [6] ?_
              obtain rfl := Aa h318
              exact R3 (by kernel_rfl) ⟨F19, hs321.dr1, le322, fI⟩
             ·rintro f w299 ⟨F18, hs300, le301, ⟨_, rfl⟩⟩
              refine Ac ?_
              refine Cd h309 (fun hb324 h325 => ?_) (fun hb324 h326 => ?_)
              ·refine Sq (Rg [0, 1] ?_)
               refine Ld hs300.at0 ?_
               refine St1 (Ag x54 ae58_2 ne58_2) hs300 (fun w327 hs328 => ?_)
               refine Nt ?_
               refine Rt ?_
               refine Ai ?_
               refine Ai ?_
               refine Ae ?_
               obtain rfl := Aa h325
               exact ⟨rfl, (.agg (Ag x54 ae58_2 ne58_2)), AA (l := [.cell 2 33]) (by kernel_rfl) (vs := [(.agg (Ag x54 ae58_2 ne58_2))]) ⟨b24, 0, rfl, Aj (t := 33) (g := true) (s := 3) (by kernel_rfl) hs328.at1 rfl (by decide), trivial⟩, (.agg (Ag x54 ae58_2 ne58_2)), F18, rfl, hs328.clear, ⟨ae58_2, ne58_2, rfl, hbe58_2, (RO hse58_2 ((((((le67.trans le77).trans le151).trans le166).trans le271).trans le284).trans le301))⟩⟩
              ·refine Sc ?_
               refine Ap ?_
               refine Ap ?_
               refine Ac ?_
               refine Sq (Rg [0, 1] ?_)
               refine Ld hs300.at2 ?_
               refine St1 (Ag x0 (some ⟨b36, o37, none⟩) n0_2) hs300 (fun w329 hs330 => ?_)
               refine Nt ?_
               refine Rt ?_
               obtain rfl := Aa h326
               exact ⟨rfl, (.agg (Ag x0 (some ⟨b36, o37, none⟩) n0_2)), AA (l := [.cell 2 33]) (by kernel_rfl) (vs := [(.agg (Ag x0 (some ⟨b36, o37, none⟩) n0_2))]) ⟨b24, 0, rfl, Aj (t := 33) (g := true) (s := 3) (by kernel_rfl) hs330.at1 rfl (by decide), trivial⟩, (.agg (Ag x0 (some ⟨b36, o37, none⟩) n0_2)), F18, rfl, hs330.clear, ⟨(some ⟨b36, o37, none⟩), n0_2, rfl, hb0_2, (RO hs0_2 ((((((le67.trans le77).trans le151).trans le166).trans le271).trans le284).trans le301))⟩⟩
          ·cases h264
def NT (sR94 : Expr -> Option Expr) : Prop := ∀ (w0 : World) (F0 : Mem) (hF : Sa w0 F0) (x0 : Expr) (a0_2 : R9) (n0_2 : Nat) (hb0_2 : LC x0.Kids.length n0_2) (hs0_2 : SlA Ao F0 a0_2 x0.Kids) (r : Expr), sR94 x0 = some r -> Calls Tryz.prog 94 ([(.agg #[(.int .i64 x0.Op), (.int .i64 x0.Value), (.slice a0_2 x0.Kids.length n0_2)])] : List Value).toArray w0 (AK w0 F0 fun F' v => ∃ (aq0_2 : R9) (nq0_2 : Nat), v = (.agg #[(.int .i64 r.Op), (.int .i64 r.Value), (.slice aq0_2 r.Kids.length nq0_2)]) /\ LC r.Kids.length nq0_2 /\ SlA Ao F' aq0_2 r.Kids)
theorem D9 : Ak Tryz.prog 94 := fun _ _ => by kernel_rfl
def D0 (N : Nat) (sR94 : Expr -> Option Expr) (x0 : Expr) : (Int × List Expr) -> Option (Be Expr (Int × List Expr)) := fun s37 =>
 (bif (decide (s37.1 < (x0.Kids.length : Int))) then ((idx x0.Kids s37.1).bind fun x63 => (((sR94 x63).bind fun r96 => ((EG s37.2 [r96]).bind fun r109 => some r109)).bind fun j87 => some (.next ((W64 (s37.1 + 1)), j87)))) else some (.done (s37.1, s37.2)))
def Er (N : Nat) (sR94 : Expr -> Option Expr) (x0 : Expr) : Option Expr :=
 ((AZ (D0 N sR94 x0) N (0, ([] : List Expr))).bind fun o => o.k (fun r => some r) (fun s47 => ((Hq N ({ Op := x0.Op, Value := x0.Value, Kids := s47.2 } : Expr)).bind fun r127 => some r127)))
theorem Hf (N : Nat) (sR94 : Expr -> Option Expr) (hsR94 : NT sR94) (w0 : World) (F0 : Mem) (hF : Sa w0 F0) (x0 : Expr) (a0_2 : R9) (n0_2 : Nat) (hb0_2 : LC x0.Kids.length n0_2) (hs0_2 : SlA Ao F0 a0_2 x0.Kids) (r : Expr) (h : Er N sR94 x0 = some r) :
  Calls Tryz.prog 94 ([(.agg (Ag x0 a0_2 n0_2))] : List Value).toArray w0 (AK w0 F0 fun F' v => ∃ (aq0_2 : R9) (nq0_2 : Nat), v = (.agg (Ag r aq0_2 nq0_2)) /\ LC r.Kids.length nq0_2 /\ SlA Ao F' aq0_2 r.Kids) := by
 have hs0 := RN hF
 refine Go 28 Tryz.func94 ?_
 refine Sq (Rg [0, 1] ?_)
 refine Bx' 33 (Ag x0 a0_2 n0_2) hs0 (fun b21 w22 hs23 => ?_)
 refine Al' 33 #[(vi 0), (vi 0), (.slice none ([] : List Expr).length 0)] hs23 (fun b24 w25 hs26 => ?_)
 refine Nss (Rg [0, 1, 2, 3, 4, 5, 6] ?_)
 refine Vs 1 ?_
 refine Ld hs26.at1 ?_
 refine Vs 1 ?_
 refine Ld hs26.at1 ?_
 refine Vs 1 ?_
 refine Al' 33 #[(vi 0), (vi 0), (.slice none ([] : List Expr).length 0)] hs26 (fun b27 w28 hs29 => ?_)
 refine St0 #[(vi x0.Op), (vi x0.Value), (.slice none ([] : List Expr).length 0)] hs29 (fun w30 hs31 => ?_)
 refine Nss ?_
 refine Sq (Rg [0, 1, 2, 3] ?_)
 refine Vs 1 ?_
 refine Ld hs31.at2 ?_
 refine Vs 2 ?_
 refine Nt ?_
 have hs32 := hs31.dr2.dummy (oc #[] 0)
 obtain ⟨o34, ho35, h36⟩ := bind_some h
 refine RS (fun f w => ∃ (s47 : (Int × List Expr)) (F2 : Mem) (as47_1 : R9) (ns47_1 : Nat) (es47_1 : Option Nat × Obj), o34 = .done s47 /\ HS w0 F0 w F2 [es47_1, (sb b27 #[(vi x0.Op), (vi x0.Value), (.slice as47_1 s47.2.length ns47_1)] 33), (sb b24 #[(vi 0), (vi 0), (.slice none ([] : List Expr).length 0)] 33)] /\ RL F0 F2 /\ FI f [] [(2, (pt b24 0)), (3, (pt b27 0))] /\ Aq Ao 33 F2 as47_1 ns47_1 s47.2 es47_1) ?_ ?_
 ·refine Bk ?_
  refine RK (by kernel_rfl) (fun m f w => ∃ (s37 : (Int × List Expr)) (F1 : Mem) (as37_1 : R9) (ns37_1 : Nat) (es37_1 : Option Nat × Obj), AZ (D0 N sR94 x0) m s37 = some o34 /\ HS w0 F0 w F1 [es37_1, (sb b27 #[(vi x0.Op), (vi x0.Value), (.slice as37_1 s37.2.length ns37_1)] 33), (sb b24 #[(vi 0), (vi 0), (.slice none ([] : List Expr).length 0)] 33)] /\ RL F0 F1 /\ FI f [] [(2, (pt b24 0)), (3, (pt b27 0)), (12, (.slice a0_2 x0.Kids.length n0_2)), (13, (vi (x0.Kids.length : Int))), (14, (vi s37.1))] /\ Aq Ao 33 F1 as37_1 ns37_1 s37.2 es37_1) N ⟨(0, ([] : List Expr)), F0, none, 0, (none, .cells #[] 0 (0, 0)), ho35, hs32, (RM _), fI, (R5 Ao 33 F0 _)⟩ ?_
  rintro m54 f w38 ⟨s37, F1, as37_1, ns37_1, es37_1, hit55, hs39, le40, ⟨_, rfl⟩, hrs37_1⟩
  obtain ⟨m56, fl57, rfl, hb58, hnx59⟩ := AR hit55
  refine Sq (Rg [0] ?_)
  refine Vs 1 ?_
  refine Nss ?_
  refine Cd hb58 (fun hb60 h61 => ?_) (fun hb60 h62 => ?_)
  ·refine Sc ?_
   refine Ac ?_
   refine Sq ?_
   refine Bk ?_
   refine Sq (Rg [0, 1, 2, 3] ?_)
   obtain ⟨x63, hx64, h66⟩ := bind_some h61
   obtain ⟨hi65, hx64'⟩ := As hx64
   obtain ⟨b67, o68, C69, E70, fz71, rfl, hF73, hE74⟩ := RV (RO hs0_2 le40) hx64'
   obtain ⟨ae75_2, ne75_2, hc76, hbe75_2, hse75_2⟩ := (AC (hE74 _ _ hx64'))
   refine Ix hi65 ?_
   refine Lx 0 (hs39.pers _ _ hF73) hc76 ?_
   refine Al' 33 #[(vi 0), (vi 0), (.slice none ([] : List Expr).length 0)] hs39 (fun b77 w78 hs79 => ?_)
   refine St0 (Ag x63 ae75_2 ne75_2) hs79 (fun w80 hs81 => ?_)
   refine Nt ?_
   obtain ⟨j87, hj94, h95⟩ := bind_some h66
   refine RD 7 8 [(sb b77 (Ag x63 ae75_2 ne75_2) 33), (sb b24 #[(vi 0), (vi 0), (.slice none ([] : List Expr).length 0)] 33)] [(sb b27 #[(vi x0.Op), (vi x0.Value), (.slice as37_1 s37.2.length ns37_1)] 33)] hs81 (fun f w => ∃ (F3 : Mem) (aj87_0 : R9) (nj87_0 : Nat) (ej87_0 : Option Nat × Obj), HS w0 F0 w F3 [ej87_0, (sb b27 #[(vi x0.Op), (vi x0.Value), (.slice aj87_0 j87.length nj87_0)] 33), (sb b24 #[(vi 0), (vi 0), (.slice none ([] : List Expr).length 0)] 33)] /\ RL F1 F3 /\ FI f [] [(2, (pt b24 0)), (3, (pt b27 0)), (12, (.slice (some ⟨b67, o68, none⟩) x0.Kids.length n0_2)), (13, (vi (x0.Kids.length : Int))), (14, (vi s37.1))] /\ Aq Ao 33 F3 aj87_0 nj87_0 j87 ej87_0) (fun wd82 hw83 => ?_) ?_
   ·refine Dv [0] ?_
    refine Dl 1 (fun _ hq => ((hq.2 rfl).2 0 _ _ rfl)) ?_
    refine Dl 2 (fun _ hq => (hq.1.2 0 _ _ rfl)) ?_
    refine D1 3 ?_
    obtain ⟨r96, hr97, h98⟩ := bind_some hj94
    refine DCl D9 hw83 (hsR94 wd82 F1 hw83.pers x63 ae75_2 ne75_2 hbe75_2 hse75_2 _ hr97) ?_
    rintro _ F4 w100 hs101 le102 ⟨ar96_0_2, nr96_0_2, rfl, hbr96_0_2, hsr96_0_2⟩
    refine D1 4 ?_
    refine DBs 33 [(vi r96.Op), (vi r96.Value), (.slice ar96_0_2 r96.Kids.length nr96_0_2)] hs101 le102 (fun b104 w105 hs106 => ?_)
    have hr108 : Aq Ao 33 F4 (some ⟨b104, 0, none⟩) 1 [r96] (some b104, .cells ([(vi r96.Op), (vi r96.Value), (.slice ar96_0_2 r96.Kids.length nr96_0_2)] : List Value).toArray 33 (0, 0)) := R6 ⟨(A7 ⟨ar96_0_2, nr96_0_2, rfl, hbr96_0_2, hsr96_0_2⟩), rfl⟩ (by simp)
    refine D1 5 ?_
    obtain ⟨r109, hap110, h111⟩ := bind_some h98
    refine RC Pd hs106 (hrs37_1.mono le102) (hs106.rd0 hr108) hap110 le102 (fun a112 n113 e114 w115 hs116 hr117 => ?_)
    refine Dv [6] ?_
    refine D1 7 ?_
    refine QP #[(vi x0.Op), (vi x0.Value), (.slice a112 r109.length n113)] hs116 le102 (fun w118 hs119 => ?_)
    obtain rfl := Aa h111
    exact R3 (by kernel_rfl) ⟨F4, a112, n113, e114, hs119.dr0.dr0, le102, fI, hr117⟩
   ·rintro f w84 ⟨F3, aj87_0, nj87_0, ej87_0, hs85, le86, ⟨_, rfl⟩, hrj87_0⟩
    refine Ap ?_
    refine Ac ?_
    refine Rg [0, 1] ?_
    refine Vs 2 ?_
    refine RF ?_
    have hn120 := AL h95 hnx59
    exact ⟨m56, Nat.lt_succ_self _, ((W64 (s37.1 + 1)), j87), F3, aj87_0, nj87_0, ej87_0, hn120, hs85, (le40.trans le86), fI, hrj87_0⟩
  ·refine Ex ?_
   refine Ax ?_
   refine Ax ?_
   refine AF rfl ?_
   have ho121 := AU h62 hnx59
   exact .inl ⟨rfl, (s37.1, s37.2), F1, as37_1, ns37_1, es37_1, ho121, hs39, le40, fI, hrs37_1⟩
 ·rintro f w48 ⟨s47, F2, as47_1, ns47_1, es47_1, rfl, hs49, le50, ⟨_, rfl⟩, hrs47_1⟩
  have h122 := Bm h36
  refine Ac ?_
  refine Sq (Rg [0, 1, 2] ?_)
  refine Ld hs49.at1 ?_
  have hb126 := R4 hrs47_1
  obtain ⟨F5, hs123, le124, hs125⟩ := hs49.fr0 hrs47_1
  obtain ⟨r127, hr128, h129⟩ := bind_some h122
  refine Cl' Jh hs123 (JX N w48 F5 hs123.pers (({ Op := x0.Op, Value := x0.Value, Kids := s47.2 } : Expr)) as47_1 ns47_1 hb126 hs125 _ hr128) ?_
  rintro _ F6 w131 hs132 le133 ⟨ar127_0_2, nr127_0_2, rfl, hbr127_0_2, hsr127_0_2⟩
  refine St1 (Ag r127 ar127_0_2 nr127_0_2) hs132 (fun w135 hs136 => ?_)
  refine Nt ?_
  refine Rt ?_
  obtain rfl := Aa h129
  exact ⟨rfl, (.agg (Ag r127 ar127_0_2 nr127_0_2)), AA (l := [.cell 2 33]) (by kernel_rfl) (vs := [(.agg (Ag r127 ar127_0_2 nr127_0_2))]) ⟨b24, 0, rfl, Aj (t := 33) (g := true) (s := 3) (by kernel_rfl) hs136.at1 rfl (by decide), trivial⟩, (.agg (Ag r127 ar127_0_2 nr127_0_2)), F6, rfl, hs136.clear, ⟨ar127_0_2, nr127_0_2, rfl, hbr127_0_2, hsr127_0_2⟩⟩
structure Rb where
 q94 : Expr -> Option Expr
def N9 (N : Nat) : Nat -> Rb
 | 0 => ⟨fun _ => none⟩
 | k + 1 => ⟨Er N (N9 N k).q94⟩
theorem MT (N : Nat) : ∀ k, NT (N9 N k).q94
 | 0 => (by unfold NT; intros; rename_i h; cases h)
 | k + 1 => by
  have ih := MT N k
  exact @Hf N (N9 N k).q94 ih
def Fg (N : Nat) (x0 : Expr) : Option Expr := (N9 N N).q94 x0
theorem HN (N : Nat) (w0 : World) (F0 : Mem) (hF : Sa w0 F0) (x0 : Expr) (a0_2 : R9) (n0_2 : Nat) (hb0_2 : LC x0.Kids.length n0_2) (hs0_2 : SlA Ao F0 a0_2 x0.Kids) (r : Expr) (h : Fg N x0 = some r) :
  Calls Tryz.prog 94 ([(.agg #[(.int .i64 x0.Op), (.int .i64 x0.Value), (.slice a0_2 x0.Kids.length n0_2)])] : List Value).toArray w0 (AK w0 F0 fun F' v => ∃ (aq0_2 : R9) (nq0_2 : Nat), v = (.agg #[(.int .i64 r.Op), (.int .i64 r.Value), (.slice aq0_2 r.Kids.length nq0_2)]) /\ LC r.Kids.length nq0_2 /\ SlA Ao F' aq0_2 r.Kids) := (MT N N) w0 F0 hF x0 a0_2 n0_2 hb0_2 hs0_2 r h
def Gl (N : Nat) (x0 : Expr) : Option (Expr × Int) :=
 ((CN N x0).bind fun r27 => (bif (!r27) then some (({ Op := 0, Value := 0, Kids := ([] : List Expr) } : Expr), 61) else ((Fg N x0).bind fun r40 => some (r40, 0))))
theorem II : Ak Tryz.prog 30 := fun _ _ => by kernel_rfl
theorem Jq (N : Nat) (w0 : World) (F0 : Mem) (hF : Sa w0 F0) (x0 : Expr) (a0_2 : R9) (n0_2 : Nat) (hb0_2 : LC x0.Kids.length n0_2) (hs0_2 : SlA Ao F0 a0_2 x0.Kids) (r : (Expr × Int)) (h : Gl N x0 = some r) :
  Calls Tryz.prog 30 ([(.agg (Ag x0 a0_2 n0_2))] : List Value).toArray w0 (AK w0 F0 fun F' v => ∃ (aq0_2 : R9) (nq0_2 : Nat), v = (.tuple #[(.agg (Ag r.1 aq0_2 nq0_2)), (vi r.2)]) /\ LC r.1.Kids.length nq0_2 /\ SlA Ao F' aq0_2 r.1.Kids) := by
 have hs0 := RN hF
 refine Go 10 Tryz.func30 ?_
 refine Sq (Rg [0, 1, 2] ?_)
 refine Bx' 33 (Ag x0 a0_2 n0_2) hs0 (fun b21 w22 hs23 => ?_)
 refine Al' 33 #[(vi 0), (vi 0), (.slice none ([] : List Expr).length 0)] hs23 (fun b24 w25 hs26 => ?_)
 refine Vs 1 ?_
 refine Nss ?_
 refine Sq (Rg [0, 1, 2] ?_)
 refine Ld hs26.at1 ?_
 obtain ⟨r27, hr28, h29⟩ := bind_some h
 refine Cl' Ez hs26 (E7 N w25 F0 hs26.pers x0 a0_2 n0_2 hb0_2 hs0_2 _ hr28) ?_
 rintro _ F1 w31 hs32 le33 rfl
 refine Vs 1 ?_
 refine Nt ?_
 refine Cd h29 (fun hb35 h36 => ?_) (fun hb35 h37 => ?_)
 ·refine Sq (Rg [0, 1, 2] ?_)
  refine Vs 1 ?_
  refine St0 #[(vi 0), (vi 0), (.slice none ([] : List Expr).length 0)] hs32 (fun w38 hs39 => ?_)
  refine Vs 1 ?_
  refine Nt ?_
  refine Rt ?_
  refine Ae ?_
  obtain rfl := Aa h36
  exact ⟨rfl, (.tuple #[(.agg #[(vi 0), (vi 0), (.slice none ([] : List Expr).length 0)]), (vi 61)]), AA (l := [.cell 2 33, .tmp 3]) (by kernel_rfl) (vs := [(.agg #[(vi 0), (vi 0), (.slice none ([] : List Expr).length 0)]), (vi 61)]) ⟨b24, 0, rfl, Aj (t := 33) (g := true) (s := 3) (by kernel_rfl) hs39.at0 rfl (by decide), ⟨rfl, trivial⟩⟩, (.tuple #[(.agg #[(vi 0), (vi 0), (.slice none ([] : List Expr).length 0)]), (vi 61)]), F1, rfl, hs39.clear, ⟨none, 0, rfl, RP, (.inl rfl)⟩⟩
 ·refine Sc ?_
  refine Ac ?_
  refine Sq (Rg [0, 1, 2, 3] ?_)
  refine Ld hs32.at1 ?_
  obtain ⟨r40, hr41, h42⟩ := bind_some h37
  refine Cl' D9 hs32 (HN N w31 F1 hs32.pers x0 a0_2 n0_2 hb0_2 (RO hs0_2 le33) _ hr41) ?_
  rintro _ F2 w44 hs45 le46 ⟨ar40_0_2, nr40_0_2, rfl, hbr40_0_2, hsr40_0_2⟩
  refine St0 (Ag r40 ar40_0_2 nr40_0_2) hs45 (fun w48 hs49 => ?_)
  refine Vs 1 ?_
  refine Nt ?_
  refine Rt ?_
  obtain rfl := Aa h42
  exact ⟨rfl, (.tuple #[(.agg (Ag r40 ar40_0_2 nr40_0_2)), (vi 0)]), AA (l := [.cell 2 33, .tmp 3]) (by kernel_rfl) (vs := [(.agg (Ag r40 ar40_0_2 nr40_0_2)), (vi 0)]) ⟨b24, 0, rfl, Aj (t := 33) (g := true) (s := 3) (by kernel_rfl) hs49.at0 rfl (by decide), ⟨rfl, trivial⟩⟩, (.tuple #[(.agg (Ag r40 ar40_0_2 nr40_0_2)), (vi 0)]), F2, rfl, hs49.clear, ⟨ar40_0_2, nr40_0_2, rfl, hbr40_0_2, hsr40_0_2⟩⟩
def HX (N : Nat) (x0 : Int) : Option (BN × Bool) :=
 (bif (x0 == 5) then some (({ text_ := ([111, 114] : R8), rank_ := 1, left_ := 1, right_ := 2 } : BN), true) else (bif (x0 == 4) then some (({ text_ := ([97, 110, 100] : R8), rank_ := 2, left_ := 2, right_ := 3 } : BN), true) else (bif (x0 == 6) then some (({ text_ := ([61] : R8), rank_ := 4, left_ := 5, right_ := 5 } : BN), true) else (bif (x0 == 7) then some (({ text_ := ([60] : R8), rank_ := 4, left_ := 5, right_ := 5 } : BN), true) else (bif (x0 == 8) then some (({ text_ := ([43] : R8), rank_ := 5, left_ := 5, right_ := 6 } : BN), true) else (bif (x0 == 9) then some (({ text_ := ([45] : R8), rank_ := 5, left_ := 5, right_ := 6 } : BN), true) else (bif (x0 == 10) then some (({ text_ := ([42] : R8), rank_ := 6, left_ := 6, right_ := 7 } : BN), true) else some (({ text_ := ([] : R8), rank_ := 0, left_ := 0, right_ := 0 } : BN), false))))))))
theorem JP : Ak Tryz.prog 150 := fun _ _ => by kernel_rfl
theorem K0 (N : Nat) (w0 : World) (F0 : Mem) (hF : Sa w0 F0) (x0 : Int) (r : (BN × Bool)) (h : HX N x0 = some r) :
  Calls Tryz.prog 150 ([(vi x0)] : List Value).toArray w0 (AK w0 F0 fun F' v => v = (.tuple #[(.agg (ET r.1)), (.bool r.2)])) := by
 have hs0 := RN hF
 refine Go 27 Tryz.func150 ?_
 refine Sq (Rg [0, 1] ?_)
 refine Al' 173 #[(.string ⟨(([] : R8)).toArray⟩), (vi 0), (vi 0), (vi 0)] hs0 (fun b21 w22 hs23 => ?_)
 refine Vs 1 ?_
 refine Nss ?_
 refine Sq (Rg [0] ?_)
 refine Vs 1 ?_
 refine Nt ?_
 refine Bk ?_
 refine Sq (Rg [0, 1] ?_)
 refine Vs 2 ?_
 refine Nt ?_
 refine Cd h (fun hb24 h25 => ?_) (fun hb24 h26 => ?_)
 ·refine Sq (Rg [0, 1, 2] ?_)
  refine Vs 1 ?_
  refine St0 #[(.string ⟨(([111, 114] : R8)).toArray⟩), (vi 1), (vi 1), (vi 2)] hs23 (fun w27 hs28 => ?_)
  refine Vs 1 ?_
  refine Nt ?_
  refine Rt ?_
  refine Ai ?_
  refine Ae ?_
  obtain rfl := Aa h25
  exact ⟨rfl, (.tuple #[(.agg #[(.string ⟨(([111, 114] : R8)).toArray⟩), (vi 1), (vi 1), (vi 2)]), (.bool true)]), AA (l := [.cell 2 173, .tmp 3]) (by kernel_rfl) (vs := [(.agg #[(.string ⟨(([111, 114] : R8)).toArray⟩), (vi 1), (vi 1), (vi 2)]), (.bool true)]) ⟨b21, 0, rfl, Aj (t := 173) (g := true) (s := 4) (by kernel_rfl) hs28.at0 rfl (by decide), ⟨rfl, trivial⟩⟩, (.tuple #[(.agg #[(.string ⟨(([111, 114] : R8)).toArray⟩), (vi 1), (vi 1), (vi 2)]), (.bool true)]), F0, rfl, hs28.clear, rfl⟩
 ·refine Sq (Rg [0, 1] ?_)
  refine Vs 2 ?_
  refine Nt ?_
  refine Cd h26 (fun hb29 h30 => ?_) (fun hb29 h31 => ?_)
  ·refine Sq (Rg [0, 1, 2] ?_)
   refine Vs 1 ?_
   refine St0 #[(.string ⟨(([97, 110, 100] : R8)).toArray⟩), (vi 2), (vi 2), (vi 3)] hs23 (fun w32 hs33 => ?_)
   refine Vs 1 ?_
   refine Nt ?_
   refine Rt ?_
   refine Ai ?_
   refine Ae ?_
   obtain rfl := Aa h30
   exact ⟨rfl, (.tuple #[(.agg #[(.string ⟨(([97, 110, 100] : R8)).toArray⟩), (vi 2), (vi 2), (vi 3)]), (.bool true)]), AA (l := [.cell 2 173, .tmp 3]) (by kernel_rfl) (vs := [(.agg #[(.string ⟨(([97, 110, 100] : R8)).toArray⟩), (vi 2), (vi 2), (vi 3)]), (.bool true)]) ⟨b21, 0, rfl, Aj (t := 173) (g := true) (s := 4) (by kernel_rfl) hs33.at0 rfl (by decide), ⟨rfl, trivial⟩⟩, (.tuple #[(.agg #[(.string ⟨(([97, 110, 100] : R8)).toArray⟩), (vi 2), (vi 2), (vi 3)]), (.bool true)]), F0, rfl, hs33.clear, rfl⟩
  ·refine Sq (Rg [0, 1] ?_)
   refine Vs 2 ?_
   refine Nt ?_
   refine Cd h31 (fun hb34 h35 => ?_) (fun hb34 h36 => ?_)
   ·refine Sq (Rg [0, 1, 2] ?_)
    refine Vs 1 ?_
    refine St0 #[(.string ⟨(([61] : R8)).toArray⟩), (vi 4), (vi 5), (vi 5)] hs23 (fun w37 hs38 => ?_)
    refine Vs 1 ?_
    refine Nt ?_
    refine Rt ?_
    refine Ai ?_
    refine Ae ?_
    obtain rfl := Aa h35
    exact ⟨rfl, (.tuple #[(.agg #[(.string ⟨(([61] : R8)).toArray⟩), (vi 4), (vi 5), (vi 5)]), (.bool true)]), AA (l := [.cell 2 173, .tmp 3]) (by kernel_rfl) (vs := [(.agg #[(.string ⟨(([61] : R8)).toArray⟩), (vi 4), (vi 5), (vi 5)]), (.bool true)]) ⟨b21, 0, rfl, Aj (t := 173) (g := true) (s := 4) (by kernel_rfl) hs38.at0 rfl (by decide), ⟨rfl, trivial⟩⟩, (.tuple #[(.agg #[(.string ⟨(([61] : R8)).toArray⟩), (vi 4), (vi 5), (vi 5)]), (.bool true)]), F0, rfl, hs38.clear, rfl⟩
   ·refine Sq (Rg [0, 1] ?_)
    refine Vs 2 ?_
    refine Nt ?_
    refine Cd h36 (fun hb39 h40 => ?_) (fun hb39 h41 => ?_)
    ·refine Sq (Rg [0, 1, 2] ?_)
     refine Vs 1 ?_
     refine St0 #[(.string ⟨(([60] : R8)).toArray⟩), (vi 4), (vi 5), (vi 5)] hs23 (fun w42 hs43 => ?_)
     refine Vs 1 ?_
     refine Nt ?_
     refine Rt ?_
     refine Ai ?_
     refine Ae ?_
     obtain rfl := Aa h40
     exact ⟨rfl, (.tuple #[(.agg #[(.string ⟨(([60] : R8)).toArray⟩), (vi 4), (vi 5), (vi 5)]), (.bool true)]), AA (l := [.cell 2 173, .tmp 3]) (by kernel_rfl) (vs := [(.agg #[(.string ⟨(([60] : R8)).toArray⟩), (vi 4), (vi 5), (vi 5)]), (.bool true)]) ⟨b21, 0, rfl, Aj (t := 173) (g := true) (s := 4) (by kernel_rfl) hs43.at0 rfl (by decide), ⟨rfl, trivial⟩⟩, (.tuple #[(.agg #[(.string ⟨(([60] : R8)).toArray⟩), (vi 4), (vi 5), (vi 5)]), (.bool true)]), F0, rfl, hs43.clear, rfl⟩
    ·refine Sq (Rg [0, 1] ?_)
     refine Vs 2 ?_
     refine Nt ?_
     refine Cd h41 (fun hb44 h45 => ?_) (fun hb44 h46 => ?_)
     ·refine Sq (Rg [0, 1, 2] ?_)
      refine Vs 1 ?_
      refine St0 #[(.string ⟨(([43] : R8)).toArray⟩), (vi 5), (vi 5), (vi 6)] hs23 (fun w47 hs48 => ?_)
      refine Vs 1 ?_
      refine Nt ?_
      refine Rt ?_
      refine Ai ?_
      refine Ae ?_
      obtain rfl := Aa h45
      exact ⟨rfl, (.tuple #[(.agg #[(.string ⟨(([43] : R8)).toArray⟩), (vi 5), (vi 5), (vi 6)]), (.bool true)]), AA (l := [.cell 2 173, .tmp 3]) (by kernel_rfl) (vs := [(.agg #[(.string ⟨(([43] : R8)).toArray⟩), (vi 5), (vi 5), (vi 6)]), (.bool true)]) ⟨b21, 0, rfl, Aj (t := 173) (g := true) (s := 4) (by kernel_rfl) hs48.at0 rfl (by decide), ⟨rfl, trivial⟩⟩, (.tuple #[(.agg #[(.string ⟨(([43] : R8)).toArray⟩), (vi 5), (vi 5), (vi 6)]), (.bool true)]), F0, rfl, hs48.clear, rfl⟩
     ·refine Sq (Rg [0, 1] ?_)
      refine Vs 2 ?_
      refine Nt ?_
      refine Cd h46 (fun hb49 h50 => ?_) (fun hb49 h51 => ?_)
      ·refine Sq (Rg [0, 1, 2] ?_)
       refine Vs 1 ?_
       refine St0 #[(.string ⟨(([45] : R8)).toArray⟩), (vi 5), (vi 5), (vi 6)] hs23 (fun w52 hs53 => ?_)
       refine Vs 1 ?_
       refine Nt ?_
       refine Rt ?_
       refine Ai ?_
       refine Ae ?_
       obtain rfl := Aa h50
       exact ⟨rfl, (.tuple #[(.agg #[(.string ⟨(([45] : R8)).toArray⟩), (vi 5), (vi 5), (vi 6)]), (.bool true)]), AA (l := [.cell 2 173, .tmp 3]) (by kernel_rfl) (vs := [(.agg #[(.string ⟨(([45] : R8)).toArray⟩), (vi 5), (vi 5), (vi 6)]), (.bool true)]) ⟨b21, 0, rfl, Aj (t := 173) (g := true) (s := 4) (by kernel_rfl) hs53.at0 rfl (by decide), ⟨rfl, trivial⟩⟩, (.tuple #[(.agg #[(.string ⟨(([45] : R8)).toArray⟩), (vi 5), (vi 5), (vi 6)]), (.bool true)]), F0, rfl, hs53.clear, rfl⟩
      ·refine Sq (Rg [0, 1] ?_)
       refine Vs 2 ?_
       refine Nt ?_
       refine Cd h51 (fun hb54 h55 => ?_) (fun hb54 h56 => ?_)
       ·refine Sq (Rg [0, 1, 2] ?_)
        refine Vs 1 ?_
        refine St0 #[(.string ⟨(([42] : R8)).toArray⟩), (vi 6), (vi 6), (vi 7)] hs23 (fun w57 hs58 => ?_)
        refine Vs 1 ?_
        refine Nt ?_
        refine Rt ?_
        refine Ai ?_
        refine Ae ?_
        obtain rfl := Aa h55
        exact ⟨rfl, (.tuple #[(.agg #[(.string ⟨(([42] : R8)).toArray⟩), (vi 6), (vi 6), (vi 7)]), (.bool true)]), AA (l := [.cell 2 173, .tmp 3]) (by kernel_rfl) (vs := [(.agg #[(.string ⟨(([42] : R8)).toArray⟩), (vi 6), (vi 6), (vi 7)]), (.bool true)]) ⟨b21, 0, rfl, Aj (t := 173) (g := true) (s := 4) (by kernel_rfl) hs58.at0 rfl (by decide), ⟨rfl, trivial⟩⟩, (.tuple #[(.agg #[(.string ⟨(([42] : R8)).toArray⟩), (vi 6), (vi 6), (vi 7)]), (.bool true)]), F0, rfl, hs58.clear, rfl⟩
       ·refine Sc ?_
        refine Ap ?_
        refine Ac ?_
        refine Sq (Rg [0, 1, 2] ?_)
        refine Vs 1 ?_
        refine St0 #[(.string ⟨(([] : R8)).toArray⟩), (vi 0), (vi 0), (vi 0)] hs23 (fun w59 hs60 => ?_)
        refine Vs 1 ?_
        refine Nt ?_
        refine Rt ?_
        obtain rfl := Aa h56
        exact ⟨rfl, (.tuple #[(.agg #[(.string ⟨(([] : R8)).toArray⟩), (vi 0), (vi 0), (vi 0)]), (.bool false)]), AA (l := [.cell 2 173, .tmp 3]) (by kernel_rfl) (vs := [(.agg #[(.string ⟨(([] : R8)).toArray⟩), (vi 0), (vi 0), (vi 0)]), (.bool false)]) ⟨b21, 0, rfl, Aj (t := 173) (g := true) (s := 4) (by kernel_rfl) hs60.at0 rfl (by decide), ⟨rfl, trivial⟩⟩, (.tuple #[(.agg #[(.string ⟨(([] : R8)).toArray⟩), (vi 0), (vi 0), (vi 0)]), (.bool false)]), F0, rfl, hs60.clear, rfl⟩
def Gk (N : Nat)  : Option (List R8) :=
 some [([98, 97, 110, 100] : R8), ([109, 111, 100, 101] : R8), ([104, 111, 117, 114] : R8), ([109, 121, 99, 111, 117, 110, 116, 114, 121] : R8), ([109, 121, 122, 111, 110, 101] : R8), ([109, 121, 99, 111, 110, 116, 105, 110, 101, 110, 116] : R8), ([99, 111, 117, 110, 116, 114, 121] : R8), ([122, 111, 110, 101] : R8), ([99, 111, 110, 116, 105, 110, 101, 110, 116] : R8), ([99, 97, 108, 108] : R8), ([103, 111, 116, 122, 111, 110, 101] : R8), ([99, 97, 116, 101, 103, 111, 114, 121] : R8), ([112, 111, 119, 101, 114] : R8), ([115, 116, 97, 116, 117, 115] : R8)]
theorem GG : Ak Tryz.prog 152 := fun _ _ => by kernel_rfl
theorem Hw (N : Nat) (w0 : World) (F0 : Mem) (hF : Sa w0 F0)  (r : (List R8)) (h : Gk N  = some r) :
  Calls Tryz.prog 152 ([] : List Value).toArray w0 (AK w0 F0 fun F' v => ∃ (aq0_0 : R9) (nq0_0 : Nat), v = (.slice aq0_0 r.length nq0_0) /\ LC r.length nq0_0 /\ SlA Fd F' aq0_0 r) := by
 have hs0 := RN hF
 refine Go 2 Tryz.func152 ?_
 refine Sq (Rg [0] ?_)
 refine Vs 1 ?_
 refine Nss (Rg [0, 1] ?_)
 refine Bs 9 [(.string ⟨(([98, 97, 110, 100] : R8)).toArray⟩), (.string ⟨(([109, 111, 100, 101] : R8)).toArray⟩), (.string ⟨(([104, 111, 117, 114] : R8)).toArray⟩), (.string ⟨(([109, 121, 99, 111, 117, 110, 116, 114, 121] : R8)).toArray⟩), (.string ⟨(([109, 121, 122, 111, 110, 101] : R8)).toArray⟩), (.string ⟨(([109, 121, 99, 111, 110, 116, 105, 110, 101, 110, 116] : R8)).toArray⟩), (.string ⟨(([99, 111, 117, 110, 116, 114, 121] : R8)).toArray⟩), (.string ⟨(([122, 111, 110, 101] : R8)).toArray⟩), (.string ⟨(([99, 111, 110, 116, 105, 110, 101, 110, 116] : R8)).toArray⟩), (.string ⟨(([99, 97, 108, 108] : R8)).toArray⟩), (.string ⟨(([103, 111, 116, 122, 111, 110, 101] : R8)).toArray⟩), (.string ⟨(([99, 97, 116, 101, 103, 111, 114, 121] : R8)).toArray⟩), (.string ⟨(([112, 111, 119, 101, 114] : R8)).toArray⟩), (.string ⟨(([115, 116, 97, 116, 117, 115] : R8)).toArray⟩)] hs0 (fun b21 w22 hs23 => ?_)
 have hr25 : Aq Fd 9 F0 (some ⟨b21, 0, none⟩) 14 [([98, 97, 110, 100] : R8), ([109, 111, 100, 101] : R8), ([104, 111, 117, 114] : R8), ([109, 121, 99, 111, 117, 110, 116, 114, 121] : R8), ([109, 121, 122, 111, 110, 101] : R8), ([109, 121, 99, 111, 110, 116, 105, 110, 101, 110, 116] : R8), ([99, 111, 117, 110, 116, 114, 121] : R8), ([122, 111, 110, 101] : R8), ([99, 111, 110, 116, 105, 110, 101, 110, 116] : R8), ([99, 97, 108, 108] : R8), ([103, 111, 116, 122, 111, 110, 101] : R8), ([99, 97, 116, 101, 103, 111, 114, 121] : R8), ([112, 111, 119, 101, 114] : R8), ([115, 116, 97, 116, 117, 115] : R8)] (some b21, .cells ([(.string ⟨(([98, 97, 110, 100] : R8)).toArray⟩), (.string ⟨(([109, 111, 100, 101] : R8)).toArray⟩), (.string ⟨(([104, 111, 117, 114] : R8)).toArray⟩), (.string ⟨(([109, 121, 99, 111, 117, 110, 116, 114, 121] : R8)).toArray⟩), (.string ⟨(([109, 121, 122, 111, 110, 101] : R8)).toArray⟩), (.string ⟨(([109, 121, 99, 111, 110, 116, 105, 110, 101, 110, 116] : R8)).toArray⟩), (.string ⟨(([99, 111, 117, 110, 116, 114, 121] : R8)).toArray⟩), (.string ⟨(([122, 111, 110, 101] : R8)).toArray⟩), (.string ⟨(([99, 111, 110, 116, 105, 110, 101, 110, 116] : R8)).toArray⟩), (.string ⟨(([99, 97, 108, 108] : R8)).toArray⟩), (.string ⟨(([103, 111, 116, 122, 111, 110, 101] : R8)).toArray⟩), (.string ⟨(([99, 97, 116, 101, 103, 111, 114, 121] : R8)).toArray⟩), (.string ⟨(([112, 111, 119, 101, 114] : R8)).toArray⟩), (.string ⟨(([115, 116, 97, 116, 117, 115] : R8)).toArray⟩)] : List Value).toArray 9 (0, 0)) := R6 ⟨rfl, ⟨rfl, ⟨rfl, ⟨rfl, ⟨rfl, ⟨rfl, ⟨rfl, ⟨rfl, ⟨rfl, ⟨rfl, ⟨rfl, ⟨rfl, ⟨rfl, ⟨rfl, rfl⟩⟩⟩⟩⟩⟩⟩⟩⟩⟩⟩⟩⟩⟩ (by simp)
 refine Vs 1 ?_
 refine Nt ?_
 refine Rt ?_
 have hb29 := R4 hr25
 obtain ⟨F1, hs26, le27, hs28⟩ := hs23.fr0 hr25
 obtain rfl := Aa h
 exact Re [(.slice (some ⟨b21, 0, none⟩) [([98, 97, 110, 100] : R8), ([109, 111, 100, 101] : R8), ([104, 111, 117, 114] : R8), ([109, 121, 99, 111, 117, 110, 116, 114, 121] : R8), ([109, 121, 122, 111, 110, 101] : R8), ([109, 121, 99, 111, 110, 116, 105, 110, 101, 110, 116] : R8), ([99, 111, 117, 110, 116, 114, 121] : R8), ([122, 111, 110, 101] : R8), ([99, 111, 110, 116, 105, 110, 101, 110, 116] : R8), ([99, 97, 108, 108] : R8), ([103, 111, 116, 122, 111, 110, 101] : R8), ([99, 97, 116, 101, 103, 111, 114, 121] : R8), ([112, 111, 119, 101, 114] : R8), ([115, 116, 97, 116, 117, 115] : R8)].length 14)] hs26 ⟨(some ⟨b21, 0, none⟩), 14, rfl, hb29, hs28⟩
section
open Go.Proofs Go.RowKit Go.Sort Go.Lib
def strings_HasPrefix (_N : Nat) (s p : R8) : Option Bool := some (Go.Lib.hasPrefix s p)
theorem Gy : Ak Tryz.prog 182 := fun _ _ => by kernel_rfl
theorem G9 (N : Nat) (w0 : World) (F0 : Mem) (hF : Sa w0 F0) (x0 : R8) (x1 : R8) (r : Bool) (h : strings_HasPrefix N x0 x1 = some r) :
  Calls Tryz.prog 182 ([(.string ⟨(x0).toArray⟩), (.string ⟨(x1).toArray⟩)] : List Value).toArray w0 (AK w0 F0 fun _ v => v = (.bool r)) := by
 cases h
 exact AK.below hF ((Tryz.strings_HasPrefix ⟨x0.toArray⟩ ⟨x1.toArray⟩ w0).mono fun e w' ⟨he, hw⟩ => ⟨he, hw ▸ Below.refl _ _⟩) rfl
def strings_IndexByte (_N : Nat) (s : R8) (c : Int) : Option Int := some (Go.Lib.indexByte s c.toNat.toUInt8)
theorem Gx : Ak Tryz.prog 183 := fun _ _ => by kernel_rfl
theorem G8 (N : Nat) (w0 : World) (F0 : Mem) (hF : Sa w0 F0) (x0 : R8) (x1 : Int) (r : Int) (h : strings_IndexByte N x0 x1 = some r) :
  Calls Tryz.prog 183 ([(.string ⟨(x0).toArray⟩), (.int .u8 x1)] : List Value).toArray w0 (AK w0 F0 fun _ v => v = (.int .i64 r)) := by
 cases h
 exact AK.below hF ((Tryz.strings_IndexByte ⟨x0.toArray⟩ x1 w0).mono fun e w' ⟨he, hw⟩ => ⟨he, hw ▸ Below.refl _ _⟩) rfl
def strconv_Itoa (_N : Nat) (n : Int) : Option R8 := if -9223372036854775808 <= n /\ n <= 9223372036854775807 then some (Go.Lib.itoa n) else none
theorem JM : Ak Tryz.prog 151 := fun _ _ => by kernel_rfl
theorem KX (N : Nat) (w0 : World) (F0 : Mem) (hF : Sa w0 F0) (hG : Ci F0) (x0 : Int) (r : R8) (h : strconv_Itoa N x0 = some r) :
  Calls Tryz.prog 151 ([(.int .i64 x0)] : List Value).toArray w0 (AK w0 F0 fun _ v => v = (.string ⟨(r).toArray⟩)) := by
 unfold strconv_Itoa at h
 split at h
 ·rename_i ha
  cases h
  refine AK.below hF ((Tryz.strconv_Itoa x0 ha.1 ha.2 w0 (hG w0 hF).1).mono ?_) rfl
  rintro e w' ⟨rfl, k, os, rfl⟩
  exact ⟨rfl, rfl, rfl, rfl, by simp [grow, World.drewN], fun j hj => by
   show ((w0.drewN k).heap ++ os)[j]? = _
   rw [Array.getElem?_append_left (show j < (w0.drewN k).heap.size from hj)]; rfl⟩
 ·cases h
def FA (_N : Nat) (s : R8) : Option (Int × Bool) := if s.length <= 281474976710656 then (match Go.Lib.atoiAll s with
 | .ok v => some (v, false)
 | .range => some (Go.Lib.atoiSat s, true)
 | _ => none) else none
theorem JN : Ak Tryz.prog 248 := fun _ _ => by kernel_rfl
theorem KY (N : Nat) (w0 : World) (F0 : Mem) (hF : Sa w0 F0) (hG : Ci F0) (x0 : R8) (r : Int × Bool) (h : FA N x0 = some r) :
  Calls Tryz.prog 248 ([(.string ⟨(x0).toArray⟩)] : List Value).toArray w0 (AK w0 F0 fun _ v => ∃ (vq1_0 : Value), v = (.tuple #[(.int .i64 r.1), vq1_0]) /\ Rl r.2 vq1_0) := by
 unfold FA at h
 split at h
 ·rename_i ha
  have hsz : (⟨x0.toArray⟩ : ByteArray).size <= 281474976710656 := by simpa [ByteArray.size] using ha
  split at h
  ·rename_i v hv
   cases h
   refine AK.below hF ((Tryz.strconv_Atoi_ok ⟨x0.toArray⟩ (by omega) v (by simpa using hv) w0).mono ?_) ⟨.nilIface, rfl, rfl⟩
   rintro e w' ⟨rfl, (rfl | ⟨t, rfl⟩)⟩
   ·exact ⟨rfl, Below.refl _ _⟩
   ·exact ⟨rfl, rfl, rfl, rfl, by rw [Go.Lib.bytesWorld_size]; omega, fun j hj => Go.Lib.bytesWorld_at_old w0 _ _ j hj⟩
  ·rename_i hv
   cases h
   obtain ⟨tp, p, hvar⟩ := (hG w0 hF).2
   refine (Tryz.strconv_Atoi_range_var ⟨x0.toArray⟩ hsz (by simpa using hv) tp p w0 hvar).mono ?_
   rintro e w' ⟨n, rfl, _, _, hb⟩
   exact ⟨_, F0, rfl, HS.below hF hb, _, rfl, _, _, rfl⟩
  ·cases h
 ·cases h
end
def NS (sR97 : Expr -> Int -> Option R8) : Prop := ∀ (w0 : World) (F0 : Mem) (hF : Sa w0 F0) (hG : Ci F0) (x0 : Expr) (a0_2 : R9) (n0_2 : Nat) (hb0_2 : LC x0.Kids.length n0_2) (hs0_2 : SlA Ao F0 a0_2 x0.Kids) (x1 : Int) (r : R8), sR97 x0 x1 = some r -> Calls Tryz.prog 97 ([(.agg #[(.int .i64 x0.Op), (.int .i64 x0.Value), (.slice a0_2 x0.Kids.length n0_2)]), (.int .i64 x1)] : List Value).toArray w0 (AK w0 F0 fun F' v => v = (.string ⟨(r).toArray⟩))
theorem Cx : Ak Tryz.prog 97 := fun _ _ => by kernel_rfl
def FT (N : Nat) (sR97 : Expr -> Int -> Option R8) (x0 : Expr) (x1 : Int) : Option R8 :=
 ((HX N x0.Op).bind fun r24 => ((bif r24.2 then (((idx x0.Kids 0).bind fun x62 => ((idx x0.Kids 1).bind fun x76 => ((sR97 x62 r24.1.left_).bind fun r82 => ((L7 r82 ([32] : R8)).bind fun r90 => ((L7 r90 r24.1.text_).bind fun r93 => ((L7 r93 ([32] : R8)).bind fun r96 => ((sR97 x76 r24.1.right_).bind fun r99 => ((L7 r96 r99).bind fun r107 => some r107)))))))).bind fun j55 => some (r24.1.rank_, j55)) else ((bif (x0.Op == 1) then ((strconv_Itoa N x0.Value).bind fun r123 => some (7, r123)) else ((bif (x0.Op == 2) then (((Gk N ).bind fun r156 => ((idx r156 x0.Value).bind fun x164 => some x164)).bind fun j149 => some (7, j149)) else ((bif (x0.Op == 3) then ((idx x0.Kids 0).bind fun x191 => ((sR97 x191 3).bind fun r205 => ((L7 ([110, 111, 116, 32] : R8) r205).bind fun r213 => some (3, r213)))) else (bif (x0.Op == 11) then none else some (7, ([] : R8)))).bind fun j181 => some (j181.1, j181.2))).bind fun j134 => some (j134.1, j134.2))).bind fun j113 => some (j113.1, j113.2))).bind fun j40 => (bif (decide (j40.1 < x1)) then ((L7 ([40] : R8) j40.2).bind fun r222 => ((L7 r222 ([41] : R8)).bind fun r225 => some r225)) else some j40.2)))
theorem Js (N : Nat) (sR97 : Expr -> Int -> Option R8) (hsR97 : NS sR97) (w0 : World) (F0 : Mem) (hF : Sa w0 F0) (hG : Ci F0) (x0 : Expr) (a0_2 : R9) (n0_2 : Nat) (hb0_2 : LC x0.Kids.length n0_2) (hs0_2 : SlA Ao F0 a0_2 x0.Kids) (x1 : Int) (r : R8) (h : FT N sR97 x0 x1 = some r) :
  Calls Tryz.prog 97 ([(.agg (Ag x0 a0_2 n0_2)), (vi x1)] : List Value).toArray w0 (AK w0 F0 fun F' v => v = (.string ⟨(r).toArray⟩)) := by
 have hs0 := RN hF
 refine Go 97 Tryz.func97 ?_
 refine Sq (Rg [0, 1] ?_)
 refine Bx' 33 (Ag x0 a0_2 n0_2) hs0 (fun b21 w22 hs23 => ?_)
 refine Vs 1 ?_
 refine Nss (Rg [0, 1] ?_)
 refine Vs 2 ?_
 refine Nss (Rg [0, 1, 2, 3, 4, 5, 6, 7, 8] ?_)
 refine Vs 1 ?_
 refine Ld hs23.at0 ?_
 obtain ⟨r24, hr25, h26⟩ := bind_some h
 refine Cl' JP hs23 (K0 N w22 F0 hs23.pers x0.Op _ hr25) ?_
 rintro _ F1 w28 hs29 le30 rfl
 refine Vs 3 ?_
 refine Al' 173 #[(.string ⟨(([] : R8)).toArray⟩), (vi 0), (vi 0), (vi 0)] hs29 (fun b32 w33 hs34 => ?_)
 refine St0 (ET r24.1) hs34 (fun w35 hs36 => ?_)
 refine Vs 1 ?_
 refine Nss ?_
 refine Bk ?_
 refine Sq (Rg [0, 1] ?_)
 refine Vs 2 ?_
 refine Nt ?_
 obtain ⟨j40, hj45, h46⟩ := bind_some h26
 refine RS (fun f w => ∃ (F2 : Mem), HS w0 F0 w F2 [] /\ RL F1 F2 /\ FI f [] [(1, (vi x1)), (5, (vi j40.1)), (6, (.string ⟨(j40.2).toArray⟩))]) ?_ ?_
 ·refine Cd hj45 (fun hb47 h48 => ?_) (fun hb47 h49 => ?_)
  ·obtain ⟨j55, hj60, h61⟩ := bind_some h48
   refine RD 24 24 [(sb b32 (ET r24.1) 173), (sb b21 (Ag x0 a0_2 n0_2) 33)] [] hs36 (fun f w => ∃ (F3 : Mem), HS w0 F0 w F3 [] /\ RL F1 F3 /\ FI f [] [(1, (vi x1)), (5, (vi r24.1.rank_)), (6, (.string ⟨(j55).toArray⟩))]) (fun wd50 hw51 => ?_) ?_
   ·refine Dvl [0] [tt, ff, ff, ff, ff, ff, ff, ff, ff, ff, ff, ff, ff, ff, ff, ff, ff, ff, ff, ff, ff, ff, ff, ff] ?_
    refine Dl 1 (fun _ hq => (hq.1.2 0 _ _ rfl)) ?_
    refine Dvl [2] [tt, tt, tt, ff, ff, ff, ff, ff, ff, ff, ff, ff, ff, ff, ff, ff, ff, ff, ff, ff, ff, ff, ff, ff] ?_
    refine Dl 3 (fun _ hq => (hq.1.2 1 _ _ rfl)) ?_
    obtain ⟨x62, hx63, h65⟩ := bind_some hj60
    obtain ⟨hi64, hx63'⟩ := As hx63
    obtain ⟨b66, o67, C68, E69, fz70, rfl, hF72, hE73⟩ := RV (RO hs0_2 le30) hx63'
    obtain ⟨ae74_2, ne74_2, hc75, hbe74_2, hse74_2⟩ := (AC (hE73 _ _ hx63'))
    refine Di 4 hi64 ?_
    refine Dx 5 0 (fun _ hq => hq.1.1 _ _ hF72) hc75 ?_
    refine Dvl [6] [tt, tt, tt, tt, tt, tt, tt, ff, ff, ff, ff, ff, ff, ff, ff, ff, ff, ff, ff, ff, ff, ff, ff, ff] ?_
    refine Dl 7 (fun _ hq => (hq.1.2 0 _ _ rfl)) ?_
    refine Dvl [10] [tt, tt, tt, tt, tt, tt, tt, tt, ff, ff, tt, ff, ff, ff, ff, ff, ff, ff, ff, ff, ff, ff, ff, ff] ?_
    refine Dl 11 (fun _ hq => (hq.1.2 0 _ _ rfl)) ?_
    refine Dvl [14] [tt, tt, tt, tt, tt, tt, tt, tt, ff, ff, tt, tt, ff, ff, tt, ff, ff, ff, ff, ff, ff, ff, ff, ff] ?_
    refine Dl 15 (fun _ hq => (hq.1.2 1 _ _ rfl)) ?_
    obtain ⟨x76, hx77, h79⟩ := bind_some h65
    obtain ⟨hi78, hx77'⟩ := As hx77
    obtain ⟨ae80_2, ne80_2, hc81, hbe80_2, hse80_2⟩ := (AC (hE73 _ _ hx77'))
    refine Di 16 hi78 ?_
    refine Dx 17 0 (fun _ hq => hq.1.1 _ _ hF72) hc81 ?_
    refine Dvl [18] [tt, tt, tt, tt, tt, tt, tt, tt, ff, ff, tt, tt, ff, ff, tt, tt, tt, tt, tt, ff, ff, ff, ff, ff] ?_
    refine Dl 19 (fun _ hq => (hq.1.2 0 _ _ rfl)) ?_
    refine D1 8 ?_
    obtain ⟨r82, hr83, h84⟩ := bind_some h79
    refine DCl Cx hw51 (hsR97 wd50 F1 hw51.pers (hG.mono le30) x62 ae74_2 ne74_2 hbe74_2 hse74_2 r24.1.left_ _ hr83) ?_
    rintro _ F4 w86 hs87 le88 rfl
    obtain ⟨r90, hr91, h92⟩ := bind_some h84
    refine Dtl 9 26 9 (.string ⟨(r90).toArray⟩) [tt, tt, tt, tt, tt, tt, tt, tt, tt, tt, tt, tt, ff, ff, tt, tt, tt, tt, tt, tt, ff, ff, ff, ff] (fun _ hq => Eo (t := 9) (t' := 9) (x := (.tmp 25)) (y := (.const (.string ⟨([32] : R8).toArray⟩))) (a := r82) (b := ([32] : R8)) (v := r90) rfl rfl hr91) ?_
    obtain ⟨r93, hr94, h95⟩ := bind_some h92
    refine Dtl 12 29 9 (.string ⟨(r93).toArray⟩) [tt, tt, tt, tt, tt, tt, tt, tt, tt, tt, tt, tt, tt, ff, tt, tt, tt, tt, tt, tt, ff, ff, ff, ff] (fun _ hq => Eo (t := 9) (t' := 9) (x := (.tmp 26)) (y := (.tmp 28)) (a := r90) (b := r24.1.text_) (v := r93) rfl rfl hr94) ?_
    obtain ⟨r96, hr97, h98⟩ := bind_some h95
    refine Dtl 13 30 9 (.string ⟨(r96).toArray⟩) [tt, tt, tt, tt, tt, tt, tt, tt, tt, tt, tt, tt, tt, tt, tt, tt, tt, tt, tt, tt, ff, ff, ff, ff] (fun _ hq => Eo (t := 9) (t' := 9) (x := (.tmp 29)) (y := (.const (.string ⟨([32] : R8).toArray⟩))) (a := r93) (b := ([32] : R8)) (v := r96) rfl rfl hr97) ?_
    refine D1 20 ?_
    obtain ⟨r99, hr100, h101⟩ := bind_some h98
    refine DCl Cx hs87 (hsR97 w86 F4 hs87.pers (hG.mono (le30.trans le88)) x76 ae80_2 ne80_2 hbe80_2 (RO hse80_2 le88) r24.1.right_ _ hr100) ?_
    rintro _ F5 w103 hs104 le105 rfl
    obtain ⟨r107, hr108, h109⟩ := bind_some h101
    refine Dtl 21 38 9 (.string ⟨(r107).toArray⟩) [tt, tt, tt, tt, tt, tt, tt, tt, tt, tt, tt, tt, tt, tt, tt, tt, tt, tt, tt, tt, tt, tt, ff, ff] (fun _ hq => Eo (t := 9) (t' := 9) (x := (.tmp 30)) (y := (.tmp 37)) (a := r96) (b := r99) (v := r107) rfl rfl hr108) ?_
    refine Dvl [22, 23] [tt, tt, tt, tt, tt, tt, tt, tt, tt, tt, tt, tt, tt, tt, tt, tt, tt, tt, tt, tt, tt, tt, tt, tt] ?_
    obtain rfl := Aa h109
    exact R3 (by kernel_rfl) ⟨F5, hs104.dr0.dr0, (le88.trans le105), fI⟩
   ·rintro f w52 ⟨F3, hs53, le54, ⟨_, rfl⟩⟩
    obtain rfl := Aa h61
    exact .inl ⟨rfl, F3, hs53, le54, fI⟩
  ·refine Sq (Rg [0, 1, 2, 3] ?_)
   refine Vs 1 ?_
   refine Ld hs36.at1 ?_
   refine Vs 2 ?_
   refine Nt ?_
   obtain ⟨j113, hj118, h119⟩ := bind_some h49
   refine RS (fun f w => ∃ (F6 : Mem), HS w0 F0 w F6 [] /\ RL F1 F6 /\ FI f [] [(1, (vi x1)), (5, (vi j113.1)), (6, (.string ⟨(j113.2).toArray⟩))]) ?_ ?_
   ·refine Cd hj118 (fun hb120 h121 => ?_) (fun hb120 h122 => ?_)
    ·refine Rg [0, 1, 2, 3] ?_
     refine Vs 1 ?_
     refine Ld hs36.at1 ?_
     obtain ⟨r123, hr124, h125⟩ := bind_some h121
     refine Cl' JM hs36 (KX N w35 F1 hs36.pers (hG.mono le30) x0.Value _ hr124) ?_
     rintro _ F7 w127 hs128 le129 rfl
     refine Vs 1 ?_
     refine RF ?_
     obtain rfl := Aa h125
     exact .inl ⟨rfl, F7, hs128.dr0.dr0, le129, fI⟩
    ·refine Sq (Rg [0, 1, 2, 3] ?_)
     refine Vs 1 ?_
     refine Ld hs36.at1 ?_
     refine Vs 2 ?_
     refine Nt ?_
     obtain ⟨j134, hj139, h140⟩ := bind_some h122
     refine RS (fun f w => ∃ (F8 : Mem), HS w0 F0 w F8 [] /\ RL F1 F8 /\ FI f [] [(1, (vi x1)), (5, (vi j134.1)), (6, (.string ⟨(j134.2).toArray⟩))]) ?_ ?_
     ·refine Cd hj139 (fun hb141 h142 => ?_) (fun hb141 h143 => ?_)
      ·obtain ⟨j149, hj154, h155⟩ := bind_some h142
       refine RD 6 6 [(sb b32 (ET r24.1) 173), (sb b21 (Ag x0 a0_2 n0_2) 33)] [] hs36 (fun f w => ∃ (F9 : Mem), HS w0 F0 w F9 [] /\ RL F1 F9 /\ FI f [] [(1, (vi x1)), (5, (vi 7)), (6, (.string ⟨(j149).toArray⟩))]) (fun wd144 hw145 => ?_) ?_
       ·refine Dv [1] ?_
        refine Dl 2 (fun _ hq => (hq.1.2 1 _ _ rfl)) ?_
        refine D1 0 ?_
        obtain ⟨r156, hr157, h158⟩ := bind_some hj154
        refine DCl GG hw145 (Hw N wd144 F1 hw145.pers  _ hr157) ?_
        rintro _ F10 w160 hs161 le162 ⟨ar156_0_0, nr156_0_0, rfl, hbr156_0_0, hsr156_0_0⟩
        obtain ⟨x164, hx165, h167⟩ := bind_some h158
        obtain ⟨hi166, hx165'⟩ := As hx165
        obtain ⟨b168, o169, C170, E171, fz172, rfl, hF174, hE175⟩ := RV hsr156_0_0 hx165'
        have hc177 := hE175 _ _ hx165'
        refine Di 3 hi166 ?_
        refine D1 4 ?_
        refine RY (l' := [true, true, true, true, true, false]) (zd := true) (by kernel_rfl) (by kernel_rfl) (dst := (some 54)) (ty := 9) (g := none) (by kernel_rfl) rfl (IZ (t := 9) (x := (.tmp 53)) (b := b168) (o := (o169 + (x0.Value : Int).toNat * 1)) (j := 0) (C := C170) (kk := 1) (cs := [(.string ⟨(x164).toArray⟩)]) (gg := false) (s := 1) (v := (.string ⟨(x164).toArray⟩)) rfl (by kernel_rfl) (hs161.pers _ _ hF174) hc177 (by decide) (by exact ⟨rfl, trivial⟩) rfl rfl) (Bv hs161 le162 (by simp) (fun e => by cases e)) ?_
        refine Dv [5] ?_
        obtain rfl := Aa h167
        exact R3 (by kernel_rfl) ⟨F10, hs161.dr0.dr0, le162, fI⟩
       ·rintro f w146 ⟨F9, hs147, le148, ⟨_, rfl⟩⟩
        obtain rfl := Aa h155
        exact .inl ⟨rfl, F9, hs147, le148, fI⟩
      ·refine Sq (Rg [0, 1, 2, 3] ?_)
       refine Vs 1 ?_
       refine Ld hs36.at1 ?_
       refine Vs 2 ?_
       refine Nt ?_
       obtain ⟨j181, hj186, h187⟩ := bind_some h143
       refine RS (fun f w => ∃ (F11 : Mem), HS w0 F0 w F11 [] /\ RL F1 F11 /\ FI f [] [(1, (vi x1)), (5, (vi j181.1)), (6, (.string ⟨(j181.2).toArray⟩))]) ?_ ?_
       ·refine Cd hj186 (fun hb188 h189 => ?_) (fun hb188 h190 => ?_)
        ·refine Rg [0, 1, 2, 3, 4, 5, 6, 7] ?_
         refine Vs 1 ?_
         refine Ld hs36.at1 ?_
         obtain ⟨x191, hx192, h194⟩ := bind_some h189
         obtain ⟨hi193, hx192'⟩ := As hx192
         obtain ⟨b195, o196, C197, E198, fz199, rfl, hF201, hE202⟩ := RV (RO hs0_2 le30) hx192'
         obtain ⟨ae203_2, ne203_2, hc204, hbe203_2, hse203_2⟩ := (AC (hE202 _ _ hx192'))
         refine Ix hi193 ?_
         refine Lx 0 (hs36.pers _ _ hF201) hc204 ?_
         obtain ⟨r205, hr206, h207⟩ := bind_some h194
         refine Cl' Cx hs36 (hsR97 w35 F1 hs36.pers (hG.mono le30) x191 ae203_2 ne203_2 hbe203_2 hse203_2 3 _ hr206) ?_
         rintro _ F12 w209 hs210 le211 rfl
         obtain ⟨r213, hr214, h215⟩ := bind_some h207
         refine V 64 9 (Eo (t := 9) (t' := 9) (x := (.const (.string ⟨([110, 111, 116, 32] : R8).toArray⟩))) (y := (.tmp 63)) (a := ([110, 111, 116, 32] : R8)) (b := r205) (v := r213) rfl rfl hr214) ?_
         refine Vs 2 ?_
         refine RF ?_
         obtain rfl := Aa h215
         exact .inl ⟨rfl, F12, hs210.dr0.dr0, le211, fI⟩
        ·refine Sq (Rg [0, 1, 2, 3] ?_)
         refine Vs 1 ?_
         refine Ld hs36.at1 ?_
         refine Vs 2 ?_
         refine Nt ?_
         refine Cd h190 (fun hb216 h217 => ?_) (fun hb216 h218 => ?_)
         ·cases h217
         ·refine Sc ?_
          obtain rfl := Aa h218
          exact .inl ⟨rfl, F1, hs36.dr0.dr0, (RM _), fI⟩
       ·rintro f w178 ⟨F11, hs179, le180, ⟨_, rfl⟩⟩
        obtain rfl := Aa h187
        exact .inl ⟨rfl, F11, hs179, le180, fI⟩
     ·rintro f w131 ⟨F8, hs132, le133, ⟨_, rfl⟩⟩
      obtain rfl := Aa h140
      exact .inl ⟨rfl, F8, hs132, le133, fI⟩
   ·rintro f w110 ⟨F6, hs111, le112, ⟨_, rfl⟩⟩
    obtain rfl := Aa h119
    exact .inl ⟨rfl, F6, hs111, le112, fI⟩
 ·rintro f w37 ⟨F2, hs38, le39, ⟨_, rfl⟩⟩
  refine Ap ?_
  refine Ac ?_
  refine Sq ?_
  refine Sq (Rg [0, 1, 2] ?_)
  refine Vs 3 ?_
  refine Nt ?_
  refine Cd h46 (fun hb219 h220 => ?_) (fun hb219 h221 => ?_)
  ·refine Sq (Rg [0, 1, 2, 3] ?_)
   refine Vs 1 ?_
   obtain ⟨r222, hr223, h224⟩ := bind_some h220
   refine V 94 9 (Eo (t := 9) (t' := 9) (x := (.const (.string ⟨([40] : R8).toArray⟩))) (y := (.tmp 93)) (a := ([40] : R8)) (b := j40.2) (v := r222) rfl rfl hr223) ?_
   obtain ⟨r225, hr226, h227⟩ := bind_some h224
   refine V 95 9 (Eo (t := 9) (t' := 9) (x := (.tmp 94)) (y := (.const (.string ⟨([41] : R8).toArray⟩))) (a := r222) (b := ([41] : R8)) (v := r225) rfl rfl hr226) ?_
   refine Vs 1 ?_
   refine Nt ?_
   refine Rt ?_
   refine Ae ?_
   obtain rfl := Aa h227
   exact Re [(.string ⟨(r225).toArray⟩)] hs38 rfl
  ·refine Sc ?_
   refine Ac ?_
   refine Sq (Rg [0, 1] ?_)
   refine Vs 2 ?_
   refine Nt ?_
   refine Rt ?_
   obtain rfl := Aa h221
   exact Re [(.string ⟨(j40.2).toArray⟩)] hs38 rfl
structure Ra where
 q97 : Expr -> Int -> Option R8
def N8 (N : Nat) : Nat -> Ra
 | 0 => ⟨fun _ _ => none⟩
 | k + 1 => ⟨FT N (N8 N k).q97⟩
theorem MS (N : Nat) : ∀ k, NS (N8 N k).q97
 | 0 => (by unfold NS; intros; rename_i h; cases h)
 | k + 1 => by
  have ih := MS N k
  exact @Js N (N8 N k).q97 ih
def Hr (N : Nat) (x0 : Expr) (x1 : Int) : Option R8 := (N8 N N).q97 x0 x1
theorem JY (N : Nat) (w0 : World) (F0 : Mem) (hF : Sa w0 F0) (hG : Ci F0) (x0 : Expr) (a0_2 : R9) (n0_2 : Nat) (hb0_2 : LC x0.Kids.length n0_2) (hs0_2 : SlA Ao F0 a0_2 x0.Kids) (x1 : Int) (r : R8) (h : Hr N x0 x1 = some r) :
  Calls Tryz.prog 97 ([(.agg #[(.int .i64 x0.Op), (.int .i64 x0.Value), (.slice a0_2 x0.Kids.length n0_2)]), (.int .i64 x1)] : List Value).toArray w0 (AK w0 F0 fun F' v => v = (.string ⟨(r).toArray⟩)) := (MS N N) w0 F0 hF hG x0 a0_2 n0_2 hb0_2 hs0_2 x1 r h
def FU (N : Nat) (x0 : Expr) : Option (R8 × Int) :=
 ((CN N x0).bind fun r24 => (bif (!r24) then some (([] : R8), 61) else ((Hr N x0 1).bind fun r35 => some (r35, 0))))
theorem HK : Ak Tryz.prog 33 := fun _ _ => by kernel_rfl
theorem IM (N : Nat) (w0 : World) (F0 : Mem) (hF : Sa w0 F0) (hG : Ci F0) (x0 : Expr) (a0_2 : R9) (n0_2 : Nat) (hb0_2 : LC x0.Kids.length n0_2) (hs0_2 : SlA Ao F0 a0_2 x0.Kids) (r : (R8 × Int)) (h : FU N x0 = some r) :
  Calls Tryz.prog 33 ([(.agg (Ag x0 a0_2 n0_2))] : List Value).toArray w0 (AK w0 F0 fun F' v => v = (.tuple #[(.string ⟨(r.1).toArray⟩), (vi r.2)])) := by
 have hs0 := RN hF
 refine Go 9 Tryz.func33 ?_
 refine Sq (Rg [0, 1, 2] ?_)
 refine Bx' 33 (Ag x0 a0_2 n0_2) hs0 (fun b21 w22 hs23 => ?_)
 refine Vs 2 ?_
 refine Nss ?_
 refine Sq (Rg [0, 1, 2] ?_)
 refine Ld hs23.at0 ?_
 obtain ⟨r24, hr25, h26⟩ := bind_some h
 refine Cl' Ez hs23 (E7 N w22 F0 hs23.pers x0 a0_2 n0_2 hb0_2 hs0_2 _ hr25) ?_
 rintro _ F1 w28 hs29 le30 rfl
 refine Vs 1 ?_
 refine Nt ?_
 refine Cd h26 (fun hb32 h33 => ?_) (fun hb32 h34 => ?_)
 ·refine Sq (Rg [0, 1] ?_)
  refine Vs 2 ?_
  refine Nt ?_
  refine Rt ?_
  refine Ae ?_
  obtain rfl := Aa h33
  exact Re [(.string ⟨(([] : R8)).toArray⟩), (vi 61)] hs29 rfl
 ·refine Sc ?_
  refine Ac ?_
  refine Sq (Rg [0, 1, 2, 3] ?_)
  refine Ld hs29.at0 ?_
  obtain ⟨r35, hr36, h37⟩ := bind_some h34
  refine Cl' Cx hs29 (JY N w28 F1 hs29.pers (hG.mono le30) x0 a0_2 n0_2 hb0_2 (RO hs0_2 le30) 1 _ hr36) ?_
  rintro _ F2 w39 hs40 le41 rfl
  refine Vs 2 ?_
  refine Nt ?_
  refine Rt ?_
  obtain rfl := Aa h37
  exact Re [(.string ⟨(r35).toArray⟩), (vi 0)] hs40 rfl
def IC (m : ∀ {σ : Type}, (σ -> Ar -> Option (Bool × σ)) -> σ -> Option σ) : Option (List Ar) := m (fun st x => (EG st [x]).map fun t => (true, t)) ([] : List Ar)
theorem G6 : Ak Tryz.prog 179 := fun _ _ => by kernel_rfl
theorem HL (w0 : World) (F0 : Mem) (hF : Sa w0 F0) (gf : FuncId) (cap : List Value) (m : ∀ {σ : Type}, (σ -> Ar -> Option (Bool × σ)) -> σ -> Option σ) (hgf : Ak Tryz.prog gf) (hseq : LX Tryz.prog gf cap F0 [] Mj Oc Oa m) (r : (List Ar)) (h : IC m = some r) :
  Calls Tryz.prog 179 ([.slice none 0 0, (.func (.func gf) #[] cap.toArray)] : List Value).toArray w0 (AK w0 F0 fun F' v => ∃ (aq0_0 : R9) (nq0_0 : Nat), v = (.slice aq0_0 r.length nq0_0) /\ LC r.length nq0_0 /\ SlA Af F' aq0_0 r) := by
 have hs0 := RN hF
 refine LT (n := 13) (c := BQ Tryz.f179) Tryz.func179 (by kernel_rfl) (by kernel_rfl) (by kernel_rfl) ?_
 refine Sq ?_
 refine Rg [0, 1] ?_
 refine RWP.box (dst := (some 2)) (ty := 0) (g := none) (by kernel_rfl) rfl (x := (.tmp 0)) (t := 98) (v := (.slice none ([] : List Ar).length 0)) rfl (C := #[(.slice none ([] : List Ar).length 0)]) rfl hs0 (fun b1 w2 (hs3 : HS w0 F0 w2 F0 [(some b1, (.cells #[(.slice none ([] : List Ar).length 0)] 98 (0, 0)))]) => ?_)
 refine V 4 98 (AB (x := (.const (.slice none 0 0))) (v := (.slice none ([] : List Ar).length 0)) rfl) ?_
 refine RF ?_
 refine Ac ?_
 refine Sq ?_
 refine Sq ?_
 refine Rg [0] ?_
 refine V 6 162 (AN (x := (.tmp 1)) (v := (.func (.func gf) #[] cap.toArray)) rfl) ?_
 refine RF ?_
 refine Ac ?_
 refine RJ (by kernel_rfl) ?_
 have hs4 : HS w0 F0 w2 F0 [(none, .cells #[] 0 (0, 0)), (some b1, (.cells #[(.slice none ([] : List Ar).length 0)] 98 (0, 0)))] := hs3.dummy _
 obtain ⟨r14, hr15, h16⟩ : ∃ r14, IC m = some r14 /\ some r14 = some r := ⟨r, h, rfl⟩
 refine CWP.rangeFunc (enc := Mj) (ok := Oc) (px := Oa) (m := fun {_} y s => m y s) (L := [(none, .cells #[] 0 (0, 0)), (some b1, (.cells #[(.slice none ([] : List Ar).length 0)] 98 (0, 0)))]) (B := []) (ps := [7]) (by kernel_rfl) (gf := gf) (cap := cap) rfl hgf rfl (by kernel_rfl) (by kernel_rfl) (fun _ => rfl) hs4 hseq (fun st x => (EG st [x]).map fun t => (true, t)) (fun (s6 : (List Ar)) (F1 : Mem) (Lq : Own) => ∃ (as6_0 : R9) (ns6_0 : Nat) (es6_0 : Option Nat × Obj), Lq = [es6_0, (some b1, (.cells #[(.slice as6_0 s6.length ns6_0)] 98 (0, 0)))] /\ Aq Af 97 F1 as6_0 ns6_0 s6 es6_0) ?_ (s := ([] : List Ar)) (r := r14) ?_ hr15 (fun _ _ _ h => (H9 h).1) ?_ ?_
 ·
  rintro s F F' L ⟨as6_0, ns6_0, es6_0, rfl, hrs6_0⟩ hl
  exact ⟨as6_0, ns6_0, es6_0, rfl, (hrs6_0.mono hl)⟩
 ·
  exact ⟨none, 0, (none, .cells #[] 0 (0, 0)), rfl, (R5 Af 97 F0 _)⟩
 ·
  rintro l17 s6 x19 w20 F1 _ Rf22 ⟨q0, q23⟩ le24 ok25 ⟨as6_0, ns6_0, es6_0, rfl, hrs6_0⟩ hs26 hy27
  have h28 := (H9 hy27).2
  have hs29 : HS w0 F0 w20 F1 (es6_0 :: (some b1, (.cells #[(.slice as6_0 s6.length ns6_0)] 98 (0, 0))) :: Rf22) := hs26
  refine Rg [0, 1] ?_
  refine RT (dst := (some 5)) (ty := 0) (g := none) (by kernel_rfl) rfl (t := 97) (z := (.agg #[(.int .i64 0), (.int .i64 0), (.string ⟨(([] : R8)).toArray⟩)])) (by kernel_rfl) (C := #[(.int .i64 0), (.int .i64 0), (.string ⟨(([] : R8)).toArray⟩)]) rfl hs29 (fun b30 w31 (hs32 : HS w0 F0 w31 F1 ((some b30, (.cells #[(.int .i64 0), (.int .i64 0), (.string ⟨(([] : R8)).toArray⟩)] 97 (0, 0))) :: es6_0 :: (some b1, (.cells #[(.slice as6_0 s6.length ns6_0)] 98 (0, 0))) :: Rf22)) => ?_)
  refine RU (ty := 0) (g := none) (by kernel_rfl) rfl (x := (.tmp 5)) (y := (.tmp 7)) (t := 97) (gg := true) (s := 3) (v := (.agg #[(.int .i64 x19.kind_), (.int .i64 x19.at_), (.string ⟨(x19.text_).toArray⟩)])) (b := b30) (o := 0) (C := #[(.int .i64 0), (.int .i64 0), (.string ⟨(([] : R8)).toArray⟩)]) rfl rfl (by kernel_rfl) hs32 (k := 0) rfl rfl rfl rfl (C' := #[(.int .i64 x19.kind_), (.int .i64 x19.at_), (.string ⟨(x19.text_).toArray⟩)]) rfl (fun w33 (hs34 : HS w0 F0 w33 F1 ((some b30, (.cells #[(.int .i64 x19.kind_), (.int .i64 x19.at_), (.string ⟨(x19.text_).toArray⟩)] 97 (0, 0))) :: es6_0 :: (some b1, (.cells #[(.slice as6_0 s6.length ns6_0)] 98 (0, 0))) :: Rf22)) => ?_)
  refine RF ?_
  refine ⟨rfl, F1, [(some b30, (.cells #[(.int .i64 x19.kind_), (.int .i64 x19.at_), (.string ⟨(x19.text_).toArray⟩)] 97 (0, 0))), es6_0, (some b1, (.cells #[(.slice as6_0 s6.length ns6_0)] 98 (0, 0)))], hs34, fun w35 Rf36 hs37 => ?_⟩
  have hs38 : HS w0 F0 w35 F1 ((some b30, (.cells #[(.int .i64 x19.kind_), (.int .i64 x19.at_), (.string ⟨(x19.text_).toArray⟩)] 97 (0, 0))) :: es6_0 :: (some b1, (.cells #[(.slice as6_0 s6.length ns6_0)] 98 (0, 0))) :: Rf36) := hs37
  refine RJ (by kernel_rfl) ?_
  refine Rg [0, 1, 2, 3, 4] ?_
  refine V 8 98 (BT (t := 98) (x := (.tmp 2)) (b := b1) (o := 0) (g := false) (s := 1) (C := #[(.slice as6_0 s6.length ns6_0)]) (v := (.slice as6_0 s6.length ns6_0)) rfl (by kernel_rfl) (hs38.ownAt (k := 2) rfl) rfl rfl rfl) ?_
  refine V 9 97 (BT (t := 97) (x := (.tmp 5)) (b := b30) (o := 0) (g := true) (s := 3) (C := #[(.int .i64 x19.kind_), (.int .i64 x19.at_), (.string ⟨(x19.text_).toArray⟩)]) (v := (.agg #[(.int .i64 x19.kind_), (.int .i64 x19.at_), (.string ⟨(x19.text_).toArray⟩)])) rfl (by kernel_rfl) (hs38.ownAt (k := 0) rfl) rfl rfl rfl) ?_
  refine RWP.buildSlice (dst := (some 10)) (ty := 98) (g := none) (by kernel_rfl) rfl (t := 98) (len := 1) (parts := #[(0, (.tmp 9))]) (vs := [(0, (.agg #[(.int .i64 x19.kind_), (.int .i64 x19.at_), (.string ⟨(x19.text_).toArray⟩)]))]) (rfl) (E := 97) (cs := [(.int .i64 x19.kind_), (.int .i64 x19.at_), (.string ⟨(x19.text_).toArray⟩)]) (by kernel_rfl) hs38 (fun b39 w40 (hs41 : HS w0 F0 w40 F1 ((some b39, .cells ([(.int .i64 x19.kind_), (.int .i64 x19.at_), (.string ⟨(x19.text_).toArray⟩)] : List Value).toArray 97 (0, 0)) :: (some b30, (.cells #[(.int .i64 x19.kind_), (.int .i64 x19.at_), (.string ⟨(x19.text_).toArray⟩)] 97 (0, 0))) :: es6_0 :: (some b1, (.cells #[(.slice as6_0 s6.length ns6_0)] 98 (0, 0))) :: Rf36)) => ?_)
  have hr43 : Aq Af 97 F1 (some ⟨b39, 0, none⟩) 1 [x19] (some b39, .cells ([(.int .i64 x19.kind_), (.int .i64 x19.at_), (.string ⟨(x19.text_).toArray⟩)] : List Value).toArray 97 (0, 0)) := R6 ⟨rfl, rfl⟩ (by simp)
  obtain ⟨r44, hap45, h46⟩ : ∃ r44, EG s6 [x19] = some r44 /\ some r44 = some q23 := ⟨_, h28, rfl⟩
  refine RWP.append (dst := (some 11)) (ty := 98) (g := none) (by kernel_rfl) rfl (x := (.tmp 8)) (y := (.tmp 10)) (t := 98) (t2 := 98) (by_ := 32) (z := (.agg #[(.int .i64 0), (.int .i64 0), (.string ⟨(([] : R8)).toArray⟩)])) (a2 := (some ⟨b39, 0, none⟩)) (c2 := 1) (m := [x19]) (T := Af) (E := 97) (a := as6_0) (cap := ns6_0) (l := s6) rfl rfl (by kernel_rfl) (by decide) (by kernel_rfl) (by kernel_rfl) rfl Mb hs41 (k := 2) rfl hrs6_0 (Aq.rd hs41 (k := 0) rfl hr43) (r := r44) hap45 (fun a47 n48 e49 w50 (hs51 : HS w0 F0 w50 F1 ((some b39, .cells ([(.int .i64 x19.kind_), (.int .i64 x19.at_), (.string ⟨(x19.text_).toArray⟩)] : List Value).toArray 97 (0, 0)) :: (some b30, (.cells #[(.int .i64 x19.kind_), (.int .i64 x19.at_), (.string ⟨(x19.text_).toArray⟩)] 97 (0, 0))) :: e49 :: (some b1, (.cells #[(.slice as6_0 s6.length ns6_0)] 98 (0, 0))) :: Rf36)) hr52 => ?_)
  refine RU (ty := 0) (g := none) (by kernel_rfl) rfl (x := (.tmp 2)) (y := (.tmp 11)) (t := 98) (gg := false) (s := 1) (v := (.slice a47 r44.length n48)) (b := b1) (o := 0) (C := #[(.slice as6_0 s6.length ns6_0)]) rfl rfl (by kernel_rfl) hs51 (k := 3) rfl rfl rfl rfl (C' := #[(.slice a47 r44.length n48)]) rfl (fun w53 (hs54 : HS w0 F0 w53 F1 ((some b39, .cells ([(.int .i64 x19.kind_), (.int .i64 x19.at_), (.string ⟨(x19.text_).toArray⟩)] : List Value).toArray 97 (0, 0)) :: (some b30, (.cells #[(.int .i64 x19.kind_), (.int .i64 x19.at_), (.string ⟨(x19.text_).toArray⟩)] 97 (0, 0))) :: e49 :: (some b1, (.cells #[(.slice a47 r44.length n48)] 98 (0, 0))) :: Rf36)) => ?_)
  refine RF ?_
  refine Ap ?_
  have hs56 : HS w0 F0 w53 F1 (e49 :: (some b1, (.cells #[(.slice a47 r44.length n48)] 98 (0, 0))) :: Rf36) := (hs54.drop 0).drop 0
  obtain rfl := Aa h46
  exact ⟨rfl, F1, [e49, (some b1, (.cells #[(.slice a47 r44.length n48)] 98 (0, 0)))], hs56, (RM _), ⟨a47, n48, e49, rfl, hr52⟩⟩
 ·
  rintro D58 w59 F2 _ hs60 le61 ⟨as10_0, ns10_0, es10_0, rfl, hrs10_0⟩
  have hs62 : HS w0 F0 w59 F2 [(some D58, (.deferred (some []))), es10_0, (some b1, (.cells #[(.slice as10_0 r14.length ns10_0)] 98 (0, 0)))] := hs60
  refine Ap ?_
  refine Ac ?_
  refine Sq ?_
  refine Rg [0, 1] ?_
  refine V 12 98 (BT (t := 98) (x := (.tmp 2)) (b := b1) (o := 0) (g := false) (s := 1) (C := #[(.slice as10_0 r14.length ns10_0)]) (v := (.slice as10_0 r14.length ns10_0)) rfl (by kernel_rfl) (hs62.ownAt (k := 2) rfl) rfl rfl rfl) ?_
  refine V 4 98 (AB (x := (.tmp 12)) (v := (.slice as10_0 r14.length ns10_0)) rfl) ?_
  refine RF ?_
  refine Ac ?_
  refine CWP.ret (by kernel_rfl) ?_
  have hb66 := R4 hrs10_0
  obtain ⟨F3, hs63, le64, hs65⟩ : ∃ Fq, HS w0 F0 w59 Fq [(some D58, (.deferred (some []))), (some b1, (.cells #[(.slice as10_0 r14.length ns10_0)] 98 (0, 0)))] /\ RL F2 Fq /\ SlA Af Fq as10_0 r14 := HS.freezeRow hs62 (k := 1) rfl hrs10_0
  have hs67 := hs63.put (k := 0) rfl (.deferred none)
  have hs68 : HS w0 F0 (B4 w59 D58 (.deferred none)) F3 [(some b1, (.cells #[(.slice as10_0 r14.length ns10_0)] 98 (0, 0)))] := hs67.drop 0
  have hfin := Aa h16
  subst hfin
  exact .inr ⟨D58, rfl, hs63.ownAt (k := 0) rfl, (.slice as10_0 r14.length ns10_0), AA (l := [.tmp 4]) (by kernel_rfl) (vs := [(.slice as10_0 r14.length ns10_0)]) ⟨rfl, trivial⟩, (.slice as10_0 r14.length ns10_0), F3, rfl, hs68.clear, ⟨as10_0, ns10_0, rfl, hb66, hs65⟩⟩
theorem ID : Ak Tryz.prog 132 := fun _ _ => by kernel_rfl
set_option maxRecDepth 100000 in
theorem Jm (w0 : World) (F0 : Mem) (hF : Sa w0 F0) (gf : FuncId) (cap : List Value) (m : ∀ {σ : Type}, (σ -> Ar -> Option (Bool × σ)) -> σ -> Option σ) (hgf : Ak Tryz.prog gf) (hseq : LX Tryz.prog gf cap F0 [] Mj Oc Oa m) (r : (List Ar)) (h : IC m = some r) :
  Calls Tryz.prog 132 ([(.func (.func gf) #[] cap.toArray)] : List Value).toArray w0 (AK w0 F0 fun F' v => ∃ (aq0_0 : R9) (nq0_0 : Nat), v = (.slice aq0_0 r.length nq0_0) /\ LC r.length nq0_0 /\ SlA Af F' aq0_0 r) := by
 have hs0 := RN hF
 refine DP (n := 5) (c := BQ Tryz.f132) Tryz.func132 (by kernel_rfl) (by kernel_rfl) (by kernel_rfl) ?_
 refine Sq ?_
 refine Rg [0] ?_
 refine V 2 98 (AB (x := (.const (.slice none 0 0))) (v := (.slice none 0 0)) rfl) ?_
 refine RF ?_
 refine Ac ?_
 refine Sq ?_
 refine Rg [0, 1, 2] ?_
 refine V 3 162 (AN (x := (.tmp 0)) (v := (.func (.func gf) #[] cap.toArray)) rfl) ?_
 refine RWP.call (dst := (some 4)) (ty := 98) (g := none) (by kernel_rfl) rfl (f0 := (.func 179)) (aos := #[(.const (.slice none 0 0)), (.tmp 3)]) (ats := #[98, 162]) (fid := 179) (first := #[]) (cap := #[]) (args := [.slice none 0 0, (.func (.func gf) #[] cap.toArray)]) rfl G6 rfl hs0 (HL w0 F0 hs0.pers gf cap m hgf hseq r h) ?_
 intro v F1 w1 hs1 le1 hp
 obtain ⟨a, n, rfl, hb, hs⟩ := hp
 refine V 2 98 (AB (x := (.tmp 4)) (v := (.slice a r.length n)) rfl) ?_
 refine RF ?_
 refine Ac ?_
 refine CWP.ret (by kernel_rfl) ?_
 exact ⟨rfl, (.slice a r.length n), AA (l := [.tmp 2]) (by kernel_rfl) (vs := [(.slice a r.length n)]) ⟨rfl, trivial⟩, _, F1, rfl, hs1, a, n, rfl, hb, hs⟩
theorem JO : Ak Tryz.prog 133 := fun _ _ => by kernel_rfl
set_option maxRecDepth 100000 in
theorem KZ (w0 : World) (F0 : Mem) (hF : Sa w0 F0) (x0 : R8) :
  Calls Tryz.prog 133 ([(.string ⟨(x0).toArray⟩)] : List Value).toArray w0 (AK w0 F0 fun F' v => ∃ (b1 b2 : Nat), v = .func (.func 181) #[] #[.pointer (some ⟨b1, 0, none⟩), .pointer (some ⟨b2, 0, none⟩)] /\ F' b1 = some (.cells #[(.string ⟨(x0).toArray⟩)] 9 (0, 0)) /\ F' b2 = some (.cells #[.func (.func 180) #[] #[.pointer (some ⟨b1, 0, none⟩)]] 193 (0, 0))) := by
 have hs0 := RN hF
 refine DP (n := 6) (c := BQ Tryz.f133) Tryz.func133 (by kernel_rfl) (by kernel_rfl) (by kernel_rfl) ?_
 refine Sq ?_
 refine Rg [0, 1] ?_
 refine RWP.box (dst := (some 1)) (ty := 0) (g := none) (by kernel_rfl) rfl (x := (.tmp 0)) (t := 9) (v := (.string ⟨(x0).toArray⟩)) rfl (C := #[(.string ⟨(x0).toArray⟩)]) rfl hs0 (fun b1 w1 hs1 => ?_)
 refine V 2 162 (AB (x := (.const .nilFunc)) (v := .nilFunc) rfl) ?_
 refine RF ?_
 refine Ac ?_
 refine Sq ?_
 refine Rg [0, 1, 2] ?_
 refine V 4 193 (Cs (fn := .func 180) (first := #[]) (cap := #[.tmp 1]) (fl := []) (cl := [.pointer (some ⟨b1, 0, none⟩)]) rfl rfl) ?_
 refine RT (dst := (some 3)) (ty := 0) (g := none) (by kernel_rfl) rfl (t := 193) (z := .nilFunc) (by kernel_rfl) (C := #[.nilFunc]) rfl hs1 (fun b2 w2 hs2 => ?_)
 refine RU (ty := 0) (g := none) (by kernel_rfl) rfl (x := (.tmp 3)) (y := (.tmp 4)) (t := 193) (gg := false) (s := 1) (v := .func (.func 180) #[] #[.pointer (some ⟨b1, 0, none⟩)]) (b := b2) (o := 0) (C := #[.nilFunc]) rfl rfl (by kernel_rfl) hs2 (k := 0) rfl rfl rfl rfl (C' := #[.func (.func 180) #[] #[.pointer (some ⟨b1, 0, none⟩)]]) rfl (fun w3 (hs3 : HS w0 F0 w3 F0 [(some b2, .cells #[.func (.func 180) #[] #[.pointer (some ⟨b1, 0, none⟩)]] 193 (0, 0)), (some b1, .cells #[(.string ⟨(x0).toArray⟩)] 9 (0, 0))]) => ?_)
 refine RF ?_
 refine Ac ?_
 refine Sq ?_
 refine Rg [0, 1] ?_
 refine V 5 161 (Cs (fn := .func 181) (first := #[]) (cap := #[.tmp 1, .tmp 3]) (fl := []) (cl := [.pointer (some ⟨b1, 0, none⟩), .pointer (some ⟨b2, 0, none⟩)]) rfl rfl) ?_
 refine V 2 162 (AB (x := (.tmp 5)) (v := .func (.func 181) #[] #[.pointer (some ⟨b1, 0, none⟩), .pointer (some ⟨b2, 0, none⟩)]) rfl) ?_
 refine RF ?_
 refine Ac ?_
 refine CWP.ret (by kernel_rfl) ?_
 obtain ⟨F1, hs4, le1, hF1⟩ : ∃ Fq, HS w0 F0 w3 Fq [(some b1, .cells #[(.string ⟨(x0).toArray⟩)] 9 (0, 0))] /\ RL F0 Fq /\ Fq b2 = some _ := HS.freezeC hs3 (k := 0) rfl
 obtain ⟨F2, hs5, le2, hF2⟩ : ∃ Fq, HS w0 F0 w3 Fq [] /\ RL F1 Fq /\ Fq b1 = some _ := HS.freezeC hs4 (k := 0) rfl
 exact ⟨rfl, _, AA (l := [.tmp 2]) (by kernel_rfl) (vs := [.func (.func 181) #[] #[.pointer (some ⟨b1, 0, none⟩), .pointer (some ⟨b2, 0, none⟩)]]) ⟨rfl, trivial⟩, _, F2, rfl, hs5, b1, b2, rfl, hF2, le2 _ _ hF1⟩
def EM (N : Nat) (x0 : Int) (x1 : Int) (x2 : Int) (z0 : R8) : Int -> Option (Be R8 Int) := fun s24 =>
 ((bif (decide (s24 < (z0.length : Int))) then ((OV z0 s24).bind fun c64 => (bif (decide (x1 <= c64)) then ((OV z0 s24).bind fun c70 => some (decide (c70 <= x2))) else some false)) else some false).bind fun j51 => (bif j51 then some (.next (W64 (s24 + 1))) else some (.done s24)))
def CU (N : Nat) (x0 : Int) (x1 : Int) (x2 : Int) (z0 : R8) : Option R8 :=
 ((AZ (EM N x0 x1 x2 z0) N x0).bind fun o => o.k (fun r => some r) (fun s34 => ((OT z0 x0 s34).bind fun r79 => some r79)))
theorem IF : Ak Tryz.prog 180 := fun _ _ => by kernel_rfl
theorem Jo (N : Nat) (w0 : World) (F0 : Mem) (hF : Sa w0 F0) (x0 : Int) (x1 : Int) (x2 : Int) (bz0 : Nat) (z0 : R8) (hz0 : F0 bz0 = some (oc #[(.string ⟨(z0).toArray⟩)] 9)) (r : R8) (h : CU N x0 x1 x2 z0 = some r) :
  Calls Tryz.prog 180 ([(vi x0), (.int .u8 x1), (.int .u8 x2), (pt bz0 0)] : List Value).toArray w0 (AK w0 F0 fun F' v => v = (.string ⟨(r).toArray⟩)) := by
 have hs0 := RN hF
 refine Go 34 Tryz.func180 ?_
 refine Sq (Rg [0] ?_)
 refine Vs 1 ?_
 refine Nss (Rg [0, 1] ?_)
 refine Vs 2 ?_
 refine Nss ?_
 obtain ⟨o21, ho22, h23⟩ := bind_some h
 refine RS (fun f w => ∃ (s34 : Int) (F2 : Mem), o21 = .done s34 /\ HS w0 F0 w F2 [] /\ RL F0 F2 /\ FI f [] [(0, (vi x0)), (3, (pt bz0 0)), (8, (vi s34))]) ?_ ?_
 ·refine Bk ?_
  refine RK (by kernel_rfl) (fun m f w => ∃ (s24 : Int) (F1 : Mem), AZ (EM N x0 x1 x2 z0) m s24 = some o21 /\ HS w0 F0 w F1 [] /\ RL F0 F1 /\ FI f [] [(0, (vi x0)), (1, (.int .u8 x1)), (2, (.int .u8 x2)), (3, (pt bz0 0)), (8, (vi s24))]) N ⟨x0, F0, ho22, hs0, (RM _), fI⟩ ?_
  rintro m42 f w25 ⟨s24, F1, hit43, hs26, le27, ⟨_, rfl⟩⟩
  obtain ⟨m44, fl45, rfl, hb46, hnx47⟩ := AR hit43
  refine Sq ?_
  refine Sq (Rg [0, 1, 2, 3, 4, 5, 6, 7, 8, 9, 10, 11, 12, 13, 14, 15, 16, 17] ?_)
  obtain ⟨j51, hj59, h60⟩ := bind_some hb46
  refine RR (fun f w => ∃ (F3 : Mem), HS w0 F0 w F3 [] /\ RL F1 F3 /\ FI f [] [(0, (vi x0)), (1, (.int .u8 x1)), (2, (.int .u8 x2)), (3, (pt bz0 0)), (8, (vi s24)), (27, (.bool j51))]) ?_ ?_
  ·refine Vs 1 ?_
   refine Ld (hs26.pers _ _ (le27 _ _ hz0)) ?_
   refine Vs 3 ?_
   refine Sp hj59 (fun hb61 h62 => ?_) (fun hb61 h63 => ?_)
   ·refine Vgs hb61 1 ?_
    refine Lg hb61 (hs26.pers _ _ (le27 _ _ hz0)) ?_
    refine Vgs hb61 1 ?_
    obtain ⟨c64, hr65, h66⟩ := bind_some h62
    refine Vg 18 5 4 true 14 hb61 (Km (t := 9) (x := (.tmp 16)) (y := (.tmp 17)) (a := z0) (k := .i64) (i := s24) (v := c64) rfl rfl (by kernel_rfl) hr65) ?_
    refine Vgs hb61 1 ?_
    refine Pk1 hb61 ?_
    refine Vs 1 ?_
    refine Sp h66 (fun hb67 h68 => ?_) (fun hb67 h69 => ?_)
    ·refine Lg hb67 (hs26.pers _ _ (le27 _ _ hz0)) ?_
     refine Vgs hb67 1 ?_
     obtain ⟨c70, hr71, h72⟩ := bind_some h68
     refine Vg 24 5 11 true 21 hb67 (Km (t := 9) (x := (.tmp 22)) (y := (.tmp 23)) (a := z0) (k := .i64) (i := s24) (v := c70) rfl rfl (by kernel_rfl) hr71) ?_
     refine Vgs hb67 2 ?_
     refine Pk1 hb67 ?_
     obtain rfl := Aa h72
     exact RF ⟨rfl, F1, hs26, (RM _), fI⟩
    ·refine Ss hb67 5 ?_
     refine Pk0 hb67 ?_
     obtain rfl := Aa h69
     exact RF ⟨rfl, F1, hs26, (RM _), fI⟩
   ·refine Ss hb61 5 ?_
    refine Pk0 hb61 ?_
    refine Vs 1 ?_
    refine Ss (rfl : false = false) 5 ?_
    refine Pk0 (rfl : false = false) ?_
    obtain rfl := Aa h63
    exact RF ⟨rfl, F1, hs26, (RM _), fI⟩
  ·rintro f w48 ⟨F3, hs49, le50, ⟨_, rfl⟩⟩
   refine Ac ?_
   refine Cd h60 (fun hb73 h74 => ?_) (fun hb73 h75 => ?_)
   ·refine Sc ?_
    refine Ac ?_
    refine Bk ?_
    refine Rg [0, 1, 2] ?_
    refine Vs 3 ?_
    refine RF ?_
    refine Ap ?_
    have hn76 := AL h74 hnx47
    exact ⟨m44, Nat.lt_succ_self _, (W64 (s24 + 1)), F3, hn76, hs49, (le27.trans le50), fI⟩
   ·refine Ex ?_
    refine Ax ?_
    refine Ax ?_
    refine AF rfl ?_
    have ho77 := AU h75 hnx47
    exact .inl ⟨rfl, s24, F3, ho77, hs49, (le27.trans le50), fI⟩
 ·rintro f w35 ⟨s34, F2, rfl, hs36, le37, ⟨_, rfl⟩⟩
  have h78 := Bm h23
  refine Ac ?_
  refine Sq (Rg [0, 1, 2, 3, 4] ?_)
  refine Ld (hs36.pers _ _ (le37 _ _ hz0)) ?_
  refine Vs 2 ?_
  obtain ⟨r79, hr80, h81⟩ := bind_some h78
  refine V 33 9 (Kl (t := 9) (x := (.tmp 30)) (lo := (some (.tmp 31))) (hi := (some (.tmp 32))) (a := z0) (il := x0) (ih := s34) (v := r79) rfl (by kernel_rfl) rfl rfl hr80) ?_
  refine Vs 1 ?_
  refine Nt ?_
  refine Rt ?_
  obtain rfl := Aa h81
  exact Re [(.string ⟨(r79).toArray⟩)] hs36 rfl
def EL {σ : Type} (N : Nat) (y : (σ -> Ar -> Option (Bool × σ))) (z0 : R8) (z1 : (Int -> Int -> Int -> Option R8)) (s : σ) : (Int × σ) -> Option (Be σ (Int × σ)) := fun s4 =>
 (bif (decide (s4.1 < (z0.length : Int))) then ((OT z0 s4.1 (W64 (s4.1 + 1))).bind fun r33 => ((OV z0 s4.1).bind fun c41 => (bif ((c41 == 32) || (c41 == 9)) then some (.next ((W64 (s4.1 + 1)), s4.2)) else ((bif ((decide (c41 >= 48)) && (decide (c41 <= 57))) then ((z1 s4.1 48 57).bind fun r87 => some (1, r87)) else ((bif ((decide (c41 >= 97)) && (decide (c41 <= 122))) then ((z1 s4.1 97 122).bind fun r126 => some (2, r126)) else ((OT z0 s4.1 (z0.length : Int)).bind fun r138 => ((strings_HasPrefix N r138 ([61, 62] : R8)).bind fun r141 => ((bif r141 then some (3, ([61, 62] : R8)) else ((strings_IndexByte N ([40, 41, 44, 58, 61, 60, 43, 45, 42, 10] : R8) c41).bind fun r168 => ((bif (decide (r168 >= 0)) then some 3 else some 4).bind fun j179 => some (j179, r33)))).bind fun j152 => some (j152.1, j152.2))))).bind fun j114 => some (j114.1, j114.2))).bind fun j75 => ((y s4.2 ({ kind_ := j75.1, at_ := s4.1, text_ := j75.2 } : Ar)).bind fun q193 => (bif (!q193.1) then some (.ret q193.2) else some (.next ((W64 (s4.1 + (j75.2.length : Int))), q193.2)))))))) else some (.done (s4.1, s4.2)))
def Ep {σ : Type} (N : Nat) (y : σ -> Ar -> Option (Bool × σ)) (z0 : R8) (z1 : (Int -> Int -> Int -> Option R8)) (s : σ) : Option σ :=
 ((AZ (EL N y z0 z1 s) N (0, s)).bind fun o => o.k (fun r => some r) (fun s15 => ((y s15.2 ({ kind_ := 0, at_ := (z0.length : Int), text_ := ([] : R8) } : Ar)).bind fun q208 => some q208.2)))
theorem IE : Ak Tryz.prog 181 := fun _ _ => by kernel_rfl
theorem Jn (N : Nat) (F0 : Mem) (z0 : R8) (bz0 : Nat) (hz0 : F0 bz0 = some (oc #[(.string ⟨(z0).toArray⟩)] 9)) (z1 : (Int -> Int -> Int -> Option R8)) (gz1_0 : FuncId) (fz1_0 : List Value) (kz1_0 : List Value) (hoz1_0 : Ak Tryz.prog gz1_0) (hpz1_0 : Oo F0 gz1_0 fz1_0 kz1_0 z1) (bz1 : Nat) (hz1 : F0 bz1 = some (oc #[(.func (.func gz1_0) fz1_0.toArray kz1_0.toArray)] 193)) :
  LX Tryz.prog 181 [(pt bz0 0), (pt bz1 0)] F0 [] Mj Oc Oa (fun {_} y s => Ep N y z0 z1 s) := by
 intro σ wb w0 Fb F1 l y J s r Lf le01 hJm hs0 hJ hY h
 have hs0 : HS wb Fb w0 F1 Lf := hs0
 refine DP (n := 80) (c := BQ Tryz.f181) Tryz.func181 (by kernel_rfl) (by kernel_rfl) (by kernel_rfl) ?_
 refine Sq ?_
 refine Sq (Rg [0] ?_)
 refine Vs 1 ?_
 refine Nt ?_
 obtain ⟨o1, ho2, h3⟩ := bind_some h
 refine RS (fun f w => ∃ (s15 : (Int × σ)) (F3 : Mem) (Lf19 : Own), o1 = .done s15 /\ HS wb Fb w F3 Lf19 /\ RL F1 F3 /\ FI f [] [(0, (.func (.yield l) #[] #[])), (1, (pt bz0 0))] /\ J s15.2 F3 Lf19) ?_ ?_
 ·refine Bk ?_
  refine RK (by kernel_rfl) (fun m f w => ∃ (s4 : (Int × σ)) (F2 : Mem) (Lf8 : Own), AZ (EL N y z0 z1 s) m s4 = some o1 /\ HS wb Fb w F2 Lf8 /\ RL F1 F2 /\ FI f [] [(0, (.func (.yield l) #[] #[])), (1, (pt bz0 0)), (2, (pt bz1 0)), (4, (vi s4.1))] /\ J s4.2 F2 Lf8) N ⟨(0, s), F1, Lf, ho2, hs0, (RM _), fI, hJ⟩ ?_
  rintro m24 f w5 ⟨s4, F2, Lf8, hit25, hs6, le7, ⟨_, rfl⟩, hJ9⟩
  obtain ⟨m26, fl27, rfl, hb28, hnx29⟩ := AR hit25
  refine Sq ?_
  refine Sq (Rg [0, 1, 2, 3] ?_)
  refine Vs 1 ?_
  refine Ld (hs6.pers _ _ ((le01.trans le7) _ _ hz0)) ?_
  refine Vs 1 ?_
  refine Vs 1 ?_
  refine Nt ?_
  refine Cd hb28 (fun hb30 h31 => ?_) (fun hb30 h32 => ?_)
  ·refine Sc ?_
   refine Ac ?_
   refine Bk ?_
   refine Sq (Rg [0, 1, 2, 3, 4, 5, 6, 7, 8] ?_)
   refine Vs 1 ?_
   refine Ld (hs6.pers _ _ ((le01.trans le7) _ _ hz0)) ?_
   refine Vs 1 ?_
   refine Vs 1 ?_
   refine Vs 1 ?_
   obtain ⟨r33, hr34, h35⟩ := bind_some h31
   refine V 16 9 (Kl (t := 9) (x := (.tmp 12)) (lo := (some (.tmp 13))) (hi := (some (.tmp 15))) (a := z0) (il := s4.1) (ih := (W64 (s4.1 + 1))) (v := r33) rfl (by kernel_rfl) rfl rfl hr34) ?_
   refine Vs 1 ?_
   refine Al' 97 #[(vi 0), (vi 0), (.string ⟨(([] : R8)).toArray⟩)] hs6 (fun b36 w37 hs38 => ?_)
   refine St0 #[(vi 4), (vi s4.1), (.string ⟨(r33).toArray⟩)] hs38 (fun w39 hs40 => ?_)
   refine Nss ?_
   refine Sq (Rg [0, 1, 2, 3] ?_)
   refine Ld (hs40.pers _ _ ((le01.trans le7) _ _ hz0)) ?_
   refine Vs 1 ?_
   obtain ⟨c41, hr42, h43⟩ := bind_some h35
   refine V 20 5 (Km (t := 9) (x := (.tmp 18)) (y := (.tmp 19)) (a := z0) (k := .i64) (i := s4.1) (v := c41) rfl rfl (by kernel_rfl) hr42) ?_
   refine Vs 1 ?_
   refine Nt ?_
   refine Bk ?_
   refine Sq (Rg [0, 1, 2, 3, 4, 5, 6] ?_)
   refine RR (fun f w => ∃ (F4 : Mem), HS wb Fb w F4 ((sb b36 #[(vi 4), (vi s4.1), (.string ⟨(r33).toArray⟩)] 97) :: Lf8) /\ RL F2 F4 /\ FI f [] [(0, (.func (.yield l) #[] #[])), (1, (pt bz0 0)), (2, (pt bz1 0)), (4, (vi s4.1)), (5, (pt b36 0)), (6, (.int .u8 c41)), (21, (.bool ((c41 == 32) || (c41 == 9))))]) ?_ ?_
   ·refine Vs 1 ?_
    refine Vs 1 ?_
    refine Vs 1 ?_
    refine RQ (c41 == 32) (fun hb55 => ?_) (fun hb55 => ?_)
    ·refine Ss hb55 1 ?_--2
     refine Ss hb55 1 ?_--2
     refine Pk1 hb55 ?_
     refine Vs 1 ?_
     exact RF ⟨rfl, F2, hs40, (RM _), (fJ ⟨rfl, rfl, rfl, rfl, rfl, rfl, (congrArg Value.bool (Fj hb55 rfl)), trivial⟩)⟩
    ·refine Vgs hb55 1 ?_--2
     refine Vgs hb55 1 ?_--2
     refine Pk0 hb55 ?_
     refine Vs 1 ?_
     exact RF ⟨rfl, F2, hs40, (RM _), (fJ ⟨rfl, rfl, rfl, rfl, rfl, rfl, (congrArg Value.bool (BJ hb55 rfl)), trivial⟩)⟩
   ·rintro f w44 ⟨F4, hs45, le46, ⟨_, rfl⟩⟩
    refine Ac ?_
    refine Cd h43 (fun hb56 h57 => ?_) (fun hb56 h58 => ?_)
    ·refine Sq (Rg [0, 1, 2] ?_)
     refine Vs 1 ?_
     refine Vs 1 ?_
     refine Vs 1 ?_
     refine Nt ?_
     refine Ex ?_
     refine Nd (by decide) ?_
     refine Ax ?_
     refine AF rfl ?_
     have hn59 := AL h57 hnx29
     exact ⟨m26, Nat.lt_succ_self _, ((W64 (s4.1 + 1)), s4.2), F4, Lf8, hn59, hs45.dr0, (le7.trans le46), fI, (hJm _ _ _ _ hJ9 le46)⟩
    ·refine Sq (Rg [0, 1, 2, 3, 4, 5, 6] ?_)
     refine RR (fun f w => ∃ (F5 : Mem), HS wb Fb w F5 ((sb b36 #[(vi 4), (vi s4.1), (.string ⟨(r33).toArray⟩)] 97) :: Lf8) /\ RL F4 F5 /\ FI f [] [(0, (.func (.yield l) #[] #[])), (1, (pt bz0 0)), (2, (pt bz1 0)), (4, (vi s4.1)), (5, (pt b36 0)), (6, (.int .u8 c41)), (30, (.bool ((decide (c41 >= 48)) && (decide (c41 <= 57)))))]) ?_ ?_
     ·refine Vs 1 ?_
      refine Vs 1 ?_
      refine Vs 1 ?_
      refine RQ (decide (c41 >= 48)) (fun hb71 => ?_) (fun hb71 => ?_)
      ·refine Vgs hb71 1 ?_--2
       refine Vgs hb71 1 ?_--2
       refine Pk1 hb71 ?_
       refine Vs 1 ?_
       exact RF ⟨rfl, F4, hs45, (RM _), (fJ ⟨rfl, rfl, rfl, rfl, rfl, rfl, (congrArg Value.bool (BX hb71 rfl)), trivial⟩)⟩
      ·refine Ss hb71 1 ?_--2
       refine Ss hb71 1 ?_--2
       refine Pk0 hb71 ?_
       refine Vs 1 ?_
       exact RF ⟨rfl, F4, hs45, (RM _), (fJ ⟨rfl, rfl, rfl, rfl, rfl, rfl, (congrArg Value.bool (C9 hb71 rfl)), trivial⟩)⟩
     ·rintro f w60 ⟨F5, hs61, le62, ⟨_, rfl⟩⟩
      refine Ac ?_
      obtain ⟨j75, hj82, h83⟩ := bind_some h58
      refine RS (fun f w => ∃ (F6 : Mem), HS wb Fb w F6 ((sb b36 #[(vi j75.1), (vi s4.1), (.string ⟨(j75.2).toArray⟩)] 97) :: Lf8) /\ RL F5 F6 /\ FI f [] [(0, (.func (.yield l) #[] #[])), (1, (pt bz0 0)), (2, (pt bz1 0)), (4, (vi s4.1)), (5, (pt b36 0))]) ?_ ?_
      ·refine Cd hj82 (fun hb84 h85 => ?_) (fun hb84 h86 => ?_)
       ·refine Rg [0, 1, 2, 3, 4, 5, 6] ?_
        refine Ld (hs61.pers _ _ ((((le01.trans le7).trans le46).trans le62) _ _ hz1)) ?_
        refine Vs 1 ?_
        obtain ⟨r87, hr88, h89⟩ := bind_some h85
        refine Cq hoz1_0 hs61 (hpz1_0 w60 F5 s4.1 48 57 _ (((le01.trans le7).trans le46).trans le62) hs61.pers hr88) ?_
        rintro _ F7 w91 hs92 le93 rfl
        refine Vs 1 ?_
        refine St0 #[(vi 1), (vi s4.1), (.string ⟨(r33).toArray⟩)] hs92 (fun w95 hs96 => ?_)
        refine Vs 1 ?_
        refine St0 #[(vi 1), (vi s4.1), (.string ⟨(r87).toArray⟩)] hs96 (fun w97 hs98 => ?_)
        refine RF ?_
        obtain rfl := Aa h89
        exact .inl ⟨rfl, F7, hs98, le93, fI⟩
       ·refine Sq (Rg [0, 1, 2, 3, 4, 5, 6] ?_)
        refine RR (fun f w => ∃ (F8 : Mem), HS wb Fb w F8 ((sb b36 #[(vi 4), (vi s4.1), (.string ⟨(r33).toArray⟩)] 97) :: Lf8) /\ RL F5 F8 /\ FI f [] [(0, (.func (.yield l) #[] #[])), (1, (pt bz0 0)), (2, (pt bz1 0)), (4, (vi s4.1)), (5, (pt b36 0)), (6, (.int .u8 c41)), (42, (.bool ((decide (c41 >= 97)) && (decide (c41 <= 122)))))]) ?_ ?_
        ·refine Vs 1 ?_
         refine Vs 1 ?_
         refine Vs 1 ?_
         refine RQ (decide (c41 >= 97)) (fun hb110 => ?_) (fun hb110 => ?_)
         ·refine Vgs hb110 1 ?_--2
          refine Vgs hb110 1 ?_--2
          refine Pk1 hb110 ?_
          refine Vs 1 ?_
          exact RF ⟨rfl, F5, hs61, (RM _), (fJ ⟨rfl, rfl, rfl, rfl, rfl, rfl, (congrArg Value.bool (BX hb110 rfl)), trivial⟩)⟩
         ·refine Ss hb110 1 ?_--2
          refine Ss hb110 1 ?_--2
          refine Pk0 hb110 ?_
          refine Vs 1 ?_
          exact RF ⟨rfl, F5, hs61, (RM _), (fJ ⟨rfl, rfl, rfl, rfl, rfl, rfl, (congrArg Value.bool (C9 hb110 rfl)), trivial⟩)⟩
        ·rintro f w99 ⟨F8, hs100, le101, ⟨_, rfl⟩⟩
         refine Ac ?_
         obtain ⟨j114, hj121, h122⟩ := bind_some h86
         refine RS (fun f w => ∃ (F9 : Mem), HS wb Fb w F9 ((sb b36 #[(vi j114.1), (vi s4.1), (.string ⟨(j114.2).toArray⟩)] 97) :: Lf8) /\ RL F8 F9 /\ FI f [] [(0, (.func (.yield l) #[] #[])), (1, (pt bz0 0)), (2, (pt bz1 0)), (4, (vi s4.1)), (5, (pt b36 0))]) ?_ ?_
         ·refine Cd hj121 (fun hb123 h124 => ?_) (fun hb123 h125 => ?_)
          ·refine Rg [0, 1, 2, 3, 4, 5, 6] ?_
           refine Ld (hs100.pers _ _ (((((le01.trans le7).trans le46).trans le62).trans le101) _ _ hz1)) ?_
           refine Vs 1 ?_
           obtain ⟨r126, hr127, h128⟩ := bind_some h124
           refine Cq hoz1_0 hs100 (hpz1_0 w99 F8 s4.1 97 122 _ ((((le01.trans le7).trans le46).trans le62).trans le101) hs100.pers hr127) ?_
           rintro _ F10 w130 hs131 le132 rfl
           refine Vs 1 ?_
           refine St0 #[(vi 2), (vi s4.1), (.string ⟨(r33).toArray⟩)] hs131 (fun w134 hs135 => ?_)
           refine Vs 1 ?_
           refine St0 #[(vi 2), (vi s4.1), (.string ⟨(r126).toArray⟩)] hs135 (fun w136 hs137 => ?_)
           refine RF ?_
           obtain rfl := Aa h128
           exact .inl ⟨rfl, F10, hs137, le132, fI⟩
          ·refine Sq (Rg [0, 1, 2, 3, 4] ?_)
           refine Ld (hs100.pers _ _ (((((le01.trans le7).trans le46).trans le62).trans le101) _ _ hz0)) ?_
           refine Vs 1 ?_
           obtain ⟨r138, hr139, h140⟩ := bind_some h125
           refine V 57 9 (Kl (t := 9) (x := (.tmp 55)) (lo := (some (.tmp 56))) (hi := none) (a := z0) (il := s4.1) (ih := (z0.length : Int)) (v := r138) rfl (by kernel_rfl) rfl rfl hr139) ?_
           obtain ⟨r141, hr142, h143⟩ := bind_some h140
           refine Cl' Gy hs100 (G9 N w99 F8 hs100.pers r138 (([61, 62] : R8)) _ hr142) ?_
           rintro _ F11 w145 hs146 le147 rfl
           refine Vs 1 ?_
           refine Nt ?_
           obtain ⟨j152, hj159, h160⟩ := bind_some h143
           refine RS (fun f w => ∃ (F12 : Mem), HS wb Fb w F12 ((sb b36 #[(vi j152.1), (vi s4.1), (.string ⟨(j152.2).toArray⟩)] 97) :: Lf8) /\ RL F11 F12 /\ FI f [] [(0, (.func (.yield l) #[] #[])), (1, (pt bz0 0)), (2, (pt bz1 0)), (4, (vi s4.1)), (5, (pt b36 0))]) ?_ ?_
           ·refine Cd hj159 (fun hb161 h162 => ?_) (fun hb161 h163 => ?_)
            ·refine Rg [0, 1, 2, 3] ?_
             refine Vs 1 ?_
             refine St0 #[(vi 3), (vi s4.1), (.string ⟨(r33).toArray⟩)] hs146 (fun w164 hs165 => ?_)
             refine Vs 1 ?_
             refine St0 #[(vi 3), (vi s4.1), (.string ⟨(([61, 62] : R8)).toArray⟩)] hs165 (fun w166 hs167 => ?_)
             refine RF ?_
             obtain rfl := Aa h162
             exact .inl ⟨rfl, F11, hs167, (RM _), fI⟩
            ·refine Sq (Rg [0, 1, 2, 3] ?_)
             refine Vs 1 ?_
             obtain ⟨r168, hr169, h170⟩ := bind_some h163
             refine Cl' Gx hs146 (G8 N w145 F11 hs146.pers (([40, 41, 44, 58, 61, 60, 43, 45, 42, 10] : R8)) c41 _ hr169) ?_
             rintro _ F13 w172 hs173 le174 rfl
             refine Vs 1 ?_
             refine Vs 1 ?_
             refine Nt ?_
             obtain ⟨j179, hj186, h187⟩ := bind_some h170
             refine RS (fun f w => ∃ (F14 : Mem), HS wb Fb w F14 ((sb b36 #[(vi j179), (vi s4.1), (.string ⟨(r33).toArray⟩)] 97) :: Lf8) /\ RL F13 F14 /\ FI f [] [(0, (.func (.yield l) #[] #[])), (1, (pt bz0 0)), (2, (pt bz1 0)), (4, (vi s4.1)), (5, (pt b36 0))]) ?_ ?_
             ·refine Cd hj186 (fun hb188 h189 => ?_) (fun hb188 h190 => ?_)
              ·refine Rg [0, 1] ?_
               refine Vs 1 ?_
               refine St0 #[(vi 3), (vi s4.1), (.string ⟨(r33).toArray⟩)] hs173 (fun w191 hs192 => ?_)
               refine RF ?_
               obtain rfl := Aa h189
               exact .inl ⟨rfl, F13, hs192, (RM _), fI⟩
              ·refine Sc ?_
               obtain rfl := Aa h190
               exact .inl ⟨rfl, F13, hs173, (RM _), fI⟩
             ·rintro f w176 ⟨F14, hs177, le178, ⟨_, rfl⟩⟩
              obtain rfl := Aa h187
              exact .inl ⟨rfl, F14, hs177, (le174.trans le178), fI⟩
           ·rintro f w149 ⟨F12, hs150, le151, ⟨_, rfl⟩⟩
            obtain rfl := Aa h160
            exact .inl ⟨rfl, F12, hs150, (le147.trans le151), fI⟩
         ·rintro f w111 ⟨F9, hs112, le113, ⟨_, rfl⟩⟩
          obtain rfl := Aa h122
          exact .inl ⟨rfl, F9, hs112, (le101.trans le113), fI⟩
      ·rintro f w72 ⟨F6, hs73, le74, ⟨_, rfl⟩⟩
       refine Ap ?_
       refine Ac ?_
       refine Sq (Rg [0, 1, 2, 3, 4, 5] ?_)
       refine Vs 1 ?_
       refine Vs 1 ?_
       refine Ld hs73.at0 ?_
       refine Vs 1 ?_
       refine Vs 1 ?_
       refine Vs 1 ?_
       refine Nss (Rg [0, 1, 2, 3] ?_)
       refine Vs 1 ?_
       refine Ld hs73.at0 ?_
       obtain ⟨q193, hq194, h195⟩ := bind_some h83
       refine RWP.yield (dst := (some 73)) (ty := 4) (g := none) (by kernel_rfl) rfl (f0 := (.tmp 71)) (aos := #[(.tmp 72)]) (ats := #[97]) (l := l) (args := [(.agg #[(vi j75.1), (vi s4.1), (.string ⟨(j75.2).toArray⟩)])]) rfl rfl (hY s4.2 ({ kind_ := j75.1, at_ := s4.1, text_ := j75.2 } : Ar) w72 F6 [(sb b36 #[(vi j75.1), (vi s4.1), (.string ⟨(j75.2).toArray⟩)] 97)] Lf8 q193 (((le7.trans le46).trans le62).trans le74) trivial (hJm _ _ _ _ hJ9 ((le46.trans le62).trans le74)) hs73 hq194) ?_
       rintro _ w196 ⟨F15, Lf200, rfl, hs197, le198, hJ199⟩
       have hs201 : HS wb Fb w196 F15 ((sb b36 #[(vi j75.1), (vi s4.1), (.string ⟨(j75.2).toArray⟩)] 97) :: Lf200) := hs197
       refine ⟨_, rfl, ?_⟩
       refine Vs 1 ?_
       refine Nt ?_
       refine Cd h195 (fun hb202 h203 => ?_) (fun hb202 h204 => ?_)
       ·refine Rt ?_
        refine Ai ?_
        refine Ae ?_
        refine Ai ?_
        have hret := Bo h203 hnx29
        subst hret
        refine .inr ?_
        refine Ae ?_
        have hfin := Aa h3
        subst hfin
        exact ⟨rfl, .tuple #[], AA (l := []) (by kernel_rfl) (vs := []) trivial, F15, Lf200, rfl, hs201.dr0, ((((le7.trans le46).trans le62).trans le74).trans le198), hJ199⟩
       ·refine Sc ?_
        refine Ap ?_
        have hn205 := AL h204 hnx29
        exact ⟨m26, Nat.lt_succ_self _, ((W64 (s4.1 + (j75.2.length : Int))), q193.2), F15, Lf200, hn205, hs201.dr0, ((((le7.trans le46).trans le62).trans le74).trans le198), fI, hJ199⟩
  ·refine Ex ?_
   refine Ax ?_
   refine Ax ?_
   refine AF rfl ?_
   have ho206 := AU h32 hnx29
   exact .inl ⟨rfl, (s4.1, s4.2), F2, Lf8, ho206, hs6, le7, fI, hJ9⟩
 ·rintro f w16 ⟨s15, F3, Lf19, rfl, hs17, le18, ⟨_, rfl⟩, hJ20⟩
  have h207 := Bm h3
  refine Ac ?_
  refine Rg [0, 1, 2, 3, 4] ?_
  refine Vs 1 ?_
  refine Ld (hs17.pers _ _ ((le01.trans le18) _ _ hz0)) ?_
  refine Vs 1 ?_
  refine Vs 1 ?_
  obtain ⟨q208, hq209, h210⟩ := bind_some h207
  refine RWP.yield (dst := (some 79)) (ty := 4) (g := none) (by kernel_rfl) rfl (f0 := (.tmp 75)) (aos := #[(.tmp 78)]) (ats := #[97]) (l := l) (args := [(.agg #[(vi 0), (vi (z0.length : Int)), (.string ⟨(([] : R8)).toArray⟩)])]) rfl rfl (hY s15.2 ({ kind_ := 0, at_ := (z0.length : Int), text_ := ([] : R8) } : Ar) w16 F3 [] Lf19 q208 le18 trivial hJ20 hs17 hq209) ?_
  rintro _ w211 ⟨F16, Lf215, rfl, hs212, le213, hJ214⟩
  have hs216 : HS wb Fb w211 F16 Lf215 := hs212
  refine ⟨_, rfl, ?_⟩
  refine RF ?_
  have hfin := Aa h210
  subst hfin
  exact ⟨rfl, .tuple #[], AA (l := []) (by kernel_rfl) (vs := []) trivial, F16, Lf215, rfl, hs216, (le18.trans le213), hJ214⟩
section
variable {P : Program} {ro : Option Nat} {n : Nat} {R : Array Oper} {Q : Exit -> Fr -> World -> Prop} {w w0 : World} {F0 F : Mem} {L : Own} {f : Fr} {i : Nat} {rest : List Nat} {dst : Option Nat} {ty : TypeId} {g : Option (Nat × Bool)} {ρ : Operand -> Value}
theorem Nv {x : Operand} {q : FuncId} {cap : Array Value} {ats : Array TypeId} (hx : ρ x = .func (.func q) #[] cap) :
  (An ρ (.defer { callee := .value x, args := #[], argTypes := ats }) ty).run P w = .ok (.defer { target := .fn (.func q) cap, args := #[] }) w := by
 have e : An ρ (.defer { callee := .value x, args := #[], argTypes := ats }) ty = (do pure (Next.defer (<- Deferred.ofValue (ρ x) (Array.map ρ #[])))) := rfl
 rw [e, hx]
 simp [Deferred.ofValue]
theorem RWP.defer0 {x : Operand} {q : FuncId} {cap : Array Value} {ats : Array TypeId} (ho : opq R i = some (none, .defer { callee := .value x, args := #[], argTypes := ats }, ty, g)) (hg : gd R f g = true) (hx : fev f x = .func (.func q) #[] cap)
  (k : RWP P none n R Q rest ⟨f.v, { target := .fn (.func q) cap, args := #[] } :: f.d⟩ w) : RWP P none n R Q (i :: rest) f w := by
 intro hok a ha
 obtain ⟨o, hR, hd, hop, hty, hgd⟩ := BP ho
 rw [wpOpsIn]
 simp only [hR]
 rw [ha.wanted R o, hgd, hg]
 simp only [if_true]
 refine ⟨Bc, ?_⟩
 show o.uponIn (FW none) 0 P a _ _ ((execOp a.eval o).run P w)
 rw [BM, ha.evalF, hop, hty, Nv hx]
 simp only [Oper.uponIn]
 rw [hd]
 exact k hok _ ⟨ha.size, ha.at_, by simp [Act.put, ha.defers]⟩
theorem JK {x : Operand} {t q : TypeId} {v : Value} (hx : ρ x = .iface q v) (hu : H6 P q = true) :
  (An ρ (.typeAssert x t q true) ty).run P w = .ok (.value (.tuple #[v, .bool true])) w := by
 have e : An ρ (.typeAssert x t q true) ty = (do pure (Next.value (<- Instr.typeAssert (ρ x) t q true))) := rfl
 rw [e, hx]
 unfold H6 at hu
 split at hu
 ·cases hu
 ·rename_i d h1 h2
  cases d <;> first | exact (h1 _ rfl).elim | simp [Instr.typeAssert, run_underlying h2, Result.andThen]
 ·cases hu
theorem FR {ops : Array Oper} {QS : Exit -> Act -> List Frame -> World -> Prop} {a : Act} {cs : List Frame} {d d2 : Nat} {ty ty2 : TypeId}
  (ho : opq ops 0 = some (some d, .call { callee := .builtin .recover, args := #[], argTypes := #[] }, ty, none)) (ho2 : opq ops 1 = some (some d2, .assign (.tmp d), ty2, none)) (hl : ops.size = 2) (hsz : d < a.tmps.size)
  (h : match recoverD cs with | some (v, cs') => QS .normal ((a.put (some d) v).put (some d2) v) cs' w | none => QS .normal ((a.put (some d) .nilIface).put (some d2) .nilIface) cs w) : wpOpsS P ops QS (List.range ops.size) a cs w := by
 rw [hl]
 obtain ⟨o, hR, hd, hop, hty, hgd⟩ := BP ho
 obtain ⟨o2, hR2, hd2, hop2, hty2, hgd2⟩ := BP ho2
 show wpOpsS P ops QS [0, 1] a cs w
 have step2 : ∀ (v : Value) (cs' : List Frame), QS .normal ((a.put (some d) v).put (some d2) v) cs' w -> wpOpsS P ops QS [1] (a.put (some d) v) cs' w := by
  intro v cs' hq
  simp only [wpOpsS, hR2]
  have hw : ∀ y, Region.wanted o2 y = true := fun y => by unfold Region.wanted; rw [hgd2]
  rw [if_pos (hw _)]
  have hev : (a.put (some d) v).eval (.tmp d) = v := by
   simp [Act.eval, Act.put, hsz]
  have hx : (execOp (a.put (some d) v).eval o2).run P w = .ok (.value v) w := by
   rw [BM, hop2]
   exact AB (ρ := (a.put (some d) v).eval) hev
  rw [hx]
  simp only [Oper.upon]
  rw [hd2]; exact hq
 rw [wpOpsS]
 simp only [hR]
 have hw : Region.wanted o (yielded ops a.tmps) = true := by unfold Region.wanted; rw [hgd]
 rw [if_pos hw]
 have hx : (execOp a.eval o).run P w = .ok .recover w := by rw [BM, hop]; rfl
 rw [hx]
 simp only
 cases hr : recoverD cs with
 | none => rw [hr] at h; simp only at h ⊢; rw [hd]; exact step2 _ _ h
 | some p => obtain ⟨v, cs'⟩ := p; rw [hr] at h; simp only at h ⊢; rw [hd]; exact step2 _ _ h
theorem Qm {c : Code} {a : Act} {cs : List Frame} {Q' : Exit -> Fr -> World -> Prop} {QS : Exit -> Act -> List Frame -> World -> Prop} (h : CWP P none n c Q' f w) (hf : Da n f a)
  (hq : ∀ e a' w', lq n Q' e a' w' -> QS e a' cs w') : c.wpS P QS a cs w := wpS_of_wp (wp_mono (wpIn_wide.1 (h a hf)) hq)
theorem Po {args : List Value} (hsz : decide (args.length <= n) = true) : Da n (f0 args) { tmps := args.toArray ++ Array.replicate (n - args.toArray.size) undef, defers := [] } := by
 have hsz' : args.length <= n := by simpa using hsz
 refine ⟨?_, ?_, rfl⟩
 ·simp; omega
 ·intro i
  simp only [f0]
  rw [Array.getD_eq_getD_getElem?]
  by_cases hi : i < args.length
  ·simp [Array.getElem?_append, hi]
  ·rw [Array.getElem?_append_right (by simp; omega)]
   rw [List.getD_eq_getElem?_getD, List.getElem?_eq_none (by omega)]
   simp only [List.getElem?_toArray, Array.getElem?_replicate]
   split <;> rfl
end
section
variable {wb w : World} {Fb F : Mem} {Lf : Own}
theorem Qh : ∃ id ops, cs1 (BQ Tryz.f131) = .region id ops false /\ BQ Tryz.f131 = .seq (cs1 (BQ Tryz.f131)) (cs2 (BQ Tryz.f131)) := ⟨_, _, rfl, rfl⟩
theorem Jx {Q : Exit -> Act -> List Frame -> World -> Prop} {a : Act} {cs : List Frame} {w : World} (h : wpOpsS Tryz.prog (DM (cs1 (BQ Tryz.f131))) (Exit.thenS ((cs2 (BQ Tryz.f131)).wpS Tryz.prog Q) Q) (List.range (DM (cs1 (BQ Tryz.f131))).size) a cs w) : (BQ Tryz.f131).wpS Tryz.prog Q a cs w := by
 obtain ⟨id, ops, h1, h2⟩ := Qh
 rw [h2]
 refine wpS_seq ?_
 rw [h1] at h ⊢
 exact wpS_region h
abbrev Hh (b : Ah) : Value := .agg #[.int .i64 b.e_, .int .i64 b.at_]
abbrev be (v : Int) : Obj := .cells #[.int .i64 v] 27 (0, 0)
abbrev ba (v : Int) : Obj := .cells #[.int .i64 v] 3 (0, 0)
abbrev FV (b c : Nat) : List Value := [.pointer (some ⟨b, 0, none⟩), .pointer (some ⟨c, 0, none⟩)]
theorem Na {b c : Nat} : CallsD Tryz.prog 131 (FV b c).toArray .returning w fun e u' w' => u' = .returning /\ e = .returned (.tuple #[]) /\ w' = w := by
 refine callsD_of_wpS (fn := Tryz.f131) (c := BQ Tryz.f131) Tryz.func131 (by kernel_rfl) fun c0 cs hu => Jx (FR (d := 5) (d2 := 2) (ty := 20) (ty2 := 20) (by kernel_rfl) (by kernel_rfl) (by kernel_rfl) (by rw [show Tryz.f131.ntmps = 20 from by kernel_rfl]; simp) ?_)
 have hr : recoverD (c0 :: cs) = none := by simp [recoverD, hu]
 rw [hr]
 simp only
 refine Qm (n := 20) (f := upd (upd (f0 (FV b c)) 5 .nilIface) 2 .nilIface) (Q' := fun e f w' => e = .normal /\ w' = w /\ f.d = []) ?_ (((Po (n := 20) (args := FV b c) rfl).put (dst := some 5) (by decide) .nilIface).put (dst := some 2) (by decide) .nilIface) ?_
 ·refine Sq ?_
  refine Rg [0, 1] ?_
  refine V 6 20 (AN (x := .tmp 2) (v := .nilIface) rfl) ?_
  refine V 7 4 (HF (t := 20) (t' := 20) (x := .tmp 6) (c := .nilIface) (b := false) (v := .nilIface) rfl rfl rfl (by kernel_rfl)) ?_
  refine RF ?_
  refine Ac ?_
  refine CWP.cond0 (t := false) (by kernel_rfl) rfl rfl ?_
  exact RI (by kernel_rfl) ⟨rfl, rfl, rfl⟩
 ·rintro e a' w' ⟨f, hf, rfl, rfl, hd⟩
  refine ⟨hf.defers.trans hd, .returning, by rw [<- hu], .tuple #[], ?_, rfl, rfl, rfl⟩
  rw [hf.results Tryz.f131]
  exact AA (l := []) (by kernel_rfl) (vs := []) trivial
theorem Nb {b c : Nat} {x : Ah} (hs : HS wb Fb w F ((some c, ba 0) :: (some b, be 0) :: Lf)) :
  CallsD Tryz.prog 131 (FV b c).toArray (.panicking [{ v := .iface 158 (Hh x), recovered := false }]) w fun e u' w' =>
   settle u' = .returning /\ e = .returned (.tuple #[]) /\ HS wb Fb w' F ((some c, ba x.at_) :: (some b, be x.e_) :: Lf) := by
 refine callsD_of_wpS (fn := Tryz.f131) (c := BQ Tryz.f131) Tryz.func131 (by kernel_rfl) fun c0 cs hu => Jx (FR (d := 5) (d2 := 2) (ty := 20) (ty2 := 20) (by kernel_rfl) (by kernel_rfl) (by kernel_rfl) (by rw [show Tryz.f131.ntmps = 20 from by kernel_rfl]; simp) ?_)
 have hr : recoverD (c0 :: cs) = some (.iface 158 (Hh x), { c0 with mode := .panicking [{ v := .iface 158 (Hh x), recovered := true }] } :: cs) := by simp [recoverD, hu]
 rw [hr]
 simp only
 refine Qm (n := 20) (f := upd (upd (f0 (FV b c)) 5 (.iface 158 (Hh x))) 2 (.iface 158 (Hh x))) (Q' := fun e f w' => e = .normal /\ f.d = [] /\ HS wb Fb w' F ((some c, ba x.at_) :: (some b, be x.e_) :: Lf)) ?_ (((Po (n := 20) (args := FV b c) rfl).put (dst := some 5) (by decide) _).put (dst := some 2) (by decide) _) ?_
 ·refine Sq ?_
  refine Rg [0, 1] ?_
  refine V 6 20 (AN (x := .tmp 2) (v := .iface 158 (Hh x)) rfl) ?_
  refine V 7 4 (HF (t := 20) (t' := 20) (x := .tmp 6) (c := .nilIface) (b := true) (v := .iface 158 (Hh x)) ⟨_, _, rfl⟩ rfl rfl (by kernel_rfl)) ?_
  refine RF ?_
  refine Ac ?_
  refine CWP.cond1 (t := true) (by kernel_rfl) rfl rfl ?_
  refine Sq ?_
  refine Rg [0, 1, 2, 3, 4, 5, 6, 7] ?_
  refine V 9 20 (AN (x := .tmp 2) (v := .iface 158 (Hh x)) rfl) ?_
  refine V 10 159 (JK (x := .tmp 9) (t := 20) (q := 158) (v := Hh x) rfl (by kernel_rfl)) ?_
  refine V 8 159 (AN (x := .tmp 10) (v := .tuple #[Hh x, .bool true]) rfl) ?_
  refine V 11 158 (Bu (x := .tmp 8) (vs := #[Hh x, .bool true]) (i := 0) (v := Hh x) rfl rfl) ?_
  refine V 12 4 (Bu (x := .tmp 8) (vs := #[Hh x, .bool true]) (i := 1) (v := .bool true) rfl rfl) ?_
  refine RT (dst := some 3) (ty := 0) (g := none) (by kernel_rfl) rfl (t := 158) (z := .agg #[.int .i64 0, .int .i64 0]) (by kernel_rfl) (C := #[.int .i64 0, .int .i64 0]) rfl hs (fun b3 w3 hs3 => ?_)
  refine RU (ty := 0) (g := none) (by kernel_rfl) rfl (x := .tmp 3) (y := .tmp 11) (t := 158) (gg := true) (s := 2) (v := Hh x) (b := b3) (o := 0) (C := #[.int .i64 0, .int .i64 0]) rfl rfl (by kernel_rfl) hs3 (k := 0) rfl rfl rfl rfl (C' := #[.int .i64 x.e_, .int .i64 x.at_]) rfl (fun w4 (hs4 : HS wb Fb w4 F ((some b3, .cells #[.int .i64 x.e_, .int .i64 x.at_] 158 (0, 0)) :: (some c, ba 0) :: (some b, be 0) :: Lf)) => ?_)
  refine V 4 4 (AB (x := .tmp 12) (v := .bool true) rfl) ?_
  refine RF ?_
  refine Ac ?_
  refine Sq ?_
  refine Sq ?_
  refine Rg [0, 1] ?_
  refine V 13 4 (AN (x := .tmp 4) (v := .bool true) rfl) ?_
  refine V 14 4 (L8 (t := 4) (x := .tmp 13) (a := true) rfl) ?_
  refine RF ?_
  refine Ac ?_
  refine CWP.cond0 (t := false) (by kernel_rfl) rfl rfl ?_
  refine RI (by kernel_rfl) ?_
  refine Ac ?_
  refine CWP.regionD (by kernel_rfl) (by kernel_rfl) (by kernel_rfl) (by kernel_rfl) (z := 6) (F := F) (Lc := [(some b3, .cells #[.int .i64 x.e_, .int .i64 x.at_] 158 (0, 0))]) (Lz := []) (l := [false, false, false, false, false, false]) (fuel := 6) (by kernel_rfl) (by kernel_rfl) hs4 (by simp) (by simp) (fun f w' => f.d = [] /\ HS wb Fb w' F ((some c, ba x.at_) :: (some b, be x.e_) :: Lf)) (fun wd hw => ?_) (fun f w' h => ⟨rfl, h.1, h.2⟩)
  refine RW (i := 0) (v := .pointer (some ⟨b3, 0, none⟩)) (zd := true) (dst := some 16) (ty := 0) (g := none) (by kernel_rfl) (by kernel_rfl) (by kernel_rfl) (by kernel_rfl) (by kernel_rfl) rfl (fun wq hq => BL (s := 158) (x := .tmp 3) (i := 0) (o := 0) (k := 1) (b := b3) (o0 := 0) rfl (by kernel_rfl) rfl (o1 := 0) rfl) (l' := [true, false, false, false, false, false]) (by kernel_rfl) ?_
  refine RW (i := 1) (v := .int .i64 x.e_) (zd := true) (dst := some 17) (ty := 27) (g := none) (by kernel_rfl) (by kernel_rfl) (by kernel_rfl) (by kernel_rfl) (by kernel_rfl) rfl (fun wq hq => BT (t := 27) (x := .tmp 16) (b := b3) (o := 0) (g := false) (s := 1) (C := #[.int .i64 x.e_, .int .i64 x.at_]) (v := .int .i64 x.e_) rfl (by kernel_rfl) (hq.1.2 0 _ _ rfl) rfl rfl rfl) (l' := [true, true, false, false, false, false]) (by kernel_rfl) ?_
  refine RW (i := 2) (v := .pointer (some ⟨b3, 1, none⟩)) (zd := true) (dst := some 18) (ty := 0) (g := none) (by kernel_rfl) (by kernel_rfl) (by kernel_rfl) (by kernel_rfl) (by kernel_rfl) rfl (fun wq hq => BL (s := 158) (x := .tmp 3) (i := 1) (o := 1) (k := 1) (b := b3) (o0 := 0) rfl (by kernel_rfl) rfl (o1 := 1) rfl) (l' := [true, true, true, false, false, false]) (by kernel_rfl) ?_
  refine RW (i := 3) (v := .int .i64 x.at_) (zd := true) (dst := some 19) (ty := 3) (g := none) (by kernel_rfl) (by kernel_rfl) (by kernel_rfl) (by kernel_rfl) (by kernel_rfl) rfl (fun wq hq => BT (t := 3) (x := .tmp 18) (b := b3) (o := 1) (g := false) (s := 1) (C := #[.int .i64 x.e_, .int .i64 x.at_]) (v := .int .i64 x.at_) rfl (by kernel_rfl) (hq.1.2 0 _ _ rfl) rfl rfl rfl) (l' := [true, true, true, true, false, false]) (by kernel_rfl) ?_
  refine RX (i := 4) (by kernel_rfl) ?_
  refine Az.store (l' := [true, true, true, true, true, false]) (zd := true) (by kernel_rfl) (by kernel_rfl) (ty := 0) (g := none) (by kernel_rfl) rfl (x := .tmp 0) (y := .tmp 17) (t := 27) (v := .int .i64 x.e_) (gg := false) (s := 1) (b := b) (o := 0) (C := #[.int .i64 0]) rfl rfl (by kernel_rfl) hw (k := 2) rfl rfl rfl rfl (C' := #[.int .i64 x.e_]) rfl (RM _) (by simp) (fun e => by cases e) (fun w5 (hs5 : HS wb Fb w5 F ((some b3, .cells #[.int .i64 x.e_, .int .i64 x.at_] 158 (0, 0)) :: (some c, ba 0) :: (some b, be x.e_) :: Lf)) => ?_)
  refine RX (i := 5) (by kernel_rfl) ?_
  refine Az.store (l' := [true, true, true, true, true, true]) (zd := true) (by kernel_rfl) (by kernel_rfl) (ty := 0) (g := none) (by kernel_rfl) rfl (x := .tmp 1) (y := .tmp 19) (t := 3) (v := .int .i64 x.at_) (gg := false) (s := 1) (b := c) (o := 0) (C := #[.int .i64 0]) rfl rfl (by kernel_rfl) hs5 (k := 1) rfl rfl rfl rfl (C' := #[.int .i64 x.at_]) rfl (RM _) (by simp) (fun e => by cases e) (fun w6 (hs6 : HS wb Fb w6 F ((some b3, .cells #[.int .i64 x.e_, .int .i64 x.at_] 158 (0, 0)) :: (some c, ba x.at_) :: (some b, be x.e_) :: Lf)) => ?_)
  exact R3 (by kernel_rfl) ⟨rfl, hs6.drop 0⟩
 ·rintro e a' w' ⟨f, hf, rfl, hd, hs'⟩
  refine ⟨hf.defers.trans hd, _, rfl, .tuple #[], ?_, rfl, rfl, hs'⟩
  rw [hf.results Tryz.f131]
  exact AA (l := []) (by kernel_rfl) (vs := []) trivial
theorem Pk (b c : Nat) (w' : World) : (invoke (.fn (.func 131) (FV b c).toArray) #[]).run Tryz.prog w' = .ok (.enter 131 (FV b c).toArray) w' := by
 have co : Ak Tryz.prog 131 := fun _ _ => by kernel_rfl
 simp only [invoke]; rw [co]; rfl
def Gi (N : Nat) (s : R8) : Option (List Ar) := IC (fun {_} y st => Ep N y s (fun y0 y1 y2 => CU N y0 y1 y2 s) st)
theorem Hv : Ak Tryz.prog 78 := fun _ _ => by kernel_rfl
theorem IL (N : Nat) (hs : HS wb Fb w F Lf) (s : R8) {g : FuncId} {cap : List Value} (hok : Ak Tryz.prog g) (K : Option Ah -> Mem -> Own -> Prop) (hlong : decide ((s.length : Int) > 65536) = true -> ∀ F', K (some ⟨2, 0⟩) F' Lf)
  (hrun : decide ((s.length : Int) > 65536) = false -> ∃ l, Gi N s = some l /\ ∀ w1 F1 be_ ba_ bp a n, RL F F1 -> LC l.length n -> SlA Af F1 a l -> HS wb Fb w1 F1 ((some bp, .cells #[.slice a l.length n, .int .i64 0] 100 (0, 0)) :: (some ba_, ba 0) :: (some be_, be 0) :: Lf) ->
   Calls Tryz.prog g (.pointer (some ⟨bp, 0, none⟩) :: cap).toArray w1 (fun e w2 =>
   (∃ v F2 Lf2, e = .returned v /\ HS wb Fb w2 F2 ((some ba_, ba 0) :: (some be_, be 0) :: Lf2) /\ RL F1 F2 /\ K none F2 Lf2) \/
   (∃ x F2 Lf2, e = .panicked [{ v := .iface 158 (Hh x), recovered := false }] /\ HS wb Fb w2 F2 ((some ba_, ba 0) :: (some be_, be 0) :: Lf2) /\ RL F1 F2 /\ K (some x) F2 Lf2))) :
  Calls Tryz.prog 78 ([.string ⟨s.toArray⟩, .func (.func g) #[] cap.toArray] : List Value).toArray w (fun e w' => ∃ o F' Lf', e = .returned (match o with | none => .tuple #[.int .i64 0, .int .i64 0] | some x => .tuple #[.int .i64 x.e_, .int .i64 x.at_]) /\ HS wb Fb w' F' Lf' /\ RL F F' /\ K o F' Lf') := by
 refine calls_of_wp_defers (fn := Tryz.f78) (c := BQ Tryz.f78) Tryz.func78 (by kernel_rfl) ?_
 have key : CWP Tryz.prog none 17 (BQ Tryz.f78) (fun e f w' => ∃ b c F' Lf', f 4 = .pointer (some ⟨b, 0, none⟩) /\ f 5 = .pointer (some ⟨c, 0, none⟩) /\ RL F F' /\
   ((e = .ret /\ f.d = [] /\ HS wb Fb w' F' ((some c, ba 0) :: (some b, be 2) :: Lf') /\ K (some ⟨2, 0⟩) F' Lf') \/
   (e = .ret /\ f.d = [{ target := .fn (.func 131) (FV b c).toArray, args := #[] }] /\ HS wb Fb w' F' ((some c, ba 0) :: (some b, be 0) :: Lf') /\ K none F' Lf') \/
   (∃ x, e = .panic [{ v := .iface 158 (Hh x), recovered := false }] /\ f.d = [{ target := .fn (.func 131) (FV b c).toArray, args := #[] }] /\ HS wb Fb w' F' ((some c, ba 0) :: (some b, be 0) :: Lf') /\ K (some x) F' Lf'))) (f0 [.string ⟨s.toArray⟩, .func (.func g) #[] cap.toArray]) w := by
  refine Sq ?_
  refine Rg [0, 1] ?_
  refine RT (dst := some 4) (ty := 0) (g := none) (by kernel_rfl) rfl (t := 27) (z := .int .i64 0) (by kernel_rfl) (C := #[.int .i64 0]) rfl hs (fun b w2 hs2 => ?_)
  refine RT (dst := some 5) (ty := 0) (g := none) (by kernel_rfl) rfl (t := 3) (z := .int .i64 0) (by kernel_rfl) (C := #[.int .i64 0]) rfl hs2 (fun c w3 hs3 => ?_)
  refine RF ?_
  refine Ac ?_
  refine Sq ?_
  refine Sq ?_
  refine Rg [0, 1, 2] ?_
  refine V 6 9 (AN (x := .tmp 0) (v := .string ⟨s.toArray⟩) rfl) ?_
  refine V 7 3 (MM (x := .tmp 6) (ats := #[9]) (t := 9) (a := s) rfl rfl (by kernel_rfl)) ?_
  refine V 8 4 (N6 (t := 3) (t' := 3) (x := .tmp 7) (y := .const (.int .i64 65536)) (k := .i64) (a := (s.length : Int)) (b := 65536) rfl rfl) ?_
  refine RF ?_
  refine Ac ?_
  refine CWP.cond (t := decide ((s.length : Int) > 65536)) (by kernel_rfl) rfl (fun hc => ?_) (fun hc => ?_)
  ·refine Sq ?_
   refine Rg [0, 1] ?_
   refine RU (ty := 0) (g := none) (by kernel_rfl) rfl (x := .tmp 4) (y := .const (.int .i64 2)) (t := 27) (gg := false) (s := 1) (v := .int .i64 2) (b := b) (o := 0) (C := #[.int .i64 0]) rfl rfl (by kernel_rfl) hs3 (k := 1) rfl rfl rfl rfl (C' := #[.int .i64 2]) rfl (fun w4 hs4 => ?_)
   refine RU (ty := 0) (g := none) (by kernel_rfl) rfl (x := .tmp 5) (y := .const (.int .i64 0)) (t := 3) (gg := false) (s := 1) (v := .int .i64 0) (b := c) (o := 0) (C := #[.int .i64 0]) rfl rfl (by kernel_rfl) hs4 (k := 0) rfl rfl rfl rfl (C' := #[.int .i64 0]) rfl (fun w5 hs5 => ?_)
   refine RF ?_
   refine Ac ?_
   refine CWP.ret (by kernel_rfl) ?_
   exact ⟨b, c, F, Lf, rfl, rfl, RM F, .inl ⟨rfl, rfl, hs5, hlong hc F⟩⟩
  ·obtain ⟨l, hl, hrun⟩ := hrun hc
   refine RI (by kernel_rfl) ?_
   refine Ac ?_
   refine Sq ?_
   refine Rg [0, 1] ?_
   refine V 9 1 (Cs (fn := .func 131) (first := #[]) (cap := #[.tmp 4, .tmp 5]) (fl := []) (cl := FV b c) rfl rfl) ?_
   refine RWP.defer0 (ty := 0) (g := none) (x := .tmp 9) (q := 131) (cap := (FV b c).toArray) (ats := #[]) (by kernel_rfl) rfl rfl ?_
   refine RF ?_
   refine Ac ?_
   refine Sq ?_
   refine Rg [0, 1, 2, 3, 4, 5, 6] ?_
   refine V 10 103 (AN (x := .tmp 1) (v := .func (.func g) #[] cap.toArray) rfl) ?_
   refine V 11 9 (AN (x := .tmp 0) (v := .string ⟨s.toArray⟩) rfl) ?_
   refine RWP.call (dst := some 12) (ty := 162) (g := none) (by kernel_rfl) rfl (f0 := .func 133) (aos := #[.tmp 11]) (ats := #[9]) (fid := 133) (first := #[]) (cap := #[]) (args := [.string ⟨s.toArray⟩]) rfl JO rfl hs3 (KZ w3 F hs3.pers s) ?_
   rintro _ F1 w4 hs4 le4 ⟨b1, b2, rfl, hb1, hb2⟩
   refine RWP.call (dst := some 13) (ty := 98) (g := none) (by kernel_rfl) rfl (f0 := .func 132) (aos := #[.tmp 12]) (ats := #[162]) (fid := 132) (first := #[]) (cap := #[]) (args := [.func (.func 181) #[] #[.pointer (some ⟨b1, 0, none⟩), .pointer (some ⟨b2, 0, none⟩)]]) rfl ID rfl hs4
    (Jm w4 F1 hs4.pers 181 [.pointer (some ⟨b1, 0, none⟩), .pointer (some ⟨b2, 0, none⟩)] (fun {_} y st => Ep N y s (fun y0 y1 y2 => CU N y0 y1 y2 s) st) IE
     (Jn N F1 s b1 hb1 (fun y0 y1 y2 => CU N y0 y1 y2 s) 180 [] [.pointer (some ⟨b1, 0, none⟩)] IF (fun w1 F2 y0 y1 y2 r le1 pe1 hr1 => Jo N w1 F2 pe1 y0 y1 y2 b1 s (le1 _ _ hb1) r hr1) b2 hb2) l hl) ?_
   rintro _ F2 w5 hs5 le5 ⟨a, n, rfl, hb, hsl⟩
   refine V 14 100 (FE (t := 100) (parts := #[(0, .tmp 13)]) (vs := [(0, .slice a l.length n)]) rfl (cs := [.slice a l.length n, .int .i64 0]) (by kernel_rfl)) ?_
   refine RWP.box (dst := some 15) (ty := 95) (g := none) (by kernel_rfl) rfl (x := .tmp 14) (t := 100) (v := .agg #[.slice a l.length n, .int .i64 0]) rfl (C := #[.slice a l.length n, .int .i64 0]) rfl hs5 (fun bp w6 hs6 => ?_)
   refine RH (dst := some 16) (ty := 0) (g := none) (by kernel_rfl) rfl (CC (f := .tmp 10) (aos := #[.tmp 15]) (ats := #[95]) (g := g) (first := #[]) (cap := cap.toArray) (args := .pointer (some ⟨bp, 0, none⟩) :: cap) rfl hok (by simp; rfl)) (hrun _ F2 b c bp a n (le4.trans le5) hb hsl hs6) ?_
   rintro e w7 (⟨v, F3, Lf2, rfl, hs7, hle, hK⟩ | ⟨x, F3, Lf2, rfl, hs7, hle, hK⟩)
   ·refine RF ?_
    refine Ac ?_
    refine Sq ?_
    refine Rg [0, 1] ?_
    refine RU (ty := 0) (g := none) (by kernel_rfl) rfl (x := .tmp 4) (y := .const (.int .i64 0)) (t := 27) (gg := false) (s := 1) (v := .int .i64 0) (b := b) (o := 0) (C := #[.int .i64 0]) rfl rfl (by kernel_rfl) hs7 (k := 1) rfl rfl rfl rfl (C' := #[.int .i64 0]) rfl (fun w8 hs8 => ?_)
    refine RU (ty := 0) (g := none) (by kernel_rfl) rfl (x := .tmp 5) (y := .const (.int .i64 0)) (t := 3) (gg := false) (s := 1) (v := .int .i64 0) (b := c) (o := 0) (C := #[.int .i64 0]) rfl rfl (by kernel_rfl) hs8 (k := 0) rfl rfl rfl rfl (C' := #[.int .i64 0]) rfl (fun w9 hs9 => ?_)
    refine RF ?_
    refine Ac ?_
    refine CWP.ret (by kernel_rfl) ?_
    exact ⟨b, c, F3, Lf2, rfl, rfl, (le4.trans le5).trans hle, .inr (.inl ⟨rfl, rfl, hs9, hK⟩)⟩
   ·exact ⟨b, c, F3, Lf2, rfl, rfl, (le4.trans le5).trans hle, .inr (.inr ⟨x, rfl, rfl, hs7, hK⟩)⟩
 refine wp_mono (wpIn_wide.1 (key _ (Po (n := 17) (args := [.string ⟨s.toArray⟩, .func (.func g) #[] cap.toArray]) rfl))) ?_
 have hres : ∀ {f : Fr} {b c : Nat} {v u : Int} {w' : World} {F' : Mem} {L' : Own}, f 4 = .pointer (some ⟨b, 0, none⟩) -> f 5 = .pointer (some ⟨c, 0, none⟩) -> HS wb Fb w' F' ((some c, ba u) :: (some b, be v) :: L') -> (B2 Tryz.f78.results f).run Tryz.prog w' = .ok (.tuple #[.int .i64 v, .int .i64 u]) w' := by
  intro f b c v u w' F' L' hf hf5 hs'
  exact AA (l := [.cell 4 27, .cell 5 3]) (by kernel_rfl) (vs := [.int .i64 v, .int .i64 u]) ⟨b, 0, hf, Aj (t := 27) (g := false) (s := 1) (by kernel_rfl) (hs'.ownAt (k := 1) rfl) rfl (by decide), c, 0, hf5, Aj (t := 3) (g := false) (s := 1) (by kernel_rfl) (hs'.ownAt (k := 0) rfl) rfl (by decide), trivial⟩
 rintro e a w' ⟨f, hf, b, c, F', Lf', h4, h5, hle, (⟨rfl, hd, hs', hK⟩ | ⟨rfl, hd, hs', hK⟩ | ⟨x, rfl, hd, hs', hK⟩)⟩
 ·show Leaves _ _ _ _ _ _ _
  rw [hf.defers, hd]
  exact ⟨_, by rw [hf.results Tryz.f78]; exact hres h4 h5 hs', some ⟨2, 0⟩, F', Lf', rfl, (hs'.drop 0).drop 0, hle, hK⟩
 ·show Leaves _ _ _ _ _ _ _
  rw [hf.defers, hd]
  refine ⟨by simp, _, _, 131, _, rfl, Pk b c w', ?_⟩
  intro c0 cs hc0
  obtain ⟨e, u', w2, fr, hR, hrest⟩ := Na (w := w') (b := b) (c := c) c0 cs hc0
  refine ⟨e, u', w2, fr, ?_, hrest⟩
  obtain ⟨rfl, rfl, rfl⟩ := hR
  show Leaves _ _ _ _ _ _ _
  exact ⟨_, by rw [hf.results Tryz.f78]; exact hres h4 h5 hs', none, F', Lf', rfl, (hs'.drop 0).drop 0, hle, hK⟩
 ·show Leaves _ _ _ _ _ _ _
  rw [hf.defers, hd]
  refine ⟨by simp, _, _, 131, _, rfl, Pk b c w', ?_⟩
  intro c0 cs hc0
  obtain ⟨e, u', w2, fr, hR, hrest⟩ := Nb (w := w') (b := b) (c := c) (x := x) hs' c0 cs hc0
  refine ⟨e, u', w2, fr, ?_, hrest⟩
  obtain ⟨hu, rfl, hs2⟩ := hR
  show Leaves _ _ _ _ _ _ _
  rw [hu]
  exact ⟨_, by rw [hf.results Tryz.f78]; exact hres h4 h5 hs2, some x, F', Lf', rfl, (hs2.drop 0).drop 0, hle, hK⟩
end
def AV (N : Nat) (x0 : Ab) (x1 : R8) : Option Bool :=
 (((idx x0.l_ 0).bind fun x29 => (bif (x29.kind_ == 2) then ((idx x0.l_ 0).bind fun x46 => some (x46.text_ == x1)) else ((idx x0.l_ 0).bind fun x52 => (bif (x52.kind_ == 3) then ((idx x0.l_ 0).bind fun x61 => some (x61.text_ == x1)) else some false)))).bind fun j24 => some j24)
theorem BV : Ak Tryz.prog 134 := fun _ _ => by kernel_rfl
theorem B1 (N : Nat) {wb w0 : World} {Fb F0 : Mem} {Lf : Own} (bp0 : Nat) (x0 : Ab) (a0_0 : R9) (n0_0 : Nat) (hb0_0 : LC x0.l_.length n0_0) (hs0_0 : SlA Af F0 a0_0 x0.l_) (x1 : R8) (hs0 : HS wb Fb w0 F0 ((sb bp0 (Ad x0 a0_0 n0_0) 100) :: Lf)) (r : Bool) (h : AV N x0 x1 = some r) :
  Calls Tryz.prog 134 ([(pt bp0 0), (.string ⟨(x1).toArray⟩)] : List Value).toArray w0 (Nj wb Fb F0 fun F' v L' => v = (.bool r) /\ L' = (sb bp0 (Ad x0 a0_0 n0_0) 100) :: Lf) := by
 refine Go 34 Tryz.func134 ?_
 refine Sq (Rg [0] ?_)
 refine Vs 1 ?_
 refine Nss (Rg [0, 1, 2, 3, 4, 5, 6, 7, 8, 9, 10, 11, 12, 13, 14, 15, 16, 17, 18, 19, 20, 21, 22, 23, 24, 25, 26, 27, 28, 29] ?_)
 obtain ⟨j24, hj27, h28⟩ := bind_some h
 refine RR (fun f w => ∃ (F1 : Mem), HS wb Fb w F1 ((sb bp0 (Ad x0 a0_0 n0_0) 100) :: Lf) /\ RL F0 F1 /\ FI f [] [(4, (.bool j24))]) ?_ ?_
 ·refine Vs 3 ?_
  refine Ld hs0.at0 ?_
  obtain ⟨x29, hx30, h32⟩ := bind_some hj27
  obtain ⟨hi31, hx30'⟩ := As hx30
  obtain ⟨b33, o34, C35, E36, fz37, rfl, hF39, hE40⟩ := RV hs0_0 hx30'
  have hc42 := hE40 _ _ hx30'
  refine Ix hi31 ?_
  refine Vs 1 ?_
  refine Lx 0 (hs0.pers _ _ hF39) hc42 ?_
  refine Vs 2 ?_
  refine Sp h32 (fun hb43 h44 => ?_) (fun hb43 h45 => ?_)
  ·refine Ss hb43 8 ?_
   refine Pk1 hb43 ?_
   refine Vs 1 ?_
   refine Vg 24 95 18 true 23 rfl (mv 0 (pt bp0 0)) ?_
   refine Vg 25 0 18 true 23 rfl (CT (x := (.tmp 24)) (a := ⟨bp0, 0, none⟩) rfl) ?_
   refine Vg 26 0 18 true 23 rfl (fa 100 25 0 0 1 bp0 0 0) ?_
   refine Vg 27 98 18 true 23 rfl (ld 98 26 bp0 0 false 1 (.slice (some ⟨b33, o34, none⟩) x0.l_.length n0_0) hs0.at0) ?_
   obtain ⟨x46, hx47, h49⟩ := bind_some h44
   obtain ⟨hi48, hx47'⟩ := As hx47
   have hc51 := hE40 _ _ hx47'
   refine Vg 28 0 18 true 23 rfl (GX (t := 98) (x := (.tmp 27)) (y := (.const (vi 0))) (b := b33) (o := o34) (E := 97) (s := 3) (by_ := 32) rfl rfl (by kernel_rfl) hi48) ?_
   refine Vg 29 0 18 true 23 rfl (fa 97 28 2 2 1 b33 (o34 + (0 : Int).toNat * 3) ((o34 + (0 : Int).toNat * 3) + 2)) ?_
   refine Vg 30 9 18 true 23 rfl (lx 9 29 2 3 false 1 (.string ⟨(x46.text_).toArray⟩) (hs0.pers _ _ hF39) hc51) ?_
   refine Vg 31 9 18 true 23 rfl (mv 1 (.string ⟨(x1).toArray⟩)) ?_
   refine Vg 32 4 18 true 23 rfl (MN (t := 9) (t' := 9) (x := (.tmp 30)) (y := (.tmp 31)) (op := .eql) (a := x46.text_) (b := x1) (v := (x46.text_ == x1)) rfl rfl rfl) ?_
   refine Pk1 (rfl : true = true) ?_
   refine Vs 1 ?_
   obtain rfl := Aa h49
   exact RF ⟨rfl, F0, hs0, (RM _), fI⟩
  ·refine Vgs hb43 3 ?_
   refine Lg hb43 hs0.at0 ?_
   obtain ⟨x52, hx53, h55⟩ := bind_some h45
   obtain ⟨hi54, hx53'⟩ := As hx53
   have hc57 := hE40 _ _ hx53'
   refine Ixg hb43 hi54 ?_
   refine Vgs hb43 1 ?_
   refine Lxg hb43 0 (hs0.pers _ _ hF39) hc57 ?_
   refine Vgs hb43 1 ?_
   refine Pk0 hb43 ?_
   refine Vs 1 ?_
   refine Sp h55 (fun hb58 h59 => ?_) (fun hb58 h60 => ?_)
   ·refine Vgs hb58 3 ?_
    refine Lg hb58 hs0.at0 ?_
    obtain ⟨x61, hx62, h64⟩ := bind_some h59
    obtain ⟨hi63, hx62'⟩ := As hx62
    have hc66 := hE40 _ _ hx62'
    refine Ixg hb58 hi63 ?_
    refine Vgs hb58 1 ?_
    refine Lxg hb58 2 (hs0.pers _ _ hF39) hc66 ?_
    refine Vgs hb58 2 ?_
    refine Pk1 hb58 ?_
    refine Vs 1 ?_
    obtain rfl := Aa h64
    exact RF ⟨rfl, F0, hs0, (RM _), fI⟩
   ·refine Ss hb58 9 ?_
    refine Pk0 hb58 ?_
    refine Vs 1 ?_
    obtain rfl := Aa h60
    exact RF ⟨rfl, F0, hs0, (RM _), fI⟩
 ·rintro f w21 ⟨F1, hs22, le23, ⟨_, rfl⟩⟩
  refine Ac ?_
  refine Rt ?_
  obtain rfl := Aa h28
  exact ReB [(.bool j24)] hs22 le23 ⟨rfl, rfl⟩
def Au (N : Nat) (x0 : Ab) (x1 : R8) : Option (Ab × Bool) :=
 ((AV N x0 x1).bind fun r21 => (bif (!r21) then some (x0, false) else ((sub x0.l_ 1 (x0.l_.length : Int)).bind fun r31 => some (({ l_ := r31, open_ := x0.open_ } : Ab), true))))
theorem AG : Ak Tryz.prog 80 := fun _ _ => by kernel_rfl
theorem AH (N : Nat) {wb w0 : World} {Fb F0 : Mem} {Lf : Own} (bp0 : Nat) (x0 : Ab) (a0_0 : R9) (n0_0 : Nat) (hb0_0 : LC x0.l_.length n0_0) (hs0_0 : SlA Af F0 a0_0 x0.l_) (x1 : R8) (hs0 : HS wb Fb w0 F0 ((sb bp0 (Ad x0 a0_0 n0_0) 100) :: Lf)) (r : (Ab × Bool)) (h : Au N x0 x1 = some r) :
  Calls Tryz.prog 80 ([(pt bp0 0), (.string ⟨(x1).toArray⟩)] : List Value).toArray w0 (Nj wb Fb F0 fun F' v L' => ∃ (aq0_0 : R9) (nq0_0 : Nat), v = (.bool r.2) /\ L' = (sb bp0 (Ad r.1 aq0_0 nq0_0) 100) :: Lf /\ LC r.1.l_.length nq0_0 /\ SlA Af F' aq0_0 r.1.l_) := by
 refine Go 17 Tryz.func80 ?_
 refine Sq (Rg [0] ?_)
 refine Vs 1 ?_
 refine Nss ?_
 refine Sq (Rg [0, 1, 2, 3] ?_)
 refine Vs 2 ?_
 obtain ⟨r21, hr22, h23⟩ := bind_some h
 refine CB BV (B1 N bp0 x0 a0_0 n0_0 hb0_0 hs0_0 x1 hs0 _ hr22) ?_
 rintro _ F1 w24 _ hs25 le26 ⟨rfl, rfl⟩
 refine Vs 1 ?_
 refine Nt ?_
 refine Cd h23 (fun hb28 h29 => ?_) (fun hb28 h30 => ?_)
 ·refine Sq (Rg [0] ?_)
  refine Vs 1 ?_
  refine Nt ?_
  refine Rt ?_
  refine Ae ?_
  obtain rfl := Aa h29
  exact ReB [(.bool false)] hs25 le26 ⟨a0_0, n0_0, rfl, rfl, hb0_0, (RO hs0_0 le26)⟩
 ·refine Sc ?_
  refine Ac ?_
  refine Sq (Rg [0, 1, 2, 3, 4, 5, 6, 7, 8] ?_)
  refine Vs 4 ?_
  refine Ld hs25.at0 ?_
  obtain ⟨r31, hr32, h33⟩ := bind_some h30
  obtain ⟨a34, n35, hb36, hs37, hrun38⟩ := Kw (P := Tryz.prog) (T := Af) (lo := (some (.const (vi 1)))) (hi := none) (mx := none) (t := 98) (E := 97) (by_ := 32) (c := n0_0) (a := a0_0) (l := x0.l_) (r := r31) (il := 1) (ih := (x0.l_.length : Int)) (im := 0) (by kernel_rfl) (by kernel_rfl) hb0_0 (RO hs0_0 le26) (fun h => by first | rfl | cases h) hr32
  refine V 14 98 (hrun38 (x := (.tmp 13)) rfl rfl rfl trivial) ?_
  refine Vs 2 ?_
  refine St0 #[(.slice a34 r31.length n35), (vi x0.open_)] hs25 (fun w39 hs40 => ?_)
  refine Nss (Rg [0] ?_)
  refine Vs 1 ?_
  refine Nt ?_
  refine Rt ?_
  obtain rfl := Aa h33
  exact ReB [(.bool true)] hs40 le26 ⟨a34, n35, rfl, rfl, hb36, hs37⟩
def CD (N : Nat) (x0 : Ab) (x1 : (Ab -> Option (Ah ⊕ (Ab × Expr)))) (x2 : (List (R8 × Int))) (r27 : (Ab × Expr)) : (Int × Int × List Expr × List Ar × Int) -> Option (Be (Ah ⊕ (Ab × Expr)) (Int × Int × List Expr × List Ar × Int)) := fun s42 =>
 ((idx s42.2.2.2.1 0).bind fun x64 => ((bif (!(OG x2 x64.text_)) then some (true, s42.2.2.2.1, s42.2.2.2.2) else ((idx s42.2.2.2.1 0).bind fun x95 => ((Au N ({ l_ := s42.2.2.2.1, open_ := s42.2.2.2.2 } : Ab) x95.text_).bind fun r101 => some ((!r101.2), r101.1.l_, r101.1.open_)))).bind fun j81 => (bif j81.1 then some (.ret (.inr (({ l_ := j81.2.1, open_ := j81.2.2 } : Ab), ({ Op := s42.1, Value := s42.2.1, Kids := s42.2.2.1 } : Expr)))) else (((x1 ({ l_ := j81.2.1, open_ := j81.2.2 } : Ab)).bind fun r129 => sk r129 (fun b146 => some (.inl b146)) (fun r132 => some (.inr (r132.1.l_, r132.1.open_, (JC x2 x64.text_ 0), 0, [({ Op := s42.1, Value := s42.2.1, Kids := s42.2.2.1 } : Expr), r132.2])))).bind fun j119 => sk j119 (fun b158 => some (.ret (.inl b158))) (fun J128 => some (.next (J128.2.2.1, J128.2.2.2.1, J128.2.2.2.2, J128.1, J128.2.1)))))))
def Bn (N : Nat) (x0 : Ab) (x1 : (Ab -> Option (Ah ⊕ (Ab × Expr)))) (x2 : (List (R8 × Int))) : Option (Ah ⊕ (Ab × Expr)) :=
 ((x1 x0).bind fun r24 => sk r24 (fun b165 => some (.inl b165)) (fun r27 => ((AZ (CD N x0 x1 x2 r27) N (r27.2.Op, r27.2.Value, r27.2.Kids, r27.1.l_, r27.1.open_)).bind fun o => o.k (fun r => some r) (fun s52 => some (.inr (({ l_ := s52.2.2.2.1, open_ := s52.2.2.2.2 } : Ab), ({ Op := 0, Value := 0, Kids := ([] : List Expr) } : Expr)))))))
theorem Br : Ak Tryz.prog 184 := fun _ _ => by kernel_rfl
theorem BA (N : Nat) {wb w0 : World} {Fb F0 : Mem} {Lf : Own} (hG : Ci F0) (bp0 : Nat) (x0 : Ab) (a0_0 : R9) (n0_0 : Nat) (hb0_0 : LC x0.l_.length n0_0) (hs0_0 : SlA Af F0 a0_0 x0.l_) (gx1 : FuncId) (fx1 kx1 : List Value) (x1 : (Ab -> Option (Ah ⊕ (Ab × Expr)))) (hox1 : Ak Tryz.prog gx1) (hpx1 : QO bp0 gx1 fx1 kx1 x1) (x2 : (List (R8 × Int))) (o2_0 : Option Nat) (hm2_0 : MpA Fd Bg F0 o2_0 x2) (hs0 : HS wb Fb w0 F0 ((sb bp0 (Ad x0 a0_0 n0_0) 100) :: Lf)) (r : (Ah ⊕ (Ab × Expr))) (h : Bn N x0 x1 x2 = some r) :
  Calls Tryz.prog 184 ([(pt bp0 0), (.func (.func gx1) fx1.toArray kx1.toArray), (.map o2_0)] : List Value).toArray w0 (Bx wb Fb F0 Lf r (fun b => (.iface 158 (.agg (AJ b)))) fun a F' v L' => ∃ (aq0_0 : R9) (nq0_0 : Nat) (aq1_2 : R9) (nq1_2 : Nat), v = (.agg (Ag a.2 aq1_2 nq1_2)) /\ L' = (sb bp0 (Ad a.1 aq0_0 nq0_0) 100) :: Lf /\ LC a.1.l_.length nq0_0 /\ SlA Af F' aq0_0 a.1.l_ /\ LC a.2.Kids.length nq1_2 /\ SlA Ao F' aq1_2 a.2.Kids) := by
 refine Go 45 Tryz.func184 ?_
 refine Sq (Rg [0] ?_)
 refine Al' 33 #[(vi 0), (vi 0), (.slice none ([] : List Expr).length 0)] hs0 (fun b21 w22 hs23 => ?_)
 refine Nss (Rg [0, 1, 2, 3] ?_)
 refine Vs 1 ?_
 obtain ⟨r24, hr25, h26⟩ := bind_some h
 refine CPq hox1 (hpx1 hG x0 a0_0 n0_0 hb0_0 hs0_0 hs23.pk1 _ hr25) ?_ ?_
 ·rintro r27 _ F1 w29 _ rfl hs30 le31 ⟨ar27_0_0, nr27_0_0, ar27_1_2, nr27_1_2, rfl, rfl, hbr27_0_0, hsr27_0_0, hbr27_1_2, hsr27_1_2⟩
  have h33 := BG h26
  refine Al' 33 #[(vi 0), (vi 0), (.slice none ([] : List Expr).length 0)] hs30 (fun b34 w35 hs36 => ?_)
  refine St0 (Ag r27.2 ar27_1_2 nr27_1_2) hs36 (fun w37 hs38 => ?_)
  refine Nt ?_
  obtain ⟨o39, ho40, h41⟩ := bind_some h33
  refine RS (fun f w => ∃ (s52 : (Int × Int × List Expr × List Ar × Int)) (F3 : Mem) (as52_3 : R9) (ns52_3 : Nat), o39 = .done s52 /\ HS wb Fb w F3 ((sb bp0 #[(.slice as52_3 s52.2.2.2.1.length ns52_3), (vi s52.2.2.2.2)] 100) :: (sb b21 #[(vi 0), (vi 0), (.slice none ([] : List Expr).length 0)] 33) :: Lf) /\ RL F1 F3 /\ FI f [] [(6, (pt b21 0))] /\ LC s52.2.2.2.1.length ns52_3 /\ SlA Af F3 as52_3 s52.2.2.2.1) ?_ ?_
  ·refine Bk ?_
   refine RK (by kernel_rfl) (fun m f w => ∃ (s42 : (Int × Int × List Expr × List Ar × Int)) (F2 : Mem) (as42_2 : R9) (ns42_2 : Nat) (as42_3 : R9) (ns42_3 : Nat), AZ (CD N x0 x1 x2 r27) m s42 = some o39 /\ HS wb Fb w F2 ((sb b34 #[(vi s42.1), (vi s42.2.1), (.slice as42_2 s42.2.2.1.length ns42_2)] 33) :: (sb bp0 #[(.slice as42_3 s42.2.2.2.1.length ns42_3), (vi s42.2.2.2.2)] 100) :: (sb b21 #[(vi 0), (vi 0), (.slice none ([] : List Expr).length 0)] 33) :: Lf) /\ RL F1 F2 /\ FI f [] [(0, (pt bp0 0)), (1, (.func (.func gx1) fx1.toArray kx1.toArray)), (2, (.map o2_0)), (6, (pt b21 0)), (7, (pt b34 0))] /\ LC s42.2.2.1.length ns42_2 /\ SlA Ao F2 as42_2 s42.2.2.1 /\ LC s42.2.2.2.1.length ns42_3 /\ SlA Af F2 as42_3 s42.2.2.2.1) N ⟨(r27.2.Op, r27.2.Value, r27.2.Kids, r27.1.l_, r27.1.open_), F1, ar27_1_2, nr27_1_2, ar27_0_0, nr27_0_0, ho40, hs38, (RM _), fI, hbr27_1_2, hsr27_1_2, hbr27_0_0, hsr27_0_0⟩ ?_
   rintro m58 f w43 ⟨s42, F2, as42_2, ns42_2, as42_3, ns42_3, hit59, hs44, le45, ⟨_, rfl⟩, hbs42_2, hss42_2, hbs42_3, hss42_3⟩
   obtain ⟨m60, fl61, rfl, hb62, hnx63⟩ := AR hit59
   refine Bk ?_
   refine Sq (Rg [0, 1, 2, 3, 4, 5, 6, 7, 8, 9, 10, 11, 12, 13] ?_)
   refine Vs 4 ?_
   refine Ld hs44.at1 ?_
   obtain ⟨x64, hx65, h67⟩ := bind_some hb62
   obtain ⟨hi66, hx65'⟩ := As hx65
   obtain ⟨b68, o69, C70, E71, fz72, rfl, hF74, hE75⟩ := RV hss42_3 hx65'
   have hc77 := hE75 _ _ hx65'
   refine Ix hi66 ?_
   refine Vs 1 ?_
   refine Lx 2 (hs44.pers _ _ hF74) hc77 ?_
   refine V 21 213 (Nr (mt := 198) (k := 9) (vt := 3) (m := (.tmp 13)) (x := (.tmp 20)) (kv := (.string ⟨(x64.text_).toArray⟩)) (kx := x64.text_) (z := (vi 0)) (zx := 0) (K := Fd) (T := Bg) kl9 rfl rfl ⟨_, rfl, rfl⟩ (by kernel_rfl) (by kernel_rfl) ⟨_, rfl, rfl⟩ (MpA.mpw hs44.pers (MpA.mono hm2_0 (le31.trans le45))) (fun h => by obtain ⟨_, rfl, rfl⟩ := h; rfl)) ?_
   refine Vs 5 ?_
   refine Nss ?_
   refine Sq (Rg [0, 1, 2, 3, 4, 5, 6, 7, 8, 9, 10, 11, 12, 13] ?_)
   obtain ⟨j81, hj90, h91⟩ := bind_some h67
   refine RR (fun f w => ∃ (F4 : Mem) (aj81_1 : R9) (nj81_1 : Nat), HS wb Fb w F4 ((sb b34 #[(vi s42.1), (vi s42.2.1), (.slice as42_2 s42.2.2.1.length ns42_2)] 33) :: (sb bp0 #[(.slice aj81_1 j81.2.1.length nj81_1), (vi j81.2.2)] 100) :: (sb b21 #[(vi 0), (vi 0), (.slice none ([] : List Expr).length 0)] 33) :: Lf) /\ RL F2 F4 /\ FI f [] [(0, (pt bp0 0)), (1, (.func (.func gx1) fx1.toArray kx1.toArray)), (2, (.map o2_0)), (6, (pt b21 0)), (7, (pt b34 0)), (8, (vi (JC x2 x64.text_ 0))), (37, (.bool j81.1))] /\ LC j81.2.1.length nj81_1 /\ SlA Af F4 aj81_1 j81.2.1) ?_ ?_
   ·refine Vs 3 ?_
    refine Sp hj90 (fun hb92 h93 => ?_) (fun hb92 h94 => ?_)
    ·refine Ss hb92 10 ?_
     refine Pk1 hb92 ?_
     obtain rfl := Aa h93
     exact RF ⟨rfl, F2, (some ⟨b68, o69, none⟩), ns42_3, hs44, (RM _), fI, hbs42_3, hss42_3⟩
    ·refine Vgs hb92 4 ?_
     refine Lg hb92 hs44.at1 ?_
     obtain ⟨x95, hx96, h98⟩ := bind_some h94
     obtain ⟨hi97, hx96'⟩ := As hx96
     have hc100 := hE75 _ _ hx96'
     refine Ixg hb92 hi97 ?_
     refine Vgs hb92 1 ?_
     refine Lxg hb92 2 (hs44.pers _ _ hF74) hc100 ?_
     obtain ⟨r101, hr102, h103⟩ := bind_some h98
     refine RWP.callB (dst := (some 35)) (ty := 4) (g := (some (2, false))) (by kernel_rfl) (HJ (d := 26) (by kernel_rfl) rfl hb92) (f0 := (.func 80)) (aos := #[(.tmp 27), (.tmp 34)]) (ats := #[95, 9]) (fid := 80) (first := #[]) (cap := #[]) (args := [(pt bp0 0), (.string ⟨(x95.text_).toArray⟩)]) rfl AG rfl (AH N bp0 (({ l_ := s42.2.2.2.1, open_ := s42.2.2.2.2 } : Ab)) (some ⟨b68, o69, none⟩) ns42_3 hbs42_3 hss42_3 x95.text_ hs44.pk2.pk1.pk2 _ hr102) ?_
     rintro _ F5 w104 _ hs105 le106 ⟨ar101_0_0, nr101_0_0, rfl, rfl, hbr101_0_0, hsr101_0_0⟩
     refine Vgs hb92 1 ?_
     refine Pk0 hb92 ?_
     obtain rfl := Aa h103
     exact RF ⟨rfl, F5, ar101_0_0, nr101_0_0, hs105.pk2.pk1.pk2, le106, fI, hbr101_0_0, hsr101_0_0⟩
   ·rintro f w78 ⟨F4, aj81_1, nj81_1, hs79, le80, ⟨_, rfl⟩, hbj81_1, hsj81_1⟩
    refine Ac ?_
    refine Cd h91 (fun hb108 h109 => ?_) (fun hb108 h110 => ?_)
    ·refine Sq (Rg [0, 1] ?_)
     refine Ld hs79.at0 ?_
     refine St2 #[(vi s42.1), (vi s42.2.1), (.slice as42_2 s42.2.2.1.length ns42_2)] hs79 (fun w111 hs112 => ?_)
     refine Nt ?_
     refine Rt ?_
     refine Ae ?_
     refine Ai ?_
     refine Ae ?_
     refine Ai ?_
     have hret := Bo h109 hnx63
     subst hret
     refine .inr ?_
     obtain rfl := Aa h41
     exact ⟨rfl, (.agg #[(vi s42.1), (vi s42.2.1), (.slice as42_2 s42.2.2.1.length ns42_2)]), AA (l := [.cell 6 33]) (by kernel_rfl) (vs := [(.agg #[(vi s42.1), (vi s42.2.1), (.slice as42_2 s42.2.2.1.length ns42_2)])]) ⟨b21, 0, rfl, Aj (t := 33) (g := true) (s := 3) (by kernel_rfl) hs112.at2 rfl (by decide), trivial⟩, .inl ⟨_, F4, _, _, rfl, rfl, hs112.dr0.dr1, ((le31.trans le45).trans le80), ⟨aj81_1, nj81_1, as42_2, ns42_2, rfl, rfl, hbj81_1, hsj81_1, hbs42_2, (RO hss42_2 le80)⟩⟩⟩
    ·refine Sc ?_
     refine Ac ?_
     obtain ⟨j119, hj126, h127⟩ := bind_some h110
     refine RDP 6 7 [(sb b21 #[(vi 0), (vi 0), (.slice none ([] : List Expr).length 0)] 33)] [(sb b34 #[(vi s42.1), (vi s42.2.1), (.slice as42_2 s42.2.2.1.length ns42_2)] 33)] hs79 (fun c d w => d = [] /\ ∃ (b : Ah) (Fp : Mem), j119 = .inl b /\ c = [{ v := (.iface 158 (.agg (AJ b))), recovered := false }] /\ HS wb Fb w Fp Lf /\ RL F4 Fp) (fun f w => ∃ (J128 : (List Ar × Int × Int × Int × List Expr)), j119 = .inr J128 /\ ∃ (F6 : Mem) (aj119_0 : R9) (nj119_0 : Nat) (aj119_4 : R9) (nj119_4 : Nat) (ej119_4 : Option Nat × Obj), HS wb Fb w F6 (ej119_4 :: (sb b34 #[(vi J128.2.2.1), (vi J128.2.2.2.1), (.slice aj119_4 J128.2.2.2.2.length nj119_4)] 33) :: (sb bp0 #[(.slice aj119_0 J128.1.length nj119_0), (vi J128.2.1)] 100) :: (sb b21 #[(vi 0), (vi 0), (.slice none ([] : List Expr).length 0)] 33) :: Lf) /\ RL F4 F6 /\ FI f [] [(0, (pt bp0 0)), (1, (.func (.func gx1) fx1.toArray kx1.toArray)), (2, (.map o2_0)), (6, (pt b21 0)), (7, (pt b34 0))] /\ LC J128.1.length nj119_0 /\ SlA Af F6 aj119_0 J128.1 /\ Aq Ao 33 F6 aj119_4 nj119_4 J128.2.2.2.2 ej119_4) (fun wd113 hw114 => ?_) ?_ ?_
     ·refine Dv [0] ?_
      refine Dl 1 (fun _ hq => ((hq.2 rfl).2 0 _ _ rfl)) ?_
      refine Dv [2] ?_
      refine D1 3 ?_
      obtain ⟨r129, hr130, h131⟩ := bind_some hj126
      refine Az.callBP (l' := [true, true, true, true, false, false, false]) (zd := false) (by kernel_rfl) (by kernel_rfl) (Lf := (sb b34 #[(vi s42.1), (vi s42.2.1), (.slice as42_2 s42.2.2.1.length ns42_2)] 33) :: (sb b21 #[(vi 0), (vi 0), (.slice none ([] : List Expr).length 0)] 33) :: Lf) (dst := (some 42)) (ty := 33) (g := none) (by kernel_rfl) rfl (f0 := (.tmp 41)) (aos := #[]) (ats := #[]) (fid := gx1) (first := fx1.toArray) (cap := kx1.toArray) (args := (fx1 ++ (([] : List Value) ++ kx1))) rfl hox1 (ON (l := []) (fi := fx1) (k := kx1) rfl) (hpx1 (hG.mono ((le31.trans le45).trans le80)) (({ l_ := j81.2.1, open_ := j81.2.2 } : Ab)) aj81_1 nj81_1 hbj81_1 hsj81_1 hw114.pk2.pk1.pk2 _ hr130) ?_ ?_
      ·rintro r132 _ F7 w134 _ rfl hs135 le136 ⟨ar132_0_0, nr132_0_0, ar132_1_2, nr132_1_2, rfl, rfl, hbr132_0_0, hsr132_0_0, hbr132_1_2, hsr132_1_2⟩
       have h138 := BG h131
       refine ⟨Bv hs135 le136 (by simp) (fun _ => by simp), ?_⟩
       refine D1 4 ?_
       refine DBs 33 [(vi s42.1), (vi s42.2.1), (.slice as42_2 s42.2.2.1.length ns42_2), (vi r132.2.Op), (vi r132.2.Value), (.slice ar132_1_2 r132.2.Kids.length nr132_1_2)] hs135 le136 (fun b139 w140 hs141 => ?_)
       have hr143 : Aq Ao 33 F7 (some ⟨b139, 0, none⟩) 2 [({ Op := s42.1, Value := s42.2.1, Kids := s42.2.2.1 } : Expr), r132.2] (some b139, .cells ([(vi s42.1), (vi s42.2.1), (.slice as42_2 s42.2.2.1.length ns42_2), (vi r132.2.Op), (vi r132.2.Value), (.slice ar132_1_2 r132.2.Kids.length nr132_1_2)] : List Value).toArray 33 (0, 0)) := R6 ⟨(A7 ⟨as42_2, ns42_2, rfl, hbs42_2, (RO hss42_2 (le80.trans le136))⟩), ⟨(A7 ⟨ar132_1_2, nr132_1_2, rfl, hbr132_1_2, hsr132_1_2⟩), rfl⟩⟩ (by simp)
       refine Dv [5] ?_
       refine D1 6 ?_
       refine RA #[(vi (JC x2 x64.text_ 0)), (vi 0), (.slice (some ⟨b139, 0, none⟩) [({ Op := s42.1, Value := s42.2.1, Kids := s42.2.2.1 } : Expr), r132.2].length 2)] hs141 le136 (fun w144 hs145 => ?_)
       obtain rfl := Aa h138
       exact R3 (by kernel_rfl) ⟨_, rfl, F7, ar132_0_0, nr132_0_0, (some ⟨b139, 0, none⟩), 2, (some b139, .cells ([(vi s42.1), (vi s42.2.1), (.slice as42_2 s42.2.2.1.length ns42_2), (vi r132.2.Op), (vi r132.2.Value), (.slice ar132_1_2 r132.2.Kids.length nr132_1_2)] : List Value).toArray 33 (0, 0)), hs145.pk3.pk2.pk3.pk3, le136, fI, hbr132_0_0, hsr132_0_0, hr143⟩
      ·rintro b146 F8 w147 rfl hs148 le149
       have h150 := Bf h131
       obtain rfl := Aa h150
       exact ⟨rfl, _, _, rfl, rfl, hs148.dr0.dr0, le149⟩
     ·rintro f w115 ⟨J128, rfl, F6, aj119_0, nj119_0, aj119_4, nj119_4, ej119_4, hs116, le117, ⟨_, rfl⟩, hbj119_0, hsj119_0, hrj119_4⟩
      have h152 := BG h127
      refine Ap ?_
      have hb156 := R4 hrj119_4
      obtain ⟨F9, hs153, le154, hs155⟩ := hs116.fr0 hrj119_4
      have hn157 := AL h152 hnx63
      exact ⟨m60, Nat.lt_succ_self _, (J128.2.2.1, J128.2.2.2.1, J128.2.2.2.2, J128.1, J128.2.1), F9, aj119_4, nj119_4, aj119_0, nj119_0, hn157, hs153, (((le45.trans le80).trans le117).trans le154), fI, hb156, hs155, hbj119_0, (RO hsj119_0 le154)⟩
     ·rintro c f w159 ⟨hd162, b158, F10, rfl, rfl, hs160, le161⟩
      have h163 := Bf h127
      refine AP ?_
      refine Al ?_
      refine AP ?_
      have hret := Bo h163 hnx63
      subst hret
      refine .inr ?_
      obtain rfl := Aa h41
      exact ⟨hd162, .inr ⟨_, F10, rfl, rfl, hs160, (((le31.trans le45).trans le80).trans le161)⟩⟩
  ·rintro f w53 ⟨s52, F3, as52_3, ns52_3, rfl, hs54, le55, ⟨_, rfl⟩, hbs52_3, hss52_3⟩
   have h164 := Bm h41
   obtain rfl := Aa h164
   exact ⟨rfl, (.agg #[(vi 0), (vi 0), (.slice none ([] : List Expr).length 0)]), AA (l := [.cell 6 33]) (by kernel_rfl) (vs := [(.agg #[(vi 0), (vi 0), (.slice none ([] : List Expr).length 0)])]) ⟨b21, 0, rfl, Aj (t := 33) (g := true) (s := 3) (by kernel_rfl) hs54.at1 rfl (by decide), trivial⟩, .inl ⟨_, F3, _, _, rfl, rfl, hs54.dr1, (le31.trans le55), ⟨as52_3, ns52_3, none, 0, rfl, rfl, hbs52_3, hss52_3, RP, (.inl rfl)⟩⟩⟩
 ·rintro b165 F11 w166 rfl hs167 le168
  have h169 := Bf h26
  refine Al ?_
  obtain rfl := Aa h169
  exact B5 hs167.dr0 le168
end Go.Proofs.YtaihlcdkcampbaaGreatDoor
