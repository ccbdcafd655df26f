/- Lemmas of the claim RulesFirst, printed by a program of the claimant and by hand. No statement of the seat is proved here. -/
import Derived.Test.YtaihlcdkcampbaaGreatDoorA2
set_option linter.unusedVariables false
set_option linter.unusedSimpArgs false
set_option linter.unusedSectionVars false
set_option maxHeartbeats 4000000
set_option maxRecDepth 100000
namespace Go.Proofs.YtaihlcdkcampbaaGreatDoor
structure FitL (N : Nat) (l : List Clause) : Prop where
 n : l.length < N
 w : l.length < 9223372036854775808
 c : ∀ c, c ∈ l → FitC N c
structure FitX (N : Nat) (l : List Expr) : Prop where
 n : l.length < N
 w : l.length < 9223372036854775808
 c : ∀ c, c ∈ l → Fit N c
structure FitB (N : Nat) (b : Book) : Prop where
 p : FitL N b.Points
 m : FitL N b.Multipliers
 e : FitL N b.Penalties
 r : FitX N b.Repeats
theorem ofNat_eq {a b : Nat} : ((a : Int) == (b : Int)) = decide (a = b) := by
 by_cases h : a = b
 ·subst h; simp
 ·simp [h]; omega
def sndL (l : List Clause) : Bool := decide (l.length ≤ 64) && l.all sndC
theorem sndT_k {e : Expr} {t : Int} (h : sndT e t = true) : kd e = t := by unfold sndT at h; simp at h; exact h.2
theorem sndC_w {c : Clause} (h : sndC c = true) : kd c.When = 2 := by unfold sndC at h; simp at h; exact sndT_k h.1
theorem sndC_t {c : Clause} (h : sndC c = true) : kd c.Then = 1 := by unfold sndC at h; simp at h; exact sndT_k h.2
theorem sndL_c {l : List Clause} (h : sndL l = true) {c : Clause} (hc : c ∈ l) : sndC c = true := by
 unfold sndL at h; simp only [Bool.and_eq_true, List.all_eq_true] at h; exact h.2 c hc
def fi {α : Type} (p : α → Bool) (l : List α) : Int := if l.any p then (l.findIdx p : Int) else -1
theorem fi_neg {α : Type} {p : α → Bool} {l : List α} : fi p l < 0 ↔ l.any p = false := by
 unfold fi; cases l.any p <;> simp
theorem fi_nn {α : Type} {p : α → Bool} {l : List α} (h : 0 ≤ fi p l) : ∃ (i : Nat) (hi : i < l.length), fi p l = i ∧ p l[i] = true ∧ ∀ k (hk : k < i), p (l[k]'(by omega)) = false := by
 have ha : l.any p = true := by
  cases h' : l.any p with
  | true => rfl
  | false => have := fi_neg.2 h'; omega
 have hx : ∃ x, x ∈ l ∧ p x = true := List.any_eq_true.1 ha
 have hlt : l.findIdx p < l.length := List.findIdx_lt_length.2 hx
 refine ⟨l.findIdx p, hlt, by unfold fi; rw [ha]; rfl, List.findIdx_getElem (w := hlt), fun k hk => ?_⟩
 have := List.not_of_lt_findIdx hk
 simpa using this
section
variable {N : Nat} {f : List Int}
theorem s_IndexFuncC {l : List Clause} {g : Clause → Option Bool} {p : Clause → Bool} (hg : ∀ c, c ∈ l → g c = some (p c)) (h : FitL N l) : slices_IndexFunc_api_Clause_api_Clause N l g = some (fi p l) := by
 unfold slices_IndexFunc_api_Clause_api_Clause fi
 rw [iter_first l p (fun i => (i : Int)) (fun i hi => by
  unfold slices_IndexFunc_api_Clause_api_Clause_L0
  rw [lt_t hi, cond_true, idx_nat hi, Option.bind_some, hg _ (List.getElem_mem hi), Option.bind_some]) (by unfold slices_IndexFunc_api_Clause_api_Clause_L0; rw [lt_f, cond_false]) h.n h.w]
 cases l.any p <;> rfl
theorem all_any {α : Type} {l : List α} {p : α → Bool} : l.all p = !(l.any fun x => !p x) := by
 rw [List.not_any_eq_all_not]; congr 1; funext n; simp
theorem s_clauses {l : List Clause} (h : FitL N l) : rules_clauses N l = some (sndL l) := by
 unfold rules_clauses sndL slices_ContainsFunc_api_Clause_api_Clause
 rw [s_IndexFuncC (p := fun c => !sndC c) (fun c hc => by
  show rules_clauses_1 N c = _
  unfold rules_clauses_1
  rw [s_soundClause (h.c c hc)]; rfl) h, all_any]
 by_cases hl : l.length ≤ 64
 ·rw [decide_eq_true (by omega), cond_true, decide_eq_true hl]
  unfold fi
  cases l.any fun c => !sndC c with
  | true => rw [if_pos rfl, Option.bind_some, decide_eq_true (by omega)]; rfl
  | false => rfl
 ·rw [decide_eq_false (by omega), cond_false, decide_eq_false hl]; rfl
def isT (f : List Int) (c : Clause) : Bool := val f c.When == 1
theorem s_first (hf : fac f = true) {l : List Clause} (h : FitL N l) (hs : ∀ c, c ∈ l → sndC c = true) : rules_first N l f = some (fi (isT f) l) := by
 unfold rules_first
 rw [s_IndexFuncC (p := isT f) (fun c hc => by
  show rules_first_1 N c f = _
  unfold rules_first_1
  rw [s_value hf (h.c c hc).1 (by rw [sndC_w (hs c hc)]; decide)]; rfl) h]
 rfl
noncomputable def evalS (e : Expr) (f : List Int) : Int × Int := if snd0 e = false then (0, 61) else if fac f = false then (0, 63) else (val f e, 0)
theorem snd0_k {e : Expr} (h : snd0 e = true) : kd e ≠ 0 := by unfold snd0 at h; simp at h; exact h.2
theorem s_Eval (hN : 100 < N) {e : Expr} (h : Fit N e) : rules_Eval N e f = some (evalS e f) := by
 unfold rules_Eval evalS
 rw [s_sound h, Option.bind_some, s_validFacts hN]
 cases h1 : snd0 e
 ·rfl
 ·cases h2 : fac f
  ·rfl
  ·rw [Option.bind_some, s_value h2 h (snd0_k h1)]; rfl
noncomputable def firstS (l : List Clause) (f : List Int) : Int × Int := if sndL l = false then (0, 61) else if fac f = false then (0, 63) else if fi (isT f) l < 0 then (0, 3) else (fi (isT f) l, 0)
theorem s_First (hN : 100 < N) {l : List Clause} (h : FitL N l) : rules_First N l f = some (firstS l f) := by
 unfold rules_First firstS
 rw [s_clauses h, Option.bind_some, s_validFacts hN]
 cases h1 : sndL l
 ·rfl
 ·cases h2 : fac f
  ·rfl
  ·rw [Option.bind_some, s_first h2 h (fun c hc => sndL_c h1 hc), Option.bind_some]
   by_cases h3 : fi (isT f) l < 0
   ·rw [decide_eq_true h3]; simp [h3]
   ·rw [decide_eq_false h3]; simp [h3]
noncomputable def wt (l : List Clause) : Int := l.foldl (fun s c => W64 (s + W64 (nd c.When + nd c.Then))) (l.length : Int)
theorem s_weight {l : List Clause} (h : FitL N l) : law06_weight N l = some (wt l) := by
 unfold law06_weight wt
 rw [iter_fold l (fun c => (law06_nodes N c.When).bind fun r78 => ((law06_nodes N c.Then).bind fun r86 => some (W64 (r78 + r86)))) (fun c => W64 (nd c.When + nd c.Then)) (fun s r => W64 (s + r)) (fun c hc => by rw [s_nodes (h.c c hc).1, Option.bind_some, s_nodes (h.c c hc).2]; rfl) (fun s i => by
  unfold law06_weight_L0
  simp only
  cases decide (i < (l.length : Int)) with
  | false => rfl
  | true =>
   rw [cond_true, cond_true]
   cases idx l i with
   | none => rfl
   | some c =>
    simp only [Option.bind_some]
    cases law06_nodes N c.When with
    | none => rfl
    | some a =>
     simp only [Option.bind_some]
     cases law06_nodes N c.Then <;> rfl) h.n h.w]
 rfl
noncomputable def lightS (b : Book) : Bool := decide (b.Repeats.foldl (fun s e => W64 (s + nd e)) (W64 (W64 (wt b.Points + wt b.Multipliers) + wt b.Penalties)) ≤ 2000)
theorem s_light {b : Book} (h : FitB N b) : law06_light N b = some (lightS b) := by
 unfold law06_light lightS
 rw [s_weight h.p, Option.bind_some, s_weight h.m, Option.bind_some, s_weight h.e, Option.bind_some, Option.bind_some]
 rw [iter_fold b.Repeats (fun e => law06_nodes N e) nd (fun s r => W64 (s + r)) (fun e he => s_nodes (h.r.c e he)) (fun s i => rfl) h.r.n h.r.w]
 rfl
end
section
variable {N : Nat} {f : List Int}
noncomputable def chk (b : Book) : Int × Int :=
 if b.Points.length > 64 ∨ b.Multipliers.length > 64 ∨ b.Penalties.length > 64 ∨ b.Repeats.length > 64 then (2, 0)
 else if (b.Points ++ b.Multipliers ++ b.Penalties).any (fun c => !sndC c) then (62, ((b.Points ++ b.Multipliers ++ b.Penalties).findIdx (fun c => !sndC c) : Int) + 1)
 else if b.Repeats.any (fun e => !sndT e 1) then (62, ((b.Points ++ b.Multipliers ++ b.Penalties).length : Int) + (b.Repeats.findIdx (fun e => !sndT e 1) : Int) + 1)
 else (0, 0)
theorem s_Concat (hN : 1000 < N) {a b c : List Clause} (ha : a.length ≤ 64) (hb : b.length ≤ 64) (hc : c.length ≤ 64) : slices_Concat_api_Clause_api_Clause N [a, b, c] = some (a ++ b ++ c) := by
 obtain ⟨m, rfl⟩ : ∃ m, N = m + 4 := ⟨N - 4, by omega⟩
 unfold slices_Concat_api_Clause_api_Clause
 have h1 : iter (slices_Concat_api_Clause_api_Clause_L0 (m + 4) [a, b, c]) (m + 4) (0, 0) = some (.done (((a.length + b.length + c.length : Nat) : Int), 3)) := by
  have st : ∀ (n k : Nat) (x : List Clause), n ≤ 1000 → x.length ≤ 64 → k < 3 → [a, b, c][k]? = some x → slices_Concat_api_Clause_api_Clause_L0 (m + 4) [a, b, c] ((n : Int), (k : Int)) = some (.next (((n + x.length : Nat) : Int), ((k + 1 : Nat) : Int))) := by
   intro n k x hn hx hk hg
   unfold slices_Concat_api_Clause_api_Clause_L0
   simp only
   rw [show ([a, b, c].length : Int) = ((3 : Nat) : Int) from rfl, lt_t hk, cond_true, idx_nat', hg, Option.bind_some]
   have e : W64 ((n : Int) + (x.length : Int)) = ((n + x.length : Nat) : Int) := by rw [← Int.natCast_add, W64_nat (by omega)]
   rw [e, decide_eq_false (by omega), cond_false, W64_succ (by omega)]
  rw [iter, show ((0 : Int), (0 : Int)) = (((0 : Nat) : Int), ((0 : Nat) : Int)) from rfl, st 0 0 a (by omega) ha (by omega) rfl]
  simp only
  rw [iter, st _ 1 b (by omega) hb (by omega) rfl]
  simp only
  rw [iter, st _ 2 c (by omega) hc (by omega) rfl]
  simp only
  rw [iter]
  unfold slices_Concat_api_Clause_api_Clause_L0
  simp only
  rw [show ([a, b, c].length : Int) = ((2 + 1 : Nat) : Int) from rfl, lt_f, cond_false]
  simp only [Nat.zero_add]
  rfl
 rw [h1]
 have h2 : slices_Grow_api_Clause_api_Clause (m + 4) ((a.length + b.length + c.length : Nat) : Int) = some [] := by
  unfold slices_Grow_api_Clause_api_Clause
  rw [decide_eq_false (by omega), cond_false]
  have e0 : W64 (0 - (([] : List Clause).length : Int)) = 0 := rfl
  rw [e0, Int.sub_zero, W64_nat (by omega)]
  by_cases h0 : (0 : Int) < ((a.length + b.length + c.length : Nat) : Int)
  ·rw [decide_eq_true h0, cond_true]
   unfold mk0
   rw [if_pos ⟨by omega, by omega⟩]
   simp [sub]
  ·rw [decide_eq_false (by omega), cond_false]
 simp only [Flow.k, Option.bind_some]
 rw [h2, Option.bind_some]
 have st : ∀ (s : List Clause) (k : Nat) (x : List Clause), s.length ≤ 1000 → x.length ≤ 64 → k < 3 → [a, b, c][k]? = some x → slices_Concat_api_Clause_api_Clause_L1 (m + 4) [a, b, c] (((a.length + b.length + c.length : Nat) : Int), 3) [] (s, (k : Int)) = some (.next (s ++ x, ((k + 1 : Nat) : Int))) := by
  intro s k x hn hx hk hg
  unfold slices_Concat_api_Clause_api_Clause_L1
  simp only
  rw [show ([a, b, c].length : Int) = ((3 : Nat) : Int) from rfl, lt_t hk, cond_true, idx_nat', hg, Option.bind_some, apnd_ok (by omega), Option.bind_some, W64_succ (by omega)]
 rw [iter, show (([] : List Clause), (0 : Int)) = (([] : List Clause), ((0 : Nat) : Int)) from rfl, st [] 0 a (by simp) ha (by omega) rfl]
 simp only
 rw [iter, st _ 1 b (by simp; omega) hb (by omega) rfl]
 simp only
 rw [iter, st _ 2 c (by simp; omega) hc (by omega) rfl]
 simp only
 rw [iter]
 unfold slices_Concat_api_Clause_api_Clause_L1
 simp only
 rw [show ([a, b, c].length : Int) = ((2 + 1 : Nat) : Int) from rfl, lt_f, cond_false]
 simp only [Option.bind_some, List.nil_append]
end
end Go.Proofs.YtaihlcdkcampbaaGreatDoor
namespace Go.Proofs.YtaihlcdkcampbaaGreatDoor
theorem fit_ex {x : Expr} (h : qExpr x) : ∃ n0, ∀ N, n0 ≤ N → Fit N x := by
 obtain ⟨n, hn⟩ := h
 exact ⟨3518437208781 + (2 * n + 10), fun N hN => ⟨n, hn.wide (by omega), by omega⟩⟩
theorem fit_all {α : Type} {P : Nat → α → Prop} : ∀ {l : List α}, (∀ x, x ∈ l → ∃ n0, ∀ N, n0 ≤ N → P N x) → ∃ n0, ∀ N, n0 ≤ N → ∀ x, x ∈ l → P N x
 | [], _ => ⟨0, fun _ _ x hx => by cases hx⟩
 | a :: l, h => by
  obtain ⟨n, hn⟩ := h a (List.mem_cons_self ..)
  obtain ⟨m, hm⟩ := fit_all fun x hx => h x (List.mem_cons_of_mem _ hx)
  refine ⟨n + m, fun N hN x hx => ?_⟩
  rcases List.mem_cons.1 hx with rfl | hx
  ·exact hn N (by omega)
  ·exact hm N (by omega) x hx
theorem fitL_ex {l : List Clause} (h : l.length < 9223372036854775808 ∧ ∀ c, c ∈ l → qClause c) : ∃ n0, ∀ N, n0 ≤ N → FitL N l := by
 obtain ⟨n, hn⟩ := fit_all (P := FitC) (l := l) (fun c hc => by
  obtain ⟨a, ha⟩ := fit_ex (h.2 c hc).1
  obtain ⟨b, hb⟩ := fit_ex (h.2 c hc).2
  exact ⟨a + b, fun N hN => ⟨ha N (by omega), hb N (by omega)⟩⟩)
 exact ⟨n + l.length + 1, fun N hN => ⟨by omega, h.1, hn N (by omega)⟩⟩
theorem fitX_ex {l : List Expr} (h : l.length < 9223372036854775808 ∧ ∀ c, c ∈ l → qExpr c) : ∃ n0, ∀ N, n0 ≤ N → FitX N l := by
 obtain ⟨n, hn⟩ := fit_all (P := Fit) (l := l) (fun c hc => fit_ex (h.2 c hc))
 exact ⟨n + l.length + 1, fun N hN => ⟨by omega, h.1, hn N (by omega)⟩⟩
theorem fitB_ex {b : Book} (h : qBook b) : ∃ n0, ∀ N, n0 ≤ N → FitB N b := by
 obtain ⟨h1, h2, h3, h4⟩ := h
 obtain ⟨a, ha⟩ := fitL_ex h1
 obtain ⟨b, hb⟩ := fitL_ex h2
 obtain ⟨c, hc⟩ := fitL_ex h3
 obtain ⟨d, hd⟩ := fitX_ex h4
 exact ⟨a + b + c + d, fun N hN => ⟨ha N (by omega), hb N (by omega), hc N (by omega), hd N (by omega)⟩⟩
end Go.Proofs.YtaihlcdkcampbaaGreatDoor
namespace Go.Proofs.YtaihlcdkcampbaaGreatDoor
open Go.Proofs
def rules_Points (N : Nat) (x0 : Book) (x1 : (List Int)) : Option (Int × Int) :=
 ((rules_wrong N x0 x1).bind fun r24 => (bif (r24 != 0) then some (0, r24) else ((rules_first N x0.Points x1).bind fun r35 => (bif (decide (r35 < 0)) then some (0, 70) else ((idx x0.Points r35).bind fun x46 => ((rules_value N x46.Then x1).bind fun r60 => some (r60, 0)))))))
theorem co_rules_Points : CallOk Tryz.prog 41 := fun _ _ => by kernel_rfl
theorem c_rules_Points (N : Nat) (w0 : World) (F0 : Mem) (hF : ∀ b o, F0 b = some o → w0.heap[b]? = some o) (x0 : Book) (a0_0 : Option Addr) (n0_0 : Nat) (hb0_0 : LC x0.Points.length n0_0) (hs0_0 : SlA tClause F0 a0_0 x0.Points) (a0_1 : Option Addr) (n0_1 : Nat) (hb0_1 : LC x0.Multipliers.length n0_1) (hs0_1 : SlA tClause F0 a0_1 x0.Multipliers) (a0_2 : Option Addr) (n0_2 : Nat) (hb0_2 : LC x0.Penalties.length n0_2) (hs0_2 : SlA tClause F0 a0_2 x0.Penalties) (a0_3 : Option Addr) (n0_3 : Nat) (hb0_3 : LC x0.Repeats.length n0_3) (hs0_3 : SlA tExpr F0 a0_3 x0.Repeats) (x1 : (List Int)) (a1_0 : Option Addr) (n1_0 : Nat) (hb1_0 : LC x1.length n1_0) (hs1_0 : SlA tInt F0 a1_0 x1) (r : (Int × Int)) (h : rules_Points N x0 x1 = some r) :
  Calls Tryz.prog 41 ([(.agg (kBook x0 a0_0 n0_0 a0_1 n0_1 a0_2 n0_2 a0_3 n0_3)), (.slice a1_0 x1.length n1_0)] : List Value).toArray w0 (FRet w0 F0 fun F' v => v = (.tuple #[(vi r.1), (vi r.2)])) := by
 have hs0 := HS.start hF
 refine Go 28 Tryz.func41 ?_
 refine Sq (Rg [0, 1, 2] ?_)
 refine Bx' 26 (kBook x0 a0_0 n0_0 a0_1 n0_1 a0_2 n0_2 a0_3 n0_3) hs0 (fun b21 w22 hs23 => ?_)
 refine Vs 2 ?_
 refine Nss ?_
 refine Sq (Rg [0, 1, 2, 3] ?_)
 refine Ld hs23.at0 ?_
 refine Vs 1 ?_
 obtain ⟨r24, hr25, h26⟩ := bind_some h
 refine Cl' co_rules_wrong hs23 (c_rules_wrong N w22 F0 hs23.pers (x0) a0_0 n0_0 hb0_0 hs0_0 a0_1 n0_1 hb0_1 hs0_1 a0_2 n0_2 hb0_2 hs0_2 a0_3 n0_3 hb0_3 hs0_3 (x1) a1_0 n1_0 hb1_0 hs1_0 _ hr25) ?_
 rintro _ F1 w28 hs29 le30 rfl
 refine Vs 1 ?_
 refine Nss (Rg [0, 1] ?_)
 refine Vs 2 ?_
 refine Nt ?_
 refine Cd h26 (fun hb32 h33 => ?_) (fun hb32 h34 => ?_)
 ·refine Sq (Rg [0, 1, 2] ?_)
  refine Vs 3 ?_
  refine Nt ?_
  refine Rt ?_
  refine thenQ_ret ?_
  obtain rfl := some_inj h33
  exact Re [(vi 0), (vi r24)] hs29 rfl
 ·refine Sc ?_
  refine thenQ_nrm ?_
  refine Sq (Rg [0, 1, 2, 3, 4] ?_)
  refine Vs 1 ?_
  refine Ld hs29.at0 ?_
  refine Vs 1 ?_
  obtain ⟨r35, hr36, h37⟩ := bind_some h34
  refine Cl' co_rules_first hs29 (c_rules_first N w28 F1 hs29.pers (x0.Points) a0_0 n0_0 hb0_0 (SlA.mono hs0_0 le30) (x1) a1_0 n1_0 hb1_0 (SlA.mono hs1_0 le30) _ hr36) ?_
  rintro _ F2 w39 hs40 le41 rfl
  refine Vs 1 ?_
  refine Nss ?_
  refine Sq (Rg [0, 1] ?_)
  refine Vs 2 ?_
  refine Nt ?_
  refine Cd h37 (fun hb43 h44 => ?_) (fun hb43 h45 => ?_)
  ·refine Sq (Rg [0, 1] ?_)
   refine Vs 2 ?_
   refine Nt ?_
   refine Rt ?_
   refine thenQ_ret ?_
   obtain rfl := some_inj h44
   exact Re [(vi 0), (vi 70)] hs40 rfl
  ·refine Sc ?_
   refine thenQ_nrm ?_
   refine Sq (Rg [0, 1, 2, 3, 4, 5, 6, 7, 8, 9] ?_)
   refine Vs 1 ?_
   refine Ld hs40.at0 ?_
   refine Vs 1 ?_
   obtain ⟨x46, hx47, h49⟩ := bind_some h45
   obtain ⟨hi48, hx47'⟩ := idx_spec hx47
   obtain ⟨b50, o51, C52, E53, fz54, rfl, hF56, hE57⟩ := SlA.open (SlA.mono hs0_0 (le30.trans le41)) hx47'
   obtain ⟨ae58_2, ne58_2, ae58_5, ne58_5, hc59, hbe58_2, hse58_2, hbe58_5, hse58_5⟩ := hE57 _ _ hx47'
   refine Ix hi48 ?_
   refine Vs 1 ?_
   refine Lx 3 (hs40.pers _ _ hF56) hc59 ?_
   refine Vs 1 ?_
   obtain ⟨r60, hr61, h62⟩ := bind_some h49
   refine Cl' co_rules_value hs40 (c_rules_value N w39 F2 hs40.pers (x46.Then) ae58_5 ne58_5 hbe58_5 hse58_5 (x1) a1_0 n1_0 hb1_0 (SlA.mono hs1_0 (le30.trans le41)) _ hr61) ?_
   rintro _ F3 w64 hs65 le66 rfl
   refine Vs 2 ?_
   refine Nt ?_
   refine Rt ?_
   obtain rfl := some_inj h62
   exact Re [(vi r60), (vi 0)] hs65 rfl
end Go.Proofs.YtaihlcdkcampbaaGreatDoor
namespace Go.Proofs.YtaihlcdkcampbaaGreatDoor
open Go.Proofs
end Go.Proofs.YtaihlcdkcampbaaGreatDoor
namespace Go.Proofs.YtaihlcdkcampbaaGreatDoor
open Go.Proofs
end Go.Proofs.YtaihlcdkcampbaaGreatDoor
namespace Go.Proofs.YtaihlcdkcampbaaGreatDoor
open Go.Proofs
end Go.Proofs.YtaihlcdkcampbaaGreatDoor
namespace Go.Proofs.YtaihlcdkcampbaaGreatDoor
open Go.Proofs
end Go.Proofs.YtaihlcdkcampbaaGreatDoor
namespace Go.Proofs.YtaihlcdkcampbaaGreatDoor
open Go.Proofs
end Go.Proofs.YtaihlcdkcampbaaGreatDoor
namespace Go.Proofs.YtaihlcdkcampbaaGreatDoor
open Go.Proofs
end Go.Proofs.YtaihlcdkcampbaaGreatDoor
namespace Go.Proofs.YtaihlcdkcampbaaGreatDoor
open Go.Proofs
end Go.Proofs.YtaihlcdkcampbaaGreatDoor
namespace Go.Proofs.YtaihlcdkcampbaaGreatDoor
open Go.Proofs
end Go.Proofs.YtaihlcdkcampbaaGreatDoor
namespace Go.Proofs.YtaihlcdkcampbaaGreatDoor
open Go.Proofs
end Go.Proofs.YtaihlcdkcampbaaGreatDoor
namespace Go.Proofs.YtaihlcdkcampbaaGreatDoor
section
variable {N : Nat} {f : List Int}
theorem maxlen {a b c d : Nat} : decide ((max (max (max (a : Int) (b : Int)) (c : Int)) (d : Int)) > 64) = decide (a > 64 ∨ b > 64 ∨ c > 64 ∨ d > 64) := by
 congr 1; rw [eq_iff_iff]; omega
theorem iter_count {α : Type} (l : List α) (p : α → Bool) (n0 : Nat) {body : Int × Int → Option (Flow (Int × Int) (Int × Int))} (hs : n0 + l.length < 1000000)
  (hb : ∀ (n : Nat) (i : Nat) (h : i < l.length), body ((n : Int), (i : Int)) = bif p l[i] then some (.ret (62, W64 ((n : Int) + 1))) else some (.next (W64 ((n : Int) + 1), W64 ((i : Int) + 1)))) (he : ∀ n, body (n, (l.length : Int)) = some (.done (n, (l.length : Int))))
  (hN : l.length < N) :
  iter body N ((n0 : Int), 0) = some (bif l.any p then .ret (62, (n0 : Int) + (l.findIdx p : Int) + 1) else .done (((n0 + l.length : Nat) : Int), (l.length : Int))) := by
 obtain ⟨o, ho, rfl⟩ := iter_ex (body := body) l.length (fun i s => s = (((n0 + i : Nat) : Int), (i : Int)) ∧ ∀ k (h : k < l.length), k < i → p l[k] = false) (fun o => o = bif l.any p then .ret (62, (n0 : Int) + (l.findIdx p : Int) + 1) else .done (((n0 + l.length : Nat) : Int), (l.length : Int))) (by
  rintro i s hi ⟨rfl, hk⟩
  by_cases h : i < l.length
  ·cases e : p l[i] with
   | false =>
    refine .inl ⟨_, by rw [hb _ i h, e, cond_false, W64_succ (by omega), W64_succ (by omega)]; rfl, ⟨rfl, fun k hk' hki => ?_⟩, h⟩
    by_cases hki' : k = i
    ·subst hki'; exact e
    ·exact hk k hk' (by omega)
   | true =>
    refine .inr ⟨_, by rw [hb _ i h, e, cond_true, W64_succ (by omega)], fun _ h => (by cases h), ?_⟩
    have h1 : l.any p = true := List.any_eq_true.2 ⟨_, List.getElem_mem h, e⟩
    have h2 : l.findIdx p = i := by
     rw [List.findIdx_eq h]
     exact ⟨e, fun k hk' => hk k (by omega) hk'⟩
    rw [h1, cond_true, h2]
    congr 2
  ·have : i = l.length := by omega
   subst this
   refine .inr ⟨_, he _, fun _ h => (by cases h), ?_⟩
   have h1 : l.any p = false := by
    rw [List.any_eq_false]
    intro x hx
    obtain ⟨k, hk', rfl⟩ := List.getElem_of_mem hx
    rw [hk k hk' hk']; simp
   rw [h1, cond_false]) l.length N 0 ((n0 : Int), 0) (by omega) ⟨rfl, fun k h hk => by omega⟩ hN
 exact ho
theorem s_Check (hN : 1000 < N) {b : Book} (h : FitB N b) : rules_Check N b = some (chk b) := by
 unfold rules_Check chk
 rw [maxlen]
 by_cases hl : b.Points.length > 64 ∨ b.Multipliers.length > 64 ∨ b.Penalties.length > 64 ∨ b.Repeats.length > 64
 ·rw [decide_eq_true hl, cond_true, if_pos hl]
 ·rw [decide_eq_false hl, cond_false, if_neg hl]
  have hl' : b.Points.length ≤ 64 ∧ b.Multipliers.length ≤ 64 ∧ b.Penalties.length ≤ 64 ∧ b.Repeats.length ≤ 64 := by omega
  rw [s_Concat hN hl'.1 hl'.2.1 hl'.2.2.1, Option.bind_some]
  generalize hal : b.Points ++ b.Multipliers ++ b.Penalties = al
  have hlen : al.length ≤ 192 := by rw [← hal]; simp; omega
  have hfit : ∀ c, c ∈ al → FitC N c := by
   intro c hc
   rw [← hal] at hc
   simp only [List.mem_append] at hc
   rcases hc with (hc | hc) | hc
   ·exact h.p.c c hc
   ·exact h.m.c c hc
   ·exact h.e.c c hc
  have h1 := iter_count (N := N) al (fun c => !sndC c) 0 (body := rules_Check_L0 N b al) (by omega) (fun n i hi => by
   unfold rules_Check_L0
   simp only
   rw [lt_t hi, cond_true, idx_nat hi, Option.bind_some, s_soundClause (hfit _ (List.getElem_mem hi)), Option.bind_some]) (fun n => by unfold rules_Check_L0; simp only; rw [lt_f, cond_false]) (by omega)
  rw [show ((0 : Int), (0 : Int)) = (((0 : Nat) : Int), (0 : Int)) from rfl, h1]
  cases ha : al.any fun c => !sndC c with
  | true => simp [Flow.k]
  | false =>
   have h2 := iter_count (N := N) b.Repeats (fun e => !sndT e 1) (0 + al.length) (body := rules_Check_L1 N b al (((0 + al.length : Nat) : Int), (al.length : Int))) (by omega) (fun n i hi => by
    unfold rules_Check_L1
    simp only
    rw [lt_t hi, cond_true, idx_nat hi, Option.bind_some, s_is (h.r.c _ (List.getElem_mem hi)) (by decide), Option.bind_some]) (fun n => by unfold rules_Check_L1; simp only; rw [lt_f, cond_false]) (by omega)
   simp only [Flow.k, cond_false, Option.bind_some, Bool.false_eq_true, if_false]
   rw [h2]
   cases b.Repeats.any fun e => !sndT e 1 with
   | true => simp
   | false => simp
noncomputable def vld (b : Book) : Bool := (chk b).1 == 0
theorem s_Valid (hN : 1000 < N) {b : Book} (h : FitB N b) : rules_Valid N b = some (vld b) := by unfold rules_Valid vld; rw [s_Check hN h]; rfl
theorem vld_iff {b : Book} : vld b = true ↔ sndL b.Points = true ∧ sndL b.Multipliers = true ∧ sndL b.Penalties = true ∧ b.Repeats.length ≤ 64 ∧ ∀ e, e ∈ b.Repeats → sndT e 1 = true := by
 unfold vld chk sndL
 by_cases hl : b.Points.length > 64 ∨ b.Multipliers.length > 64 ∨ b.Penalties.length > 64 ∨ b.Repeats.length > 64
 ·rw [if_pos hl]; simp; intro _ _ _ _ _ _; omega
 ·rw [if_neg hl]
  have hl' : b.Points.length ≤ 64 ∧ b.Multipliers.length ≤ 64 ∧ b.Penalties.length ≤ 64 ∧ b.Repeats.length ≤ 64 := by omega
  simp only [hl', decide_true, Bool.true_and]
  have hany : (b.Points ++ b.Multipliers ++ b.Penalties).any (fun c => !sndC c) = !(b.Points.all sndC && b.Multipliers.all sndC && b.Penalties.all sndC) := by
   rw [List.any_append, List.any_append, all_any, all_any, all_any]
   cases b.Points.any _ <;> cases b.Multipliers.any _ <;> cases b.Penalties.any _ <;> rfl
  have hr : (b.Repeats.any fun e => !sndT e 1) = !(b.Repeats.all fun e => sndT e 1) := by rw [all_any]; simp
  rw [hany, hr, ← List.all_eq_true (l := b.Repeats)]
  cases b.Points.all sndC <;> cases b.Multipliers.all sndC <;> cases b.Penalties.all sndC <;> cases (b.Repeats.all fun e => sndT e 1) <;> simp
noncomputable def wrg (b : Book) (f : List Int) : Int := if vld b = false then 62 else if fac f = false then 63 else 0
theorem s_wrong (hN : 1000 < N) {b : Book} (h : FitB N b) : rules_wrong N b f = some (wrg b f) := by
 unfold rules_wrong wrg; rw [s_Valid hN h, Option.bind_some, s_validFacts (by omega)]
 cases vld b
 ·rfl
 ·cases fac f <;> rfl
theorem wrg0 {b : Book} (h : wrg b f = 0) : vld b = true ∧ fac f = true := by
 unfold wrg at h
 cases hv : vld b
 ·rw [hv] at h; simp at h
 ·cases hf : fac f
  ·rw [hv, hf] at h; simp at h
  ·exact ⟨rfl, rfl⟩
theorem wrg_cases (b : Book) : wrg b f = 62 ∨ wrg b f = 63 ∨ wrg b f = 0 := by
 unfold wrg
 split
 ·exact .inl rfl
 ·split
  ·exact .inr (.inl rfl)
  ·exact .inr (.inr rfl)
theorem wrg_ne {b : Book} (h : ¬ wrg b f = 0) : (wrg b f != 0) = true := by simpa using h
noncomputable def ptsS (l : List Clause) (b : Book) (f : List Int) (no : Int) : Int × Int :=
 if wrg b f ≠ 0 then (0, wrg b f) else if fi (isT f) l < 0 then (0, no) else (val f (l[(fi (isT f) l).toNat]?.getD ⟨zE, zE⟩).Then, 0)
theorem pts_at {l : List Clause} (h : ¬ fi (isT f) l < 0) : ∃ c, c ∈ l ∧ idx l (fi (isT f) l) = some c ∧ l[(fi (isT f) l).toNat]?.getD ⟨zE, zE⟩ = c := by
 obtain ⟨i, hi, h1, h2, _⟩ := fi_nn (p := isT f) (l := l) (by omega)
 refine ⟨l[i], List.getElem_mem hi, by rw [h1, idx_nat hi], by rw [h1, Int.toNat_natCast, List.getElem?_eq_getElem hi]; rfl⟩
theorem s_Points (hN : 1000 < N) {b : Book} (h : FitB N b) : rules_Points N b f = some (ptsS b.Points b f 70) := by
 unfold rules_Points ptsS
 rw [s_wrong hN h, Option.bind_some]
 by_cases hw : wrg b f = 0
 ·obtain ⟨hv, hf⟩ := wrg0 hw
  have hs := (vld_iff.1 hv).1
  rw [hw, if_neg (by simp), show ((0 : Int) != 0) = false from rfl, cond_false, s_first hf h.p (fun c hc => sndL_c hs hc), Option.bind_some]
  by_cases hn : fi (isT f) b.Points < 0
  ·rw [decide_eq_true hn, if_pos hn]; rfl
  ·obtain ⟨c, hc, h1, h2⟩ := pts_at hn
   rw [decide_eq_false hn, if_neg hn, cond_false, h1, h2, Option.bind_some, s_value hf (h.p.c c hc).2 (by rw [sndC_t (sndL_c hs hc)]; decide)]; rfl
 ·rw [wrg_ne hw, if_pos hw]; rfl
theorem any_none {α : Type} {l : List α} : (l.any fun _ => false) = false := by rw [List.any_eq_false]; simp
end
end Go.Proofs.YtaihlcdkcampbaaGreatDoor
namespace Go.Proofs.YtaihlcdkcampbaaGreatDoor
open Go.Proofs
def rules_constant (N : Nat) (x0 : Int) : Option Expr :=
 some ({ Op := 1, Value := x0, Kids := ([] : List Expr) } : Expr)
theorem co_rules_constant : CallOk Tryz.prog 191 := fun _ _ => by kernel_rfl
theorem c_rules_constant (N : Nat) (w0 : World) (F0 : Mem) (hF : ∀ b o, F0 b = some o → w0.heap[b]? = some o) (x0 : Int) (r : Expr) (h : rules_constant N x0 = some r) :
  Calls Tryz.prog 191 ([(vi x0)] : List Value).toArray w0 (FRet w0 F0 fun F' v => ∃ (aq0_2 : Option Addr) (nq0_2 : Nat), v = (.agg (kExpr r aq0_2 nq0_2)) ∧ LC r.Kids.length nq0_2 ∧ SlA tExpr F' aq0_2 r.Kids) := by
 have hs0 := HS.start hF
 refine Go 5 Tryz.func191 ?_
 refine Sq (Rg [0] ?_)
 refine Al' 33 #[(vi 0), (vi 0), (.slice none ([] : List Expr).length 0)] hs0 (fun b21 w22 hs23 => ?_)
 refine Nss (Rg [0, 1, 2] ?_)
 refine Vs 2 ?_
 refine St0 #[(vi 1), (vi x0), (.slice none ([] : List Expr).length 0)] hs23 (fun w24 hs25 => ?_)
 refine Nt ?_
 refine Rt ?_
 obtain rfl := some_inj h
 exact ⟨rfl, (.agg #[(vi 1), (vi x0), (.slice none ([] : List Expr).length 0)]), res_of (l := [.cell 2 33]) (by kernel_rfl) (vs := [(.agg #[(vi 1), (vi x0), (.slice none ([] : List Expr).length 0)])]) ⟨b21, 0, rfl, run_loadVar' (t := 33) (g := true) (s := 3) (by kernel_rfl) hs25.at0 rfl (by decide), trivial⟩, (.agg #[(vi 1), (vi x0), (.slice none ([] : List Expr).length 0)]), F0, rfl, hs25.clear, ⟨none, 0, rfl, LC.nil, (.inl rfl)⟩⟩
end Go.Proofs.YtaihlcdkcampbaaGreatDoor
namespace Go.Proofs.YtaihlcdkcampbaaGreatDoor
open Go.Proofs
def rules_truthOf (N : Nat) (x0 : Bool) : Option Expr :=
 ((rules_constant N 0).bind fun r31 => ((rules_constant N 0).bind fun r39 => some ({ Op := (bif x0 then 6 else 7), Value := 0, Kids := [r31, r39] } : Expr)))
theorem co_rules_truthOf : CallOk Tryz.prog 188 := fun _ _ => by kernel_rfl
theorem c_rules_truthOf (N : Nat) (w0 : World) (F0 : Mem) (hF : ∀ b o, F0 b = some o → w0.heap[b]? = some o) (x0 : Bool) (r : Expr) (h : rules_truthOf N x0 = some r) :
  Calls Tryz.prog 188 ([(.bool x0)] : List Value).toArray w0 (FRet w0 F0 fun F' v => ∃ (aq0_2 : Option Addr) (nq0_2 : Nat), v = (.agg (kExpr r aq0_2 nq0_2)) ∧ LC r.Kids.length nq0_2 ∧ SlA tExpr F' aq0_2 r.Kids) := by
 have hs0 := HS.start hF
 refine Go 10 Tryz.func188 ?_
 refine Sq (Rg [0] ?_)
 refine Al' 33 #[(vi 0), (vi 0), (.slice none ([] : List Expr).length 0)] hs0 (fun b21 w22 hs23 => ?_)
 refine Nss (Rg [0] ?_)
 refine Vs 1 ?_
 refine Nss ?_
 refine Sq (Rg [0] ?_)
 refine Vs 1 ?_
 refine Nt ?_
 refine CWP.cut (fun f w => ∃ (F1 : Mem), HS w0 F0 w F1 [(sb b21 #[(vi 0), (vi 0), (.slice none ([] : List Expr).length 0)] 33)] ∧ Mem.le F0 F1 ∧ FI f [] [(2, (pt b21 0)), (3, (vi (bif x0 then 6 else 7)))]) ?_ ?_
 ·refine Cp x0 (fun hb30 => ?_) (fun hb30 => ?_)
  ·refine Rg [0] ?_
   refine Vs 1 ?_
   refine RWP.nil ?_
   exact .inl ⟨rfl, F0, hs23, (Mem.le.refl _), (fJ ⟨rfl, (congrArg (Value.int .i64) (bif_t hb30 (rfl))), trivial⟩)⟩
  ·refine Sc ?_
   exact .inl ⟨rfl, F0, hs23, (Mem.le.refl _), (fJ ⟨rfl, (congrArg (Value.int .i64) (bif_f hb30 (rfl))), trivial⟩)⟩
 ·rintro f w24 ⟨F1, hs25, le26, ⟨_, rfl⟩⟩
  refine thenQ_nrm ?_
  refine Sq (Rg [0, 1, 2, 3, 4, 5] ?_)
  refine Vs 1 ?_
  obtain ⟨r31, hr32, h33⟩ := bind_some h
  refine Cl' co_rules_constant hs25 (c_rules_constant N w24 F1 hs25.pers (0) _ hr32) ?_
  rintro _ F2 w35 hs36 le37 ⟨ar31_0_2, nr31_0_2, rfl, hbr31_0_2, hsr31_0_2⟩
  obtain ⟨r39, hr40, h41⟩ := bind_some h33
  refine Cl' co_rules_constant hs36 (c_rules_constant N w35 F2 hs36.pers (0) _ hr40) ?_
  rintro _ F3 w43 hs44 le45 ⟨ar39_0_2, nr39_0_2, rfl, hbr39_0_2, hsr39_0_2⟩
  refine Bs 33 [(vi r31.Op), (vi r31.Value), (.slice ar31_0_2 r31.Kids.length nr31_0_2), (vi r39.Op), (vi r39.Value), (.slice ar39_0_2 r39.Kids.length nr39_0_2)] hs44 (fun b47 w48 hs49 => ?_)
  have hr51 : RowR tExpr 33 F3 (some ⟨b47, 0, none⟩) 2 [r31, r39] (some b47, .cells ([(vi r31.Op), (vi r31.Value), (.slice ar31_0_2 r31.Kids.length nr31_0_2), (vi r39.Op), (vi r39.Value), (.slice ar39_0_2 r39.Kids.length nr39_0_2)] : List Value).toArray 33 (0, 0)) := RowR.lit ⟨(tExpr_mk ⟨ar31_0_2, nr31_0_2, rfl, hbr31_0_2, (SlA.mono hsr31_0_2 le45)⟩), ⟨(tExpr_mk ⟨ar39_0_2, nr39_0_2, rfl, hbr39_0_2, hsr39_0_2⟩), rfl⟩⟩ (by simp)
  refine Vs 1 ?_
  refine St1 #[(vi (bif x0 then 6 else 7)), (vi 0), (.slice (some ⟨b47, 0, none⟩) [r31, r39].length 2)] hs49 (fun w52 hs53 => ?_)
  refine Nt ?_
  refine Rt ?_
  have hb57 := RowR.bound hr51
  obtain ⟨F4, hs54, le55, hs56⟩ := hs53.fr0 hr51
  obtain rfl := some_inj h41
  exact ⟨rfl, (.agg #[(vi (bif x0 then 6 else 7)), (vi 0), (.slice (some ⟨b47, 0, none⟩) [r31, r39].length 2)]), res_of (l := [.cell 2 33]) (by kernel_rfl) (vs := [(.agg #[(vi (bif x0 then 6 else 7)), (vi 0), (.slice (some ⟨b47, 0, none⟩) [r31, r39].length 2)])]) ⟨b21, 0, rfl, run_loadVar' (t := 33) (g := true) (s := 3) (by kernel_rfl) hs54.at0 rfl (by decide), trivial⟩, (.agg #[(vi (bif x0 then 6 else 7)), (vi 0), (.slice (some ⟨b47, 0, none⟩) [r31, r39].length 2)]), F4, rfl, hs54.clear, ⟨(some ⟨b47, 0, none⟩), 2, rfl, hb57, hs56⟩⟩
end Go.Proofs.YtaihlcdkcampbaaGreatDoor
namespace Go.Proofs.YtaihlcdkcampbaaGreatDoor
open Go.Proofs
def rules_isTruth (N : Nat) (x0 : Expr) (x1 : Bool) : Option Bool :=
 (((rules_truthOf N x1).bind fun r34 => ((rules_same N x0 r34).bind fun r42 => some r42)).bind fun j29 => some j29)
theorem co_rules_isTruth : CallOk Tryz.prog 187 := fun _ _ => by kernel_rfl
theorem c_rules_isTruth (N : Nat) (w0 : World) (F0 : Mem) (hF : ∀ b o, F0 b = some o → w0.heap[b]? = some o) (x0 : Expr) (a0_2 : Option Addr) (n0_2 : Nat) (hb0_2 : LC x0.Kids.length n0_2) (hs0_2 : SlA tExpr F0 a0_2 x0.Kids) (x1 : Bool) (r : Bool) (h : rules_isTruth N x0 x1 = some r) :
  Calls Tryz.prog 187 ([(.agg (kExpr x0 a0_2 n0_2)), (.bool x1)] : List Value).toArray w0 (FRet w0 F0 fun F' v => v = (.bool r)) := by
 have hs0 := HS.start hF
 refine Go 9 Tryz.func187 ?_
 refine Sq (Rg [0, 1] ?_)
 refine Bx' 33 (kExpr x0 a0_2 n0_2) hs0 (fun b21 w22 hs23 => ?_)
 refine Vs 1 ?_
 refine Nss ?_
 obtain ⟨j29, hj32, h33⟩ := bind_some h
 refine RD 5 5 [(sb b21 (kExpr x0 a0_2 n0_2) 33)] [] hs23 (fun f w => ∃ (F1 : Mem), HS w0 F0 w F1 [] ∧ Mem.le F0 F1 ∧ FI f [] [(4, (.bool j29))]) (fun wd24 hw25 => ?_) ?_
 ·refine Dl 0 (fun _ hq => (hq.1.2 0 _ _ rfl)) ?_
  refine Dv [1] ?_
  refine D1 2 ?_
  obtain ⟨r34, hr35, h36⟩ := bind_some hj32
  refine DCl co_rules_truthOf hw25 (c_rules_truthOf N wd24 F0 hw25.pers (x1) _ hr35) ?_
  rintro _ F2 w38 hs39 le40 ⟨ar34_0_2, nr34_0_2, rfl, hbr34_0_2, hsr34_0_2⟩
  refine D1 3 ?_
  obtain ⟨r42, hr43, h44⟩ := bind_some h36
  refine DCl co_rules_same hs39 (c_rules_same N w38 F2 hs39.pers (x0) a0_2 n0_2 hb0_2 (SlA.mono hs0_2 le40) (r34) ar34_0_2 nr34_0_2 hbr34_0_2 hsr34_0_2 _ hr43) ?_
  rintro _ F3 w46 hs47 le48 rfl
  refine Dv [4] ?_
  obtain rfl := some_inj h44
  exact DWP.done (by kernel_rfl) ⟨F3, hs47.dr0, (le40.trans le48), fI⟩
 ·rintro f w26 ⟨F1, hs27, le28, ⟨_, rfl⟩⟩
  refine thenQ_nrm ?_
  refine Rt ?_
  obtain rfl := some_inj h33
  exact Re [(.bool j29)] hs27 rfl
end Go.Proofs.YtaihlcdkcampbaaGreatDoor
namespace Go.Proofs.YtaihlcdkcampbaaGreatDoor
open Go.Proofs
def rules_joined (N : Nat) (x0 : Expr) (x1 : Expr) (x2 : Expr) : Option Expr :=
 (((rules_isTruth N x1 (x0.Op == 5)).bind fun r46 => (bif r46 then some true else ((rules_isTruth N x2 (x0.Op == 5)).bind fun r57 => some r57))).bind fun j36 => (bif j36 then ((rules_truthOf N (x0.Op == 5)).bind fun r68 => some r68) else ((rules_isTruth N x1 (!(x0.Op == 5))).bind fun r78 => (bif r78 then some x2 else ((rules_isTruth N x2 (!(x0.Op == 5))).bind fun r91 => ((bif r91 then some r91 else ((rules_same N x1 x2).bind fun r113 => some r113)).bind fun j102 => (bif j102 then some x1 else some x0)))))))
theorem co_rules_joined : CallOk Tryz.prog 190 := fun _ _ => by kernel_rfl
theorem c_rules_joined (N : Nat) (w0 : World) (F0 : Mem) (hF : ∀ b o, F0 b = some o → w0.heap[b]? = some o) (x0 : Expr) (a0_2 : Option Addr) (n0_2 : Nat) (hb0_2 : LC x0.Kids.length n0_2) (hs0_2 : SlA tExpr F0 a0_2 x0.Kids) (x1 : Expr) (a1_2 : Option Addr) (n1_2 : Nat) (hb1_2 : LC x1.Kids.length n1_2) (hs1_2 : SlA tExpr F0 a1_2 x1.Kids) (x2 : Expr) (a2_2 : Option Addr) (n2_2 : Nat) (hb2_2 : LC x2.Kids.length n2_2) (hs2_2 : SlA tExpr F0 a2_2 x2.Kids) (r : Expr) (h : rules_joined N x0 x1 x2 = some r) :
  Calls Tryz.prog 190 ([(.agg (kExpr x0 a0_2 n0_2)), (.agg (kExpr x1 a1_2 n1_2)), (.agg (kExpr x2 a2_2 n2_2))] : List Value).toArray w0 (FRet w0 F0 fun F' v => ∃ (aq0_2 : Option Addr) (nq0_2 : Nat), v = (.agg (kExpr r aq0_2 nq0_2)) ∧ LC r.Kids.length nq0_2 ∧ SlA tExpr F' aq0_2 r.Kids) := by
 have hs0 := HS.start hF
 refine Go 38 Tryz.func190 ?_
 refine Sq (Rg [0, 1, 2, 3] ?_)
 refine Bx' 33 (kExpr x0 a0_2 n0_2) hs0 (fun b21 w22 hs23 => ?_)
 refine Bx' 33 (kExpr x1 a1_2 n1_2) hs23 (fun b24 w25 hs26 => ?_)
 refine Bx' 33 (kExpr x2 a2_2 n2_2) hs26 (fun b27 w28 hs29 => ?_)
 refine Al' 33 #[(vi 0), (vi 0), (.slice none ([] : List Expr).length 0)] hs29 (fun b30 w31 hs32 => ?_)
 refine Nss (Rg [0, 1, 2, 3] ?_)
 refine Vs 1 ?_
 refine Ld hs32.at3 ?_
 refine Vs 2 ?_
 refine Nss ?_
 refine Bk ?_
 refine Sq (Rg [0, 1, 2, 3, 4, 5, 6, 7, 8] ?_)
 obtain ⟨j36, hj44, h45⟩ := bind_some h
 refine RWP.cut (fun f w => ∃ (F1 : Mem), HS w0 F0 w F1 [(sb b30 #[(vi 0), (vi 0), (.slice none ([] : List Expr).length 0)] 33), (sb b27 (kExpr x2 a2_2 n2_2) 33), (sb b24 (kExpr x1 a1_2 n1_2) 33), (sb b21 (kExpr x0 a0_2 n0_2) 33)] ∧ Mem.le F0 F1 ∧ FI f [] [(3, (pt b21 0)), (4, (pt b24 0)), (5, (pt b27 0)), (6, (pt b30 0)), (7, (.bool (x0.Op == 5))), (11, (.bool j36))]) ?_ ?_
 ·refine Ld hs32.at2 ?_
  refine Vs 1 ?_
  obtain ⟨r46, hr47, h48⟩ := bind_some hj44
  refine Cl' co_rules_isTruth hs32 (c_rules_isTruth N w31 F0 hs32.pers (x1) a1_2 n1_2 hb1_2 hs1_2 ((x0.Op == 5)) _ hr47) ?_
  rintro _ F2 w50 hs51 le52 rfl
  refine Vs 1 ?_
  refine Sp h48 (fun hb54 h55 => ?_) (fun hb54 h56 => ?_)
  ·refine Ss hb54 3 ?_
   refine Pk1 hb54 ?_
   refine Vs 1 ?_
   obtain rfl := some_inj h55
   exact RWP.nil ⟨rfl, F2, hs51, le52, fI⟩
  ·refine Vg 16 33 3 false 15 hb54 (ld 33 5 b27 0 true 3 (.agg (kExpr x2 a2_2 n2_2)) hs51.at1) ?_
   refine Vgs hb54 1 ?_
   obtain ⟨r57, hr58, h59⟩ := bind_some h56
   refine Cg hb54 co_rules_isTruth hs51 (c_rules_isTruth N w50 F2 hs51.pers (x2) a2_2 n2_2 hb2_2 (SlA.mono hs2_2 le52) ((x0.Op == 5)) _ hr58) ?_
   rintro _ F3 w61 hs62 le63 rfl
   refine Pk0 hb54 ?_
   refine Vs 1 ?_
   obtain rfl := some_inj h59
   exact RWP.nil ⟨rfl, F3, hs62, (le52.trans le63), fI⟩
 ·rintro f w33 ⟨F1, hs34, le35, ⟨_, rfl⟩⟩
  refine thenQ_nrm ?_
  refine Cd h45 (fun hb65 h66 => ?_) (fun hb65 h67 => ?_)
  ·refine Sq (Rg [0, 1, 2] ?_)
   refine Vs 1 ?_
   obtain ⟨r68, hr69, h70⟩ := bind_some h66
   refine Cl' co_rules_truthOf hs34 (c_rules_truthOf N w33 F1 hs34.pers ((x0.Op == 5)) _ hr69) ?_
   rintro _ F4 w72 hs73 le74 ⟨ar68_0_2, nr68_0_2, rfl, hbr68_0_2, hsr68_0_2⟩
   refine St0 (kExpr r68 ar68_0_2 nr68_0_2) hs73 (fun w76 hs77 => ?_)
   refine Nt ?_
   refine Rt ?_
   refine blockQ_ret ?_
   refine thenQ_ret ?_
   obtain rfl := some_inj h70
   exact ⟨rfl, (.agg (kExpr r68 ar68_0_2 nr68_0_2)), res_of (l := [.cell 6 33]) (by kernel_rfl) (vs := [(.agg (kExpr r68 ar68_0_2 nr68_0_2))]) ⟨b30, 0, rfl, run_loadVar' (t := 33) (g := true) (s := 3) (by kernel_rfl) hs77.at0 rfl (by decide), trivial⟩, (.agg (kExpr r68 ar68_0_2 nr68_0_2)), F4, rfl, hs77.clear, ⟨ar68_0_2, nr68_0_2, rfl, hbr68_0_2, hsr68_0_2⟩⟩
  ·refine Sq (Rg [0, 1, 2, 3, 4] ?_)
   refine Ld hs34.at2 ?_
   refine Vs 2 ?_
   obtain ⟨r78, hr79, h80⟩ := bind_some h67
   refine Cl' co_rules_isTruth hs34 (c_rules_isTruth N w33 F1 hs34.pers (x1) a1_2 n1_2 hb1_2 (SlA.mono hs1_2 le35) ((!(x0.Op == 5))) _ hr79) ?_
   rintro _ F5 w82 hs83 le84 rfl
   refine Vs 1 ?_
   refine Nt ?_
   refine Cd h80 (fun hb86 h87 => ?_) (fun hb86 h88 => ?_)
   ·refine Sq (Rg [0, 1] ?_)
    refine Ld hs83.at1 ?_
    refine St0 (kExpr x2 a2_2 n2_2) hs83 (fun w89 hs90 => ?_)
    refine Nt ?_
    refine Rt ?_
    refine blockQ_ret ?_
    refine thenQ_ret ?_
    obtain rfl := some_inj h87
    exact ⟨rfl, (.agg (kExpr x2 a2_2 n2_2)), res_of (l := [.cell 6 33]) (by kernel_rfl) (vs := [(.agg (kExpr x2 a2_2 n2_2))]) ⟨b30, 0, rfl, run_loadVar' (t := 33) (g := true) (s := 3) (by kernel_rfl) hs90.at0 rfl (by decide), trivial⟩, (.agg (kExpr x2 a2_2 n2_2)), F5, rfl, hs90.clear, ⟨a2_2, n2_2, rfl, hb2_2, (SlA.mono hs2_2 (le35.trans le84))⟩⟩
   ·refine Sq ?_
    refine Sq (Rg [0, 1, 2, 3, 4] ?_)
    refine Ld hs83.at1 ?_
    refine Vs 2 ?_
    obtain ⟨r91, hr92, h93⟩ := bind_some h88
    refine Cl' co_rules_isTruth hs83 (c_rules_isTruth N w82 F5 hs83.pers (x2) a2_2 n2_2 hb2_2 (SlA.mono hs2_2 (le35.trans le84)) ((!(x0.Op == 5))) _ hr92) ?_
    rintro _ F6 w95 hs96 le97 rfl
    refine Vs 1 ?_
    refine Nt ?_
    obtain ⟨j102, hj108, h109⟩ := bind_some h93
    refine CWP.cut (fun f w => ∃ (F7 : Mem), HS w0 F0 w F7 [(sb b30 #[(vi 0), (vi 0), (.slice none ([] : List Expr).length 0)] 33), (sb b24 (kExpr x1 a1_2 n1_2) 33), (sb b21 (kExpr x0 a0_2 n0_2) 33)] ∧ Mem.le F6 F7 ∧ FI f [] [(3, (pt b21 0)), (4, (pt b24 0)), (6, (pt b30 0)), (28, (.bool j102))]) ?_ ?_
    ·refine Cd hj108 (fun hb110 h111 => ?_) (fun hb110 h112 => ?_)
     ·refine Sc ?_
      obtain rfl := some_inj h111
      exact .inl ⟨rfl, F6, hs96.dr1, (Mem.le.refl _), fI⟩
     ·refine Rg [0, 1, 2, 3] ?_
      refine Ld hs96.at2 ?_
      refine Ld hs96.at1 ?_
      obtain ⟨r113, hr114, h115⟩ := bind_some h112
      refine Cl' co_rules_same hs96 (c_rules_same N w95 F6 hs96.pers (x1) a1_2 n1_2 hb1_2 (SlA.mono hs1_2 ((le35.trans le84).trans le97)) (x2) a2_2 n2_2 hb2_2 (SlA.mono hs2_2 ((le35.trans le84).trans le97)) _ hr114) ?_
      rintro _ F8 w117 hs118 le119 rfl
      refine Vs 1 ?_
      refine RWP.nil ?_
      obtain rfl := some_inj h115
      exact .inl ⟨rfl, F8, hs118.dr1, le119, fI⟩
    ·rintro f w99 ⟨F7, hs100, le101, ⟨_, rfl⟩⟩
     refine thenQ_nrm ?_
     refine Cd h109 (fun hb121 h122 => ?_) (fun hb121 h123 => ?_)
     ·refine Sq (Rg [0, 1] ?_)
      refine Ld hs100.at1 ?_
      refine St0 (kExpr x1 a1_2 n1_2) hs100 (fun w124 hs125 => ?_)
      refine Nt ?_
      refine Rt ?_
      refine blockQ_ret ?_
      refine thenQ_ret ?_
      obtain rfl := some_inj h122
      exact ⟨rfl, (.agg (kExpr x1 a1_2 n1_2)), res_of (l := [.cell 6 33]) (by kernel_rfl) (vs := [(.agg (kExpr x1 a1_2 n1_2))]) ⟨b30, 0, rfl, run_loadVar' (t := 33) (g := true) (s := 3) (by kernel_rfl) hs125.at0 rfl (by decide), trivial⟩, (.agg (kExpr x1 a1_2 n1_2)), F7, rfl, hs125.clear, ⟨a1_2, n1_2, rfl, hb1_2, (SlA.mono hs1_2 (((le35.trans le84).trans le97).trans le101))⟩⟩
     ·refine Sc ?_
      refine blockQ_nrm ?_
      refine thenQ_nrm ?_
      refine Sq (Rg [0, 1] ?_)
      refine Ld hs100.at2 ?_
      refine St0 (kExpr x0 a0_2 n0_2) hs100 (fun w126 hs127 => ?_)
      refine Nt ?_
      refine Rt ?_
      obtain rfl := some_inj h123
      exact ⟨rfl, (.agg (kExpr x0 a0_2 n0_2)), res_of (l := [.cell 6 33]) (by kernel_rfl) (vs := [(.agg (kExpr x0 a0_2 n0_2))]) ⟨b30, 0, rfl, run_loadVar' (t := 33) (g := true) (s := 3) (by kernel_rfl) hs127.at0 rfl (by decide), trivial⟩, (.agg (kExpr x0 a0_2 n0_2)), F7, rfl, hs127.clear, ⟨a0_2, n0_2, rfl, hb0_2, (SlA.mono hs0_2 (((le35.trans le84).trans le97).trans le101))⟩⟩
end Go.Proofs.YtaihlcdkcampbaaGreatDoor
namespace Go.Proofs.YtaihlcdkcampbaaGreatDoor
open Go.Proofs
def rules_isConstant (N : Nat) (x0 : Expr) (x1 : Int) : Option Bool :=
 some ((x0.Op == 1) && (x0.Value == x1))
theorem co_rules_isConstant : CallOk Tryz.prog 215 := fun _ _ => by kernel_rfl
theorem c_rules_isConstant (N : Nat) (w0 : World) (F0 : Mem) (hF : ∀ b o, F0 b = some o → w0.heap[b]? = some o) (x0 : Expr) (a0_2 : Option Addr) (n0_2 : Nat) (hb0_2 : LC x0.Kids.length n0_2) (hs0_2 : SlA tExpr F0 a0_2 x0.Kids) (x1 : Int) (r : Bool) (h : rules_isConstant N x0 x1 = some r) :
  Calls Tryz.prog 215 ([(.agg (kExpr x0 a0_2 n0_2)), (vi x1)] : List Value).toArray w0 (FRet w0 F0 fun F' v => v = (.bool r)) := by
 have hs0 := HS.start hF
 refine Go 14 Tryz.func215 ?_
 refine Sq (Rg [0, 1] ?_)
 refine Bx' 33 (kExpr x0 a0_2 n0_2) hs0 (fun b21 w22 hs23 => ?_)
 refine Vs 1 ?_
 refine Nss (Rg [0, 1, 2, 3, 4, 5, 6, 7, 8, 9] ?_)
 refine RWP.cut (fun f w => ∃ (F1 : Mem), HS w0 F0 w F1 [] ∧ Mem.le F0 F1 ∧ FI f [] [(4, (.bool ((x0.Op == 1) && (x0.Value == x1))))]) ?_ ?_
 ·refine Vs 1 ?_
  refine Ld hs23.at0 ?_
  refine Vs 2 ?_
  refine RWP.split (x0.Op == 1) (fun hb29 => ?_) (fun hb29 => ?_)
  ·refine Vgs hb29 1 ?_
   refine Vg 10 3 3 true 8 hb29 (ld 3 9 b21 1 false 1 (vi x0.Value) hs23.at0) ?_
   refine Vgs hb29 2 ?_
   refine Pk1 hb29 ?_
   refine Vs 1 ?_
   exact RWP.nil ⟨rfl, F0, hs23.dr0, (Mem.le.refl _), (fJ ⟨(congrArg Value.bool (and_t hb29 (rfl))), trivial⟩)⟩
  ·refine Ss hb29 4 ?_
   refine Pk0 hb29 ?_
   refine Vs 1 ?_
   exact RWP.nil ⟨rfl, F0, hs23.dr0, (Mem.le.refl _), (fJ ⟨(congrArg Value.bool (and_f hb29 (rfl))), trivial⟩)⟩
 ·rintro f w24 ⟨F1, hs25, le26, ⟨_, rfl⟩⟩
  refine thenQ_nrm ?_
  refine Rt ?_
  obtain rfl := some_inj h
  exact Re [(.bool ((x0.Op == 1) && (x0.Value == x1)))] hs25 rfl
end Go.Proofs.YtaihlcdkcampbaaGreatDoor
namespace Go.Proofs.YtaihlcdkcampbaaGreatDoor
open Go.Proofs
def rules_reckoned (N : Nat) (x0 : Expr) (x1 : Expr) (x2 : Expr) : Option Expr :=
 (bif (x0.Op == 8) then ((rules_isConstant N x1 0).bind fun r36 => (bif r36 then some x2 else ((rules_isConstant N x2 0).bind fun r49 => (bif r49 then some x1 else some x0)))) else (bif (x0.Op == 9) then ((rules_isConstant N x2 0).bind fun r67 => (bif r67 then some x1 else ((rules_same N x1 x2).bind fun r80 => (bif r80 then ((rules_constant N 0).bind fun r91 => some r91) else some x0)))) else (bif (x0.Op == 10) then ((rules_isConstant N x1 1).bind fun r106 => (bif r106 then some x2 else ((rules_isConstant N x2 1).bind fun r119 => (bif r119 then some x1 else (((rules_isConstant N x1 0).bind fun r142 => (bif r142 then some true else ((rules_isConstant N x2 0).bind fun r153 => some r153))).bind fun j135 => (bif j135 then ((rules_constant N 0).bind fun r164 => some r164) else some x0)))))) else some x0)))
theorem co_rules_reckoned : CallOk Tryz.prog 192 := fun _ _ => by kernel_rfl
theorem c_rules_reckoned (N : Nat) (w0 : World) (F0 : Mem) (hF : ∀ b o, F0 b = some o → w0.heap[b]? = some o) (x0 : Expr) (a0_2 : Option Addr) (n0_2 : Nat) (hb0_2 : LC x0.Kids.length n0_2) (hs0_2 : SlA tExpr F0 a0_2 x0.Kids) (x1 : Expr) (a1_2 : Option Addr) (n1_2 : Nat) (hb1_2 : LC x1.Kids.length n1_2) (hs1_2 : SlA tExpr F0 a1_2 x1.Kids) (x2 : Expr) (a2_2 : Option Addr) (n2_2 : Nat) (hb2_2 : LC x2.Kids.length n2_2) (hs2_2 : SlA tExpr F0 a2_2 x2.Kids) (r : Expr) (h : rules_reckoned N x0 x1 x2 = some r) :
  Calls Tryz.prog 192 ([(.agg (kExpr x0 a0_2 n0_2)), (.agg (kExpr x1 a1_2 n1_2)), (.agg (kExpr x2 a2_2 n2_2))] : List Value).toArray w0 (FRet w0 F0 fun F' v => ∃ (aq0_2 : Option Addr) (nq0_2 : Nat), v = (.agg (kExpr r aq0_2 nq0_2)) ∧ LC r.Kids.length nq0_2 ∧ SlA tExpr F' aq0_2 r.Kids) := by
 have hs0 := HS.start hF
 refine Go 49 Tryz.func192 ?_
 refine Sq (Rg [0, 1, 2, 3] ?_)
 refine Bx' 33 (kExpr x0 a0_2 n0_2) hs0 (fun b21 w22 hs23 => ?_)
 refine Bx' 33 (kExpr x1 a1_2 n1_2) hs23 (fun b24 w25 hs26 => ?_)
 refine Bx' 33 (kExpr x2 a2_2 n2_2) hs26 (fun b27 w28 hs29 => ?_)
 refine Al' 33 #[(vi 0), (vi 0), (.slice none ([] : List Expr).length 0)] hs29 (fun b30 w31 hs32 => ?_)
 refine Nss ?_
 refine Sq (Rg [0, 1] ?_)
 refine Vs 1 ?_
 refine Ld hs32.at3 ?_
 refine Nt ?_
 refine Bk ?_
 refine Sq (Rg [0, 1] ?_)
 refine Vs 2 ?_
 refine Nt ?_
 refine Cd h (fun hb33 h34 => ?_) (fun hb33 h35 => ?_)
 ·refine Bk ?_
  refine Sq (Rg [0, 1, 2] ?_)
  refine Ld hs32.at2 ?_
  obtain ⟨r36, hr37, h38⟩ := bind_some h34
  refine Cl' co_rules_isConstant hs32 (c_rules_isConstant N w31 F0 hs32.pers (x1) a1_2 n1_2 hb1_2 hs1_2 (0) _ hr37) ?_
  rintro _ F1 w40 hs41 le42 rfl
  refine Vs 1 ?_
  refine Nt ?_
  refine Cd h38 (fun hb44 h45 => ?_) (fun hb44 h46 => ?_)
  ·refine Sq (Rg [0, 1] ?_)
   refine Ld hs41.at1 ?_
   refine St0 (kExpr x2 a2_2 n2_2) hs41 (fun w47 hs48 => ?_)
   refine Nt ?_
   refine Rt ?_
   refine blockQ_ret ?_
   refine blockQ_ret ?_
   refine thenQ_ret ?_
   obtain rfl := some_inj h45
   exact ⟨rfl, (.agg (kExpr x2 a2_2 n2_2)), res_of (l := [.cell 6 33]) (by kernel_rfl) (vs := [(.agg (kExpr x2 a2_2 n2_2))]) ⟨b30, 0, rfl, run_loadVar' (t := 33) (g := true) (s := 3) (by kernel_rfl) hs48.at0 rfl (by decide), trivial⟩, (.agg (kExpr x2 a2_2 n2_2)), F1, rfl, hs48.clear, ⟨a2_2, n2_2, rfl, hb2_2, (SlA.mono hs2_2 le42)⟩⟩
  ·refine Sq (Rg [0, 1, 2] ?_)
   refine Ld hs41.at1 ?_
   obtain ⟨r49, hr50, h51⟩ := bind_some h46
   refine Cl' co_rules_isConstant hs41 (c_rules_isConstant N w40 F1 hs41.pers (x2) a2_2 n2_2 hb2_2 (SlA.mono hs2_2 le42) (0) _ hr50) ?_
   rintro _ F2 w53 hs54 le55 rfl
   refine Vs 1 ?_
   refine Nt ?_
   refine Cd h51 (fun hb57 h58 => ?_) (fun hb57 h59 => ?_)
   ·refine Sq (Rg [0, 1] ?_)
    refine Ld hs54.at2 ?_
    refine St0 (kExpr x1 a1_2 n1_2) hs54 (fun w60 hs61 => ?_)
    refine Nt ?_
    refine Rt ?_
    refine blockQ_ret ?_
    refine blockQ_ret ?_
    refine thenQ_ret ?_
    obtain rfl := some_inj h58
    exact ⟨rfl, (.agg (kExpr x1 a1_2 n1_2)), res_of (l := [.cell 6 33]) (by kernel_rfl) (vs := [(.agg (kExpr x1 a1_2 n1_2))]) ⟨b30, 0, rfl, run_loadVar' (t := 33) (g := true) (s := 3) (by kernel_rfl) hs61.at0 rfl (by decide), trivial⟩, (.agg (kExpr x1 a1_2 n1_2)), F2, rfl, hs61.clear, ⟨a1_2, n1_2, rfl, hb1_2, (SlA.mono hs1_2 (le42.trans le55))⟩⟩
   ·refine Sc ?_
    refine blockQ_nrm ?_
    refine blockQ_nrm ?_
    refine thenQ_nrm ?_
    refine Sq (Rg [0, 1] ?_)
    refine Ld hs54.at3 ?_
    refine St0 (kExpr x0 a0_2 n0_2) hs54 (fun w62 hs63 => ?_)
    refine Nt ?_
    refine Rt ?_
    obtain rfl := some_inj h59
    exact ⟨rfl, (.agg (kExpr x0 a0_2 n0_2)), res_of (l := [.cell 6 33]) (by kernel_rfl) (vs := [(.agg (kExpr x0 a0_2 n0_2))]) ⟨b30, 0, rfl, run_loadVar' (t := 33) (g := true) (s := 3) (by kernel_rfl) hs63.at0 rfl (by decide), trivial⟩, (.agg (kExpr x0 a0_2 n0_2)), F2, rfl, hs63.clear, ⟨a0_2, n0_2, rfl, hb0_2, (SlA.mono hs0_2 (le42.trans le55))⟩⟩
 ·refine Sq (Rg [0, 1] ?_)
  refine Vs 2 ?_
  refine Nt ?_
  refine Cd h35 (fun hb64 h65 => ?_) (fun hb64 h66 => ?_)
  ·refine Bk ?_
   refine Sq (Rg [0, 1, 2] ?_)
   refine Ld hs32.at1 ?_
   obtain ⟨r67, hr68, h69⟩ := bind_some h65
   refine Cl' co_rules_isConstant hs32 (c_rules_isConstant N w31 F0 hs32.pers (x2) a2_2 n2_2 hb2_2 hs2_2 (0) _ hr68) ?_
   rintro _ F3 w71 hs72 le73 rfl
   refine Vs 1 ?_
   refine Nt ?_
   refine Cd h69 (fun hb75 h76 => ?_) (fun hb75 h77 => ?_)
   ·refine Sq (Rg [0, 1] ?_)
    refine Ld hs72.at2 ?_
    refine St0 (kExpr x1 a1_2 n1_2) hs72 (fun w78 hs79 => ?_)
    refine Nt ?_
    refine Rt ?_
    refine blockQ_ret ?_
    refine blockQ_ret ?_
    refine thenQ_ret ?_
    obtain rfl := some_inj h76
    exact ⟨rfl, (.agg (kExpr x1 a1_2 n1_2)), res_of (l := [.cell 6 33]) (by kernel_rfl) (vs := [(.agg (kExpr x1 a1_2 n1_2))]) ⟨b30, 0, rfl, run_loadVar' (t := 33) (g := true) (s := 3) (by kernel_rfl) hs79.at0 rfl (by decide), trivial⟩, (.agg (kExpr x1 a1_2 n1_2)), F3, rfl, hs79.clear, ⟨a1_2, n1_2, rfl, hb1_2, (SlA.mono hs1_2 le73)⟩⟩
   ·refine Sq (Rg [0, 1, 2, 3] ?_)
    refine Ld hs72.at2 ?_
    refine Ld hs72.at1 ?_
    obtain ⟨r80, hr81, h82⟩ := bind_some h77
    refine Cl' co_rules_same hs72 (c_rules_same N w71 F3 hs72.pers (x1) a1_2 n1_2 hb1_2 (SlA.mono hs1_2 le73) (x2) a2_2 n2_2 hb2_2 (SlA.mono hs2_2 le73) _ hr81) ?_
    rintro _ F4 w84 hs85 le86 rfl
    refine Vs 1 ?_
    refine Nt ?_
    refine Cd h82 (fun hb88 h89 => ?_) (fun hb88 h90 => ?_)
    ·refine Sq (Rg [0, 1] ?_)
     obtain ⟨r91, hr92, h93⟩ := bind_some h89
     refine Cl' co_rules_constant hs85 (c_rules_constant N w84 F4 hs85.pers (0) _ hr92) ?_
     rintro _ F5 w95 hs96 le97 ⟨ar91_0_2, nr91_0_2, rfl, hbr91_0_2, hsr91_0_2⟩
     refine St0 (kExpr r91 ar91_0_2 nr91_0_2) hs96 (fun w99 hs100 => ?_)
     refine Nt ?_
     refine Rt ?_
     refine blockQ_ret ?_
     refine blockQ_ret ?_
     refine thenQ_ret ?_
     obtain rfl := some_inj h93
     exact ⟨rfl, (.agg (kExpr r91 ar91_0_2 nr91_0_2)), res_of (l := [.cell 6 33]) (by kernel_rfl) (vs := [(.agg (kExpr r91 ar91_0_2 nr91_0_2))]) ⟨b30, 0, rfl, run_loadVar' (t := 33) (g := true) (s := 3) (by kernel_rfl) hs100.at0 rfl (by decide), trivial⟩, (.agg (kExpr r91 ar91_0_2 nr91_0_2)), F5, rfl, hs100.clear, ⟨ar91_0_2, nr91_0_2, rfl, hbr91_0_2, hsr91_0_2⟩⟩
    ·refine Sc ?_
     refine blockQ_nrm ?_
     refine blockQ_nrm ?_
     refine thenQ_nrm ?_
     refine Sq (Rg [0, 1] ?_)
     refine Ld hs85.at3 ?_
     refine St0 (kExpr x0 a0_2 n0_2) hs85 (fun w101 hs102 => ?_)
     refine Nt ?_
     refine Rt ?_
     obtain rfl := some_inj h90
     exact ⟨rfl, (.agg (kExpr x0 a0_2 n0_2)), res_of (l := [.cell 6 33]) (by kernel_rfl) (vs := [(.agg (kExpr x0 a0_2 n0_2))]) ⟨b30, 0, rfl, run_loadVar' (t := 33) (g := true) (s := 3) (by kernel_rfl) hs102.at0 rfl (by decide), trivial⟩, (.agg (kExpr x0 a0_2 n0_2)), F4, rfl, hs102.clear, ⟨a0_2, n0_2, rfl, hb0_2, (SlA.mono hs0_2 (le73.trans le86))⟩⟩
  ·refine Sq (Rg [0, 1] ?_)
   refine Vs 2 ?_
   refine Nt ?_
   refine Cd h66 (fun hb103 h104 => ?_) (fun hb103 h105 => ?_)
   ·refine Bk ?_
    refine Sq (Rg [0, 1, 2] ?_)
    refine Ld hs32.at2 ?_
    obtain ⟨r106, hr107, h108⟩ := bind_some h104
    refine Cl' co_rules_isConstant hs32 (c_rules_isConstant N w31 F0 hs32.pers (x1) a1_2 n1_2 hb1_2 hs1_2 (1) _ hr107) ?_
    rintro _ F6 w110 hs111 le112 rfl
    refine Vs 1 ?_
    refine Nt ?_
    refine Cd h108 (fun hb114 h115 => ?_) (fun hb114 h116 => ?_)
    ·refine Sq (Rg [0, 1] ?_)
     refine Ld hs111.at1 ?_
     refine St0 (kExpr x2 a2_2 n2_2) hs111 (fun w117 hs118 => ?_)
     refine Nt ?_
     refine Rt ?_
     refine blockQ_ret ?_
     refine blockQ_ret ?_
     refine thenQ_ret ?_
     obtain rfl := some_inj h115
     exact ⟨rfl, (.agg (kExpr x2 a2_2 n2_2)), res_of (l := [.cell 6 33]) (by kernel_rfl) (vs := [(.agg (kExpr x2 a2_2 n2_2))]) ⟨b30, 0, rfl, run_loadVar' (t := 33) (g := true) (s := 3) (by kernel_rfl) hs118.at0 rfl (by decide), trivial⟩, (.agg (kExpr x2 a2_2 n2_2)), F6, rfl, hs118.clear, ⟨a2_2, n2_2, rfl, hb2_2, (SlA.mono hs2_2 le112)⟩⟩
    ·refine Sq (Rg [0, 1, 2] ?_)
     refine Ld hs111.at1 ?_
     obtain ⟨r119, hr120, h121⟩ := bind_some h116
     refine Cl' co_rules_isConstant hs111 (c_rules_isConstant N w110 F6 hs111.pers (x2) a2_2 n2_2 hb2_2 (SlA.mono hs2_2 le112) (1) _ hr120) ?_
     rintro _ F7 w123 hs124 le125 rfl
     refine Vs 1 ?_
     refine Nt ?_
     refine Cd h121 (fun hb127 h128 => ?_) (fun hb127 h129 => ?_)
     ·refine Sq (Rg [0, 1] ?_)
      refine Ld hs124.at2 ?_
      refine St0 (kExpr x1 a1_2 n1_2) hs124 (fun w130 hs131 => ?_)
      refine Nt ?_
      refine Rt ?_
      refine blockQ_ret ?_
      refine blockQ_ret ?_
      refine thenQ_ret ?_
      obtain rfl := some_inj h128
      exact ⟨rfl, (.agg (kExpr x1 a1_2 n1_2)), res_of (l := [.cell 6 33]) (by kernel_rfl) (vs := [(.agg (kExpr x1 a1_2 n1_2))]) ⟨b30, 0, rfl, run_loadVar' (t := 33) (g := true) (s := 3) (by kernel_rfl) hs131.at0 rfl (by decide), trivial⟩, (.agg (kExpr x1 a1_2 n1_2)), F7, rfl, hs131.clear, ⟨a1_2, n1_2, rfl, hb1_2, (SlA.mono hs1_2 (le112.trans le125))⟩⟩
     ·refine Sq (Rg [0, 1, 2, 3, 4, 5, 6] ?_)
      obtain ⟨j135, hj140, h141⟩ := bind_some h129
      refine RWP.cut (fun f w => ∃ (F8 : Mem), HS w0 F0 w F8 [(sb b30 #[(vi 0), (vi 0), (.slice none ([] : List Expr).length 0)] 33), (sb b21 (kExpr x0 a0_2 n0_2) 33)] ∧ Mem.le F7 F8 ∧ FI f [] [(3, (pt b21 0)), (6, (pt b30 0)), (40, (.bool j135))]) ?_ ?_
      ·refine Ld hs124.at2 ?_
       obtain ⟨r142, hr143, h144⟩ := bind_some hj140
       refine Cl' co_rules_isConstant hs124 (c_rules_isConstant N w123 F7 hs124.pers (x1) a1_2 n1_2 hb1_2 (SlA.mono hs1_2 (le112.trans le125)) (0) _ hr143) ?_
       rintro _ F9 w146 hs147 le148 rfl
       refine Vs 1 ?_
       refine Sp h144 (fun hb150 h151 => ?_) (fun hb150 h152 => ?_)
       ·refine Ss hb150 2 ?_
        refine Pk1 hb150 ?_
        refine Vs 1 ?_
        obtain rfl := some_inj h151
        exact RWP.nil ⟨rfl, F9, hs147.dr1.dr1, le148, fI⟩
       ·refine Vg 44 33 2 false 43 hb150 (ld 33 5 b27 0 true 3 (.agg (kExpr x2 a2_2 n2_2)) hs147.at1) ?_
        obtain ⟨r153, hr154, h155⟩ := bind_some h152
        refine Cg hb150 co_rules_isConstant hs147 (c_rules_isConstant N w146 F9 hs147.pers (x2) a2_2 n2_2 hb2_2 (SlA.mono hs2_2 ((le112.trans le125).trans le148)) (0) _ hr154) ?_
        rintro _ F10 w157 hs158 le159 rfl
        refine Pk0 hb150 ?_
        refine Vs 1 ?_
        obtain rfl := some_inj h155
        exact RWP.nil ⟨rfl, F10, hs158.dr1.dr1, (le148.trans le159), fI⟩
      ·rintro f w132 ⟨F8, hs133, le134, ⟨_, rfl⟩⟩
       refine thenQ_nrm ?_
       refine Cd h141 (fun hb161 h162 => ?_) (fun hb161 h163 => ?_)
       ·refine Sq (Rg [0, 1] ?_)
        obtain ⟨r164, hr165, h166⟩ := bind_some h162
        refine Cl' co_rules_constant hs133 (c_rules_constant N w132 F8 hs133.pers (0) _ hr165) ?_
        rintro _ F11 w168 hs169 le170 ⟨ar164_0_2, nr164_0_2, rfl, hbr164_0_2, hsr164_0_2⟩
        refine St0 (kExpr r164 ar164_0_2 nr164_0_2) hs169 (fun w172 hs173 => ?_)
        refine Nt ?_
        refine Rt ?_
        refine blockQ_ret ?_
        refine blockQ_ret ?_
        refine thenQ_ret ?_
        obtain rfl := some_inj h166
        exact ⟨rfl, (.agg (kExpr r164 ar164_0_2 nr164_0_2)), res_of (l := [.cell 6 33]) (by kernel_rfl) (vs := [(.agg (kExpr r164 ar164_0_2 nr164_0_2))]) ⟨b30, 0, rfl, run_loadVar' (t := 33) (g := true) (s := 3) (by kernel_rfl) hs173.at0 rfl (by decide), trivial⟩, (.agg (kExpr r164 ar164_0_2 nr164_0_2)), F11, rfl, hs173.clear, ⟨ar164_0_2, nr164_0_2, rfl, hbr164_0_2, hsr164_0_2⟩⟩
       ·refine Sc ?_
        refine blockQ_nrm ?_
        refine blockQ_nrm ?_
        refine thenQ_nrm ?_
        refine Sq (Rg [0, 1] ?_)
        refine Ld hs133.at1 ?_
        refine St0 (kExpr x0 a0_2 n0_2) hs133 (fun w174 hs175 => ?_)
        refine Nt ?_
        refine Rt ?_
        obtain rfl := some_inj h163
        exact ⟨rfl, (.agg (kExpr x0 a0_2 n0_2)), res_of (l := [.cell 6 33]) (by kernel_rfl) (vs := [(.agg (kExpr x0 a0_2 n0_2))]) ⟨b30, 0, rfl, run_loadVar' (t := 33) (g := true) (s := 3) (by kernel_rfl) hs175.at0 rfl (by decide), trivial⟩, (.agg (kExpr x0 a0_2 n0_2)), F8, rfl, hs175.clear, ⟨a0_2, n0_2, rfl, hb0_2, (SlA.mono hs0_2 ((le112.trans le125).trans le134))⟩⟩
   ·refine Sc ?_
    refine blockQ_nrm ?_
    refine thenQ_nrm ?_
    refine Sq (Rg [0, 1] ?_)
    refine Ld hs32.at3 ?_
    refine St0 (kExpr x0 a0_2 n0_2) hs32 (fun w176 hs177 => ?_)
    refine Nt ?_
    refine Rt ?_
    obtain rfl := some_inj h105
    exact ⟨rfl, (.agg (kExpr x0 a0_2 n0_2)), res_of (l := [.cell 6 33]) (by kernel_rfl) (vs := [(.agg (kExpr x0 a0_2 n0_2))]) ⟨b30, 0, rfl, run_loadVar' (t := 33) (g := true) (s := 3) (by kernel_rfl) hs177.at0 rfl (by decide), trivial⟩, (.agg (kExpr x0 a0_2 n0_2)), F0, rfl, hs177.clear, ⟨a0_2, n0_2, rfl, hb0_2, hs0_2⟩⟩
end Go.Proofs.YtaihlcdkcampbaaGreatDoor
namespace Go.Proofs.YtaihlcdkcampbaaGreatDoor
open Go.Proofs
def rules_simpler (N : Nat) (x0 : Expr) : Option Expr :=
 (bif ((x0.Kids.length : Int) == 0) then some x0 else ((idx x0.Kids 0).bind fun x32 => (bif (x0.Op == 3) then ((rules_isTruth N x32 true).bind fun r54 => ((bif r54 then some r54 else ((rules_isTruth N x32 false).bind fun r76 => some r76)).bind fun j65 => (bif j65 then ((rules_isTruth N x32 false).bind fun r87 => ((rules_truthOf N r87).bind fun r95 => some r95)) else (bif (x32.Op == 3) then ((idx x32.Kids 0).bind fun x108 => some x108) else some x0)))) else ((idx x0.Kids 1).bind fun x126 => (bif (bif (x0.Op == 6) then (x0.Op == 6) else (x0.Op == 7)) then ((bif ((x32.Op == 1) && (x126.Op == 1)) then some true else ((rules_same N x32 x126).bind fun r178 => some r178)).bind fun j165 => (bif j165 then ((bif (x0.Op == 6) then ((rules_same N x32 x126).bind fun r200 => (bif r200 then ((rules_truthOf N true).bind fun r211 => some (r211.Op, r211.Value, r211.Kids)) else (bif (x0.Op == 7) then (bif ((x32.Op == 1) && (x126.Op == 1)) then ((rules_truthOf N (decide (x32.Value < x126.Value))).bind fun r227 => some (r227.Op, r227.Value, r227.Kids)) else ((rules_truthOf N false).bind fun r237 => some (r237.Op, r237.Value, r237.Kids))) else ((rules_truthOf N false).bind fun r247 => some (r247.Op, r247.Value, r247.Kids))))) else (bif (x0.Op == 7) then (bif ((x32.Op == 1) && (x126.Op == 1)) then ((rules_truthOf N (decide (x32.Value < x126.Value))).bind fun r263 => some (r263.Op, r263.Value, r263.Kids)) else ((rules_truthOf N false).bind fun r273 => some (r273.Op, r273.Value, r273.Kids))) else ((rules_truthOf N false).bind fun r283 => some (r283.Op, r283.Value, r283.Kids)))).bind fun j192 => some ({ Op := j192.1, Value := j192.2.1, Kids := j192.2.2 } : Expr)) else some x0)) else (bif (bif (x0.Op == 4) then (x0.Op == 4) else (x0.Op == 5)) then ((rules_joined N x0 x32 x126).bind fun r310 => some r310) else (bif (bif (x0.Op == 8) then (x0.Op == 8) else (bif (x0.Op == 9) then (x0.Op == 9) else (x0.Op == 10))) then (((mk0 0 14).bind fun r362 => ((rules_value N x0 r362).bind fun r376 => some r376)).bind fun j352 => (bif (((x32.Op == 1) && (x126.Op == 1)) && (decide (j352 ≥ 0))) then ((rules_constant N j352).bind fun r398 => some r398) else ((rules_reckoned N x0 x32 x126).bind fun r408 => some r408))) else (bif (x0.Op == 11) then ((rules_isTruth N x32 true).bind fun r421 => (bif r421 then some x126 else ((rules_isTruth N x32 false).bind fun r434 => (bif r434 then ((idx x0.Kids 2).bind fun x445 => some x445) else (((idx x0.Kids 2).bind fun x466 => ((rules_same N x126 x466).bind fun r472 => some r472)).bind fun j458 => (bif j458 then some x126 else some x0)))))) else some x0))))))))
theorem co_rules_simpler : CallOk Tryz.prog 148 := fun _ _ => by kernel_rfl
theorem c_rules_simpler (N : Nat) (w0 : World) (F0 : Mem) (hF : ∀ b o, F0 b = some o → w0.heap[b]? = some o) (x0 : Expr) (a0_2 : Option Addr) (n0_2 : Nat) (hb0_2 : LC x0.Kids.length n0_2) (hs0_2 : SlA tExpr F0 a0_2 x0.Kids) (r : Expr) (h : rules_simpler N x0 = some r) :
  Calls Tryz.prog 148 ([(.agg (kExpr x0 a0_2 n0_2))] : List Value).toArray w0 (FRet w0 F0 fun F' v => ∃ (aq0_2 : Option Addr) (nq0_2 : Nat), v = (.agg (kExpr r aq0_2 nq0_2)) ∧ LC r.Kids.length nq0_2 ∧ SlA tExpr F' aq0_2 r.Kids) := by
 have hs0 := HS.start hF
 refine Go 130 Tryz.func148 ?_
 refine Sq (Rg [0, 1] ?_)
 refine Bx' 33 (kExpr x0 a0_2 n0_2) hs0 (fun b21 w22 hs23 => ?_)
 refine Al' 33 #[(vi 0), (vi 0), (.slice none ([] : List Expr).length 0)] hs23 (fun b24 w25 hs26 => ?_)
 refine Nss ?_
 refine Sq (Rg [0, 1, 2, 3] ?_)
 refine Vs 1 ?_
 refine Ld hs26.at1 ?_
 refine Vs 2 ?_
 refine Nt ?_
 refine Cd h (fun hb27 h28 => ?_) (fun hb27 h29 => ?_)
 ·refine Sq (Rg [0, 1] ?_)
  refine Ld hs26.at1 ?_
  refine St0 (kExpr x0 a0_2 n0_2) hs26 (fun w30 hs31 => ?_)
  refine Nt ?_
  refine Rt ?_
  refine thenQ_ret ?_
  obtain rfl := some_inj h28
  exact ⟨rfl, (.agg (kExpr x0 a0_2 n0_2)), res_of (l := [.cell 2 33]) (by kernel_rfl) (vs := [(.agg (kExpr x0 a0_2 n0_2))]) ⟨b24, 0, rfl, run_loadVar' (t := 33) (g := true) (s := 3) (by kernel_rfl) hs31.at0 rfl (by decide), trivial⟩, (.agg (kExpr x0 a0_2 n0_2)), F0, rfl, hs31.clear, ⟨a0_2, n0_2, rfl, hb0_2, hs0_2⟩⟩
 ·refine Sc ?_
  refine thenQ_nrm ?_
  refine Sq (Rg [0, 1, 2, 3, 4, 5] ?_)
  refine Vs 1 ?_
  refine Ld hs26.at1 ?_
  obtain ⟨x32, hx33, h35⟩ := bind_some h29
  obtain ⟨hi34, hx33'⟩ := idx_spec hx33
  obtain ⟨b36, o37, C38, E39, fz40, rfl, hF42, hE43⟩ := SlA.open hs0_2 hx33'
  obtain ⟨ae44_2, ne44_2, hc45, hbe44_2, hse44_2⟩ := (tExpr_open (hE43 _ _ hx33'))
  refine Ix hi34 ?_
  refine Lx 0 (hs26.pers _ _ hF42) hc45 ?_
  refine Al' 33 #[(vi 0), (vi 0), (.slice none ([] : List Expr).length 0)] hs26 (fun b46 w47 hs48 => ?_)
  refine St0 (kExpr x32 ae44_2 ne44_2) hs48 (fun w49 hs50 => ?_)
  refine Nss ?_
  refine Sq (Rg [0, 1, 2] ?_)
  refine Vs 1 ?_
  refine Ld hs50.at2 ?_
  refine Vs 1 ?_
  refine Nt ?_
  refine Cd h35 (fun hb51 h52 => ?_) (fun hb51 h53 => ?_)
  ·refine Sq ?_
   refine Bk ?_
   refine Sq ?_
   refine Sq (Rg [0, 1, 2] ?_)
   refine Ld hs50.at0 ?_
   obtain ⟨r54, hr55, h56⟩ := bind_some h52
   refine Cl' co_rules_isTruth hs50 (c_rules_isTruth N w49 F0 hs50.pers (x32) ae44_2 ne44_2 hbe44_2 hse44_2 (true) _ hr55) ?_
   rintro _ F1 w58 hs59 le60 rfl
   refine Vs 1 ?_
   refine Nt ?_
   obtain ⟨j65, hj71, h72⟩ := bind_some h56
   refine CWP.cut (fun f w => ∃ (F2 : Mem), HS w0 F0 w F2 [(sb b46 (kExpr x32 ae44_2 ne44_2) 33), (sb b24 #[(vi 0), (vi 0), (.slice none ([] : List Expr).length 0)] 33), (sb b21 (kExpr x0 (some ⟨b36, o37, none⟩) n0_2) 33)] ∧ Mem.le F1 F2 ∧ FI f [] [(1, (pt b21 0)), (2, (pt b24 0)), (3, (pt b46 0)), (19, (.bool j65))]) ?_ ?_
   ·refine Cd hj71 (fun hb73 h74 => ?_) (fun hb73 h75 => ?_)
    ·refine Sc ?_
     obtain rfl := some_inj h74
     exact .inl ⟨rfl, F1, hs59, (Mem.le.refl _), fI⟩
    ·refine Rg [0, 1, 2] ?_
     refine Ld hs59.at0 ?_
     obtain ⟨r76, hr77, h78⟩ := bind_some h75
     refine Cl' co_rules_isTruth hs59 (c_rules_isTruth N w58 F1 hs59.pers (x32) ae44_2 ne44_2 hbe44_2 (SlA.mono hse44_2 le60) (false) _ hr77) ?_
     rintro _ F3 w80 hs81 le82 rfl
     refine Vs 1 ?_
     refine RWP.nil ?_
     obtain rfl := some_inj h78
     exact .inl ⟨rfl, F3, hs81, le82, fI⟩
   ·rintro f w62 ⟨F2, hs63, le64, ⟨_, rfl⟩⟩
    refine thenQ_nrm ?_
    refine Cd h72 (fun hb84 h85 => ?_) (fun hb84 h86 => ?_)
    ·refine Sq (Rg [0, 1, 2, 3] ?_)
     refine Ld hs63.at0 ?_
     obtain ⟨r87, hr88, h89⟩ := bind_some h85
     refine Cl' co_rules_isTruth hs63 (c_rules_isTruth N w62 F2 hs63.pers (x32) ae44_2 ne44_2 hbe44_2 (SlA.mono hse44_2 (le60.trans le64)) (false) _ hr88) ?_
     rintro _ F4 w91 hs92 le93 rfl
     obtain ⟨r95, hr96, h97⟩ := bind_some h89
     refine Cl' co_rules_truthOf hs92 (c_rules_truthOf N w91 F4 hs92.pers (r87) _ hr96) ?_
     rintro _ F5 w99 hs100 le101 ⟨ar95_0_2, nr95_0_2, rfl, hbr95_0_2, hsr95_0_2⟩
     refine St1 (kExpr r95 ar95_0_2 nr95_0_2) hs100 (fun w103 hs104 => ?_)
     refine Nt ?_
     refine Rt ?_
     refine blockQ_ret ?_
     refine thenQ_ret ?_
     refine thenQ_ret ?_
     obtain rfl := some_inj h97
     exact ⟨rfl, (.agg (kExpr r95 ar95_0_2 nr95_0_2)), res_of (l := [.cell 2 33]) (by kernel_rfl) (vs := [(.agg (kExpr r95 ar95_0_2 nr95_0_2))]) ⟨b24, 0, rfl, run_loadVar' (t := 33) (g := true) (s := 3) (by kernel_rfl) hs104.at1 rfl (by decide), trivial⟩, (.agg (kExpr r95 ar95_0_2 nr95_0_2)), F5, rfl, hs104.clear, ⟨ar95_0_2, nr95_0_2, rfl, hbr95_0_2, hsr95_0_2⟩⟩
    ·refine Sq (Rg [0, 1, 2, 3] ?_)
     refine Vs 1 ?_
     refine Ld hs63.at0 ?_
     refine Vs 2 ?_
     refine Nt ?_
     refine Cd h86 (fun hb105 h106 => ?_) (fun hb105 h107 => ?_)
     ·refine Sq (Rg [0, 1, 2, 3, 4] ?_)
      refine Vs 1 ?_
      refine Ld hs63.at0 ?_
      obtain ⟨x108, hx109, h111⟩ := bind_some h106
      obtain ⟨hi110, hx109'⟩ := idx_spec hx109
      obtain ⟨b112, o113, C114, E115, fz116, rfl, hF118, hE119⟩ := SlA.open (SlA.mono hse44_2 (le60.trans le64)) hx109'
      obtain ⟨ae120_2, ne120_2, hc121, hbe120_2, hse120_2⟩ := (tExpr_open (hE119 _ _ hx109'))
      refine Ix hi110 ?_
      refine Lx 0 (hs63.pers _ _ hF118) hc121 ?_
      refine St1 (kExpr x108 ae120_2 ne120_2) hs63 (fun w122 hs123 => ?_)
      refine Nt ?_
      refine Rt ?_
      refine blockQ_ret ?_
      refine thenQ_ret ?_
      refine thenQ_ret ?_
      obtain rfl := some_inj h111
      exact ⟨rfl, (.agg (kExpr x108 ae120_2 ne120_2)), res_of (l := [.cell 2 33]) (by kernel_rfl) (vs := [(.agg (kExpr x108 ae120_2 ne120_2))]) ⟨b24, 0, rfl, run_loadVar' (t := 33) (g := true) (s := 3) (by kernel_rfl) hs123.at1 rfl (by decide), trivial⟩, (.agg (kExpr x108 ae120_2 ne120_2)), F2, rfl, hs123.clear, ⟨ae120_2, ne120_2, rfl, hbe120_2, hse120_2⟩⟩
     ·refine Sc ?_
      refine blockQ_nrm ?_
      refine thenQ_nrm ?_
      refine Sq (Rg [0, 1] ?_)
      refine Ld hs63.at2 ?_
      refine St1 (kExpr x0 (some ⟨b36, o37, none⟩) n0_2) hs63 (fun w124 hs125 => ?_)
      refine Nt ?_
      refine Rt ?_
      refine thenQ_ret ?_
      obtain rfl := some_inj h107
      exact ⟨rfl, (.agg (kExpr x0 (some ⟨b36, o37, none⟩) n0_2)), res_of (l := [.cell 2 33]) (by kernel_rfl) (vs := [(.agg (kExpr x0 (some ⟨b36, o37, none⟩) n0_2))]) ⟨b24, 0, rfl, run_loadVar' (t := 33) (g := true) (s := 3) (by kernel_rfl) hs125.at1 rfl (by decide), trivial⟩, (.agg (kExpr x0 (some ⟨b36, o37, none⟩) n0_2)), F2, rfl, hs125.clear, ⟨(some ⟨b36, o37, none⟩), n0_2, rfl, hb0_2, (SlA.mono hs0_2 (le60.trans le64))⟩⟩
  ·refine Sc ?_
   refine thenQ_nrm ?_
   refine Sq (Rg [0, 1, 2, 3, 4, 5] ?_)
   refine Vs 1 ?_
   refine Ld hs50.at2 ?_
   obtain ⟨x126, hx127, h129⟩ := bind_some h53
   obtain ⟨hi128, hx127'⟩ := idx_spec hx127
   obtain ⟨ae130_2, ne130_2, hc131, hbe130_2, hse130_2⟩ := (tExpr_open (hE43 _ _ hx127'))
   refine Ix hi128 ?_
   refine Lx 0 (hs50.pers _ _ hF42) hc131 ?_
   refine Al' 33 #[(vi 0), (vi 0), (.slice none ([] : List Expr).length 0)] hs50 (fun b132 w133 hs134 => ?_)
   refine St0 (kExpr x126 ae130_2 ne130_2) hs134 (fun w135 hs136 => ?_)
   refine Nss (Rg [0, 1, 2, 3, 4, 5, 6, 7, 8] ?_)
   refine RWP.cut (fun f w => ∃ (F6 : Mem), HS w0 F0 w F6 [(sb b132 (kExpr x126 ae130_2 ne130_2) 33), (sb b46 (kExpr x32 ae44_2 ne44_2) 33), (sb b24 #[(vi 0), (vi 0), (.slice none ([] : List Expr).length 0)] 33), (sb b21 (kExpr x0 (some ⟨b36, o37, none⟩) n0_2) 33)] ∧ Mem.le F0 F6 ∧ FI f [] [(1, (pt b21 0)), (2, (pt b24 0)), (3, (pt b46 0)), (4, (pt b132 0)), (5, (.bool ((x32.Op == 1) && (x126.Op == 1))))]) ?_ ?_
   ·refine Vs 1 ?_
    refine Ld hs136.at1 ?_
    refine Vs 2 ?_
    refine RWP.split (x32.Op == 1) (fun hb146 => ?_) (fun hb146 => ?_)
    ·refine Vgs hb146 1 ?_
     refine Vg 45 3 3 true 43 hb146 (ld 3 44 b132 0 false 1 (vi x126.Op) hs136.at0) ?_
     refine Vgs hb146 1 ?_
     refine Pk1 hb146 ?_
     refine Vs 1 ?_
     exact RWP.nil ⟨rfl, F0, hs136, (Mem.le.refl _), (fJ ⟨rfl, rfl, rfl, rfl, (congrArg Value.bool (and_t hb146 (rfl))), trivial⟩)⟩
    ·refine Ss hb146 3 ?_
     refine Pk0 hb146 ?_
     refine Vs 1 ?_
     exact RWP.nil ⟨rfl, F0, hs136, (Mem.le.refl _), (fJ ⟨rfl, rfl, rfl, rfl, (congrArg Value.bool (and_f hb146 (rfl))), trivial⟩)⟩
   ·rintro f w137 ⟨F6, hs138, le139, ⟨_, rfl⟩⟩
    refine thenQ_nrm ?_
    refine Sq ?_
    refine Sq (Rg [0, 1] ?_)
    refine Vs 1 ?_
    refine Ld hs138.at3 ?_
    refine Nt ?_
    refine Bk ?_
    refine Sq ?_
    refine Sq (Rg [0, 1] ?_)
    refine Vs 2 ?_
    refine Nt ?_
    refine CWP.cut (fun f w => ∃ (F7 : Mem), HS w0 F0 w F7 [(sb b132 (kExpr x126 ae130_2 ne130_2) 33), (sb b46 (kExpr x32 ae44_2 ne44_2) 33), (sb b24 #[(vi 0), (vi 0), (.slice none ([] : List Expr).length 0)] 33), (sb b21 (kExpr x0 (some ⟨b36, o37, none⟩) n0_2) 33)] ∧ Mem.le F6 F7 ∧ FI f [] [(1, (pt b21 0)), (2, (pt b24 0)), (3, (pt b46 0)), (4, (pt b132 0)), (5, (.bool ((x32.Op == 1) && (x126.Op == 1)))), (49, (vi x0.Op)), (50, (.bool (bif (x0.Op == 6) then (x0.Op == 6) else (x0.Op == 7))))]) ?_ ?_
    ·refine Cp (x0.Op == 6) (fun hb158 => ?_) (fun hb158 => ?_)
     ·refine Sc ?_
      exact .inl ⟨rfl, F6, hs138, (Mem.le.refl _), (fJ ⟨rfl, rfl, rfl, rfl, rfl, rfl, (congrArg Value.bool (bif_t hb158 (rfl))), trivial⟩)⟩
     ·refine Rg [0, 1] ?_
      refine Vs 2 ?_
      refine RWP.nil ?_
      exact .inl ⟨rfl, F6, hs138, (Mem.le.refl _), (fJ ⟨rfl, rfl, rfl, rfl, rfl, rfl, (congrArg Value.bool (bif_f hb158 (rfl))), trivial⟩)⟩
    ·rintro f w147 ⟨F7, hs148, le149, ⟨_, rfl⟩⟩
     refine thenQ_nrm ?_
     refine Cd h129 (fun hb159 h160 => ?_) (fun hb159 h161 => ?_)
     ·refine Sq (Rg [0, 1, 2, 3, 4, 5] ?_)
      obtain ⟨j165, hj173, h174⟩ := bind_some h160
      refine RWP.cut (fun f w => ∃ (F8 : Mem), HS w0 F0 w F8 [(sb b132 (kExpr x126 ae130_2 ne130_2) 33), (sb b46 (kExpr x32 ae44_2 ne44_2) 33), (sb b24 #[(vi 0), (vi 0), (.slice none ([] : List Expr).length 0)] 33), (sb b21 (kExpr x0 (some ⟨b36, o37, none⟩) n0_2) 33)] ∧ Mem.le F7 F8 ∧ FI f [] [(1, (pt b21 0)), (2, (pt b24 0)), (3, (pt b46 0)), (4, (pt b132 0)), (5, (.bool ((x32.Op == 1) && (x126.Op == 1)))), (58, (.bool j165))]) ?_ ?_
      ·refine Vs 2 ?_
       refine Sp hj173 (fun hb175 h176 => ?_) (fun hb175 h177 => ?_)
       ·refine Ss hb175 3 ?_
        refine Pk1 hb175 ?_
        obtain rfl := some_inj h176
        exact RWP.nil ⟨rfl, F7, hs148, (Mem.le.refl _), fI⟩
       ·refine Vg 55 33 1 false 54 hb175 (ld 33 3 b46 0 true 3 (.agg (kExpr x32 ae44_2 ne44_2)) hs148.at1) ?_
        refine Vg 56 33 1 false 54 hb175 (ld 33 4 b132 0 true 3 (.agg (kExpr x126 ae130_2 ne130_2)) hs148.at0) ?_
        obtain ⟨r178, hr179, h180⟩ := bind_some h177
        refine Cg hb175 co_rules_same hs148 (c_rules_same N w147 F7 hs148.pers (x32) ae44_2 ne44_2 hbe44_2 (SlA.mono hse44_2 (le139.trans le149)) (x126) ae130_2 ne130_2 hbe130_2 (SlA.mono hse130_2 (le139.trans le149)) _ hr179) ?_
        rintro _ F9 w182 hs183 le184 rfl
        refine Pk0 hb175 ?_
        obtain rfl := some_inj h180
        exact RWP.nil ⟨rfl, F9, hs183, le184, fI⟩
      ·rintro f w162 ⟨F8, hs163, le164, ⟨_, rfl⟩⟩
       refine thenQ_nrm ?_
       refine Cd h174 (fun hb186 h187 => ?_) (fun hb186 h188 => ?_)
       ·refine Sq (Rg [0, 1, 2, 3, 4, 5, 6, 7, 8, 9, 10, 11, 12, 13, 14, 15, 16, 17, 18, 19, 20, 21, 22, 23, 24] ?_)
        obtain ⟨j192, hj195, h196⟩ := bind_some h187
        refine RWP.cut (fun f w => ∃ (F10 : Mem) (aj192_2 : Option Addr) (nj192_2 : Nat), HS w0 F0 w F10 [(sb b24 #[(vi j192.1), (vi j192.2.1), (.slice aj192_2 j192.2.2.length nj192_2)] 33)] ∧ Mem.le F8 F10 ∧ FI f [] [(2, (pt b24 0))] ∧ LC j192.2.2.length nj192_2 ∧ SlA tExpr F10 aj192_2 j192.2.2) ?_ ?_
        ·refine Vs 1 ?_
         refine Ld hs163.at3 ?_
         refine Vs 2 ?_
         refine Sp hj195 (fun hb197 h198 => ?_) (fun hb197 h199 => ?_)
         ·refine Vg 63 33 3 true 62 hb197 (ld 33 3 b46 0 true 3 (.agg (kExpr x32 ae44_2 ne44_2)) hs163.at1) ?_
          refine Vg 64 33 3 true 62 hb197 (ld 33 4 b132 0 true 3 (.agg (kExpr x126 ae130_2 ne130_2)) hs163.at0) ?_
          obtain ⟨r200, hr201, h202⟩ := bind_some h198
          refine Cg hb197 co_rules_same hs163 (c_rules_same N w162 F8 hs163.pers (x32) ae44_2 ne44_2 hbe44_2 (SlA.mono hse44_2 ((le139.trans le149).trans le164)) (x126) ae130_2 ne130_2 hbe130_2 (SlA.mono hse130_2 ((le139.trans le149).trans le164)) _ hr201) ?_
          rintro _ F11 w204 hs205 le206 rfl
          refine Pk1 hb197 ?_
          refine Vs 1 ?_
          refine Sp h202 (fun hb208 h209 => ?_) (fun hb208 h210 => ?_)
          ·refine Ss hb208 4 ?_
           refine Su' 1 ?_
           refine Ss hb208 2 ?_
           refine Su' 5 ?_
           refine Ss hb208 1 ?_
           refine Pk1 hb208 ?_
           obtain ⟨r211, hr212, h213⟩ := bind_some h209
           refine Cl' co_rules_truthOf hs205 (c_rules_truthOf N w204 F11 hs205.pers (true) _ hr212) ?_
           rintro _ F12 w215 hs216 le217 ⟨ar211_0_2, nr211_0_2, rfl, hbr211_0_2, hsr211_0_2⟩
           refine St2 (kExpr r211 ar211_0_2 nr211_0_2) hs216 (fun w219 hs220 => ?_)
           obtain rfl := some_inj h213
           exact RWP.nil ⟨rfl, F12, ar211_0_2, nr211_0_2, hs220.dr0.dr0.dr1, (le206.trans le217), fI, hbr211_0_2, hsr211_0_2⟩
          ·refine Vgs hb208 1 ?_
           refine Vg 69 3 8 false 67 hb208 (ld 3 68 b21 0 false 1 (vi x0.Op) hs205.at3) ?_
           refine Vgs hb208 2 ?_
           refine Sp h210 (fun hb221 h222 => ?_) (fun hb221 h223 => ?_)
           ·refine Vgs hb221 1 ?_
            refine Vg 73 4 8 false 67 hb208 (p1 71 (.tmp 72) (.const (.bool false)) (.bool ((x32.Op == 1) && (x126.Op == 1))) hb221) ?_
            refine Vgs hb208 1 ?_
            refine Sp h222 (fun hb224 h225 => ?_) (fun hb224 h226 => ?_)
            ·refine Vgs hb224 1 ?_
             refine Vg 76 3 15 true 74 hb224 (ld 3 75 b46 1 false 1 (vi x32.Value) hs205.at1) ?_
             refine Vgs hb224 1 ?_
             refine Vg 78 3 15 true 74 hb224 (ld 3 77 b132 1 false 1 (vi x126.Value) hs205.at0) ?_
             refine Vgs hb224 1 ?_
             refine Vg 80 4 8 false 67 hb208 (p1 74 (.tmp 79) (.const (.bool false)) (.bool (decide (x32.Value < x126.Value))) hb224) ?_
             refine Pk0 hb208 ?_
             obtain ⟨r227, hr228, h229⟩ := bind_some h225
             refine Cl' co_rules_truthOf hs205 (c_rules_truthOf N w204 F11 hs205.pers ((decide (x32.Value < x126.Value))) _ hr228) ?_
             rintro _ F13 w231 hs232 le233 ⟨ar227_0_2, nr227_0_2, rfl, hbr227_0_2, hsr227_0_2⟩
             refine St2 (kExpr r227 ar227_0_2 nr227_0_2) hs232 (fun w235 hs236 => ?_)
             obtain rfl := some_inj h229
             exact RWP.nil ⟨rfl, F13, ar227_0_2, nr227_0_2, hs236.dr0.dr0.dr1, (le206.trans le233), fI, hbr227_0_2, hsr227_0_2⟩
            ·refine Ss hb224 5 ?_
             refine Vg 80 4 8 false 67 hb208 (p0 74 (.tmp 79) (.const (.bool false)) (.bool false) hb224) ?_
             refine Pk0 hb208 ?_
             obtain ⟨r237, hr238, h239⟩ := bind_some h226
             refine Cl' co_rules_truthOf hs205 (c_rules_truthOf N w204 F11 hs205.pers (false) _ hr238) ?_
             rintro _ F14 w241 hs242 le243 ⟨ar237_0_2, nr237_0_2, rfl, hbr237_0_2, hsr237_0_2⟩
             refine St2 (kExpr r237 ar237_0_2 nr237_0_2) hs242 (fun w245 hs246 => ?_)
             obtain rfl := some_inj h239
             exact RWP.nil ⟨rfl, F14, ar237_0_2, nr237_0_2, hs246.dr0.dr0.dr1, (le206.trans le243), fI, hbr237_0_2, hsr237_0_2⟩
           ·refine Ss hb221 1 ?_
            refine Vg 73 4 8 false 67 hb208 (p0 71 (.tmp 72) (.const (.bool false)) (.bool false) hb221) ?_
            refine Vgs hb208 1 ?_
            refine Ss (rfl : false = false) 5 ?_
            refine Vg 80 4 8 false 67 hb208 (p0 74 (.tmp 79) (.const (.bool false)) (.bool false) rfl) ?_
            refine Pk0 hb208 ?_
            obtain ⟨r247, hr248, h249⟩ := bind_some h223
            refine Cl' co_rules_truthOf hs205 (c_rules_truthOf N w204 F11 hs205.pers (false) _ hr248) ?_
            rintro _ F15 w251 hs252 le253 ⟨ar247_0_2, nr247_0_2, rfl, hbr247_0_2, hsr247_0_2⟩
            refine St2 (kExpr r247 ar247_0_2 nr247_0_2) hs252 (fun w255 hs256 => ?_)
            obtain rfl := some_inj h249
            exact RWP.nil ⟨rfl, F15, ar247_0_2, nr247_0_2, hs256.dr0.dr0.dr1, (le206.trans le253), fI, hbr247_0_2, hsr247_0_2⟩
         ·refine Ss hb197 3 ?_
          refine Pk0 hb197 ?_
          refine Vs 1 ?_
          refine Vg 68 0 8 false 67 rfl (fa 33 1 0 0 1 b21 0 0) ?_
          refine Vg 69 3 8 false 67 rfl (ld 3 68 b21 0 false 1 (vi x0.Op) hs163.at3) ?_
          refine Vg 70 4 8 false 67 rfl (run_eql (t := 3) (t' := 3) (x := (.tmp 69)) (y := (.const (vi 7))) (k := .i64) (a := x0.Op) (b := 7) rfl rfl) ?_
          refine Vg 71 4 8 false 67 rfl (mv 70 (.bool (x0.Op == 7))) ?_
          refine Sp h199 (fun hb257 h258 => ?_) (fun hb257 h259 => ?_)
          ·refine Vgs hb257 1 ?_
           refine Vg 73 4 8 false 67 rfl (p1 71 (.tmp 72) (.const (.bool false)) (.bool ((x32.Op == 1) && (x126.Op == 1))) hb257) ?_
           refine Vg 74 4 8 false 67 rfl (mv 73 (.bool ((x32.Op == 1) && (x126.Op == 1)))) ?_
           refine Sp h258 (fun hb260 h261 => ?_) (fun hb260 h262 => ?_)
           ·refine Vgs hb260 1 ?_
            refine Vg 76 3 15 true 74 hb260 (ld 3 75 b46 1 false 1 (vi x32.Value) hs163.at1) ?_
            refine Vgs hb260 1 ?_
            refine Vg 78 3 15 true 74 hb260 (ld 3 77 b132 1 false 1 (vi x126.Value) hs163.at0) ?_
            refine Vgs hb260 1 ?_
            refine Vg 80 4 8 false 67 rfl (p1 74 (.tmp 79) (.const (.bool false)) (.bool (decide (x32.Value < x126.Value))) hb260) ?_
            refine Pk0 (rfl : false = false) ?_
            obtain ⟨r263, hr264, h265⟩ := bind_some h261
            refine Cl' co_rules_truthOf hs163 (c_rules_truthOf N w162 F8 hs163.pers ((decide (x32.Value < x126.Value))) _ hr264) ?_
            rintro _ F16 w267 hs268 le269 ⟨ar263_0_2, nr263_0_2, rfl, hbr263_0_2, hsr263_0_2⟩
            refine St2 (kExpr r263 ar263_0_2 nr263_0_2) hs268 (fun w271 hs272 => ?_)
            obtain rfl := some_inj h265
            exact RWP.nil ⟨rfl, F16, ar263_0_2, nr263_0_2, hs272.dr0.dr0.dr1, le269, fI, hbr263_0_2, hsr263_0_2⟩
           ·refine Ss hb260 5 ?_
            refine Vg 80 4 8 false 67 rfl (p0 74 (.tmp 79) (.const (.bool false)) (.bool false) hb260) ?_
            refine Pk0 (rfl : false = false) ?_
            obtain ⟨r273, hr274, h275⟩ := bind_some h262
            refine Cl' co_rules_truthOf hs163 (c_rules_truthOf N w162 F8 hs163.pers (false) _ hr274) ?_
            rintro _ F17 w277 hs278 le279 ⟨ar273_0_2, nr273_0_2, rfl, hbr273_0_2, hsr273_0_2⟩
            refine St2 (kExpr r273 ar273_0_2 nr273_0_2) hs278 (fun w281 hs282 => ?_)
            obtain rfl := some_inj h275
            exact RWP.nil ⟨rfl, F17, ar273_0_2, nr273_0_2, hs282.dr0.dr0.dr1, le279, fI, hbr273_0_2, hsr273_0_2⟩
          ·refine Ss hb257 1 ?_
           refine Vg 73 4 8 false 67 rfl (p0 71 (.tmp 72) (.const (.bool false)) (.bool false) hb257) ?_
           refine Vg 74 4 8 false 67 rfl (mv 73 (.bool false)) ?_
           refine Ss (rfl : false = false) 5 ?_
           refine Vg 80 4 8 false 67 rfl (p0 74 (.tmp 79) (.const (.bool false)) (.bool false) rfl) ?_
           refine Pk0 (rfl : false = false) ?_
           obtain ⟨r283, hr284, h285⟩ := bind_some h259
           refine Cl' co_rules_truthOf hs163 (c_rules_truthOf N w162 F8 hs163.pers (false) _ hr284) ?_
           rintro _ F18 w287 hs288 le289 ⟨ar283_0_2, nr283_0_2, rfl, hbr283_0_2, hsr283_0_2⟩
           refine St2 (kExpr r283 ar283_0_2 nr283_0_2) hs288 (fun w291 hs292 => ?_)
           obtain rfl := some_inj h285
           exact RWP.nil ⟨rfl, F18, ar283_0_2, nr283_0_2, hs292.dr0.dr0.dr1, le289, fI, hbr283_0_2, hsr283_0_2⟩
        ·rintro f w189 ⟨F10, aj192_2, nj192_2, hs190, le191, ⟨_, rfl⟩, hbj192_2, hsj192_2⟩
         refine thenQ_nrm ?_
         refine Rt ?_
         refine blockQ_ret ?_
         refine thenQ_ret ?_
         obtain rfl := some_inj h196
         exact ⟨rfl, (.agg #[(vi j192.1), (vi j192.2.1), (.slice aj192_2 j192.2.2.length nj192_2)]), res_of (l := [.cell 2 33]) (by kernel_rfl) (vs := [(.agg #[(vi j192.1), (vi j192.2.1), (.slice aj192_2 j192.2.2.length nj192_2)])]) ⟨b24, 0, rfl, run_loadVar' (t := 33) (g := true) (s := 3) (by kernel_rfl) hs190.at0 rfl (by decide), trivial⟩, (.agg #[(vi j192.1), (vi j192.2.1), (.slice aj192_2 j192.2.2.length nj192_2)]), F10, rfl, hs190.clear, ⟨aj192_2, nj192_2, rfl, hbj192_2, hsj192_2⟩⟩
       ·refine Sc ?_
        refine blockQ_nrm ?_
        refine thenQ_nrm ?_
        refine Sq (Rg [0, 1] ?_)
        refine Ld hs163.at3 ?_
        refine St2 (kExpr x0 (some ⟨b36, o37, none⟩) n0_2) hs163 (fun w293 hs294 => ?_)
        refine Nt ?_
        refine Rt ?_
        obtain rfl := some_inj h188
        exact ⟨rfl, (.agg (kExpr x0 (some ⟨b36, o37, none⟩) n0_2)), res_of (l := [.cell 2 33]) (by kernel_rfl) (vs := [(.agg (kExpr x0 (some ⟨b36, o37, none⟩) n0_2))]) ⟨b24, 0, rfl, run_loadVar' (t := 33) (g := true) (s := 3) (by kernel_rfl) hs294.at2 rfl (by decide), trivial⟩, (.agg (kExpr x0 (some ⟨b36, o37, none⟩) n0_2)), F8, rfl, hs294.clear, ⟨(some ⟨b36, o37, none⟩), n0_2, rfl, hb0_2, (SlA.mono hs0_2 ((le139.trans le149).trans le164))⟩⟩
     ·refine Sq ?_
      refine Sq (Rg [0, 1] ?_)
      refine Vs 2 ?_
      refine Nt ?_
      refine CWP.cut (fun f w => ∃ (F19 : Mem), HS w0 F0 w F19 [(sb b132 (kExpr x126 ae130_2 ne130_2) 33), (sb b46 (kExpr x32 ae44_2 ne44_2) 33), (sb b24 #[(vi 0), (vi 0), (.slice none ([] : List Expr).length 0)] 33), (sb b21 (kExpr x0 (some ⟨b36, o37, none⟩) n0_2) 33)] ∧ Mem.le F7 F19 ∧ FI f [] [(1, (pt b21 0)), (2, (pt b24 0)), (3, (pt b46 0)), (4, (pt b132 0)), (5, (.bool ((x32.Op == 1) && (x126.Op == 1)))), (49, (vi x0.Op)), (83, (.bool (bif (x0.Op == 4) then (x0.Op == 4) else (x0.Op == 5))))]) ?_ ?_
      ·refine Cp (x0.Op == 4) (fun hb306 => ?_) (fun hb306 => ?_)
       ·refine Sc ?_
        exact .inl ⟨rfl, F7, hs148, (Mem.le.refl _), (fJ ⟨rfl, rfl, rfl, rfl, rfl, rfl, (congrArg Value.bool (bif_t hb306 (rfl))), trivial⟩)⟩
       ·refine Rg [0, 1] ?_
        refine Vs 2 ?_
        refine RWP.nil ?_
        exact .inl ⟨rfl, F7, hs148, (Mem.le.refl _), (fJ ⟨rfl, rfl, rfl, rfl, rfl, rfl, (congrArg Value.bool (bif_f hb306 (rfl))), trivial⟩)⟩
      ·rintro f w295 ⟨F19, hs296, le297, ⟨_, rfl⟩⟩
       refine thenQ_nrm ?_
       refine Cd h161 (fun hb307 h308 => ?_) (fun hb307 h309 => ?_)
       ·refine Sq (Rg [0, 1, 2, 3, 4] ?_)
        refine Ld hs296.at3 ?_
        refine Ld hs296.at1 ?_
        refine Ld hs296.at0 ?_
        obtain ⟨r310, hr311, h312⟩ := bind_some h308
        refine Cl' co_rules_joined hs296 (c_rules_joined N w295 F19 hs296.pers (x0) (some ⟨b36, o37, none⟩) n0_2 hb0_2 (SlA.mono hs0_2 ((le139.trans le149).trans le297)) (x32) ae44_2 ne44_2 hbe44_2 (SlA.mono hse44_2 ((le139.trans le149).trans le297)) (x126) ae130_2 ne130_2 hbe130_2 (SlA.mono hse130_2 ((le139.trans le149).trans le297)) _ hr311) ?_
        rintro _ F20 w314 hs315 le316 ⟨ar310_0_2, nr310_0_2, rfl, hbr310_0_2, hsr310_0_2⟩
        refine St2 (kExpr r310 ar310_0_2 nr310_0_2) hs315 (fun w318 hs319 => ?_)
        refine Nt ?_
        refine Rt ?_
        refine blockQ_ret ?_
        refine thenQ_ret ?_
        obtain rfl := some_inj h312
        exact ⟨rfl, (.agg (kExpr r310 ar310_0_2 nr310_0_2)), res_of (l := [.cell 2 33]) (by kernel_rfl) (vs := [(.agg (kExpr r310 ar310_0_2 nr310_0_2))]) ⟨b24, 0, rfl, run_loadVar' (t := 33) (g := true) (s := 3) (by kernel_rfl) hs319.at2 rfl (by decide), trivial⟩, (.agg (kExpr r310 ar310_0_2 nr310_0_2)), F20, rfl, hs319.clear, ⟨ar310_0_2, nr310_0_2, rfl, hbr310_0_2, hsr310_0_2⟩⟩
       ·refine Sq ?_
        refine Sq (Rg [0, 1] ?_)
        refine Vs 2 ?_
        refine Nt ?_
        refine CWP.cut (fun f w => ∃ (F21 : Mem), HS w0 F0 w F21 [(sb b132 (kExpr x126 ae130_2 ne130_2) 33), (sb b46 (kExpr x32 ae44_2 ne44_2) 33), (sb b24 #[(vi 0), (vi 0), (.slice none ([] : List Expr).length 0)] 33), (sb b21 (kExpr x0 (some ⟨b36, o37, none⟩) n0_2) 33)] ∧ Mem.le F19 F21 ∧ FI f [] [(1, (pt b21 0)), (2, (pt b24 0)), (3, (pt b46 0)), (4, (pt b132 0)), (5, (.bool ((x32.Op == 1) && (x126.Op == 1)))), (49, (vi x0.Op)), (90, (.bool (bif (x0.Op == 8) then (x0.Op == 8) else (bif (x0.Op == 9) then (x0.Op == 9) else (x0.Op == 10)))))]) ?_ ?_
        ·refine Cp (x0.Op == 8) (fun hb331 => ?_) (fun hb331 => ?_)
         ·refine Sc ?_
          exact .inl ⟨rfl, F19, hs296, (Mem.le.refl _), (fJ ⟨rfl, rfl, rfl, rfl, rfl, rfl, (congrArg Value.bool (bif_t hb331 (rfl))), trivial⟩)⟩
         ·refine Sq (Rg [0, 1] ?_)
          refine Vs 2 ?_
          refine Nt ?_
          refine CWP.cut (fun f w => ∃ (F22 : Mem), HS w0 F0 w F22 [(sb b132 (kExpr x126 ae130_2 ne130_2) 33), (sb b46 (kExpr x32 ae44_2 ne44_2) 33), (sb b24 #[(vi 0), (vi 0), (.slice none ([] : List Expr).length 0)] 33), (sb b21 (kExpr x0 (some ⟨b36, o37, none⟩) n0_2) 33)] ∧ Mem.le F19 F22 ∧ FI f [] [(1, (pt b21 0)), (2, (pt b24 0)), (3, (pt b46 0)), (4, (pt b132 0)), (5, (.bool ((x32.Op == 1) && (x126.Op == 1)))), (49, (vi x0.Op)), (90, (.bool (bif (x0.Op == 9) then (x0.Op == 9) else (x0.Op == 10))))]) ?_ ?_
          ·refine Cp (x0.Op == 9) (fun hb343 => ?_) (fun hb343 => ?_)
           ·refine Sc ?_
            exact .inl ⟨rfl, F19, hs296, (Mem.le.refl _), (fJ ⟨rfl, rfl, rfl, rfl, rfl, rfl, (congrArg Value.bool (bif_t hb343 (rfl))), trivial⟩)⟩
           ·refine Rg [0, 1] ?_
            refine Vs 2 ?_
            refine RWP.nil ?_
            exact .inl ⟨rfl, F19, hs296, (Mem.le.refl _), (fJ ⟨rfl, rfl, rfl, rfl, rfl, rfl, (congrArg Value.bool (bif_f hb343 (rfl))), trivial⟩)⟩
          ·rintro f w332 ⟨F22, hs333, le334, ⟨_, rfl⟩⟩
           exact .inl ⟨rfl, F22, hs333, le334, (fJ ⟨rfl, rfl, rfl, rfl, rfl, rfl, (congrArg Value.bool (bif_f hb331 (rfl))), trivial⟩)⟩
        ·rintro f w320 ⟨F21, hs321, le322, ⟨_, rfl⟩⟩
         refine thenQ_nrm ?_
         refine Cd h309 (fun hb344 h345 => ?_) (fun hb344 h346 => ?_)
         ·refine Sq ?_
          refine Sq ?_
          obtain ⟨j352, hj360, h361⟩ := bind_some h345
          refine RD 4 4 [(sb b132 (kExpr x126 ae130_2 ne130_2) 33), (sb b46 (kExpr x32 ae44_2 ne44_2) 33), (sb b24 #[(vi 0), (vi 0), (.slice none ([] : List Expr).length 0)] 33), (sb b21 (kExpr x0 (some ⟨b36, o37, none⟩) n0_2) 33)] [] hs321 (fun f w => ∃ (F23 : Mem), HS w0 F0 w F23 [(sb b132 (kExpr x126 ae130_2 ne130_2) 33), (sb b46 (kExpr x32 ae44_2 ne44_2) 33), (sb b24 #[(vi 0), (vi 0), (.slice none ([] : List Expr).length 0)] 33), (sb b21 (kExpr x0 (some ⟨b36, o37, none⟩) n0_2) 33)] ∧ Mem.le F21 F23 ∧ FI f [] [(1, (pt b21 0)), (2, (pt b24 0)), (3, (pt b46 0)), (4, (pt b132 0)), (5, (.bool ((x32.Op == 1) && (x126.Op == 1)))), (6, (vi j352))]) (fun wd347 hw348 => ?_) ?_
          ·refine Dl 0 (fun _ hq => (hq.1.2 3 _ _ rfl)) ?_
           refine D1 1 ?_
           obtain ⟨r362, hm363, h364⟩ := bind_some hj360
           refine DStep.makeSlice (l' := [true, true, false, false]) (zd := true) (by kernel_rfl) (by kernel_rfl) (dst := (some 95)) (ty := 47) (g := none) (by kernel_rfl) rfl (x := (.const (vi 14))) (y := (.const (vi 14))) (t := 47) (by_ := 8) (z := (vi 0)) (T := tInt) (E := 3) rfl rfl (by kernel_rfl) (by decide) (by kernel_rfl) (z0 := 0) (fun _ => rfl) (by decide) hw348 hm363 (Mem.le.refl _) (by simp) (fun e => by cases e) (fun b365 n366 C367 w368 (hs369 : HS w0 F0 w368 F21 [(some b365, .cells C367 3 (0, 0)), (sb b132 (kExpr x126 ae130_2 ne130_2) 33), (sb b46 (kExpr x32 ae44_2 ne44_2) 33), (sb b24 #[(vi 0), (vi 0), (.slice none ([] : List Expr).length 0)] 33), (sb b21 (kExpr x0 (some ⟨b36, o37, none⟩) n0_2) 33)]) hr370 => ?_)
           refine D1 2 ?_
           have hb375 := RowR.bound hr370
           obtain ⟨F24, hs372, le373, hs374⟩ := hs369.fr0 hr370
           obtain ⟨r376, hr377, h378⟩ := bind_some h364
           refine DCl co_rules_value hs372 (c_rules_value N w368 F24 hs372.pers (x0) (some ⟨b36, o37, none⟩) n0_2 hb0_2 (SlA.mono hs0_2 ((((le139.trans le149).trans le297).trans le322).trans le373)) (r362) (some ⟨b365, 0, none⟩) n366 hb375 hs374 _ hr377) ?_
           rintro _ F25 w380 hs381 le382 rfl
           refine Dv [3] ?_
           obtain rfl := some_inj h378
           exact DWP.done (by kernel_rfl) ⟨F25, hs381, (le373.trans le382), fI⟩
          ·rintro f w349 ⟨F23, hs350, le351, ⟨_, rfl⟩⟩
           refine thenQ_nrm ?_
           refine Sq (Rg [0, 1, 2, 3, 4] ?_)
           refine RWP.cut (fun f w => ∃ (F26 : Mem), HS w0 F0 w F26 [(sb b132 (kExpr x126 ae130_2 ne130_2) 33), (sb b46 (kExpr x32 ae44_2 ne44_2) 33), (sb b24 #[(vi 0), (vi 0), (.slice none ([] : List Expr).length 0)] 33), (sb b21 (kExpr x0 (some ⟨b36, o37, none⟩) n0_2) 33)] ∧ Mem.le F23 F26 ∧ FI f [] [(1, (pt b21 0)), (2, (pt b24 0)), (3, (pt b46 0)), (4, (pt b132 0)), (6, (vi j352)), (101, (.bool (((x32.Op == 1) && (x126.Op == 1)) && (decide (j352 ≥ 0)))))]) ?_ ?_
           ·refine Vs 2 ?_
            refine RWP.split ((x32.Op == 1) && (x126.Op == 1)) (fun hb394 => ?_) (fun hb394 => ?_)
            ·refine Vgs hb394 2 ?_
             refine Pk1 hb394 ?_
             exact RWP.nil ⟨rfl, F23, hs350, (Mem.le.refl _), (fJ ⟨rfl, rfl, rfl, rfl, rfl, (congrArg Value.bool (and_t hb394 (rfl))), trivial⟩)⟩
            ·refine Ss hb394 2 ?_
             refine Pk0 hb394 ?_
             exact RWP.nil ⟨rfl, F23, hs350, (Mem.le.refl _), (fJ ⟨rfl, rfl, rfl, rfl, rfl, (congrArg Value.bool (and_f hb394 (rfl))), trivial⟩)⟩
           ·rintro f w384 ⟨F26, hs385, le386, ⟨_, rfl⟩⟩
            refine thenQ_nrm ?_
            refine Cd h361 (fun hb395 h396 => ?_) (fun hb395 h397 => ?_)
            ·refine Sq (Rg [0, 1, 2] ?_)
             refine Vs 1 ?_
             obtain ⟨r398, hr399, h400⟩ := bind_some h396
             refine Cl' co_rules_constant hs385 (c_rules_constant N w384 F26 hs385.pers (j352) _ hr399) ?_
             rintro _ F27 w402 hs403 le404 ⟨ar398_0_2, nr398_0_2, rfl, hbr398_0_2, hsr398_0_2⟩
             refine St2 (kExpr r398 ar398_0_2 nr398_0_2) hs403 (fun w406 hs407 => ?_)
             refine Nt ?_
             refine Rt ?_
             refine thenQ_ret ?_
             refine blockQ_ret ?_
             refine thenQ_ret ?_
             obtain rfl := some_inj h400
             exact ⟨rfl, (.agg (kExpr r398 ar398_0_2 nr398_0_2)), res_of (l := [.cell 2 33]) (by kernel_rfl) (vs := [(.agg (kExpr r398 ar398_0_2 nr398_0_2))]) ⟨b24, 0, rfl, run_loadVar' (t := 33) (g := true) (s := 3) (by kernel_rfl) hs407.at2 rfl (by decide), trivial⟩, (.agg (kExpr r398 ar398_0_2 nr398_0_2)), F27, rfl, hs407.clear, ⟨ar398_0_2, nr398_0_2, rfl, hbr398_0_2, hsr398_0_2⟩⟩
            ·refine Sc ?_
             refine thenQ_nrm ?_
             refine Sq (Rg [0, 1, 2, 3, 4] ?_)
             refine Ld hs385.at3 ?_
             refine Ld hs385.at1 ?_
             refine Ld hs385.at0 ?_
             obtain ⟨r408, hr409, h410⟩ := bind_some h397
             refine Cl' co_rules_reckoned hs385 (c_rules_reckoned N w384 F26 hs385.pers (x0) (some ⟨b36, o37, none⟩) n0_2 hb0_2 (SlA.mono hs0_2 (((((le139.trans le149).trans le297).trans le322).trans le351).trans le386)) (x32) ae44_2 ne44_2 hbe44_2 (SlA.mono hse44_2 (((((le139.trans le149).trans le297).trans le322).trans le351).trans le386)) (x126) ae130_2 ne130_2 hbe130_2 (SlA.mono hse130_2 (((((le139.trans le149).trans le297).trans le322).trans le351).trans le386)) _ hr409) ?_
             rintro _ F28 w412 hs413 le414 ⟨ar408_0_2, nr408_0_2, rfl, hbr408_0_2, hsr408_0_2⟩
             refine St2 (kExpr r408 ar408_0_2 nr408_0_2) hs413 (fun w416 hs417 => ?_)
             refine Nt ?_
             refine Rt ?_
             refine blockQ_ret ?_
             refine thenQ_ret ?_
             obtain rfl := some_inj h410
             exact ⟨rfl, (.agg (kExpr r408 ar408_0_2 nr408_0_2)), res_of (l := [.cell 2 33]) (by kernel_rfl) (vs := [(.agg (kExpr r408 ar408_0_2 nr408_0_2))]) ⟨b24, 0, rfl, run_loadVar' (t := 33) (g := true) (s := 3) (by kernel_rfl) hs417.at2 rfl (by decide), trivial⟩, (.agg (kExpr r408 ar408_0_2 nr408_0_2)), F28, rfl, hs417.clear, ⟨ar408_0_2, nr408_0_2, rfl, hbr408_0_2, hsr408_0_2⟩⟩
         ·refine Sq (Rg [0, 1] ?_)
          refine Vs 2 ?_
          refine Nt ?_
          refine Cd h346 (fun hb418 h419 => ?_) (fun hb418 h420 => ?_)
          ·refine Bk ?_
           refine Sq (Rg [0, 1, 2] ?_)
           refine Ld hs321.at1 ?_
           obtain ⟨r421, hr422, h423⟩ := bind_some h419
           refine Cl' co_rules_isTruth hs321 (c_rules_isTruth N w320 F21 hs321.pers (x32) ae44_2 ne44_2 hbe44_2 (SlA.mono hse44_2 (((le139.trans le149).trans le297).trans le322)) (true) _ hr422) ?_
           rintro _ F29 w425 hs426 le427 rfl
           refine Vs 1 ?_
           refine Nt ?_
           refine Cd h423 (fun hb429 h430 => ?_) (fun hb429 h431 => ?_)
           ·refine Sq (Rg [0, 1] ?_)
            refine Ld hs426.at0 ?_
            refine St2 (kExpr x126 ae130_2 ne130_2) hs426 (fun w432 hs433 => ?_)
            refine Nt ?_
            refine Rt ?_
            refine blockQ_ret ?_
            refine blockQ_ret ?_
            refine thenQ_ret ?_
            obtain rfl := some_inj h430
            exact ⟨rfl, (.agg (kExpr x126 ae130_2 ne130_2)), res_of (l := [.cell 2 33]) (by kernel_rfl) (vs := [(.agg (kExpr x126 ae130_2 ne130_2))]) ⟨b24, 0, rfl, run_loadVar' (t := 33) (g := true) (s := 3) (by kernel_rfl) hs433.at2 rfl (by decide), trivial⟩, (.agg (kExpr x126 ae130_2 ne130_2)), F29, rfl, hs433.clear, ⟨ae130_2, ne130_2, rfl, hbe130_2, (SlA.mono hse130_2 ((((le139.trans le149).trans le297).trans le322).trans le427))⟩⟩
           ·refine Sq (Rg [0, 1, 2] ?_)
            refine Ld hs426.at1 ?_
            obtain ⟨r434, hr435, h436⟩ := bind_some h431
            refine Cl' co_rules_isTruth hs426 (c_rules_isTruth N w425 F29 hs426.pers (x32) ae44_2 ne44_2 hbe44_2 (SlA.mono hse44_2 ((((le139.trans le149).trans le297).trans le322).trans le427)) (false) _ hr435) ?_
            rintro _ F30 w438 hs439 le440 rfl
            refine Vs 1 ?_
            refine Nt ?_
            refine Cd h436 (fun hb442 h443 => ?_) (fun hb442 h444 => ?_)
            ·refine Sq (Rg [0, 1, 2, 3, 4] ?_)
             refine Vs 1 ?_
             refine Ld hs439.at3 ?_
             obtain ⟨x445, hx446, h448⟩ := bind_some h443
             obtain ⟨hi447, hx446'⟩ := idx_spec hx446
             obtain ⟨ae449_2, ne449_2, hc450, hbe449_2, hse449_2⟩ := (tExpr_open (hE43 _ _ hx446'))
             refine Ix hi447 ?_
             refine Lx 0 (hs439.pers _ _ ((((((le139.trans le149).trans le297).trans le322).trans le427).trans le440) _ _ hF42)) hc450 ?_
             refine St2 (kExpr x445 ae449_2 ne449_2) hs439 (fun w451 hs452 => ?_)
             refine Nt ?_
             refine Rt ?_
             refine blockQ_ret ?_
             refine blockQ_ret ?_
             refine thenQ_ret ?_
             obtain rfl := some_inj h448
             exact ⟨rfl, (.agg (kExpr x445 ae449_2 ne449_2)), res_of (l := [.cell 2 33]) (by kernel_rfl) (vs := [(.agg (kExpr x445 ae449_2 ne449_2))]) ⟨b24, 0, rfl, run_loadVar' (t := 33) (g := true) (s := 3) (by kernel_rfl) hs452.at2 rfl (by decide), trivial⟩, (.agg (kExpr x445 ae449_2 ne449_2)), F30, rfl, hs452.clear, ⟨ae449_2, ne449_2, rfl, hbe449_2, (SlA.mono hse449_2 (((((le139.trans le149).trans le297).trans le322).trans le427).trans le440))⟩⟩
            ·refine Sq ?_
             obtain ⟨j458, hj464, h465⟩ := bind_some h444
             refine RD 7 7 [(sb b132 (kExpr x126 ae130_2 ne130_2) 33), (sb b46 (kExpr x32 ae44_2 ne44_2) 33), (sb b24 #[(vi 0), (vi 0), (.slice none ([] : List Expr).length 0)] 33), (sb b21 (kExpr x0 (some ⟨b36, o37, none⟩) n0_2) 33)] [] hs439 (fun f w => ∃ (F31 : Mem), HS w0 F0 w F31 [(sb b132 (kExpr x126 ae130_2 ne130_2) 33), (sb b24 #[(vi 0), (vi 0), (.slice none ([] : List Expr).length 0)] 33), (sb b21 (kExpr x0 (some ⟨b36, o37, none⟩) n0_2) 33)] ∧ Mem.le F30 F31 ∧ FI f [] [(1, (pt b21 0)), (2, (pt b24 0)), (4, (pt b132 0)), (121, (.bool j458))]) (fun wd453 hw454 => ?_) ?_
             ·refine Dl 0 (fun _ hq => (hq.1.2 0 _ _ rfl)) ?_
              refine Dv [1] ?_
              refine Dl 2 (fun _ hq => (hq.1.2 3 _ _ rfl)) ?_
              obtain ⟨x466, hx467, h469⟩ := bind_some hj464
              obtain ⟨hi468, hx467'⟩ := idx_spec hx467
              obtain ⟨ae470_2, ne470_2, hc471, hbe470_2, hse470_2⟩ := (tExpr_open (hE43 _ _ hx467'))
              refine Di 3 hi468 ?_
              refine Dx 4 0 (fun _ hq => hq.1.1 _ _ ((((((le139.trans le149).trans le297).trans le322).trans le427).trans le440) _ _ hF42)) hc471 ?_
              refine D1 5 ?_
              obtain ⟨r472, hr473, h474⟩ := bind_some h469
              refine DCl co_rules_same hw454 (c_rules_same N wd453 F30 hw454.pers (x126) ae130_2 ne130_2 hbe130_2 (SlA.mono hse130_2 (((((le139.trans le149).trans le297).trans le322).trans le427).trans le440)) (x466) ae470_2 ne470_2 hbe470_2 (SlA.mono hse470_2 (((((le139.trans le149).trans le297).trans le322).trans le427).trans le440)) _ hr473) ?_
              rintro _ F32 w476 hs477 le478 rfl
              refine Dv [6] ?_
              obtain rfl := some_inj h474
              exact DWP.done (by kernel_rfl) ⟨F32, hs477.dr1, le478, fI⟩
             ·rintro f w455 ⟨F31, hs456, le457, ⟨_, rfl⟩⟩
              refine thenQ_nrm ?_
              refine Cd h465 (fun hb480 h481 => ?_) (fun hb480 h482 => ?_)
              ·refine Sq (Rg [0, 1] ?_)
               refine Ld hs456.at0 ?_
               refine St1 (kExpr x126 ae130_2 ne130_2) hs456 (fun w483 hs484 => ?_)
               refine Nt ?_
               refine Rt ?_
               refine blockQ_ret ?_
               refine blockQ_ret ?_
               refine thenQ_ret ?_
               obtain rfl := some_inj h481
               exact ⟨rfl, (.agg (kExpr x126 ae130_2 ne130_2)), res_of (l := [.cell 2 33]) (by kernel_rfl) (vs := [(.agg (kExpr x126 ae130_2 ne130_2))]) ⟨b24, 0, rfl, run_loadVar' (t := 33) (g := true) (s := 3) (by kernel_rfl) hs484.at1 rfl (by decide), trivial⟩, (.agg (kExpr x126 ae130_2 ne130_2)), F31, rfl, hs484.clear, ⟨ae130_2, ne130_2, rfl, hbe130_2, (SlA.mono hse130_2 ((((((le139.trans le149).trans le297).trans le322).trans le427).trans le440).trans le457))⟩⟩
              ·refine Sc ?_
               refine blockQ_nrm ?_
               refine blockQ_nrm ?_
               refine thenQ_nrm ?_
               refine Sq (Rg [0, 1] ?_)
               refine Ld hs456.at2 ?_
               refine St1 (kExpr x0 (some ⟨b36, o37, none⟩) n0_2) hs456 (fun w485 hs486 => ?_)
               refine Nt ?_
               refine Rt ?_
               obtain rfl := some_inj h482
               exact ⟨rfl, (.agg (kExpr x0 (some ⟨b36, o37, none⟩) n0_2)), res_of (l := [.cell 2 33]) (by kernel_rfl) (vs := [(.agg (kExpr x0 (some ⟨b36, o37, none⟩) n0_2))]) ⟨b24, 0, rfl, run_loadVar' (t := 33) (g := true) (s := 3) (by kernel_rfl) hs486.at1 rfl (by decide), trivial⟩, (.agg (kExpr x0 (some ⟨b36, o37, none⟩) n0_2)), F31, rfl, hs486.clear, ⟨(some ⟨b36, o37, none⟩), n0_2, rfl, hb0_2, (SlA.mono hs0_2 ((((((le139.trans le149).trans le297).trans le322).trans le427).trans le440).trans le457))⟩⟩
          ·refine Sc ?_
           refine blockQ_nrm ?_
           refine thenQ_nrm ?_
           refine Sq (Rg [0, 1] ?_)
           refine Ld hs321.at3 ?_
           refine St2 (kExpr x0 (some ⟨b36, o37, none⟩) n0_2) hs321 (fun w487 hs488 => ?_)
           refine Nt ?_
           refine Rt ?_
           obtain rfl := some_inj h420
           exact ⟨rfl, (.agg (kExpr x0 (some ⟨b36, o37, none⟩) n0_2)), res_of (l := [.cell 2 33]) (by kernel_rfl) (vs := [(.agg (kExpr x0 (some ⟨b36, o37, none⟩) n0_2))]) ⟨b24, 0, rfl, run_loadVar' (t := 33) (g := true) (s := 3) (by kernel_rfl) hs488.at2 rfl (by decide), trivial⟩, (.agg (kExpr x0 (some ⟨b36, o37, none⟩) n0_2)), F21, rfl, hs488.clear, ⟨(some ⟨b36, o37, none⟩), n0_2, rfl, hb0_2, (SlA.mono hs0_2 (((le139.trans le149).trans le297).trans le322))⟩⟩
end Go.Proofs.YtaihlcdkcampbaaGreatDoor
namespace Go.Proofs.YtaihlcdkcampbaaGreatDoor
open Go.Proofs
def Self94 (sR94 : Expr → Option Expr) : Prop := ∀ (w0 : World) (F0 : Mem) (hF : ∀ b o, F0 b = some o → w0.heap[b]? = some o) (x0 : Expr) (a0_2 : Option Addr) (n0_2 : Nat) (hb0_2 : LC x0.Kids.length n0_2) (hs0_2 : SlA tExpr F0 a0_2 x0.Kids) (r : Expr), sR94 x0 = some r → Calls Tryz.prog 94 ([(.agg #[(.int .i64 x0.Op), (.int .i64 x0.Value), (.slice a0_2 x0.Kids.length n0_2)])] : List Value).toArray w0 (FRet w0 F0 fun F' v => ∃ (aq0_2 : Option Addr) (nq0_2 : Nat), v = (.agg #[(.int .i64 r.Op), (.int .i64 r.Value), (.slice aq0_2 r.Kids.length nq0_2)]) ∧ LC r.Kids.length nq0_2 ∧ SlA tExpr F' aq0_2 r.Kids)
theorem co_rules_simplified : CallOk Tryz.prog 94 := fun _ _ => by kernel_rfl
end Go.Proofs.YtaihlcdkcampbaaGreatDoor
namespace Go.Proofs.YtaihlcdkcampbaaGreatDoor
open Go.Proofs
def rules_simplified_L0 (N : Nat) (sR94 : Expr → Option Expr) (x0 : Expr) : (Int × List Expr) → Option (Flow Expr (Int × List Expr)) := fun s37 =>
 (bif (decide (s37.1 < (x0.Kids.length : Int))) then ((idx x0.Kids s37.1).bind fun x63 => (((sR94 x63).bind fun r96 => ((apnd s37.2 [r96]).bind fun r109 => some r109)).bind fun j87 => some (.next ((W64 (s37.1 + 1)), j87)))) else some (.done (s37.1, s37.2)))
def rules_simplified_S (N : Nat) (sR94 : Expr → Option Expr) (x0 : Expr) : Option Expr :=
 ((iter (rules_simplified_L0 N sR94 x0) N (0, ([] : List Expr))).bind fun o => o.k (fun r => some r) (fun s47 => ((rules_simpler N ({ Op := x0.Op, Value := x0.Value, Kids := s47.2 } : Expr)).bind fun r127 => some r127)))
theorem cS_rules_simplified (N : Nat) (sR94 : Expr → Option Expr) (hsR94 : Self94 sR94) (w0 : World) (F0 : Mem) (hF : ∀ b o, F0 b = some o → w0.heap[b]? = some o) (x0 : Expr) (a0_2 : Option Addr) (n0_2 : Nat) (hb0_2 : LC x0.Kids.length n0_2) (hs0_2 : SlA tExpr F0 a0_2 x0.Kids) (r : Expr) (h : rules_simplified_S N sR94 x0 = some r) :
  Calls Tryz.prog 94 ([(.agg (kExpr x0 a0_2 n0_2))] : List Value).toArray w0 (FRet w0 F0 fun F' v => ∃ (aq0_2 : Option Addr) (nq0_2 : Nat), v = (.agg (kExpr r aq0_2 nq0_2)) ∧ LC r.Kids.length nq0_2 ∧ SlA tExpr F' aq0_2 r.Kids) := by
 have hs0 := HS.start hF
 refine Go 28 Tryz.func94 ?_
 refine Sq (Rg [0, 1] ?_)
 refine Bx' 33 (kExpr x0 a0_2 n0_2) hs0 (fun b21 w22 hs23 => ?_)
 refine Al' 33 #[(vi 0), (vi 0), (.slice none ([] : List Expr).length 0)] hs23 (fun b24 w25 hs26 => ?_)
 refine Nss (Rg [0, 1, 2, 3, 4, 5, 6] ?_)
 refine Vs 1 ?_
 refine Ld hs26.at1 ?_
 refine Vs 1 ?_
 refine Ld hs26.at1 ?_
 refine Vs 1 ?_
 refine Al' 33 #[(vi 0), (vi 0), (.slice none ([] : List Expr).length 0)] hs26 (fun b27 w28 hs29 => ?_)
 refine St0 #[(vi x0.Op), (vi x0.Value), (.slice none ([] : List Expr).length 0)] hs29 (fun w30 hs31 => ?_)
 refine Nss ?_
 refine Sq (Rg [0, 1, 2, 3] ?_)
 refine Vs 1 ?_
 refine Ld hs31.at2 ?_
 refine Vs 2 ?_
 refine Nt ?_
 have hs32 := hs31.dr2.dummy (oc #[] 0)
 obtain ⟨o34, ho35, h36⟩ := bind_some h
 refine CWP.cut (fun f w => ∃ (s47 : (Int × List Expr)) (F2 : Mem) (as47_1 : Option Addr) (ns47_1 : Nat) (es47_1 : Option Nat × Obj), o34 = .done s47 ∧ HS w0 F0 w F2 [es47_1, (sb b27 #[(vi x0.Op), (vi x0.Value), (.slice as47_1 s47.2.length ns47_1)] 33), (sb b24 #[(vi 0), (vi 0), (.slice none ([] : List Expr).length 0)] 33)] ∧ Mem.le F0 F2 ∧ FI f [] [(2, (pt b24 0)), (3, (pt b27 0))] ∧ RowR tExpr 33 F2 as47_1 ns47_1 s47.2 es47_1) ?_ ?_
 ·refine Bk ?_
  refine CWP.loop (by kernel_rfl) (fun m f w => ∃ (s37 : (Int × List Expr)) (F1 : Mem) (as37_1 : Option Addr) (ns37_1 : Nat) (es37_1 : Option Nat × Obj), iter (rules_simplified_L0 N sR94 x0) m s37 = some o34 ∧ HS w0 F0 w F1 [es37_1, (sb b27 #[(vi x0.Op), (vi x0.Value), (.slice as37_1 s37.2.length ns37_1)] 33), (sb b24 #[(vi 0), (vi 0), (.slice none ([] : List Expr).length 0)] 33)] ∧ Mem.le F0 F1 ∧ FI f [] [(2, (pt b24 0)), (3, (pt b27 0)), (12, (.slice a0_2 x0.Kids.length n0_2)), (13, (vi (x0.Kids.length : Int))), (14, (vi s37.1))] ∧ RowR tExpr 33 F1 as37_1 ns37_1 s37.2 es37_1) N ⟨(0, ([] : List Expr)), F0, none, 0, (none, .cells #[] 0 (0, 0)), ho35, hs32, (Mem.le.refl _), fI, (RowR.nil tExpr 33 F0 _)⟩ ?_
  rintro m54 f w38 ⟨s37, F1, as37_1, ns37_1, es37_1, hit55, hs39, le40, ⟨_, rfl⟩, hrs37_1⟩
  obtain ⟨m56, fl57, rfl, hb58, hnx59⟩ := iter_step hit55
  refine Sq (Rg [0] ?_)
  refine Vs 1 ?_
  refine Nss ?_
  refine Cd hb58 (fun hb60 h61 => ?_) (fun hb60 h62 => ?_)
  ·refine Sc ?_
   refine thenQ_nrm ?_
   refine Sq ?_
   refine Bk ?_
   refine Sq (Rg [0, 1, 2, 3] ?_)
   obtain ⟨x63, hx64, h66⟩ := bind_some h61
   obtain ⟨hi65, hx64'⟩ := idx_spec hx64
   obtain ⟨b67, o68, C69, E70, fz71, rfl, hF73, hE74⟩ := SlA.open (SlA.mono hs0_2 le40) hx64'
   obtain ⟨ae75_2, ne75_2, hc76, hbe75_2, hse75_2⟩ := (tExpr_open (hE74 _ _ hx64'))
   refine Ix hi65 ?_
   refine Lx 0 (hs39.pers _ _ hF73) hc76 ?_
   refine Al' 33 #[(vi 0), (vi 0), (.slice none ([] : List Expr).length 0)] hs39 (fun b77 w78 hs79 => ?_)
   refine St0 (kExpr x63 ae75_2 ne75_2) hs79 (fun w80 hs81 => ?_)
   refine Nt ?_
   obtain ⟨j87, hj94, h95⟩ := bind_some h66
   refine RD 7 8 [(sb b77 (kExpr x63 ae75_2 ne75_2) 33), (sb b24 #[(vi 0), (vi 0), (.slice none ([] : List Expr).length 0)] 33)] [(sb b27 #[(vi x0.Op), (vi x0.Value), (.slice as37_1 s37.2.length ns37_1)] 33)] hs81 (fun f w => ∃ (F3 : Mem) (aj87_0 : Option Addr) (nj87_0 : Nat) (ej87_0 : Option Nat × Obj), HS w0 F0 w F3 [ej87_0, (sb b27 #[(vi x0.Op), (vi x0.Value), (.slice aj87_0 j87.length nj87_0)] 33), (sb b24 #[(vi 0), (vi 0), (.slice none ([] : List Expr).length 0)] 33)] ∧ Mem.le F1 F3 ∧ FI f [] [(2, (pt b24 0)), (3, (pt b27 0)), (12, (.slice (some ⟨b67, o68, none⟩) x0.Kids.length n0_2)), (13, (vi (x0.Kids.length : Int))), (14, (vi s37.1))] ∧ RowR tExpr 33 F3 aj87_0 nj87_0 j87 ej87_0) (fun wd82 hw83 => ?_) ?_
   ·refine Dv [0] ?_
    refine Dl 1 (fun _ hq => ((hq.2 rfl).2 0 _ _ rfl)) ?_
    refine Dl 2 (fun _ hq => (hq.1.2 0 _ _ rfl)) ?_
    refine D1 3 ?_
    obtain ⟨r96, hr97, h98⟩ := bind_some hj94
    refine DCl co_rules_simplified hw83 (hsR94 wd82 F1 hw83.pers (x63) ae75_2 ne75_2 hbe75_2 hse75_2 _ hr97) ?_
    rintro _ F4 w100 hs101 le102 ⟨ar96_0_2, nr96_0_2, rfl, hbr96_0_2, hsr96_0_2⟩
    refine D1 4 ?_
    refine DBs 33 [(vi r96.Op), (vi r96.Value), (.slice ar96_0_2 r96.Kids.length nr96_0_2)] hs101 le102 (fun b104 w105 hs106 => ?_)
    have hr108 : RowR tExpr 33 F4 (some ⟨b104, 0, none⟩) 1 [r96] (some b104, .cells ([(vi r96.Op), (vi r96.Value), (.slice ar96_0_2 r96.Kids.length nr96_0_2)] : List Value).toArray 33 (0, 0)) := RowR.lit ⟨(tExpr_mk ⟨ar96_0_2, nr96_0_2, rfl, hbr96_0_2, hsr96_0_2⟩), rfl⟩ (by simp)
    refine D1 5 ?_
    obtain ⟨r109, hap110, h111⟩ := bind_some h98
    refine DAp2 oExpr hs106 (hrs37_1.mono le102) (hs106.rd0 hr108) hap110 le102 (fun a112 n113 e114 w115 hs116 hr117 => ?_)
    refine Dv [6] ?_
    refine D1 7 ?_
    refine DSt3 #[(vi x0.Op), (vi x0.Value), (.slice a112 r109.length n113)] hs116 le102 (fun w118 hs119 => ?_)
    obtain rfl := some_inj h111
    exact DWP.done (by kernel_rfl) ⟨F4, a112, n113, e114, hs119.dr0.dr0, le102, fI, hr117⟩
   ·rintro f w84 ⟨F3, aj87_0, nj87_0, ej87_0, hs85, le86, ⟨_, rfl⟩, hrj87_0⟩
    refine blockQ_nrm ?_
    refine thenQ_nrm ?_
    refine Rg [0, 1] ?_
    refine Vs 2 ?_
    refine RWP.nil ?_
    have hn120 := iter_next h95 hnx59
    exact ⟨m56, Nat.lt_succ_self _, ((W64 (s37.1 + 1)), j87), F3, aj87_0, nj87_0, ej87_0, hn120, hs85, (le40.trans le86), fI, hrj87_0⟩
  ·refine Ex ?_
   refine thenQ_ex ?_
   refine thenQ_ex ?_
   refine blockQ_hit rfl ?_
   have ho121 := iter_done h62 hnx59
   exact .inl ⟨rfl, (s37.1, s37.2), F1, as37_1, ns37_1, es37_1, ho121, hs39, le40, fI, hrs37_1⟩
 ·rintro f w48 ⟨s47, F2, as47_1, ns47_1, es47_1, rfl, hs49, le50, ⟨_, rfl⟩, hrs47_1⟩
  have h122 := k_done h36
  refine thenQ_nrm ?_
  refine Sq (Rg [0, 1, 2] ?_)
  refine Ld hs49.at1 ?_
  have hb126 := RowR.bound hrs47_1
  obtain ⟨F5, hs123, le124, hs125⟩ := hs49.fr0 hrs47_1
  obtain ⟨r127, hr128, h129⟩ := bind_some h122
  refine Cl' co_rules_simpler hs123 (c_rules_simpler N w48 F5 hs123.pers (({ Op := x0.Op, Value := x0.Value, Kids := s47.2 } : Expr)) as47_1 ns47_1 hb126 hs125 _ hr128) ?_
  rintro _ F6 w131 hs132 le133 ⟨ar127_0_2, nr127_0_2, rfl, hbr127_0_2, hsr127_0_2⟩
  refine St1 (kExpr r127 ar127_0_2 nr127_0_2) hs132 (fun w135 hs136 => ?_)
  refine Nt ?_
  refine Rt ?_
  obtain rfl := some_inj h129
  exact ⟨rfl, (.agg (kExpr r127 ar127_0_2 nr127_0_2)), res_of (l := [.cell 2 33]) (by kernel_rfl) (vs := [(.agg (kExpr r127 ar127_0_2 nr127_0_2))]) ⟨b24, 0, rfl, run_loadVar' (t := 33) (g := true) (s := 3) (by kernel_rfl) hs136.at1 rfl (by decide), trivial⟩, (.agg (kExpr r127 ar127_0_2 nr127_0_2)), F6, rfl, hs136.clear, ⟨ar127_0_2, nr127_0_2, rfl, hbr127_0_2, hsr127_0_2⟩⟩
end Go.Proofs.YtaihlcdkcampbaaGreatDoor
namespace Go.Proofs.YtaihlcdkcampbaaGreatDoor
open Go.Proofs
structure Rec94 where
 q94 : Expr → Option Expr
def rec94 (N : Nat) : Nat → Rec94
 | 0 => ⟨fun _ => none⟩
 | k + 1 => ⟨rules_simplified_S N (rec94 N k).q94⟩
theorem rec94_ok (N : Nat) : ∀ k, Self94 (rec94 N k).q94
 | 0 => (by unfold Self94; intros; rename_i h; cases h)
 | k + 1 => by
  have ih := rec94_ok N k
  exact @cS_rules_simplified N (rec94 N k).q94 ih
def rules_simplified (N : Nat) (x0 : Expr) : Option Expr := (rec94 N N).q94 x0
theorem c_rules_simplified (N : Nat) (w0 : World) (F0 : Mem) (hF : ∀ b o, F0 b = some o → w0.heap[b]? = some o) (x0 : Expr) (a0_2 : Option Addr) (n0_2 : Nat) (hb0_2 : LC x0.Kids.length n0_2) (hs0_2 : SlA tExpr F0 a0_2 x0.Kids) (r : Expr) (h : rules_simplified N x0 = some r) :
  Calls Tryz.prog 94 ([(.agg #[(.int .i64 x0.Op), (.int .i64 x0.Value), (.slice a0_2 x0.Kids.length n0_2)])] : List Value).toArray w0 (FRet w0 F0 fun F' v => ∃ (aq0_2 : Option Addr) (nq0_2 : Nat), v = (.agg #[(.int .i64 r.Op), (.int .i64 r.Value), (.slice aq0_2 r.Kids.length nq0_2)]) ∧ LC r.Kids.length nq0_2 ∧ SlA tExpr F' aq0_2 r.Kids) := (rec94_ok N N) w0 F0 hF x0 a0_2 n0_2 hb0_2 hs0_2 r h
end Go.Proofs.YtaihlcdkcampbaaGreatDoor
namespace Go.Proofs.YtaihlcdkcampbaaGreatDoor
open Go.Proofs
def rules_Simplify (N : Nat) (x0 : Expr) : Option (Expr × Int) :=
 ((rules_sound N x0).bind fun r27 => (bif (!r27) then some (({ Op := 0, Value := 0, Kids := ([] : List Expr) } : Expr), 61) else ((rules_simplified N x0).bind fun r40 => some (r40, 0))))
theorem co_rules_Simplify : CallOk Tryz.prog 30 := fun _ _ => by kernel_rfl
theorem c_rules_Simplify (N : Nat) (w0 : World) (F0 : Mem) (hF : ∀ b o, F0 b = some o → w0.heap[b]? = some o) (x0 : Expr) (a0_2 : Option Addr) (n0_2 : Nat) (hb0_2 : LC x0.Kids.length n0_2) (hs0_2 : SlA tExpr F0 a0_2 x0.Kids) (r : (Expr × Int)) (h : rules_Simplify N x0 = some r) :
  Calls Tryz.prog 30 ([(.agg (kExpr x0 a0_2 n0_2))] : List Value).toArray w0 (FRet w0 F0 fun F' v => ∃ (aq0_2 : Option Addr) (nq0_2 : Nat), v = (.tuple #[(.agg (kExpr r.1 aq0_2 nq0_2)), (vi r.2)]) ∧ LC r.1.Kids.length nq0_2 ∧ SlA tExpr F' aq0_2 r.1.Kids) := by
 have hs0 := HS.start hF
 refine Go 10 Tryz.func30 ?_
 refine Sq (Rg [0, 1, 2] ?_)
 refine Bx' 33 (kExpr x0 a0_2 n0_2) hs0 (fun b21 w22 hs23 => ?_)
 refine Al' 33 #[(vi 0), (vi 0), (.slice none ([] : List Expr).length 0)] hs23 (fun b24 w25 hs26 => ?_)
 refine Vs 1 ?_
 refine Nss ?_
 refine Sq (Rg [0, 1, 2] ?_)
 refine Ld hs26.at1 ?_
 obtain ⟨r27, hr28, h29⟩ := bind_some h
 refine Cl' co_rules_sound hs26 (c_rules_sound N w25 F0 hs26.pers (x0) a0_2 n0_2 hb0_2 hs0_2 _ hr28) ?_
 rintro _ F1 w31 hs32 le33 rfl
 refine Vs 1 ?_
 refine Nt ?_
 refine Cd h29 (fun hb35 h36 => ?_) (fun hb35 h37 => ?_)
 ·refine Sq (Rg [0, 1, 2] ?_)
  refine Vs 1 ?_
  refine St0 #[(vi 0), (vi 0), (.slice none ([] : List Expr).length 0)] hs32 (fun w38 hs39 => ?_)
  refine Vs 1 ?_
  refine Nt ?_
  refine Rt ?_
  refine thenQ_ret ?_
  obtain rfl := some_inj h36
  exact ⟨rfl, (.tuple #[(.agg #[(vi 0), (vi 0), (.slice none ([] : List Expr).length 0)]), (vi 61)]), res_of (l := [.cell 2 33, .tmp 3]) (by kernel_rfl) (vs := [(.agg #[(vi 0), (vi 0), (.slice none ([] : List Expr).length 0)]), (vi 61)]) ⟨b24, 0, rfl, run_loadVar' (t := 33) (g := true) (s := 3) (by kernel_rfl) hs39.at0 rfl (by decide), ⟨rfl, trivial⟩⟩, (.tuple #[(.agg #[(vi 0), (vi 0), (.slice none ([] : List Expr).length 0)]), (vi 61)]), F1, rfl, hs39.clear, ⟨none, 0, rfl, LC.nil, (.inl rfl)⟩⟩
 ·refine Sc ?_
  refine thenQ_nrm ?_
  refine Sq (Rg [0, 1, 2, 3] ?_)
  refine Ld hs32.at1 ?_
  obtain ⟨r40, hr41, h42⟩ := bind_some h37
  refine Cl' co_rules_simplified hs32 (c_rules_simplified N w31 F1 hs32.pers (x0) a0_2 n0_2 hb0_2 (SlA.mono hs0_2 le33) _ hr41) ?_
  rintro _ F2 w44 hs45 le46 ⟨ar40_0_2, nr40_0_2, rfl, hbr40_0_2, hsr40_0_2⟩
  refine St0 (kExpr r40 ar40_0_2 nr40_0_2) hs45 (fun w48 hs49 => ?_)
  refine Vs 1 ?_
  refine Nt ?_
  refine Rt ?_
  obtain rfl := some_inj h42
  exact ⟨rfl, (.tuple #[(.agg (kExpr r40 ar40_0_2 nr40_0_2)), (vi 0)]), res_of (l := [.cell 2 33, .tmp 3]) (by kernel_rfl) (vs := [(.agg (kExpr r40 ar40_0_2 nr40_0_2)), (vi 0)]) ⟨b24, 0, rfl, run_loadVar' (t := 33) (g := true) (s := 3) (by kernel_rfl) hs49.at0 rfl (by decide), ⟨rfl, trivial⟩⟩, (.tuple #[(.agg (kExpr r40 ar40_0_2 nr40_0_2)), (vi 0)]), F2, rfl, hs49.clear, ⟨ar40_0_2, nr40_0_2, rfl, hbr40_0_2, hsr40_0_2⟩⟩
end Go.Proofs.YtaihlcdkcampbaaGreatDoor
namespace Go.Proofs.YtaihlcdkcampbaaGreatDoor
open Go.Proofs
def rules_signOf (N : Nat) (x0 : Int) : Option (rules_sign × Bool) :=
 (bif (x0 == 5) then some (({ text_ := ([111, 114] : List UInt8), rank_ := 1, left_ := 1, right_ := 2 } : rules_sign), true) else (bif (x0 == 4) then some (({ text_ := ([97, 110, 100] : List UInt8), rank_ := 2, left_ := 2, right_ := 3 } : rules_sign), true) else (bif (x0 == 6) then some (({ text_ := ([61] : List UInt8), rank_ := 4, left_ := 5, right_ := 5 } : rules_sign), true) else (bif (x0 == 7) then some (({ text_ := ([60] : List UInt8), rank_ := 4, left_ := 5, right_ := 5 } : rules_sign), true) else (bif (x0 == 8) then some (({ text_ := ([43] : List UInt8), rank_ := 5, left_ := 5, right_ := 6 } : rules_sign), true) else (bif (x0 == 9) then some (({ text_ := ([45] : List UInt8), rank_ := 5, left_ := 5, right_ := 6 } : rules_sign), true) else (bif (x0 == 10) then some (({ text_ := ([42] : List UInt8), rank_ := 6, left_ := 6, right_ := 7 } : rules_sign), true) else some (({ text_ := ([] : List UInt8), rank_ := 0, left_ := 0, right_ := 0 } : rules_sign), false))))))))
theorem co_rules_signOf : CallOk Tryz.prog 150 := fun _ _ => by kernel_rfl
theorem c_rules_signOf (N : Nat) (w0 : World) (F0 : Mem) (hF : ∀ b o, F0 b = some o → w0.heap[b]? = some o) (x0 : Int) (r : (rules_sign × Bool)) (h : rules_signOf N x0 = some r) :
  Calls Tryz.prog 150 ([(vi x0)] : List Value).toArray w0 (FRet w0 F0 fun F' v => v = (.tuple #[(.agg (krules_sign r.1)), (.bool r.2)])) := by
 have hs0 := HS.start hF
 refine Go 27 Tryz.func150 ?_
 refine Sq (Rg [0, 1] ?_)
 refine Al' 173 #[(.string ⟨(([] : List UInt8)).toArray⟩), (vi 0), (vi 0), (vi 0)] hs0 (fun b21 w22 hs23 => ?_)
 refine Vs 1 ?_
 refine Nss ?_
 refine Sq (Rg [0] ?_)
 refine Vs 1 ?_
 refine Nt ?_
 refine Bk ?_
 refine Sq (Rg [0, 1] ?_)
 refine Vs 2 ?_
 refine Nt ?_
 refine Cd h (fun hb24 h25 => ?_) (fun hb24 h26 => ?_)
 ·refine Sq (Rg [0, 1, 2] ?_)
  refine Vs 1 ?_
  refine St0 #[(.string ⟨(([111, 114] : List UInt8)).toArray⟩), (vi 1), (vi 1), (vi 2)] hs23 (fun w27 hs28 => ?_)
  refine Vs 1 ?_
  refine Nt ?_
  refine Rt ?_
  refine blockQ_ret ?_
  refine thenQ_ret ?_
  obtain rfl := some_inj h25
  exact ⟨rfl, (.tuple #[(.agg #[(.string ⟨(([111, 114] : List UInt8)).toArray⟩), (vi 1), (vi 1), (vi 2)]), (.bool true)]), res_of (l := [.cell 2 173, .tmp 3]) (by kernel_rfl) (vs := [(.agg #[(.string ⟨(([111, 114] : List UInt8)).toArray⟩), (vi 1), (vi 1), (vi 2)]), (.bool true)]) ⟨b21, 0, rfl, run_loadVar' (t := 173) (g := true) (s := 4) (by kernel_rfl) hs28.at0 rfl (by decide), ⟨rfl, trivial⟩⟩, (.tuple #[(.agg #[(.string ⟨(([111, 114] : List UInt8)).toArray⟩), (vi 1), (vi 1), (vi 2)]), (.bool true)]), F0, rfl, hs28.clear, rfl⟩
 ·refine Sq (Rg [0, 1] ?_)
  refine Vs 2 ?_
  refine Nt ?_
  refine Cd h26 (fun hb29 h30 => ?_) (fun hb29 h31 => ?_)
  ·refine Sq (Rg [0, 1, 2] ?_)
   refine Vs 1 ?_
   refine St0 #[(.string ⟨(([97, 110, 100] : List UInt8)).toArray⟩), (vi 2), (vi 2), (vi 3)] hs23 (fun w32 hs33 => ?_)
   refine Vs 1 ?_
   refine Nt ?_
   refine Rt ?_
   refine blockQ_ret ?_
   refine thenQ_ret ?_
   obtain rfl := some_inj h30
   exact ⟨rfl, (.tuple #[(.agg #[(.string ⟨(([97, 110, 100] : List UInt8)).toArray⟩), (vi 2), (vi 2), (vi 3)]), (.bool true)]), res_of (l := [.cell 2 173, .tmp 3]) (by kernel_rfl) (vs := [(.agg #[(.string ⟨(([97, 110, 100] : List UInt8)).toArray⟩), (vi 2), (vi 2), (vi 3)]), (.bool true)]) ⟨b21, 0, rfl, run_loadVar' (t := 173) (g := true) (s := 4) (by kernel_rfl) hs33.at0 rfl (by decide), ⟨rfl, trivial⟩⟩, (.tuple #[(.agg #[(.string ⟨(([97, 110, 100] : List UInt8)).toArray⟩), (vi 2), (vi 2), (vi 3)]), (.bool true)]), F0, rfl, hs33.clear, rfl⟩
  ·refine Sq (Rg [0, 1] ?_)
   refine Vs 2 ?_
   refine Nt ?_
   refine Cd h31 (fun hb34 h35 => ?_) (fun hb34 h36 => ?_)
   ·refine Sq (Rg [0, 1, 2] ?_)
    refine Vs 1 ?_
    refine St0 #[(.string ⟨(([61] : List UInt8)).toArray⟩), (vi 4), (vi 5), (vi 5)] hs23 (fun w37 hs38 => ?_)
    refine Vs 1 ?_
    refine Nt ?_
    refine Rt ?_
    refine blockQ_ret ?_
    refine thenQ_ret ?_
    obtain rfl := some_inj h35
    exact ⟨rfl, (.tuple #[(.agg #[(.string ⟨(([61] : List UInt8)).toArray⟩), (vi 4), (vi 5), (vi 5)]), (.bool true)]), res_of (l := [.cell 2 173, .tmp 3]) (by kernel_rfl) (vs := [(.agg #[(.string ⟨(([61] : List UInt8)).toArray⟩), (vi 4), (vi 5), (vi 5)]), (.bool true)]) ⟨b21, 0, rfl, run_loadVar' (t := 173) (g := true) (s := 4) (by kernel_rfl) hs38.at0 rfl (by decide), ⟨rfl, trivial⟩⟩, (.tuple #[(.agg #[(.string ⟨(([61] : List UInt8)).toArray⟩), (vi 4), (vi 5), (vi 5)]), (.bool true)]), F0, rfl, hs38.clear, rfl⟩
   ·refine Sq (Rg [0, 1] ?_)
    refine Vs 2 ?_
    refine Nt ?_
    refine Cd h36 (fun hb39 h40 => ?_) (fun hb39 h41 => ?_)
    ·refine Sq (Rg [0, 1, 2] ?_)
     refine Vs 1 ?_
     refine St0 #[(.string ⟨(([60] : List UInt8)).toArray⟩), (vi 4), (vi 5), (vi 5)] hs23 (fun w42 hs43 => ?_)
     refine Vs 1 ?_
     refine Nt ?_
     refine Rt ?_
     refine blockQ_ret ?_
     refine thenQ_ret ?_
     obtain rfl := some_inj h40
     exact ⟨rfl, (.tuple #[(.agg #[(.string ⟨(([60] : List UInt8)).toArray⟩), (vi 4), (vi 5), (vi 5)]), (.bool true)]), res_of (l := [.cell 2 173, .tmp 3]) (by kernel_rfl) (vs := [(.agg #[(.string ⟨(([60] : List UInt8)).toArray⟩), (vi 4), (vi 5), (vi 5)]), (.bool true)]) ⟨b21, 0, rfl, run_loadVar' (t := 173) (g := true) (s := 4) (by kernel_rfl) hs43.at0 rfl (by decide), ⟨rfl, trivial⟩⟩, (.tuple #[(.agg #[(.string ⟨(([60] : List UInt8)).toArray⟩), (vi 4), (vi 5), (vi 5)]), (.bool true)]), F0, rfl, hs43.clear, rfl⟩
    ·refine Sq (Rg [0, 1] ?_)
     refine Vs 2 ?_
     refine Nt ?_
     refine Cd h41 (fun hb44 h45 => ?_) (fun hb44 h46 => ?_)
     ·refine Sq (Rg [0, 1, 2] ?_)
      refine Vs 1 ?_
      refine St0 #[(.string ⟨(([43] : List UInt8)).toArray⟩), (vi 5), (vi 5), (vi 6)] hs23 (fun w47 hs48 => ?_)
      refine Vs 1 ?_
      refine Nt ?_
      refine Rt ?_
      refine blockQ_ret ?_
      refine thenQ_ret ?_
      obtain rfl := some_inj h45
      exact ⟨rfl, (.tuple #[(.agg #[(.string ⟨(([43] : List UInt8)).toArray⟩), (vi 5), (vi 5), (vi 6)]), (.bool true)]), res_of (l := [.cell 2 173, .tmp 3]) (by kernel_rfl) (vs := [(.agg #[(.string ⟨(([43] : List UInt8)).toArray⟩), (vi 5), (vi 5), (vi 6)]), (.bool true)]) ⟨b21, 0, rfl, run_loadVar' (t := 173) (g := true) (s := 4) (by kernel_rfl) hs48.at0 rfl (by decide), ⟨rfl, trivial⟩⟩, (.tuple #[(.agg #[(.string ⟨(([43] : List UInt8)).toArray⟩), (vi 5), (vi 5), (vi 6)]), (.bool true)]), F0, rfl, hs48.clear, rfl⟩
     ·refine Sq (Rg [0, 1] ?_)
      refine Vs 2 ?_
      refine Nt ?_
      refine Cd h46 (fun hb49 h50 => ?_) (fun hb49 h51 => ?_)
      ·refine Sq (Rg [0, 1, 2] ?_)
       refine Vs 1 ?_
       refine St0 #[(.string ⟨(([45] : List UInt8)).toArray⟩), (vi 5), (vi 5), (vi 6)] hs23 (fun w52 hs53 => ?_)
       refine Vs 1 ?_
       refine Nt ?_
       refine Rt ?_
       refine blockQ_ret ?_
       refine thenQ_ret ?_
       obtain rfl := some_inj h50
       exact ⟨rfl, (.tuple #[(.agg #[(.string ⟨(([45] : List UInt8)).toArray⟩), (vi 5), (vi 5), (vi 6)]), (.bool true)]), res_of (l := [.cell 2 173, .tmp 3]) (by kernel_rfl) (vs := [(.agg #[(.string ⟨(([45] : List UInt8)).toArray⟩), (vi 5), (vi 5), (vi 6)]), (.bool true)]) ⟨b21, 0, rfl, run_loadVar' (t := 173) (g := true) (s := 4) (by kernel_rfl) hs53.at0 rfl (by decide), ⟨rfl, trivial⟩⟩, (.tuple #[(.agg #[(.string ⟨(([45] : List UInt8)).toArray⟩), (vi 5), (vi 5), (vi 6)]), (.bool true)]), F0, rfl, hs53.clear, rfl⟩
      ·refine Sq (Rg [0, 1] ?_)
       refine Vs 2 ?_
       refine Nt ?_
       refine Cd h51 (fun hb54 h55 => ?_) (fun hb54 h56 => ?_)
       ·refine Sq (Rg [0, 1, 2] ?_)
        refine Vs 1 ?_
        refine St0 #[(.string ⟨(([42] : List UInt8)).toArray⟩), (vi 6), (vi 6), (vi 7)] hs23 (fun w57 hs58 => ?_)
        refine Vs 1 ?_
        refine Nt ?_
        refine Rt ?_
        refine blockQ_ret ?_
        refine thenQ_ret ?_
        obtain rfl := some_inj h55
        exact ⟨rfl, (.tuple #[(.agg #[(.string ⟨(([42] : List UInt8)).toArray⟩), (vi 6), (vi 6), (vi 7)]), (.bool true)]), res_of (l := [.cell 2 173, .tmp 3]) (by kernel_rfl) (vs := [(.agg #[(.string ⟨(([42] : List UInt8)).toArray⟩), (vi 6), (vi 6), (vi 7)]), (.bool true)]) ⟨b21, 0, rfl, run_loadVar' (t := 173) (g := true) (s := 4) (by kernel_rfl) hs58.at0 rfl (by decide), ⟨rfl, trivial⟩⟩, (.tuple #[(.agg #[(.string ⟨(([42] : List UInt8)).toArray⟩), (vi 6), (vi 6), (vi 7)]), (.bool true)]), F0, rfl, hs58.clear, rfl⟩
       ·refine Sc ?_
        refine blockQ_nrm ?_
        refine thenQ_nrm ?_
        refine Sq (Rg [0, 1, 2] ?_)
        refine Vs 1 ?_
        refine St0 #[(.string ⟨(([] : List UInt8)).toArray⟩), (vi 0), (vi 0), (vi 0)] hs23 (fun w59 hs60 => ?_)
        refine Vs 1 ?_
        refine Nt ?_
        refine Rt ?_
        obtain rfl := some_inj h56
        exact ⟨rfl, (.tuple #[(.agg #[(.string ⟨(([] : List UInt8)).toArray⟩), (vi 0), (vi 0), (vi 0)]), (.bool false)]), res_of (l := [.cell 2 173, .tmp 3]) (by kernel_rfl) (vs := [(.agg #[(.string ⟨(([] : List UInt8)).toArray⟩), (vi 0), (vi 0), (vi 0)]), (.bool false)]) ⟨b21, 0, rfl, run_loadVar' (t := 173) (g := true) (s := 4) (by kernel_rfl) hs60.at0 rfl (by decide), ⟨rfl, trivial⟩⟩, (.tuple #[(.agg #[(.string ⟨(([] : List UInt8)).toArray⟩), (vi 0), (vi 0), (vi 0)]), (.bool false)]), F0, rfl, hs60.clear, rfl⟩
end Go.Proofs.YtaihlcdkcampbaaGreatDoor
namespace Go.Proofs.YtaihlcdkcampbaaGreatDoor
open Go.Proofs
def rules_names (N : Nat)  : Option (List (List UInt8)) :=
 some [([98, 97, 110, 100] : List UInt8), ([109, 111, 100, 101] : List UInt8), ([104, 111, 117, 114] : List UInt8), ([109, 121, 99, 111, 117, 110, 116, 114, 121] : List UInt8), ([109, 121, 122, 111, 110, 101] : List UInt8), ([109, 121, 99, 111, 110, 116, 105, 110, 101, 110, 116] : List UInt8), ([99, 111, 117, 110, 116, 114, 121] : List UInt8), ([122, 111, 110, 101] : List UInt8), ([99, 111, 110, 116, 105, 110, 101, 110, 116] : List UInt8), ([99, 97, 108, 108] : List UInt8), ([103, 111, 116, 122, 111, 110, 101] : List UInt8), ([99, 97, 116, 101, 103, 111, 114, 121] : List UInt8), ([112, 111, 119, 101, 114] : List UInt8), ([115, 116, 97, 116, 117, 115] : List UInt8)]
theorem co_rules_names : CallOk Tryz.prog 152 := fun _ _ => by kernel_rfl
theorem c_rules_names (N : Nat) (w0 : World) (F0 : Mem) (hF : ∀ b o, F0 b = some o → w0.heap[b]? = some o)  (r : (List (List UInt8))) (h : rules_names N  = some r) :
  Calls Tryz.prog 152 ([] : List Value).toArray w0 (FRet w0 F0 fun F' v => ∃ (aq0_0 : Option Addr) (nq0_0 : Nat), v = (.slice aq0_0 r.length nq0_0) ∧ LC r.length nq0_0 ∧ SlA tStr F' aq0_0 r) := by
 have hs0 := HS.start hF
 refine Go 2 Tryz.func152 ?_
 refine Sq (Rg [0] ?_)
 refine Vs 1 ?_
 refine Nss (Rg [0, 1] ?_)
 refine Bs 9 [(.string ⟨(([98, 97, 110, 100] : List UInt8)).toArray⟩), (.string ⟨(([109, 111, 100, 101] : List UInt8)).toArray⟩), (.string ⟨(([104, 111, 117, 114] : List UInt8)).toArray⟩), (.string ⟨(([109, 121, 99, 111, 117, 110, 116, 114, 121] : List UInt8)).toArray⟩), (.string ⟨(([109, 121, 122, 111, 110, 101] : List UInt8)).toArray⟩), (.string ⟨(([109, 121, 99, 111, 110, 116, 105, 110, 101, 110, 116] : List UInt8)).toArray⟩), (.string ⟨(([99, 111, 117, 110, 116, 114, 121] : List UInt8)).toArray⟩), (.string ⟨(([122, 111, 110, 101] : List UInt8)).toArray⟩), (.string ⟨(([99, 111, 110, 116, 105, 110, 101, 110, 116] : List UInt8)).toArray⟩), (.string ⟨(([99, 97, 108, 108] : List UInt8)).toArray⟩), (.string ⟨(([103, 111, 116, 122, 111, 110, 101] : List UInt8)).toArray⟩), (.string ⟨(([99, 97, 116, 101, 103, 111, 114, 121] : List UInt8)).toArray⟩), (.string ⟨(([112, 111, 119, 101, 114] : List UInt8)).toArray⟩), (.string ⟨(([115, 116, 97, 116, 117, 115] : List UInt8)).toArray⟩)] hs0 (fun b21 w22 hs23 => ?_)
 have hr25 : RowR tStr 9 F0 (some ⟨b21, 0, none⟩) 14 [([98, 97, 110, 100] : List UInt8), ([109, 111, 100, 101] : List UInt8), ([104, 111, 117, 114] : List UInt8), ([109, 121, 99, 111, 117, 110, 116, 114, 121] : List UInt8), ([109, 121, 122, 111, 110, 101] : List UInt8), ([109, 121, 99, 111, 110, 116, 105, 110, 101, 110, 116] : List UInt8), ([99, 111, 117, 110, 116, 114, 121] : List UInt8), ([122, 111, 110, 101] : List UInt8), ([99, 111, 110, 116, 105, 110, 101, 110, 116] : List UInt8), ([99, 97, 108, 108] : List UInt8), ([103, 111, 116, 122, 111, 110, 101] : List UInt8), ([99, 97, 116, 101, 103, 111, 114, 121] : List UInt8), ([112, 111, 119, 101, 114] : List UInt8), ([115, 116, 97, 116, 117, 115] : List UInt8)] (some b21, .cells ([(.string ⟨(([98, 97, 110, 100] : List UInt8)).toArray⟩), (.string ⟨(([109, 111, 100, 101] : List UInt8)).toArray⟩), (.string ⟨(([104, 111, 117, 114] : List UInt8)).toArray⟩), (.string ⟨(([109, 121, 99, 111, 117, 110, 116, 114, 121] : List UInt8)).toArray⟩), (.string ⟨(([109, 121, 122, 111, 110, 101] : List UInt8)).toArray⟩), (.string ⟨(([109, 121, 99, 111, 110, 116, 105, 110, 101, 110, 116] : List UInt8)).toArray⟩), (.string ⟨(([99, 111, 117, 110, 116, 114, 121] : List UInt8)).toArray⟩), (.string ⟨(([122, 111, 110, 101] : List UInt8)).toArray⟩), (.string ⟨(([99, 111, 110, 116, 105, 110, 101, 110, 116] : List UInt8)).toArray⟩), (.string ⟨(([99, 97, 108, 108] : List UInt8)).toArray⟩), (.string ⟨(([103, 111, 116, 122, 111, 110, 101] : List UInt8)).toArray⟩), (.string ⟨(([99, 97, 116, 101, 103, 111, 114, 121] : List UInt8)).toArray⟩), (.string ⟨(([112, 111, 119, 101, 114] : List UInt8)).toArray⟩), (.string ⟨(([115, 116, 97, 116, 117, 115] : List UInt8)).toArray⟩)] : List Value).toArray 9 (0, 0)) := RowR.lit ⟨rfl, ⟨rfl, ⟨rfl, ⟨rfl, ⟨rfl, ⟨rfl, ⟨rfl, ⟨rfl, ⟨rfl, ⟨rfl, ⟨rfl, ⟨rfl, ⟨rfl, ⟨rfl, rfl⟩⟩⟩⟩⟩⟩⟩⟩⟩⟩⟩⟩⟩⟩ (by simp)
 refine Vs 1 ?_
 refine Nt ?_
 refine Rt ?_
 have hb29 := RowR.bound hr25
 obtain ⟨F1, hs26, le27, hs28⟩ := hs23.fr0 hr25
 obtain rfl := some_inj h
 exact Re [(.slice (some ⟨b21, 0, none⟩) [([98, 97, 110, 100] : List UInt8), ([109, 111, 100, 101] : List UInt8), ([104, 111, 117, 114] : List UInt8), ([109, 121, 99, 111, 117, 110, 116, 114, 121] : List UInt8), ([109, 121, 122, 111, 110, 101] : List UInt8), ([109, 121, 99, 111, 110, 116, 105, 110, 101, 110, 116] : List UInt8), ([99, 111, 117, 110, 116, 114, 121] : List UInt8), ([122, 111, 110, 101] : List UInt8), ([99, 111, 110, 116, 105, 110, 101, 110, 116] : List UInt8), ([99, 97, 108, 108] : List UInt8), ([103, 111, 116, 122, 111, 110, 101] : List UInt8), ([99, 97, 116, 101, 103, 111, 114, 121] : List UInt8), ([112, 111, 119, 101, 114] : List UInt8), ([115, 116, 97, 116, 117, 115] : List UInt8)].length 14)] hs26 ⟨(some ⟨b21, 0, none⟩), 14, rfl, hb29, hs28⟩
end Go.Proofs.YtaihlcdkcampbaaGreatDoor
namespace Go.Proofs
open Go.Shelf
def Tryz.lays137_ren : Go.Shelf.Ren := ⟨fun | 137 => 183 | 217 => 211 | 266 => 225 | n => n, fun | 9 => 9 | 5 => 5 | 3 => 3 | n => n, fun | n => n⟩
theorem Tryz.lays137 : Go.Proofs.Lays.n137 Tryz.prog Tryz.lays137_ren := {
 mixed := by kernel_rfl
 f137 := Tryz.func183.trans (congrArg some (by kernel_rfl))
 f217 := Tryz.func211.trans (congrArg some (by kernel_rfl))
 f266 := Tryz.func225.trans (congrArg some (by kernel_rfl))
 t3 := Tryz.underlying3
 a3 := Tryz.isAgg3
 z3 := Tryz.sizeOf3
 v3 := Tryz.zeroValue3
 t5 := Tryz.underlying5
 a5 := Tryz.isAgg5
 z5 := Tryz.sizeOf5
 v5 := Tryz.zeroValue5
 t9 := Tryz.underlying9
 a9 := Tryz.isAgg9
 z9 := Tryz.sizeOf9
 v9 := Tryz.zeroValue9 }
open Go.RowKit in
theorem Tryz.strings_IndexByte (s : ByteArray) (c : Int) (w : World) :
  Calls Tryz.prog 183 #[.string s, .int .u8 c] w fun e w' => e = .returned (.int .i64 (Lib.indexByte s.data.toList c.toNat.toUInt8)) ∧ w' = w := Any.strings_IndexByte Tryz.lays137 s c w
def Tryz.lays172_ren : Go.Shelf.Ren := ⟨fun | 172 => 248 | 244 => 251 | 245 => 252 | 247 => 253 | 279 => 254 | 280 => 255 | 281 => 256 | 282 => 257 | 287 => 258 | 316 => 259 | 171 => 151 | 205 => 260 | 321 => 261 | 322 => 262 | 243 => 196 | 246 => 218 | 283 => 228 | 284 => 229 | 285 => 230 | 286 => 231 | 129 => 209 | 317 => 235 | 318 => 236 | 319 => 237 | 320 => 238 | 337 => 241 | 338 => 242 | n => n, fun | 9 => 9 | 3 => 3 | 75 => 134 | 76 => 135 | 4 => 4 | 5 => 5 | 167 => 241 | 37 => 42 | 0 => 0 | 85 => 242 | 2 => 2 | 168 => 244 | 53 => 218 | 175 => 247 | 46 => 191 | 210 => 251 | 127 => 184 | 145 => 256 | 143 => 254 | 21 => 21 | 171 => 227 | 173 => 229 | 212 => 234 | 51 => 216 | 20 => 20 | 213 => 235 | 232 => 237 | 233 => 238 | 80 => 137 | n => n, fun | 15 => 4 | 16 => 5 | 17 => 1 | 18 => 2 | 19 => 3 | n => n⟩
theorem Tryz.lays172 : Go.Proofs.Lays.n172 Tryz.prog Tryz.lays172_ren := {
 mixed := by kernel_rfl
 f129 := Tryz.func209.trans (congrArg some (by kernel_rfl))
 f171 := Tryz.func151.trans (congrArg some (by kernel_rfl))
 f172 := Tryz.func248.trans (congrArg some (by kernel_rfl))
 f205 := Tryz.func260.trans (congrArg some (by kernel_rfl))
 f243 := Tryz.func196.trans (congrArg some (by kernel_rfl))
 f244 := Tryz.func251.trans (congrArg some (by kernel_rfl))
 f245 := Tryz.func252.trans (congrArg some (by kernel_rfl))
 f246 := Tryz.func218.trans (congrArg some (by kernel_rfl))
 f247 := Tryz.func253.trans (congrArg some (by kernel_rfl))
 f279 := Tryz.func254.trans (congrArg some (by kernel_rfl))
 f280 := Tryz.func255.trans (congrArg some (by kernel_rfl))
 f281 := Tryz.func256.trans (congrArg some (by kernel_rfl))
 f282 := Tryz.func257.trans (congrArg some (by kernel_rfl))
 f283 := Tryz.func228.trans (congrArg some (by kernel_rfl))
 f284 := Tryz.func229.trans (congrArg some (by kernel_rfl))
 f285 := Tryz.func230.trans (congrArg some (by kernel_rfl))
 f286 := Tryz.func231.trans (congrArg some (by kernel_rfl))
 f287 := Tryz.func258.trans (congrArg some (by kernel_rfl))
 f316 := Tryz.func259.trans (congrArg some (by kernel_rfl))
 f317 := Tryz.func235.trans (congrArg some (by kernel_rfl))
 f318 := Tryz.func236.trans (congrArg some (by kernel_rfl))
 f319 := Tryz.func237.trans (congrArg some (by kernel_rfl))
 f320 := Tryz.func238.trans (congrArg some (by kernel_rfl))
 f321 := Tryz.func261.trans (congrArg some (by kernel_rfl))
 f322 := Tryz.func262.trans (congrArg some (by kernel_rfl))
 f337 := Tryz.func241.trans (congrArg some (by kernel_rfl))
 f338 := Tryz.func242.trans (congrArg some (by kernel_rfl))
 t0 := Tryz.underlying0
 a0 := Tryz.isAgg0
 z0 := Tryz.sizeOf0
 v0 := Tryz.zeroValue0
 t2 := Tryz.underlying2
 a2 := Tryz.isAgg2
 z2 := Tryz.sizeOf2
 v2 := Tryz.zeroValue2
 t3 := Tryz.underlying3
 a3 := Tryz.isAgg3
 z3 := Tryz.sizeOf3
 v3 := Tryz.zeroValue3
 t4 := Tryz.underlying4
 a4 := Tryz.isAgg4
 z4 := Tryz.sizeOf4
 v4 := Tryz.zeroValue4
 t5 := Tryz.underlying5
 a5 := Tryz.isAgg5
 z5 := Tryz.sizeOf5
 v5 := Tryz.zeroValue5
 t9 := Tryz.underlying9
 a9 := Tryz.isAgg9
 z9 := Tryz.sizeOf9
 v9 := Tryz.zeroValue9
 t20 := Tryz.underlying20
 a20 := Tryz.isAgg20
 z20 := Tryz.sizeOf20
 v20 := Tryz.zeroValue20
 t21 := Tryz.underlying21
 a21 := Tryz.isAgg21
 z21 := Tryz.sizeOf21
 v21 := Tryz.zeroValue21
 t37 := Tryz.underlying42
 a37 := Tryz.isAgg42
 z37 := Tryz.sizeOf42
 v37 := Tryz.zeroValue42
 t46 := Tryz.underlying191
 a46 := Tryz.isAgg191
 z46 := Tryz.sizeOf191
 v46 := Tryz.zeroValue191
 t51 := Tryz.underlying216
 a51 := Tryz.isAgg216
 z51 := Tryz.sizeOf216
 v51 := Tryz.zeroValue216
 t53 := Tryz.underlying218
 a53 := Tryz.isAgg218
 z53 := Tryz.sizeOf218
 v53 := Tryz.zeroValue218
 t75 := Tryz.underlying134
 a75 := Tryz.isAgg134
 z75 := Tryz.sizeOf134
 v75 := Tryz.zeroValue134
 t76 := Tryz.underlying135
 a76 := Tryz.isAgg135
 z76 := Tryz.sizeOf135
 v76 := Tryz.zeroValue135
 t85 := Tryz.underlying242
 a85 := Tryz.isAgg242
 z85 := Tryz.sizeOf242
 v85 := Tryz.zeroValue242
 t127 := Tryz.underlying184
 a127 := Tryz.isAgg184
 z127 := Tryz.sizeOf184
 v127 := Tryz.zeroValue184
 t143 := Tryz.underlying254
 a143 := Tryz.isAgg254
 z143 := Tryz.sizeOf254
 v143 := Tryz.zeroValue254
 t145 := Tryz.underlying256
 a145 := Tryz.isAgg256
 z145 := Tryz.sizeOf256
 v145 := Tryz.zeroValue256
 t167 := Tryz.underlying241
 a167 := Tryz.isAgg241
 z167 := Tryz.sizeOf241
 v167 := Tryz.zeroValue241
 t168 := Tryz.underlying244
 a168 := Tryz.isAgg244
 z168 := Tryz.sizeOf244
 v168 := Tryz.zeroValue244
 t171 := Tryz.underlying227
 a171 := Tryz.isAgg227
 z171 := Tryz.sizeOf227
 v171 := Tryz.zeroValue227
 t173 := Tryz.underlying229
 a173 := Tryz.isAgg229
 z173 := Tryz.sizeOf229
 v173 := Tryz.zeroValue229
 t175 := Tryz.underlying247
 a175 := Tryz.isAgg247
 z175 := Tryz.sizeOf247
 v175 := Tryz.zeroValue247
 t210 := Tryz.underlying251
 a210 := Tryz.isAgg251
 z210 := Tryz.sizeOf251
 v210 := Tryz.zeroValue251
 t212 := Tryz.underlying234
 a212 := Tryz.isAgg234
 z212 := Tryz.sizeOf234
 v212 := Tryz.zeroValue234
 t213 := Tryz.underlying235
 a213 := Tryz.isAgg235
 z213 := Tryz.sizeOf235
 t232 := Tryz.underlying237
 a232 := Tryz.isAgg237
 z232 := Tryz.sizeOf237
 v232 := Tryz.zeroValue237
 t233 := Tryz.underlying238
 a233 := Tryz.isAgg238
 z233 := Tryz.sizeOf238
 v233 := Tryz.zeroValue238
 g15 := by kernel_rfl
 g16 := by kernel_rfl
 g17 := by kernel_rfl
 g18 := by kernel_rfl
 g19 := by kernel_rfl }
open Go.RowKit in
theorem Tryz.strconv_Atoi (s : ByteArray) (n : Int) (hl : s.size ≤ 18) (h : Lib.atoi s.data.toList = some n) (w : World) :
  Calls Tryz.prog 248 #[.string s] w fun e w' => e = .returned (.tuple #[.int .i64 n, .nilIface]) ∧ ∃ t, w' = Lib.bytesWorld w 5 t := Any.strconv_Atoi Tryz.lays172 s n hl h w
def Tryz.laysM171_ren : Go.Shelf.Ren := ⟨fun | 171 => 151 | 243 => 196 | 246 => 218 | 283 => 228 | 284 => 229 | 285 => 230 | 286 => 231 | 129 => 209 | 317 => 235 | 318 => 236 | 319 => 237 | 320 => 238 | 337 => 241 | 338 => 242 | n => n, fun | 3 => 3 | 9 => 9 | 2 => 2 | 4 => 4 | 171 => 227 | 0 => 0 | 53 => 218 | 37 => 42 | 5 => 5 | 173 => 229 | 212 => 234 | 51 => 216 | 20 => 20 | 213 => 235 | 46 => 191 | 232 => 237 | 233 => 238 | n => n, fun | 17 => 1 | 18 => 2 | 19 => 3 | n => n⟩
theorem Tryz.laysM171 : Go.Proofs.LaysM.n171 Tryz.prog Tryz.laysM171_ren := {
 mixed := by kernel_rfl
 f129 := Tryz.func209.trans (congrArg some (by kernel_rfl))
 f171 := Tryz.func151.trans (congrArg some (by kernel_rfl))
 f243 := Tryz.func196.trans (congrArg some (by kernel_rfl))
 f246 := Tryz.func218.trans (congrArg some (by kernel_rfl))
 f283 := Tryz.func228.trans (congrArg some (by kernel_rfl))
 f284 := Tryz.func229.trans (congrArg some (by kernel_rfl))
 f285 := Tryz.func230.trans (congrArg some (by kernel_rfl))
 f286 := Tryz.func231.trans (congrArg some (by kernel_rfl))
 f317 := Tryz.func235.trans (congrArg some (by kernel_rfl))
 f318 := Tryz.func236.trans (congrArg some (by kernel_rfl))
 f319 := Tryz.func237.trans (congrArg some (by kernel_rfl))
 f320 := Tryz.func238.trans (congrArg some (by kernel_rfl))
 f337 := Tryz.func241.trans (congrArg some (by kernel_rfl))
 f338 := Tryz.func242.trans (congrArg some (by kernel_rfl))
 t0 := Tryz.underlying0
 a0 := Tryz.isAgg0
 z0 := Tryz.sizeOf0
 v0 := Tryz.zeroValue0
 t2 := Tryz.underlying2
 a2 := Tryz.isAgg2
 z2 := Tryz.sizeOf2
 v2 := Tryz.zeroValue2
 t3 := Tryz.underlying3
 a3 := Tryz.isAgg3
 z3 := Tryz.sizeOf3
 v3 := Tryz.zeroValue3
 t4 := Tryz.underlying4
 a4 := Tryz.isAgg4
 z4 := Tryz.sizeOf4
 v4 := Tryz.zeroValue4
 t5 := Tryz.underlying5
 a5 := Tryz.isAgg5
 z5 := Tryz.sizeOf5
 v5 := Tryz.zeroValue5
 t9 := Tryz.underlying9
 a9 := Tryz.isAgg9
 z9 := Tryz.sizeOf9
 v9 := Tryz.zeroValue9
 t20 := Tryz.underlying20
 a20 := Tryz.isAgg20
 z20 := Tryz.sizeOf20
 v20 := Tryz.zeroValue20
 t37 := Tryz.underlying42
 a37 := Tryz.isAgg42
 z37 := Tryz.sizeOf42
 v37 := Tryz.zeroValue42
 t46 := Tryz.underlying191
 a46 := Tryz.isAgg191
 z46 := Tryz.sizeOf191
 v46 := Tryz.zeroValue191
 t51 := Tryz.underlying216
 a51 := Tryz.isAgg216
 z51 := Tryz.sizeOf216
 v51 := Tryz.zeroValue216
 t53 := Tryz.underlying218
 a53 := Tryz.isAgg218
 z53 := Tryz.sizeOf218
 v53 := Tryz.zeroValue218
 t171 := Tryz.underlying227
 a171 := Tryz.isAgg227
 z171 := Tryz.sizeOf227
 v171 := Tryz.zeroValue227
 t173 := Tryz.underlying229
 a173 := Tryz.isAgg229
 z173 := Tryz.sizeOf229
 v173 := Tryz.zeroValue229
 t212 := Tryz.underlying234
 a212 := Tryz.isAgg234
 z212 := Tryz.sizeOf234
 v212 := Tryz.zeroValue234
 t213 := Tryz.underlying235
 a213 := Tryz.isAgg235
 z213 := Tryz.sizeOf235
 t232 := Tryz.underlying237
 a232 := Tryz.isAgg237
 z232 := Tryz.sizeOf237
 v232 := Tryz.zeroValue237
 t233 := Tryz.underlying238
 a233 := Tryz.isAgg238
 z233 := Tryz.sizeOf238
 v233 := Tryz.zeroValue238
 g17 := by kernel_rfl
 g18 := by kernel_rfl
 g19 := by kernel_rfl
 i0 := by kernel_rfl
 i2 := by kernel_rfl
 i3 := by kernel_rfl
 i4 := by kernel_rfl
 i5 := by kernel_rfl
 i9 := by kernel_rfl
 i20 := by kernel_rfl
 i37 := by kernel_rfl
 i46 := by kernel_rfl
 i51 := by kernel_rfl
 i53 := by kernel_rfl
 i171 := by kernel_rfl
 i173 := by kernel_rfl
 i212 := by kernel_rfl
 i232 := by kernel_rfl
 i233 := by kernel_rfl
 m17 := by kernel_rfl
 m18 := by kernel_rfl
 m19 := by kernel_rfl }
open Go.RowKit Go.Sort Go.Lib in
theorem Tryz.strconv_Itoa (n : Int) (h0 : -9223372036854775808 ≤ n) (h1 : n ≤ 9223372036854775807) (w : World) (htab : Lib.TabIs Tryz.prog w "internal/strconv.uint64pow10" .u64 Lib.pow10Tab) :
  Calls Tryz.prog 151 #[.int .i64 n] w fun e w' => e = .returned (.string ⟨(Lib.itoa n).toArray⟩) ∧ ∃ k os, w' = grow (w.drewN k) os := Any.strconv_Itoa Tryz.laysM171 n h0 h1 w htab
def Tryz.laysC172_ren : Go.Shelf.Ren := ⟨fun | 172 => 248 | 244 => 251 | 245 => 252 | 247 => 253 | 279 => 254 | 280 => 255 | 281 => 256 | 282 => 257 | 287 => 258 | 316 => 259 | 171 => 151 | 205 => 260 | 321 => 261 | 322 => 262 | 243 => 196 | 246 => 218 | 283 => 228 | 284 => 229 | 285 => 230 | 286 => 231 | 129 => 209 | 317 => 235 | 318 => 236 | 319 => 237 | 320 => 238 | 337 => 241 | 338 => 242 | n => n, fun | 9 => 9 | 3 => 3 | 75 => 134 | 76 => 135 | 4 => 4 | 5 => 5 | 167 => 241 | 37 => 42 | 0 => 0 | 85 => 242 | 2 => 2 | 168 => 244 | 53 => 218 | 175 => 247 | 46 => 191 | 210 => 251 | 127 => 184 | 145 => 256 | 143 => 254 | 21 => 21 | 171 => 227 | 173 => 229 | 212 => 234 | 51 => 216 | 20 => 20 | 213 => 235 | 232 => 237 | 233 => 238 | 80 => 137 | n => n, fun | 15 => 4 | 16 => 5 | 17 => 1 | 18 => 2 | 19 => 3 | n => n⟩
theorem Tryz.laysC172 : Go.Proofs.LaysC.n172 Tryz.prog Tryz.laysC172_ren := {
 mixed := by kernel_rfl
 f129 := Tryz.func209.trans (congrArg some (by kernel_rfl))
 f171 := Tryz.func151.trans (congrArg some (by kernel_rfl))
 f172 := Tryz.func248.trans (congrArg some (by kernel_rfl))
 f205 := Tryz.func260.trans (congrArg some (by kernel_rfl))
 f243 := Tryz.func196.trans (congrArg some (by kernel_rfl))
 f244 := Tryz.func251.trans (congrArg some (by kernel_rfl))
 f245 := Tryz.func252.trans (congrArg some (by kernel_rfl))
 f246 := Tryz.func218.trans (congrArg some (by kernel_rfl))
 f247 := Tryz.func253.trans (congrArg some (by kernel_rfl))
 f279 := Tryz.func254.trans (congrArg some (by kernel_rfl))
 f280 := Tryz.func255.trans (congrArg some (by kernel_rfl))
 f281 := Tryz.func256.trans (congrArg some (by kernel_rfl))
 f282 := Tryz.func257.trans (congrArg some (by kernel_rfl))
 f283 := Tryz.func228.trans (congrArg some (by kernel_rfl))
 f284 := Tryz.func229.trans (congrArg some (by kernel_rfl))
 f285 := Tryz.func230.trans (congrArg some (by kernel_rfl))
 f286 := Tryz.func231.trans (congrArg some (by kernel_rfl))
 f287 := Tryz.func258.trans (congrArg some (by kernel_rfl))
 f316 := Tryz.func259.trans (congrArg some (by kernel_rfl))
 f317 := Tryz.func235.trans (congrArg some (by kernel_rfl))
 f318 := Tryz.func236.trans (congrArg some (by kernel_rfl))
 f319 := Tryz.func237.trans (congrArg some (by kernel_rfl))
 f320 := Tryz.func238.trans (congrArg some (by kernel_rfl))
 f321 := Tryz.func261.trans (congrArg some (by kernel_rfl))
 f322 := Tryz.func262.trans (congrArg some (by kernel_rfl))
 f337 := Tryz.func241.trans (congrArg some (by kernel_rfl))
 f338 := Tryz.func242.trans (congrArg some (by kernel_rfl))
 t0 := Tryz.underlying0
 a0 := Tryz.isAgg0
 z0 := Tryz.sizeOf0
 v0 := Tryz.zeroValue0
 t2 := Tryz.underlying2
 a2 := Tryz.isAgg2
 z2 := Tryz.sizeOf2
 v2 := Tryz.zeroValue2
 t3 := Tryz.underlying3
 a3 := Tryz.isAgg3
 z3 := Tryz.sizeOf3
 v3 := Tryz.zeroValue3
 t4 := Tryz.underlying4
 a4 := Tryz.isAgg4
 z4 := Tryz.sizeOf4
 v4 := Tryz.zeroValue4
 t5 := Tryz.underlying5
 a5 := Tryz.isAgg5
 z5 := Tryz.sizeOf5
 v5 := Tryz.zeroValue5
 t9 := Tryz.underlying9
 a9 := Tryz.isAgg9
 z9 := Tryz.sizeOf9
 v9 := Tryz.zeroValue9
 t20 := Tryz.underlying20
 a20 := Tryz.isAgg20
 z20 := Tryz.sizeOf20
 v20 := Tryz.zeroValue20
 t21 := Tryz.underlying21
 a21 := Tryz.isAgg21
 z21 := Tryz.sizeOf21
 v21 := Tryz.zeroValue21
 t37 := Tryz.underlying42
 a37 := Tryz.isAgg42
 z37 := Tryz.sizeOf42
 v37 := Tryz.zeroValue42
 t46 := Tryz.underlying191
 a46 := Tryz.isAgg191
 z46 := Tryz.sizeOf191
 v46 := Tryz.zeroValue191
 t51 := Tryz.underlying216
 a51 := Tryz.isAgg216
 z51 := Tryz.sizeOf216
 v51 := Tryz.zeroValue216
 t53 := Tryz.underlying218
 a53 := Tryz.isAgg218
 z53 := Tryz.sizeOf218
 v53 := Tryz.zeroValue218
 t75 := Tryz.underlying134
 a75 := Tryz.isAgg134
 z75 := Tryz.sizeOf134
 v75 := Tryz.zeroValue134
 t76 := Tryz.underlying135
 a76 := Tryz.isAgg135
 z76 := Tryz.sizeOf135
 v76 := Tryz.zeroValue135
 t85 := Tryz.underlying242
 a85 := Tryz.isAgg242
 z85 := Tryz.sizeOf242
 v85 := Tryz.zeroValue242
 t127 := Tryz.underlying184
 a127 := Tryz.isAgg184
 z127 := Tryz.sizeOf184
 v127 := Tryz.zeroValue184
 t143 := Tryz.underlying254
 a143 := Tryz.isAgg254
 z143 := Tryz.sizeOf254
 v143 := Tryz.zeroValue254
 t145 := Tryz.underlying256
 a145 := Tryz.isAgg256
 z145 := Tryz.sizeOf256
 v145 := Tryz.zeroValue256
 t167 := Tryz.underlying241
 a167 := Tryz.isAgg241
 z167 := Tryz.sizeOf241
 v167 := Tryz.zeroValue241
 t168 := Tryz.underlying244
 a168 := Tryz.isAgg244
 z168 := Tryz.sizeOf244
 v168 := Tryz.zeroValue244
 t171 := Tryz.underlying227
 a171 := Tryz.isAgg227
 z171 := Tryz.sizeOf227
 v171 := Tryz.zeroValue227
 t173 := Tryz.underlying229
 a173 := Tryz.isAgg229
 z173 := Tryz.sizeOf229
 v173 := Tryz.zeroValue229
 t175 := Tryz.underlying247
 a175 := Tryz.isAgg247
 z175 := Tryz.sizeOf247
 v175 := Tryz.zeroValue247
 t210 := Tryz.underlying251
 a210 := Tryz.isAgg251
 z210 := Tryz.sizeOf251
 v210 := Tryz.zeroValue251
 t212 := Tryz.underlying234
 a212 := Tryz.isAgg234
 z212 := Tryz.sizeOf234
 v212 := Tryz.zeroValue234
 t213 := Tryz.underlying235
 a213 := Tryz.isAgg235
 z213 := Tryz.sizeOf235
 t232 := Tryz.underlying237
 a232 := Tryz.isAgg237
 z232 := Tryz.sizeOf237
 v232 := Tryz.zeroValue237
 t233 := Tryz.underlying238
 a233 := Tryz.isAgg238
 z233 := Tryz.sizeOf238
 v233 := Tryz.zeroValue238
 g15 := by kernel_rfl
 g16 := by kernel_rfl
 g17 := by kernel_rfl
 g18 := by kernel_rfl
 g19 := by kernel_rfl
 t80 := Tryz.underlying137
 a80 := Tryz.isAgg137
 z80 := Tryz.sizeOf137
 v80 := Tryz.zeroValue137
 i0 := by kernel_rfl
 i2 := by kernel_rfl
 i3 := by kernel_rfl
 i4 := by kernel_rfl
 i5 := by kernel_rfl
 i9 := by kernel_rfl
 i20 := by kernel_rfl
 i21 := by kernel_rfl
 i37 := by kernel_rfl
 i46 := by kernel_rfl
 i51 := by kernel_rfl
 i53 := by kernel_rfl
 i75 := by kernel_rfl
 i76 := by kernel_rfl
 i80 := by kernel_rfl
 i85 := by kernel_rfl
 i127 := by kernel_rfl
 i143 := by kernel_rfl
 i145 := by kernel_rfl
 i167 := by kernel_rfl
 i168 := by kernel_rfl
 i171 := by kernel_rfl
 i173 := by kernel_rfl
 i175 := by kernel_rfl
 i210 := by kernel_rfl
 i212 := by kernel_rfl
 i232 := by kernel_rfl
 i233 := by kernel_rfl
 m15 := by kernel_rfl
 m16 := by kernel_rfl
 m17 := by kernel_rfl
 m18 := by kernel_rfl
 m19 := by kernel_rfl
 c0 := by kernel_rfl
 c2 := by kernel_rfl
 c3 := by kernel_rfl
 c4 := by kernel_rfl
 c5 := by kernel_rfl
 c9 := by kernel_rfl
 c20 := by kernel_rfl
 c21 := by kernel_rfl
 c37 := by kernel_rfl
 c46 := by kernel_rfl
 c51 := by kernel_rfl
 c53 := by kernel_rfl
 c75 := by kernel_rfl
 c76 := by kernel_rfl
 c80 := by kernel_rfl
 c85 := by kernel_rfl
 c127 := by kernel_rfl
 c143 := by kernel_rfl
 c145 := by kernel_rfl
 c167 := by kernel_rfl
 c168 := by kernel_rfl
 c171 := by kernel_rfl
 c173 := by kernel_rfl
 c175 := by kernel_rfl
 c210 := by kernel_rfl
 c212 := by kernel_rfl
 c213 := by kernel_rfl
 c232 := by kernel_rfl
 c233 := by kernel_rfl }
open Go.RowKit in
theorem Tryz.strconv_Atoi_ok (s : ByteArray) (hmax : s.size ≤ 9223372036854775806) (v : Int) (h : Lib.atoiAll s.data.toList = .ok v) (w : World) :
  Calls Tryz.prog 248 #[.string s] w fun e w' => e = .returned (.tuple #[.int .i64 v, .nilIface]) ∧ (w' = w ∨ ∃ t, w' = Lib.bytesWorld w 5 t) := Any.strconv_Atoi_ok Tryz.laysC172 s hmax v h w
open Go.RowKit in
theorem Tryz.strconv_Atoi_range_var (s : ByteArray) (hlim : s.size ≤ 281474976710656) (h : Lib.atoiAll s.data.toList = .range) (tp : TypeId) (p : Value) (w : World) (hvar : w.var? Tryz.prog "strconv.ErrRange" = some #[.iface tp p]) :
  Calls Tryz.prog 248 #[.string s] w fun e w' => ∃ N, e = .returned (.tuple #[.int .i64 (Lib.atoiSat s.data.toList), .iface 244 (.pointer (some ⟨N, 0, none⟩))]) ∧ w.heap.size ≤ N ∧ w'.heap[N]? = some (.cells #[.string ⟨#[65, 116, 111, 105]⟩, .string s, .iface tp p] 251 (0, 0)) ∧ Below w.heap.size w w' := Any.strconv_Atoi_range_var Tryz.laysC172 s hlim h tp p w hvar
def Tryz.lays99_ren : Go.Shelf.Ren := ⟨fun | 99 => 182 | 206 => 210 | n => n, fun | 9 => 9 | 4 => 4 | 3 => 3 | n => n, fun | n => n⟩
theorem Tryz.lays99 : Go.Proofs.Lays.n99 Tryz.prog Tryz.lays99_ren := {
 mixed := by kernel_rfl
 f99 := Tryz.func182.trans (congrArg some (by kernel_rfl))
 f206 := Tryz.func210.trans (congrArg some (by kernel_rfl))
 t3 := Tryz.underlying3
 a3 := Tryz.isAgg3
 z3 := Tryz.sizeOf3
 v3 := Tryz.zeroValue3
 t4 := Tryz.underlying4
 a4 := Tryz.isAgg4
 z4 := Tryz.sizeOf4
 v4 := Tryz.zeroValue4
 t9 := Tryz.underlying9
 a9 := Tryz.isAgg9
 z9 := Tryz.sizeOf9
 v9 := Tryz.zeroValue9 }
open Go.RowKit Go.Lib in
theorem Tryz.strings_HasPrefix (s p : ByteArray) (w : World) :
  Calls Tryz.prog 182 #[.string s, .string p] w fun e w' => e = .returned (.bool (Lib.hasPrefix s.data.toList p.data.toList)) ∧ w' = w := Any.strings_HasPrefix Tryz.lays99 s p w
end Go.Proofs
namespace Go.Proofs.YtaihlcdkcampbaaGreatDoor
open Go.Proofs Go.RowKit Go.Sort Go.Lib
def strings_HasPrefix (_N : Nat) (s p : List UInt8) : Option Bool := some (Go.Lib.hasPrefix s p)
theorem co_strings_HasPrefix : CallOk Tryz.prog 182 := fun _ _ => by kernel_rfl
theorem c_strings_HasPrefix (N : Nat) (w0 : World) (F0 : Mem) (hF : ∀ b o, F0 b = some o → w0.heap[b]? = some o) (x0 : (List UInt8)) (x1 : (List UInt8)) (r : Bool) (h : strings_HasPrefix N x0 x1 = some r) :
  Calls Tryz.prog 182 ([(.string ⟨(x0).toArray⟩), (.string ⟨(x1).toArray⟩)] : List Value).toArray w0 (FRet w0 F0 fun _ v => v = (.bool r)) := by
 cases h
 exact FRet.below hF ((Tryz.strings_HasPrefix ⟨x0.toArray⟩ ⟨x1.toArray⟩ w0).mono fun e w' ⟨he, hw⟩ => ⟨he, hw ▸ Below.refl _ _⟩) rfl
def strings_IndexByte (_N : Nat) (s : List UInt8) (c : Int) : Option Int := some (Go.Lib.indexByte s c.toNat.toUInt8)
theorem co_strings_IndexByte : CallOk Tryz.prog 183 := fun _ _ => by kernel_rfl
theorem c_strings_IndexByte (N : Nat) (w0 : World) (F0 : Mem) (hF : ∀ b o, F0 b = some o → w0.heap[b]? = some o) (x0 : (List UInt8)) (x1 : Int) (r : Int) (h : strings_IndexByte N x0 x1 = some r) :
  Calls Tryz.prog 183 ([(.string ⟨(x0).toArray⟩), (.int .u8 x1)] : List Value).toArray w0 (FRet w0 F0 fun _ v => v = (.int .i64 r)) := by
 cases h
 exact FRet.below hF ((Tryz.strings_IndexByte ⟨x0.toArray⟩ x1 w0).mono fun e w' ⟨he, hw⟩ => ⟨he, hw ▸ Below.refl _ _⟩) rfl
def strconv_Itoa (_N : Nat) (n : Int) : Option (List UInt8) := if -9223372036854775808 ≤ n ∧ n ≤ 9223372036854775807 then some (Go.Lib.itoa n) else none
theorem co_strconv_Itoa : CallOk Tryz.prog 151 := fun _ _ => by kernel_rfl
theorem c_strconv_Itoa (N : Nat) (w0 : World) (F0 : Mem) (hF : ∀ b o, F0 b = some o → w0.heap[b]? = some o) (hG : Glob F0) (x0 : Int) (r : List UInt8) (h : strconv_Itoa N x0 = some r) :
  Calls Tryz.prog 151 ([(.int .i64 x0)] : List Value).toArray w0 (FRet w0 F0 fun _ v => v = (.string ⟨(r).toArray⟩)) := by
 unfold strconv_Itoa at h
 split at h
 ·rename_i ha
  cases h
  refine FRet.below hF ((Tryz.strconv_Itoa x0 ha.1 ha.2 w0 (hG w0 hF).1).mono ?_) rfl
  rintro e w' ⟨rfl, k, os, rfl⟩
  exact ⟨rfl, rfl, rfl, rfl, by simp [grow, World.drewN], fun j hj => by
   show ((w0.drewN k).heap ++ os)[j]? = _
   rw [Array.getElem?_append_left (show j < (w0.drewN k).heap.size from hj)]; rfl⟩
 ·cases h
def strconv_Atoi (_N : Nat) (s : List UInt8) : Option (Int × Bool) := if s.length ≤ 281474976710656 then (match Go.Lib.atoiAll s with
 | .ok v => some (v, false)
 | .range => some (Go.Lib.atoiSat s, true)
 | _ => none) else none
theorem co_strconv_Atoi : CallOk Tryz.prog 248 := fun _ _ => by kernel_rfl
theorem c_strconv_Atoi (N : Nat) (w0 : World) (F0 : Mem) (hF : ∀ b o, F0 b = some o → w0.heap[b]? = some o) (hG : Glob F0) (x0 : (List UInt8)) (r : Int × Bool) (h : strconv_Atoi N x0 = some r) :
  Calls Tryz.prog 248 ([(.string ⟨(x0).toArray⟩)] : List Value).toArray w0 (FRet w0 F0 fun _ v => ∃ (vq1_0 : Value), v = (.tuple #[(.int .i64 r.1), vq1_0]) ∧ ErrV r.2 vq1_0) := by
 unfold strconv_Atoi at h
 split at h
 ·rename_i ha
  have hsz : (⟨x0.toArray⟩ : ByteArray).size ≤ 281474976710656 := by simpa [ByteArray.size] using ha
  split at h
  ·rename_i v hv
   cases h
   refine FRet.below hF ((Tryz.strconv_Atoi_ok ⟨x0.toArray⟩ (by omega) v (by simpa using hv) w0).mono ?_) ⟨.nilIface, rfl, rfl⟩
   rintro e w' ⟨rfl, (rfl | ⟨t, rfl⟩)⟩
   ·exact ⟨rfl, Below.refl _ _⟩
   ·exact ⟨rfl, rfl, rfl, rfl, by rw [Go.Lib.bytesWorld_size]; omega, fun j hj => Go.Lib.bytesWorld_at_old w0 _ _ j hj⟩
  ·rename_i hv
   cases h
   obtain ⟨tp, p, hvar⟩ := (hG w0 hF).2
   refine (Tryz.strconv_Atoi_range_var ⟨x0.toArray⟩ hsz (by simpa using hv) tp p w0 hvar).mono ?_
   rintro e w' ⟨n, rfl, _, _, hb⟩
   exact ⟨_, F0, rfl, HS.below hF hb, _, rfl, _, _, rfl⟩
  ·cases h
 ·cases h
end Go.Proofs.YtaihlcdkcampbaaGreatDoor
namespace Go.Proofs.YtaihlcdkcampbaaGreatDoor
open Go.Proofs
def Self97 (sR97 : Expr → Int → Option (List UInt8)) : Prop := ∀ (w0 : World) (F0 : Mem) (hF : ∀ b o, F0 b = some o → w0.heap[b]? = some o) (hG : Glob F0) (x0 : Expr) (a0_2 : Option Addr) (n0_2 : Nat) (hb0_2 : LC x0.Kids.length n0_2) (hs0_2 : SlA tExpr F0 a0_2 x0.Kids) (x1 : Int) (r : (List UInt8)), sR97 x0 x1 = some r → Calls Tryz.prog 97 ([(.agg #[(.int .i64 x0.Op), (.int .i64 x0.Value), (.slice a0_2 x0.Kids.length n0_2)]), (.int .i64 x1)] : List Value).toArray w0 (FRet w0 F0 fun F' v => v = (.string ⟨(r).toArray⟩))
theorem co_rules_printed : CallOk Tryz.prog 97 := fun _ _ => by kernel_rfl
end Go.Proofs.YtaihlcdkcampbaaGreatDoor
namespace Go.Proofs.YtaihlcdkcampbaaGreatDoor
open Go.Proofs
def rules_printed_S (N : Nat) (sR97 : Expr → Int → Option (List UInt8)) (x0 : Expr) (x1 : Int) : Option (List UInt8) :=
 ((rules_signOf N x0.Op).bind fun r24 => ((bif r24.2 then (((idx x0.Kids 0).bind fun x62 => ((idx x0.Kids 1).bind fun x76 => ((sR97 x62 r24.1.left_).bind fun r82 => ((sadd r82 ([32] : List UInt8)).bind fun r90 => ((sadd r90 r24.1.text_).bind fun r93 => ((sadd r93 ([32] : List UInt8)).bind fun r96 => ((sR97 x76 r24.1.right_).bind fun r99 => ((sadd r96 r99).bind fun r107 => some r107)))))))).bind fun j55 => some (r24.1.rank_, j55)) else ((bif (x0.Op == 1) then ((strconv_Itoa N x0.Value).bind fun r123 => some (7, r123)) else ((bif (x0.Op == 2) then (((rules_names N ).bind fun r156 => ((idx r156 x0.Value).bind fun x164 => some x164)).bind fun j149 => some (7, j149)) else ((bif (x0.Op == 3) then ((idx x0.Kids 0).bind fun x191 => ((sR97 x191 3).bind fun r205 => ((sadd ([110, 111, 116, 32] : List UInt8) r205).bind fun r213 => some (3, r213)))) else ((bif (x0.Op == 11) then (((idx x0.Kids 0).bind fun x241 => ((idx x0.Kids 1).bind fun x255 => ((idx x0.Kids 2).bind fun x261 => ((sR97 x241 1).bind fun r267 => ((sadd ([105, 102, 40] : List UInt8) r267).bind fun r275 => ((sadd r275 ([44, 32] : List UInt8)).bind fun r278 => ((sR97 x255 1).bind fun r281 => ((sadd r278 r281).bind fun r289 => ((sadd r289 ([44, 32] : List UInt8)).bind fun r292 => ((sR97 x261 1).bind fun r295 => ((sadd r292 r295).bind fun r303 => ((sadd r303 ([41] : List UInt8)).bind fun r306 => some r306)))))))))))).bind fun j234 => some j234) else some ([] : List UInt8)).bind fun j219 => some (7, j219))).bind fun j181 => some (j181.1, j181.2))).bind fun j134 => some (j134.1, j134.2))).bind fun j113 => some (j113.1, j113.2))).bind fun j40 => (bif (decide (j40.1 < x1)) then ((sadd ([40] : List UInt8) j40.2).bind fun r312 => ((sadd r312 ([41] : List UInt8)).bind fun r315 => some r315)) else some j40.2)))
theorem cS_rules_printed (N : Nat) (sR97 : Expr → Int → Option (List UInt8)) (hsR97 : Self97 sR97) (w0 : World) (F0 : Mem) (hF : ∀ b o, F0 b = some o → w0.heap[b]? = some o) (hG : Glob F0) (x0 : Expr) (a0_2 : Option Addr) (n0_2 : Nat) (hb0_2 : LC x0.Kids.length n0_2) (hs0_2 : SlA tExpr F0 a0_2 x0.Kids) (x1 : Int) (r : (List UInt8)) (h : rules_printed_S N sR97 x0 x1 = some r) :
  Calls Tryz.prog 97 ([(.agg (kExpr x0 a0_2 n0_2)), (vi x1)] : List Value).toArray w0 (FRet w0 F0 fun F' v => v = (.string ⟨(r).toArray⟩)) := by
 have hs0 := HS.start hF
 refine Go 97 Tryz.func97 ?_
 refine Sq (Rg [0, 1] ?_)
 refine Bx' 33 (kExpr x0 a0_2 n0_2) hs0 (fun b21 w22 hs23 => ?_)
 refine Vs 1 ?_
 refine Nss (Rg [0, 1] ?_)
 refine Vs 2 ?_
 refine Nss (Rg [0, 1, 2, 3, 4, 5, 6, 7, 8] ?_)
 refine Vs 1 ?_
 refine Ld hs23.at0 ?_
 obtain ⟨r24, hr25, h26⟩ := bind_some h
 refine Cl' co_rules_signOf hs23 (c_rules_signOf N w22 F0 hs23.pers (x0.Op) _ hr25) ?_
 rintro _ F1 w28 hs29 le30 rfl
 refine Vs 3 ?_
 refine Al' 173 #[(.string ⟨(([] : List UInt8)).toArray⟩), (vi 0), (vi 0), (vi 0)] hs29 (fun b32 w33 hs34 => ?_)
 refine St0 (krules_sign r24.1) hs34 (fun w35 hs36 => ?_)
 refine Vs 1 ?_
 refine Nss ?_
 refine Bk ?_
 refine Sq (Rg [0, 1] ?_)
 refine Vs 2 ?_
 refine Nt ?_
 obtain ⟨j40, hj45, h46⟩ := bind_some h26
 refine CWP.cut (fun f w => ∃ (F2 : Mem), HS w0 F0 w F2 [] ∧ Mem.le F1 F2 ∧ FI f [] [(1, (vi x1)), (5, (vi j40.1)), (6, (.string ⟨(j40.2).toArray⟩))]) ?_ ?_
 ·refine Cd hj45 (fun hb47 h48 => ?_) (fun hb47 h49 => ?_)
  ·obtain ⟨j55, hj60, h61⟩ := bind_some h48
   refine RD 24 24 [(sb b32 (krules_sign r24.1) 173), (sb b21 (kExpr x0 a0_2 n0_2) 33)] [] hs36 (fun f w => ∃ (F3 : Mem), HS w0 F0 w F3 [] ∧ Mem.le F1 F3 ∧ FI f [] [(1, (vi x1)), (5, (vi r24.1.rank_)), (6, (.string ⟨(j55).toArray⟩))]) (fun wd50 hw51 => ?_) ?_
   ·refine Dvl [0] [tt, ff, ff, ff, ff, ff, ff, ff, ff, ff, ff, ff, ff, ff, ff, ff, ff, ff, ff, ff, ff, ff, ff, ff] ?_
    refine Dl 1 (fun _ hq => (hq.1.2 0 _ _ rfl)) ?_
    refine Dvl [2] [tt, tt, tt, ff, ff, ff, ff, ff, ff, ff, ff, ff, ff, ff, ff, ff, ff, ff, ff, ff, ff, ff, ff, ff] ?_
    refine Dl 3 (fun _ hq => (hq.1.2 1 _ _ rfl)) ?_
    obtain ⟨x62, hx63, h65⟩ := bind_some hj60
    obtain ⟨hi64, hx63'⟩ := idx_spec hx63
    obtain ⟨b66, o67, C68, E69, fz70, rfl, hF72, hE73⟩ := SlA.open (SlA.mono hs0_2 le30) hx63'
    obtain ⟨ae74_2, ne74_2, hc75, hbe74_2, hse74_2⟩ := (tExpr_open (hE73 _ _ hx63'))
    refine Di 4 hi64 ?_
    refine Dx 5 0 (fun _ hq => hq.1.1 _ _ hF72) hc75 ?_
    refine Dvl [6] [tt, tt, tt, tt, tt, tt, tt, ff, ff, ff, ff, ff, ff, ff, ff, ff, ff, ff, ff, ff, ff, ff, ff, ff] ?_
    refine Dl 7 (fun _ hq => (hq.1.2 0 _ _ rfl)) ?_
    refine Dvl [10] [tt, tt, tt, tt, tt, tt, tt, tt, ff, ff, tt, ff, ff, ff, ff, ff, ff, ff, ff, ff, ff, ff, ff, ff] ?_
    refine Dl 11 (fun _ hq => (hq.1.2 0 _ _ rfl)) ?_
    refine Dvl [14] [tt, tt, tt, tt, tt, tt, tt, tt, ff, ff, tt, tt, ff, ff, tt, ff, ff, ff, ff, ff, ff, ff, ff, ff] ?_
    refine Dl 15 (fun _ hq => (hq.1.2 1 _ _ rfl)) ?_
    obtain ⟨x76, hx77, h79⟩ := bind_some h65
    obtain ⟨hi78, hx77'⟩ := idx_spec hx77
    obtain ⟨ae80_2, ne80_2, hc81, hbe80_2, hse80_2⟩ := (tExpr_open (hE73 _ _ hx77'))
    refine Di 16 hi78 ?_
    refine Dx 17 0 (fun _ hq => hq.1.1 _ _ hF72) hc81 ?_
    refine Dvl [18] [tt, tt, tt, tt, tt, tt, tt, tt, ff, ff, tt, tt, ff, ff, tt, tt, tt, tt, tt, ff, ff, ff, ff, ff] ?_
    refine Dl 19 (fun _ hq => (hq.1.2 0 _ _ rfl)) ?_
    refine D1 8 ?_
    obtain ⟨r82, hr83, h84⟩ := bind_some h79
    refine DCl co_rules_printed hw51 (hsR97 wd50 F1 hw51.pers (hG.mono le30) (x62) ae74_2 ne74_2 hbe74_2 hse74_2 (r24.1.left_) _ hr83) ?_
    rintro _ F4 w86 hs87 le88 rfl
    obtain ⟨r90, hr91, h92⟩ := bind_some h84
    refine Dtl 9 26 9 (.string ⟨(r90).toArray⟩) [tt, tt, tt, tt, tt, tt, tt, tt, tt, tt, tt, tt, ff, ff, tt, tt, tt, tt, tt, tt, ff, ff, ff, ff] (fun _ hq => run_sadd (t := 9) (t' := 9) (x := (.tmp 25)) (y := (.const (.string ⟨([32] : List UInt8).toArray⟩))) (a := r82) (b := ([32] : List UInt8)) (v := r90) rfl rfl hr91) ?_
    obtain ⟨r93, hr94, h95⟩ := bind_some h92
    refine Dtl 12 29 9 (.string ⟨(r93).toArray⟩) [tt, tt, tt, tt, tt, tt, tt, tt, tt, tt, tt, tt, tt, ff, tt, tt, tt, tt, tt, tt, ff, ff, ff, ff] (fun _ hq => run_sadd (t := 9) (t' := 9) (x := (.tmp 26)) (y := (.tmp 28)) (a := r90) (b := r24.1.text_) (v := r93) rfl rfl hr94) ?_
    obtain ⟨r96, hr97, h98⟩ := bind_some h95
    refine Dtl 13 30 9 (.string ⟨(r96).toArray⟩) [tt, tt, tt, tt, tt, tt, tt, tt, tt, tt, tt, tt, tt, tt, tt, tt, tt, tt, tt, tt, ff, ff, ff, ff] (fun _ hq => run_sadd (t := 9) (t' := 9) (x := (.tmp 29)) (y := (.const (.string ⟨([32] : List UInt8).toArray⟩))) (a := r93) (b := ([32] : List UInt8)) (v := r96) rfl rfl hr97) ?_
    refine D1 20 ?_
    obtain ⟨r99, hr100, h101⟩ := bind_some h98
    refine DCl co_rules_printed hs87 (hsR97 w86 F4 hs87.pers (hG.mono (le30.trans le88)) (x76) ae80_2 ne80_2 hbe80_2 (SlA.mono hse80_2 le88) (r24.1.right_) _ hr100) ?_
    rintro _ F5 w103 hs104 le105 rfl
    obtain ⟨r107, hr108, h109⟩ := bind_some h101
    refine Dtl 21 38 9 (.string ⟨(r107).toArray⟩) [tt, tt, tt, tt, tt, tt, tt, tt, tt, tt, tt, tt, tt, tt, tt, tt, tt, tt, tt, tt, tt, tt, ff, ff] (fun _ hq => run_sadd (t := 9) (t' := 9) (x := (.tmp 30)) (y := (.tmp 37)) (a := r96) (b := r99) (v := r107) rfl rfl hr108) ?_
    refine Dvl [22, 23] [tt, tt, tt, tt, tt, tt, tt, tt, tt, tt, tt, tt, tt, tt, tt, tt, tt, tt, tt, tt, tt, tt, tt, tt] ?_
    obtain rfl := some_inj h109
    exact DWP.done (by kernel_rfl) ⟨F5, hs104.dr0.dr0, (le88.trans le105), fI⟩
   ·rintro f w52 ⟨F3, hs53, le54, ⟨_, rfl⟩⟩
    obtain rfl := some_inj h61
    exact .inl ⟨rfl, F3, hs53, le54, fI⟩
  ·refine Sq (Rg [0, 1, 2, 3] ?_)
   refine Vs 1 ?_
   refine Ld hs36.at1 ?_
   refine Vs 2 ?_
   refine Nt ?_
   obtain ⟨j113, hj118, h119⟩ := bind_some h49
   refine CWP.cut (fun f w => ∃ (F6 : Mem), HS w0 F0 w F6 [] ∧ Mem.le F1 F6 ∧ FI f [] [(1, (vi x1)), (5, (vi j113.1)), (6, (.string ⟨(j113.2).toArray⟩))]) ?_ ?_
   ·refine Cd hj118 (fun hb120 h121 => ?_) (fun hb120 h122 => ?_)
    ·refine Rg [0, 1, 2, 3] ?_
     refine Vs 1 ?_
     refine Ld hs36.at1 ?_
     obtain ⟨r123, hr124, h125⟩ := bind_some h121
     refine Cl' co_strconv_Itoa hs36 (c_strconv_Itoa N w35 F1 hs36.pers (hG.mono le30) (x0.Value) _ hr124) ?_
     rintro _ F7 w127 hs128 le129 rfl
     refine Vs 1 ?_
     refine RWP.nil ?_
     obtain rfl := some_inj h125
     exact .inl ⟨rfl, F7, hs128.dr0.dr0, le129, fI⟩
    ·refine Sq (Rg [0, 1, 2, 3] ?_)
     refine Vs 1 ?_
     refine Ld hs36.at1 ?_
     refine Vs 2 ?_
     refine Nt ?_
     obtain ⟨j134, hj139, h140⟩ := bind_some h122
     refine CWP.cut (fun f w => ∃ (F8 : Mem), HS w0 F0 w F8 [] ∧ Mem.le F1 F8 ∧ FI f [] [(1, (vi x1)), (5, (vi j134.1)), (6, (.string ⟨(j134.2).toArray⟩))]) ?_ ?_
     ·refine Cd hj139 (fun hb141 h142 => ?_) (fun hb141 h143 => ?_)
      ·obtain ⟨j149, hj154, h155⟩ := bind_some h142
       refine RD 6 6 [(sb b32 (krules_sign r24.1) 173), (sb b21 (kExpr x0 a0_2 n0_2) 33)] [] hs36 (fun f w => ∃ (F9 : Mem), HS w0 F0 w F9 [] ∧ Mem.le F1 F9 ∧ FI f [] [(1, (vi x1)), (5, (vi 7)), (6, (.string ⟨(j149).toArray⟩))]) (fun wd144 hw145 => ?_) ?_
       ·refine Dv [1] ?_
        refine Dl 2 (fun _ hq => (hq.1.2 1 _ _ rfl)) ?_
        refine D1 0 ?_
        obtain ⟨r156, hr157, h158⟩ := bind_some hj154
        refine DCl co_rules_names hw145 (c_rules_names N wd144 F1 hw145.pers  _ hr157) ?_
        rintro _ F10 w160 hs161 le162 ⟨ar156_0_0, nr156_0_0, rfl, hbr156_0_0, hsr156_0_0⟩
        obtain ⟨x164, hx165, h167⟩ := bind_some h158
        obtain ⟨hi166, hx165'⟩ := idx_spec hx165
        obtain ⟨b168, o169, C170, E171, fz172, rfl, hF174, hE175⟩ := SlA.open hsr156_0_0 hx165'
        have hc177 := hE175 _ _ hx165'
        refine Di 3 hi166 ?_
        refine D1 4 ?_
        refine DStep.val (l' := [true, true, true, true, true, false]) (zd := true) (by kernel_rfl) (by kernel_rfl) (dst := (some 54)) (ty := 9) (g := none) (by kernel_rfl) rfl (run_loadE (t := 9) (x := (.tmp 53)) (b := b168) (o := (o169 + (x0.Value : Int).toNat * 1)) (j := 0) (C := C170) (kk := 1) (cs := [(.string ⟨(x164).toArray⟩)]) (gg := false) (s := 1) (v := (.string ⟨(x164).toArray⟩)) rfl (by kernel_rfl) (hs161.pers _ _ hF174) hc177 (by decide) (by exact ⟨rfl, trivial⟩) rfl rfl) (dz_of hs161 le162 (by simp) (fun e => by cases e)) ?_
        refine Dv [5] ?_
        obtain rfl := some_inj h167
        exact DWP.done (by kernel_rfl) ⟨F10, hs161.dr0.dr0, le162, fI⟩
       ·rintro f w146 ⟨F9, hs147, le148, ⟨_, rfl⟩⟩
        obtain rfl := some_inj h155
        exact .inl ⟨rfl, F9, hs147, le148, fI⟩
      ·refine Sq (Rg [0, 1, 2, 3] ?_)
       refine Vs 1 ?_
       refine Ld hs36.at1 ?_
       refine Vs 2 ?_
       refine Nt ?_
       obtain ⟨j181, hj186, h187⟩ := bind_some h143
       refine CWP.cut (fun f w => ∃ (F11 : Mem), HS w0 F0 w F11 [] ∧ Mem.le F1 F11 ∧ FI f [] [(1, (vi x1)), (5, (vi j181.1)), (6, (.string ⟨(j181.2).toArray⟩))]) ?_ ?_
       ·refine Cd hj186 (fun hb188 h189 => ?_) (fun hb188 h190 => ?_)
        ·refine Rg [0, 1, 2, 3, 4, 5, 6, 7] ?_
         refine Vs 1 ?_
         refine Ld hs36.at1 ?_
         obtain ⟨x191, hx192, h194⟩ := bind_some h189
         obtain ⟨hi193, hx192'⟩ := idx_spec hx192
         obtain ⟨b195, o196, C197, E198, fz199, rfl, hF201, hE202⟩ := SlA.open (SlA.mono hs0_2 le30) hx192'
         obtain ⟨ae203_2, ne203_2, hc204, hbe203_2, hse203_2⟩ := (tExpr_open (hE202 _ _ hx192'))
         refine Ix hi193 ?_
         refine Lx 0 (hs36.pers _ _ hF201) hc204 ?_
         obtain ⟨r205, hr206, h207⟩ := bind_some h194
         refine Cl' co_rules_printed hs36 (hsR97 w35 F1 hs36.pers (hG.mono le30) (x191) ae203_2 ne203_2 hbe203_2 hse203_2 (3) _ hr206) ?_
         rintro _ F12 w209 hs210 le211 rfl
         obtain ⟨r213, hr214, h215⟩ := bind_some h207
         refine V 64 9 (run_sadd (t := 9) (t' := 9) (x := (.const (.string ⟨([110, 111, 116, 32] : List UInt8).toArray⟩))) (y := (.tmp 63)) (a := ([110, 111, 116, 32] : List UInt8)) (b := r205) (v := r213) rfl rfl hr214) ?_
         refine Vs 2 ?_
         refine RWP.nil ?_
         obtain rfl := some_inj h215
         exact .inl ⟨rfl, F12, hs210.dr0.dr0, le211, fI⟩
        ·refine Sq (Rg [0, 1, 2, 3] ?_)
         refine Vs 1 ?_
         refine Ld hs36.at1 ?_
         refine Vs 2 ?_
         refine Nt ?_
         obtain ⟨j219, hj224, h225⟩ := bind_some h190
         refine CWP.cut (fun f w => ∃ (F13 : Mem), HS w0 F0 w F13 [] ∧ Mem.le F1 F13 ∧ FI f [] [(1, (vi x1)), (5, (vi 7)), (6, (.string ⟨(j219).toArray⟩))]) ?_ ?_
         ·refine Cd hj224 (fun hb226 h227 => ?_) (fun hb226 h228 => ?_)
          ·obtain ⟨j234, hj239, h240⟩ := bind_some h227
           refine RD 22 22 [(sb b32 (krules_sign r24.1) 173), (sb b21 (kExpr x0 a0_2 n0_2) 33)] [] hs36 (fun f w => ∃ (F14 : Mem), HS w0 F0 w F14 [] ∧ Mem.le F1 F14 ∧ FI f [] [(1, (vi x1)), (5, (vi 7)), (6, (.string ⟨(j234).toArray⟩))]) (fun wd229 hw230 => ?_) ?_
           ·refine Dvl [0] [tt, ff, ff, ff, ff, ff, ff, ff, ff, ff, ff, ff, ff, ff, ff, ff, ff, ff, ff, ff, ff, ff] ?_
            refine Dl 1 (fun _ hq => (hq.1.2 1 _ _ rfl)) ?_
            obtain ⟨x241, hx242, h244⟩ := bind_some hj239
            obtain ⟨hi243, hx242'⟩ := idx_spec hx242
            obtain ⟨b245, o246, C247, E248, fz249, rfl, hF251, hE252⟩ := SlA.open (SlA.mono hs0_2 le30) hx242'
            obtain ⟨ae253_2, ne253_2, hc254, hbe253_2, hse253_2⟩ := (tExpr_open (hE252 _ _ hx242'))
            refine Di 2 hi243 ?_
            refine Dx 3 0 (fun _ hq => hq.1.1 _ _ hF251) hc254 ?_
            refine Dvl [7] [tt, tt, tt, tt, ff, ff, ff, tt, ff, ff, ff, ff, ff, ff, ff, ff, ff, ff, ff, ff, ff, ff] ?_
            refine Dl 8 (fun _ hq => (hq.1.2 1 _ _ rfl)) ?_
            obtain ⟨x255, hx256, h258⟩ := bind_some h244
            obtain ⟨hi257, hx256'⟩ := idx_spec hx256
            obtain ⟨ae259_2, ne259_2, hc260, hbe259_2, hse259_2⟩ := (tExpr_open (hE252 _ _ hx256'))
            refine Di 9 hi257 ?_
            refine Dx 10 0 (fun _ hq => hq.1.1 _ _ hF251) hc260 ?_
            refine Dvl [14] [tt, tt, tt, tt, ff, ff, ff, tt, tt, tt, tt, ff, ff, ff, tt, ff, ff, ff, ff, ff, ff, ff] ?_
            refine Dl 15 (fun _ hq => (hq.1.2 1 _ _ rfl)) ?_
            obtain ⟨x261, hx262, h264⟩ := bind_some h258
            obtain ⟨hi263, hx262'⟩ := idx_spec hx262
            obtain ⟨ae265_2, ne265_2, hc266, hbe265_2, hse265_2⟩ := (tExpr_open (hE252 _ _ hx262'))
            refine Di 16 hi263 ?_
            refine Dx 17 0 (fun _ hq => hq.1.1 _ _ hF251) hc266 ?_
            refine D1 4 ?_
            obtain ⟨r267, hr268, h269⟩ := bind_some h264
            refine DCl co_rules_printed hw230 (hsR97 wd229 F1 hw230.pers (hG.mono le30) (x241) ae253_2 ne253_2 hbe253_2 hse253_2 (1) _ hr268) ?_
            rintro _ F15 w271 hs272 le273 rfl
            obtain ⟨r275, hr276, h277⟩ := bind_some h269
            refine Dtl 5 74 9 (.string ⟨(r275).toArray⟩) [tt, tt, tt, tt, tt, tt, ff, tt, tt, tt, tt, ff, ff, ff, tt, tt, tt, tt, ff, ff, ff, ff] (fun _ hq => run_sadd (t := 9) (t' := 9) (x := (.const (.string ⟨([105, 102, 40] : List UInt8).toArray⟩))) (y := (.tmp 73)) (a := ([105, 102, 40] : List UInt8)) (b := r267) (v := r275) rfl rfl hr276) ?_
            obtain ⟨r278, hr279, h280⟩ := bind_some h277
            refine Dtl 6 75 9 (.string ⟨(r278).toArray⟩) [tt, tt, tt, tt, tt, tt, tt, tt, tt, tt, tt, ff, ff, ff, tt, tt, tt, tt, ff, ff, ff, ff] (fun _ hq => run_sadd (t := 9) (t' := 9) (x := (.tmp 74)) (y := (.const (.string ⟨([44, 32] : List UInt8).toArray⟩))) (a := r275) (b := ([44, 32] : List UInt8)) (v := r278) rfl rfl hr279) ?_
            refine D1 11 ?_
            obtain ⟨r281, hr282, h283⟩ := bind_some h280
            refine DCl co_rules_printed hs272 (hsR97 w271 F15 hs272.pers (hG.mono (le30.trans le273)) (x255) ae259_2 ne259_2 hbe259_2 (SlA.mono hse259_2 le273) (1) _ hr282) ?_
            rintro _ F16 w285 hs286 le287 rfl
            obtain ⟨r289, hr290, h291⟩ := bind_some h283
            refine Dtl 12 81 9 (.string ⟨(r289).toArray⟩) [tt, tt, tt, tt, tt, tt, tt, tt, tt, tt, tt, tt, tt, ff, tt, tt, tt, tt, ff, ff, ff, ff] (fun _ hq => run_sadd (t := 9) (t' := 9) (x := (.tmp 75)) (y := (.tmp 80)) (a := r278) (b := r281) (v := r289) rfl rfl hr290) ?_
            obtain ⟨r292, hr293, h294⟩ := bind_some h291
            refine Dtl 13 82 9 (.string ⟨(r292).toArray⟩) [tt, tt, tt, tt, tt, tt, tt, tt, tt, tt, tt, tt, tt, tt, tt, tt, tt, tt, ff, ff, ff, ff] (fun _ hq => run_sadd (t := 9) (t' := 9) (x := (.tmp 81)) (y := (.const (.string ⟨([44, 32] : List UInt8).toArray⟩))) (a := r289) (b := ([44, 32] : List UInt8)) (v := r292) rfl rfl hr293) ?_
            refine D1 18 ?_
            obtain ⟨r295, hr296, h297⟩ := bind_some h294
            refine DCl co_rules_printed hs286 (hsR97 w285 F16 hs286.pers (hG.mono ((le30.trans le273).trans le287)) (x261) ae265_2 ne265_2 hbe265_2 (SlA.mono hse265_2 (le273.trans le287)) (1) _ hr296) ?_
            rintro _ F17 w299 hs300 le301 rfl
            obtain ⟨r303, hr304, h305⟩ := bind_some h297
            refine Dtl 19 88 9 (.string ⟨(r303).toArray⟩) [tt, tt, tt, tt, tt, tt, tt, tt, tt, tt, tt, tt, tt, tt, tt, tt, tt, tt, tt, tt, ff, ff] (fun _ hq => run_sadd (t := 9) (t' := 9) (x := (.tmp 82)) (y := (.tmp 87)) (a := r292) (b := r295) (v := r303) rfl rfl hr304) ?_
            obtain ⟨r306, hr307, h308⟩ := bind_some h305
            refine Dtl 20 89 9 (.string ⟨(r306).toArray⟩) [tt, tt, tt, tt, tt, tt, tt, tt, tt, tt, tt, tt, tt, tt, tt, tt, tt, tt, tt, tt, tt, ff] (fun _ hq => run_sadd (t := 9) (t' := 9) (x := (.tmp 88)) (y := (.const (.string ⟨([41] : List UInt8).toArray⟩))) (a := r303) (b := ([41] : List UInt8)) (v := r306) rfl rfl hr307) ?_
            refine Dvl [21] [tt, tt, tt, tt, tt, tt, tt, tt, tt, tt, tt, tt, tt, tt, tt, tt, tt, tt, tt, tt, tt, tt] ?_
            obtain rfl := some_inj h308
            exact DWP.done (by kernel_rfl) ⟨F17, hs300.dr0.dr0, ((le273.trans le287).trans le301), fI⟩
           ·rintro f w231 ⟨F14, hs232, le233, ⟨_, rfl⟩⟩
            obtain rfl := some_inj h240
            exact .inl ⟨rfl, F14, hs232, le233, fI⟩
          ·refine Sc ?_
           obtain rfl := some_inj h228
           exact .inl ⟨rfl, F1, hs36.dr0.dr0, (Mem.le.refl _), fI⟩
         ·rintro f w216 ⟨F13, hs217, le218, ⟨_, rfl⟩⟩
          obtain rfl := some_inj h225
          exact .inl ⟨rfl, F13, hs217, le218, fI⟩
       ·rintro f w178 ⟨F11, hs179, le180, ⟨_, rfl⟩⟩
        obtain rfl := some_inj h187
        exact .inl ⟨rfl, F11, hs179, le180, fI⟩
     ·rintro f w131 ⟨F8, hs132, le133, ⟨_, rfl⟩⟩
      obtain rfl := some_inj h140
      exact .inl ⟨rfl, F8, hs132, le133, fI⟩
   ·rintro f w110 ⟨F6, hs111, le112, ⟨_, rfl⟩⟩
    obtain rfl := some_inj h119
    exact .inl ⟨rfl, F6, hs111, le112, fI⟩
 ·rintro f w37 ⟨F2, hs38, le39, ⟨_, rfl⟩⟩
  refine blockQ_nrm ?_
  refine thenQ_nrm ?_
  refine Sq ?_
  refine Sq (Rg [0, 1, 2] ?_)
  refine Vs 3 ?_
  refine Nt ?_
  refine Cd h46 (fun hb309 h310 => ?_) (fun hb309 h311 => ?_)
  ·refine Sq (Rg [0, 1, 2, 3] ?_)
   refine Vs 1 ?_
   obtain ⟨r312, hr313, h314⟩ := bind_some h310
   refine V 94 9 (run_sadd (t := 9) (t' := 9) (x := (.const (.string ⟨([40] : List UInt8).toArray⟩))) (y := (.tmp 93)) (a := ([40] : List UInt8)) (b := j40.2) (v := r312) rfl rfl hr313) ?_
   obtain ⟨r315, hr316, h317⟩ := bind_some h314
   refine V 95 9 (run_sadd (t := 9) (t' := 9) (x := (.tmp 94)) (y := (.const (.string ⟨([41] : List UInt8).toArray⟩))) (a := r312) (b := ([41] : List UInt8)) (v := r315) rfl rfl hr316) ?_
   refine Vs 1 ?_
   refine Nt ?_
   refine Rt ?_
   refine thenQ_ret ?_
   obtain rfl := some_inj h317
   exact Re [(.string ⟨(r315).toArray⟩)] hs38 rfl
  ·refine Sc ?_
   refine thenQ_nrm ?_
   refine Sq (Rg [0, 1] ?_)
   refine Vs 2 ?_
   refine Nt ?_
   refine Rt ?_
   obtain rfl := some_inj h311
   exact Re [(.string ⟨(j40.2).toArray⟩)] hs38 rfl
end Go.Proofs.YtaihlcdkcampbaaGreatDoor
namespace Go.Proofs.YtaihlcdkcampbaaGreatDoor
open Go.Proofs
structure Rec97 where
 q97 : Expr → Int → Option (List UInt8)
def rec97 (N : Nat) : Nat → Rec97
 | 0 => ⟨fun _ _ => none⟩
 | k + 1 => ⟨rules_printed_S N (rec97 N k).q97⟩
theorem rec97_ok (N : Nat) : ∀ k, Self97 (rec97 N k).q97
 | 0 => (by unfold Self97; intros; rename_i h; cases h)
 | k + 1 => by
  have ih := rec97_ok N k
  exact @cS_rules_printed N (rec97 N k).q97 ih
def rules_printed (N : Nat) (x0 : Expr) (x1 : Int) : Option (List UInt8) := (rec97 N N).q97 x0 x1
theorem c_rules_printed (N : Nat) (w0 : World) (F0 : Mem) (hF : ∀ b o, F0 b = some o → w0.heap[b]? = some o) (hG : Glob F0) (x0 : Expr) (a0_2 : Option Addr) (n0_2 : Nat) (hb0_2 : LC x0.Kids.length n0_2) (hs0_2 : SlA tExpr F0 a0_2 x0.Kids) (x1 : Int) (r : (List UInt8)) (h : rules_printed N x0 x1 = some r) :
  Calls Tryz.prog 97 ([(.agg #[(.int .i64 x0.Op), (.int .i64 x0.Value), (.slice a0_2 x0.Kids.length n0_2)]), (.int .i64 x1)] : List Value).toArray w0 (FRet w0 F0 fun F' v => v = (.string ⟨(r).toArray⟩)) := (rec97_ok N N) w0 F0 hF hG x0 a0_2 n0_2 hb0_2 hs0_2 x1 r h
end Go.Proofs.YtaihlcdkcampbaaGreatDoor
namespace Go.Proofs.YtaihlcdkcampbaaGreatDoor
open Go.Proofs
def rules_PrintExpr (N : Nat) (x0 : Expr) : Option ((List UInt8) × Int) :=
 ((rules_sound N x0).bind fun r24 => (bif (!r24) then some (([] : List UInt8), 61) else ((rules_printed N x0 1).bind fun r35 => some (r35, 0))))
theorem co_rules_PrintExpr : CallOk Tryz.prog 33 := fun _ _ => by kernel_rfl
theorem c_rules_PrintExpr (N : Nat) (w0 : World) (F0 : Mem) (hF : ∀ b o, F0 b = some o → w0.heap[b]? = some o) (hG : Glob F0) (x0 : Expr) (a0_2 : Option Addr) (n0_2 : Nat) (hb0_2 : LC x0.Kids.length n0_2) (hs0_2 : SlA tExpr F0 a0_2 x0.Kids) (r : ((List UInt8) × Int)) (h : rules_PrintExpr N x0 = some r) :
  Calls Tryz.prog 33 ([(.agg (kExpr x0 a0_2 n0_2))] : List Value).toArray w0 (FRet w0 F0 fun F' v => v = (.tuple #[(.string ⟨(r.1).toArray⟩), (vi r.2)])) := by
 have hs0 := HS.start hF
 refine Go 9 Tryz.func33 ?_
 refine Sq (Rg [0, 1, 2] ?_)
 refine Bx' 33 (kExpr x0 a0_2 n0_2) hs0 (fun b21 w22 hs23 => ?_)
 refine Vs 2 ?_
 refine Nss ?_
 refine Sq (Rg [0, 1, 2] ?_)
 refine Ld hs23.at0 ?_
 obtain ⟨r24, hr25, h26⟩ := bind_some h
 refine Cl' co_rules_sound hs23 (c_rules_sound N w22 F0 hs23.pers (x0) a0_2 n0_2 hb0_2 hs0_2 _ hr25) ?_
 rintro _ F1 w28 hs29 le30 rfl
 refine Vs 1 ?_
 refine Nt ?_
 refine Cd h26 (fun hb32 h33 => ?_) (fun hb32 h34 => ?_)
 ·refine Sq (Rg [0, 1] ?_)
  refine Vs 2 ?_
  refine Nt ?_
  refine Rt ?_
  refine thenQ_ret ?_
  obtain rfl := some_inj h33
  exact Re [(.string ⟨(([] : List UInt8)).toArray⟩), (vi 61)] hs29 rfl
 ·refine Sc ?_
  refine thenQ_nrm ?_
  refine Sq (Rg [0, 1, 2, 3] ?_)
  refine Ld hs29.at0 ?_
  obtain ⟨r35, hr36, h37⟩ := bind_some h34
  refine Cl' co_rules_printed hs29 (c_rules_printed N w28 F1 hs29.pers (hG.mono le30) (x0) a0_2 n0_2 hb0_2 (SlA.mono hs0_2 le30) (1) _ hr36) ?_
  rintro _ F2 w39 hs40 le41 rfl
  refine Vs 2 ?_
  refine Nt ?_
  refine Rt ?_
  obtain rfl := some_inj h37
  exact Re [(.string ⟨(r35).toArray⟩), (vi 0)] hs40 rfl
end Go.Proofs.YtaihlcdkcampbaaGreatDoor
namespace Go.Proofs.YtaihlcdkcampbaaGreatDoor
open Go.Proofs
def collectM (m : ∀ {σ : Type}, (σ → rules_token → Option (Bool × σ)) → σ → Option σ) : Option (List rules_token) := m (fun st x => (apnd st [x]).map fun t => (true, t)) ([] : List rules_token)
theorem co_slices_AppendSeq : CallOk Tryz.prog 179 := fun _ _ => by kernel_rfl
theorem c_slices_AppendSeq (w0 : World) (F0 : Mem) (hF : ∀ b o, F0 b = some o → w0.heap[b]? = some o) (gf : FuncId) (cap : List Value) (m : ∀ {σ : Type}, (σ → rules_token → Option (Bool × σ)) → σ → Option σ) (hgf : CallOk Tryz.prog gf) (hseq : SeqOk Tryz.prog gf cap F0 [] enc194 ok194 px194 m) (r : (List rules_token)) (h : collectM m = some r) :
  Calls Tryz.prog 179 ([.slice none 0 0, (.func (.func gf) #[] cap.toArray)] : List Value).toArray w0 (FRet w0 F0 fun F' v => ∃ (aq0_0 : Option Addr) (nq0_0 : Nat), v = (.slice aq0_0 r.length nq0_0) ∧ LC r.length nq0_0 ∧ SlA trules_token F' aq0_0 r) := by
 have hs0 := HS.start hF
 refine calls_ofM (n := 13) (c := bodyOf Tryz.f179) Tryz.func179 (by kernel_rfl) (by kernel_rfl) (by kernel_rfl) ?_
 refine Sq ?_
 refine Rg [0, 1] ?_
 refine RWP.box (dst := (some 2)) (ty := 0) (g := none) (by kernel_rfl) rfl (x := (.tmp 0)) (t := 98) (v := (.slice none ([] : List rules_token).length 0)) rfl (C := #[(.slice none ([] : List rules_token).length 0)]) rfl hs0 (fun b1 w2 (hs3 : HS w0 F0 w2 F0 [(some b1, (.cells #[(.slice none ([] : List rules_token).length 0)] 98 (0, 0)))]) => ?_)
 refine V 4 98 (run_assign (x := (.const (.slice none 0 0))) (v := (.slice none ([] : List rules_token).length 0)) rfl) ?_
 refine RWP.nil ?_
 refine thenQ_nrm ?_
 refine Sq ?_
 refine Sq ?_
 refine Rg [0] ?_
 refine V 6 162 (run_move (x := (.tmp 1)) (v := (.func (.func gf) #[] cap.toArray)) rfl) ?_
 refine RWP.nil ?_
 refine thenQ_nrm ?_
 refine CWP.block (by kernel_rfl) ?_
 have hs4 : HS w0 F0 w2 F0 [(none, .cells #[] 0 (0, 0)), (some b1, (.cells #[(.slice none ([] : List rules_token).length 0)] 98 (0, 0)))] := hs3.dummy _
 obtain ⟨r14, hr15, h16⟩ : ∃ r14, collectM m = some r14 ∧ some r14 = some r := ⟨r, h, rfl⟩
 refine CWP.rangeFunc (enc := enc194) (ok := ok194) (px := px194) (m := fun {_} y s => m y s) (L := [(none, .cells #[] 0 (0, 0)), (some b1, (.cells #[(.slice none ([] : List rules_token).length 0)] 98 (0, 0)))]) (B := []) (ps := [7]) (by kernel_rfl) (gf := gf) (cap := cap) rfl hgf rfl (by kernel_rfl) (by kernel_rfl) (fun _ => rfl) hs4 hseq (fun st x => (apnd st [x]).map fun t => (true, t)) (fun (s6 : (List rules_token)) (F1 : Mem) (Lq : Own) => ∃ (as6_0 : Option Addr) (ns6_0 : Nat) (es6_0 : Option Nat × Obj), Lq = [es6_0, (some b1, (.cells #[(.slice as6_0 s6.length ns6_0)] 98 (0, 0)))] ∧ RowR trules_token 97 F1 as6_0 ns6_0 s6 es6_0) ?_ (s := ([] : List rules_token)) (r := r14) ?_ hr15 (fun _ _ _ h => (map_true h).1) ?_ ?_
 ·
  rintro s F F' L ⟨as6_0, ns6_0, es6_0, rfl, hrs6_0⟩ hl
  exact ⟨as6_0, ns6_0, es6_0, rfl, (hrs6_0.mono hl)⟩
 ·
  exact ⟨none, 0, (none, .cells #[] 0 (0, 0)), rfl, (RowR.nil trules_token 97 F0 _)⟩
 ·
  rintro l17 s6 x19 w20 F1 _ Rf22 ⟨q0, q23⟩ le24 ok25 ⟨as6_0, ns6_0, es6_0, rfl, hrs6_0⟩ hs26 hy27
  have h28 := (map_true hy27).2
  have hs29 : HS w0 F0 w20 F1 (es6_0 :: (some b1, (.cells #[(.slice as6_0 s6.length ns6_0)] 98 (0, 0))) :: Rf22) := hs26
  refine Rg [0, 1] ?_
  refine RWP.alloc (dst := (some 5)) (ty := 0) (g := none) (by kernel_rfl) rfl (t := 97) (z := (.agg #[(.int .i64 0), (.int .i64 0), (.string ⟨(([] : List UInt8)).toArray⟩)])) (by kernel_rfl) (C := #[(.int .i64 0), (.int .i64 0), (.string ⟨(([] : List UInt8)).toArray⟩)]) rfl hs29 (fun b30 w31 (hs32 : HS w0 F0 w31 F1 ((some b30, (.cells #[(.int .i64 0), (.int .i64 0), (.string ⟨(([] : List UInt8)).toArray⟩)] 97 (0, 0))) :: es6_0 :: (some b1, (.cells #[(.slice as6_0 s6.length ns6_0)] 98 (0, 0))) :: Rf22)) => ?_)
  refine RWP.store (ty := 0) (g := none) (by kernel_rfl) rfl (x := (.tmp 5)) (y := (.tmp 7)) (t := 97) (gg := true) (s := 3) (v := (.agg #[(.int .i64 x19.kind_), (.int .i64 x19.at_), (.string ⟨(x19.text_).toArray⟩)])) (b := b30) (o := 0) (C := #[(.int .i64 0), (.int .i64 0), (.string ⟨(([] : List UInt8)).toArray⟩)]) rfl rfl (by kernel_rfl) hs32 (k := 0) rfl rfl rfl rfl (C' := #[(.int .i64 x19.kind_), (.int .i64 x19.at_), (.string ⟨(x19.text_).toArray⟩)]) rfl (fun w33 (hs34 : HS w0 F0 w33 F1 ((some b30, (.cells #[(.int .i64 x19.kind_), (.int .i64 x19.at_), (.string ⟨(x19.text_).toArray⟩)] 97 (0, 0))) :: es6_0 :: (some b1, (.cells #[(.slice as6_0 s6.length ns6_0)] 98 (0, 0))) :: Rf22)) => ?_)
  refine RWP.nil ?_
  refine ⟨rfl, F1, [(some b30, (.cells #[(.int .i64 x19.kind_), (.int .i64 x19.at_), (.string ⟨(x19.text_).toArray⟩)] 97 (0, 0))), es6_0, (some b1, (.cells #[(.slice as6_0 s6.length ns6_0)] 98 (0, 0)))], hs34, fun w35 Rf36 hs37 => ?_⟩
  have hs38 : HS w0 F0 w35 F1 ((some b30, (.cells #[(.int .i64 x19.kind_), (.int .i64 x19.at_), (.string ⟨(x19.text_).toArray⟩)] 97 (0, 0))) :: es6_0 :: (some b1, (.cells #[(.slice as6_0 s6.length ns6_0)] 98 (0, 0))) :: Rf36) := hs37
  refine CWP.block (by kernel_rfl) ?_
  refine Rg [0, 1, 2, 3, 4] ?_
  refine V 8 98 (run_load' (t := 98) (x := (.tmp 2)) (b := b1) (o := 0) (g := false) (s := 1) (C := #[(.slice as6_0 s6.length ns6_0)]) (v := (.slice as6_0 s6.length ns6_0)) rfl (by kernel_rfl) (hs38.ownAt (k := 2) rfl) rfl rfl rfl) ?_
  refine V 9 97 (run_load' (t := 97) (x := (.tmp 5)) (b := b30) (o := 0) (g := true) (s := 3) (C := #[(.int .i64 x19.kind_), (.int .i64 x19.at_), (.string ⟨(x19.text_).toArray⟩)]) (v := (.agg #[(.int .i64 x19.kind_), (.int .i64 x19.at_), (.string ⟨(x19.text_).toArray⟩)])) rfl (by kernel_rfl) (hs38.ownAt (k := 0) rfl) rfl rfl rfl) ?_
  refine RWP.buildSlice (dst := (some 10)) (ty := 98) (g := none) (by kernel_rfl) rfl (t := 98) (len := 1) (parts := #[(0, (.tmp 9))]) (vs := [(0, (.agg #[(.int .i64 x19.kind_), (.int .i64 x19.at_), (.string ⟨(x19.text_).toArray⟩)]))]) (rfl) (E := 97) (cs := [(.int .i64 x19.kind_), (.int .i64 x19.at_), (.string ⟨(x19.text_).toArray⟩)]) (by kernel_rfl) hs38 (fun b39 w40 (hs41 : HS w0 F0 w40 F1 ((some b39, .cells ([(.int .i64 x19.kind_), (.int .i64 x19.at_), (.string ⟨(x19.text_).toArray⟩)] : List Value).toArray 97 (0, 0)) :: (some b30, (.cells #[(.int .i64 x19.kind_), (.int .i64 x19.at_), (.string ⟨(x19.text_).toArray⟩)] 97 (0, 0))) :: es6_0 :: (some b1, (.cells #[(.slice as6_0 s6.length ns6_0)] 98 (0, 0))) :: Rf36)) => ?_)
  have hr43 : RowR trules_token 97 F1 (some ⟨b39, 0, none⟩) 1 [x19] (some b39, .cells ([(.int .i64 x19.kind_), (.int .i64 x19.at_), (.string ⟨(x19.text_).toArray⟩)] : List Value).toArray 97 (0, 0)) := RowR.lit ⟨rfl, rfl⟩ (by simp)
  obtain ⟨r44, hap45, h46⟩ : ∃ r44, apnd s6 [x19] = some r44 ∧ some r44 = some q23 := ⟨_, h28, rfl⟩
  refine RWP.append (dst := (some 11)) (ty := 98) (g := none) (by kernel_rfl) rfl (x := (.tmp 8)) (y := (.tmp 10)) (t := 98) (t2 := 98) (by_ := 32) (z := (.agg #[(.int .i64 0), (.int .i64 0), (.string ⟨(([] : List UInt8)).toArray⟩)])) (a2 := (some ⟨b39, 0, none⟩)) (c2 := 1) (m := [x19]) (T := trules_token) (E := 97) (a := as6_0) (cap := ns6_0) (l := s6) rfl rfl (by kernel_rfl) (by decide) (by kernel_rfl) (by kernel_rfl) rfl orules_token hs41 (k := 2) rfl hrs6_0 (RowR.rd hs41 (k := 0) rfl hr43) (r := r44) hap45 (fun a47 n48 e49 w50 (hs51 : HS w0 F0 w50 F1 ((some b39, .cells ([(.int .i64 x19.kind_), (.int .i64 x19.at_), (.string ⟨(x19.text_).toArray⟩)] : List Value).toArray 97 (0, 0)) :: (some b30, (.cells #[(.int .i64 x19.kind_), (.int .i64 x19.at_), (.string ⟨(x19.text_).toArray⟩)] 97 (0, 0))) :: e49 :: (some b1, (.cells #[(.slice as6_0 s6.length ns6_0)] 98 (0, 0))) :: Rf36)) hr52 => ?_)
  refine RWP.store (ty := 0) (g := none) (by kernel_rfl) rfl (x := (.tmp 2)) (y := (.tmp 11)) (t := 98) (gg := false) (s := 1) (v := (.slice a47 r44.length n48)) (b := b1) (o := 0) (C := #[(.slice as6_0 s6.length ns6_0)]) rfl rfl (by kernel_rfl) hs51 (k := 3) rfl rfl rfl rfl (C' := #[(.slice a47 r44.length n48)]) rfl (fun w53 (hs54 : HS w0 F0 w53 F1 ((some b39, .cells ([(.int .i64 x19.kind_), (.int .i64 x19.at_), (.string ⟨(x19.text_).toArray⟩)] : List Value).toArray 97 (0, 0)) :: (some b30, (.cells #[(.int .i64 x19.kind_), (.int .i64 x19.at_), (.string ⟨(x19.text_).toArray⟩)] 97 (0, 0))) :: e49 :: (some b1, (.cells #[(.slice a47 r44.length n48)] 98 (0, 0))) :: Rf36)) => ?_)
  refine RWP.nil ?_
  refine blockQ_nrm ?_
  have hs56 : HS w0 F0 w53 F1 (e49 :: (some b1, (.cells #[(.slice a47 r44.length n48)] 98 (0, 0))) :: Rf36) := (hs54.drop 0).drop 0
  obtain rfl := some_inj h46
  exact ⟨rfl, F1, [e49, (some b1, (.cells #[(.slice a47 r44.length n48)] 98 (0, 0)))], hs56, (Mem.le.refl _), ⟨a47, n48, e49, rfl, hr52⟩⟩
 ·
  rintro D58 w59 F2 _ hs60 le61 ⟨as10_0, ns10_0, es10_0, rfl, hrs10_0⟩
  have hs62 : HS w0 F0 w59 F2 [(some D58, (.deferred (some []))), es10_0, (some b1, (.cells #[(.slice as10_0 r14.length ns10_0)] 98 (0, 0)))] := hs60
  refine blockQ_nrm ?_
  refine thenQ_nrm ?_
  refine Sq ?_
  refine Rg [0, 1] ?_
  refine V 12 98 (run_load' (t := 98) (x := (.tmp 2)) (b := b1) (o := 0) (g := false) (s := 1) (C := #[(.slice as10_0 r14.length ns10_0)]) (v := (.slice as10_0 r14.length ns10_0)) rfl (by kernel_rfl) (hs62.ownAt (k := 2) rfl) rfl rfl rfl) ?_
  refine V 4 98 (run_assign (x := (.tmp 12)) (v := (.slice as10_0 r14.length ns10_0)) rfl) ?_
  refine RWP.nil ?_
  refine thenQ_nrm ?_
  refine CWP.ret (by kernel_rfl) ?_
  have hb66 := RowR.bound hrs10_0
  obtain ⟨F3, hs63, le64, hs65⟩ : ∃ Fq, HS w0 F0 w59 Fq [(some D58, (.deferred (some []))), (some b1, (.cells #[(.slice as10_0 r14.length ns10_0)] 98 (0, 0)))] ∧ Mem.le F2 Fq ∧ SlA trules_token Fq as10_0 r14 := HS.freezeRow hs62 (k := 1) rfl hrs10_0
  have hs67 := hs63.put (k := 0) rfl (.deferred none)
  have hs68 : HS w0 F0 (putB w59 D58 (.deferred none)) F3 [(some b1, (.cells #[(.slice as10_0 r14.length ns10_0)] 98 (0, 0)))] := hs67.drop 0
  have hfin := some_inj h16
  subst hfin
  exact .inr ⟨D58, rfl, hs63.ownAt (k := 0) rfl, (.slice as10_0 r14.length ns10_0), res_of (l := [.tmp 4]) (by kernel_rfl) (vs := [(.slice as10_0 r14.length ns10_0)]) ⟨rfl, trivial⟩, (.slice as10_0 r14.length ns10_0), F3, rfl, hs68.clear, ⟨as10_0, ns10_0, rfl, hb66, hs65⟩⟩
theorem co_slices_Collect : CallOk Tryz.prog 132 := fun _ _ => by kernel_rfl
set_option maxRecDepth 100000 in
theorem c_slices_Collect (w0 : World) (F0 : Mem) (hF : ∀ b o, F0 b = some o → w0.heap[b]? = some o) (gf : FuncId) (cap : List Value) (m : ∀ {σ : Type}, (σ → rules_token → Option (Bool × σ)) → σ → Option σ) (hgf : CallOk Tryz.prog gf) (hseq : SeqOk Tryz.prog gf cap F0 [] enc194 ok194 px194 m) (r : (List rules_token)) (h : collectM m = some r) :
  Calls Tryz.prog 132 ([(.func (.func gf) #[] cap.toArray)] : List Value).toArray w0 (FRet w0 F0 fun F' v => ∃ (aq0_0 : Option Addr) (nq0_0 : Nat), v = (.slice aq0_0 r.length nq0_0) ∧ LC r.length nq0_0 ∧ SlA trules_token F' aq0_0 r) := by
 have hs0 := HS.start hF
 refine calls_of (n := 5) (c := bodyOf Tryz.f132) Tryz.func132 (by kernel_rfl) (by kernel_rfl) (by kernel_rfl) ?_
 refine Sq ?_
 refine Rg [0] ?_
 refine V 2 98 (run_assign (x := (.const (.slice none 0 0))) (v := (.slice none 0 0)) rfl) ?_
 refine RWP.nil ?_
 refine thenQ_nrm ?_
 refine Sq ?_
 refine Rg [0, 1, 2] ?_
 refine V 3 162 (run_move (x := (.tmp 0)) (v := (.func (.func gf) #[] cap.toArray)) rfl) ?_
 refine RWP.call (dst := (some 4)) (ty := 98) (g := none) (by kernel_rfl) rfl (f0 := (.func 179)) (aos := #[(.const (.slice none 0 0)), (.tmp 3)]) (ats := #[98, 162]) (fid := 179) (first := #[]) (cap := #[]) (args := [.slice none 0 0, (.func (.func gf) #[] cap.toArray)]) rfl co_slices_AppendSeq rfl hs0 (c_slices_AppendSeq w0 F0 hs0.pers gf cap m hgf hseq r h) ?_
 intro v F1 w1 hs1 le1 hp
 obtain ⟨a, n, rfl, hb, hs⟩ := hp
 refine V 2 98 (run_assign (x := (.tmp 4)) (v := (.slice a r.length n)) rfl) ?_
 refine RWP.nil ?_
 refine thenQ_nrm ?_
 refine CWP.ret (by kernel_rfl) ?_
 exact ⟨rfl, (.slice a r.length n), res_of (l := [.tmp 2]) (by kernel_rfl) (vs := [(.slice a r.length n)]) ⟨rfl, trivial⟩, _, F1, rfl, hs1, a, n, rfl, hb, hs⟩
theorem co_rules_tokens : CallOk Tryz.prog 133 := fun _ _ => by kernel_rfl
set_option maxRecDepth 100000 in
theorem c_rules_tokens (w0 : World) (F0 : Mem) (hF : ∀ b o, F0 b = some o → w0.heap[b]? = some o) (x0 : List UInt8) :
  Calls Tryz.prog 133 ([(.string ⟨(x0).toArray⟩)] : List Value).toArray w0 (FRet w0 F0 fun F' v => ∃ (b1 b2 : Nat), v = .func (.func 181) #[] #[.pointer (some ⟨b1, 0, none⟩), .pointer (some ⟨b2, 0, none⟩)] ∧ F' b1 = some (.cells #[(.string ⟨(x0).toArray⟩)] 9 (0, 0)) ∧ F' b2 = some (.cells #[.func (.func 180) #[] #[.pointer (some ⟨b1, 0, none⟩)]] 193 (0, 0))) := by
 have hs0 := HS.start hF
 refine calls_of (n := 6) (c := bodyOf Tryz.f133) Tryz.func133 (by kernel_rfl) (by kernel_rfl) (by kernel_rfl) ?_
 refine Sq ?_
 refine Rg [0, 1] ?_
 refine RWP.box (dst := (some 1)) (ty := 0) (g := none) (by kernel_rfl) rfl (x := (.tmp 0)) (t := 9) (v := (.string ⟨(x0).toArray⟩)) rfl (C := #[(.string ⟨(x0).toArray⟩)]) rfl hs0 (fun b1 w1 hs1 => ?_)
 refine V 2 162 (run_assign (x := (.const .nilFunc)) (v := .nilFunc) rfl) ?_
 refine RWP.nil ?_
 refine thenQ_nrm ?_
 refine Sq ?_
 refine Rg [0, 1, 2] ?_
 refine V 4 193 (run_makeFunc (fn := .func 180) (first := #[]) (cap := #[.tmp 1]) (fl := []) (cl := [.pointer (some ⟨b1, 0, none⟩)]) rfl rfl) ?_
 refine RWP.alloc (dst := (some 3)) (ty := 0) (g := none) (by kernel_rfl) rfl (t := 193) (z := .nilFunc) (by kernel_rfl) (C := #[.nilFunc]) rfl hs1 (fun b2 w2 hs2 => ?_)
 refine RWP.store (ty := 0) (g := none) (by kernel_rfl) rfl (x := (.tmp 3)) (y := (.tmp 4)) (t := 193) (gg := false) (s := 1) (v := .func (.func 180) #[] #[.pointer (some ⟨b1, 0, none⟩)]) (b := b2) (o := 0) (C := #[.nilFunc]) rfl rfl (by kernel_rfl) hs2 (k := 0) rfl rfl rfl rfl (C' := #[.func (.func 180) #[] #[.pointer (some ⟨b1, 0, none⟩)]]) rfl (fun w3 (hs3 : HS w0 F0 w3 F0 [(some b2, .cells #[.func (.func 180) #[] #[.pointer (some ⟨b1, 0, none⟩)]] 193 (0, 0)), (some b1, .cells #[(.string ⟨(x0).toArray⟩)] 9 (0, 0))]) => ?_)
 refine RWP.nil ?_
 refine thenQ_nrm ?_
 refine Sq ?_
 refine Rg [0, 1] ?_
 refine V 5 161 (run_makeFunc (fn := .func 181) (first := #[]) (cap := #[.tmp 1, .tmp 3]) (fl := []) (cl := [.pointer (some ⟨b1, 0, none⟩), .pointer (some ⟨b2, 0, none⟩)]) rfl rfl) ?_
 refine V 2 162 (run_assign (x := (.tmp 5)) (v := .func (.func 181) #[] #[.pointer (some ⟨b1, 0, none⟩), .pointer (some ⟨b2, 0, none⟩)]) rfl) ?_
 refine RWP.nil ?_
 refine thenQ_nrm ?_
 refine CWP.ret (by kernel_rfl) ?_
 obtain ⟨F1, hs4, le1, hF1⟩ : ∃ Fq, HS w0 F0 w3 Fq [(some b1, .cells #[(.string ⟨(x0).toArray⟩)] 9 (0, 0))] ∧ Mem.le F0 Fq ∧ Fq b2 = some _ := HS.freezeC hs3 (k := 0) rfl
 obtain ⟨F2, hs5, le2, hF2⟩ : ∃ Fq, HS w0 F0 w3 Fq [] ∧ Mem.le F1 Fq ∧ Fq b1 = some _ := HS.freezeC hs4 (k := 0) rfl
 exact ⟨rfl, _, res_of (l := [.tmp 2]) (by kernel_rfl) (vs := [.func (.func 181) #[] #[.pointer (some ⟨b1, 0, none⟩), .pointer (some ⟨b2, 0, none⟩)]]) ⟨rfl, trivial⟩, _, F2, rfl, hs5, b1, b2, rfl, hF2, le2 _ _ hF1⟩
end Go.Proofs.YtaihlcdkcampbaaGreatDoor
namespace Go.Proofs.YtaihlcdkcampbaaGreatDoor
open Go.Proofs
def rules_tokens_1_L0 (N : Nat) (x0 : Int) (x1 : Int) (x2 : Int) (z0 : (List UInt8)) : Int → Option (Flow (List UInt8) Int) := fun s24 =>
 ((bif (decide (s24 < (z0.length : Int))) then ((sidx z0 s24).bind fun c64 => (bif (decide (x1 ≤ c64)) then ((sidx z0 s24).bind fun c70 => some (decide (c70 ≤ x2))) else some false)) else some false).bind fun j51 => (bif j51 then some (.next (W64 (s24 + 1))) else some (.done s24)))
def rules_tokens_1 (N : Nat) (x0 : Int) (x1 : Int) (x2 : Int) (z0 : (List UInt8)) : Option (List UInt8) :=
 ((iter (rules_tokens_1_L0 N x0 x1 x2 z0) N x0).bind fun o => o.k (fun r => some r) (fun s34 => ((ssub z0 x0 s34).bind fun r79 => some r79)))
theorem co_rules_tokens_1 : CallOk Tryz.prog 180 := fun _ _ => by kernel_rfl
theorem c_rules_tokens_1 (N : Nat) (w0 : World) (F0 : Mem) (hF : ∀ b o, F0 b = some o → w0.heap[b]? = some o) (x0 : Int) (x1 : Int) (x2 : Int) (bz0 : Nat) (z0 : (List UInt8)) (hz0 : F0 bz0 = some (oc #[(.string ⟨(z0).toArray⟩)] 9)) (r : (List UInt8)) (h : rules_tokens_1 N x0 x1 x2 z0 = some r) :
  Calls Tryz.prog 180 ([(vi x0), (.int .u8 x1), (.int .u8 x2), (pt bz0 0)] : List Value).toArray w0 (FRet w0 F0 fun F' v => v = (.string ⟨(r).toArray⟩)) := by
 have hs0 := HS.start hF
 refine Go 34 Tryz.func180 ?_
 refine Sq (Rg [0] ?_)
 refine Vs 1 ?_
 refine Nss (Rg [0, 1] ?_)
 refine Vs 2 ?_
 refine Nss ?_
 obtain ⟨o21, ho22, h23⟩ := bind_some h
 refine CWP.cut (fun f w => ∃ (s34 : Int) (F2 : Mem), o21 = .done s34 ∧ HS w0 F0 w F2 [] ∧ Mem.le F0 F2 ∧ FI f [] [(0, (vi x0)), (3, (pt bz0 0)), (8, (vi s34))]) ?_ ?_
 ·refine Bk ?_
  refine CWP.loop (by kernel_rfl) (fun m f w => ∃ (s24 : Int) (F1 : Mem), iter (rules_tokens_1_L0 N x0 x1 x2 z0) m s24 = some o21 ∧ HS w0 F0 w F1 [] ∧ Mem.le F0 F1 ∧ FI f [] [(0, (vi x0)), (1, (.int .u8 x1)), (2, (.int .u8 x2)), (3, (pt bz0 0)), (8, (vi s24))]) N ⟨x0, F0, ho22, hs0, (Mem.le.refl _), fI⟩ ?_
  rintro m42 f w25 ⟨s24, F1, hit43, hs26, le27, ⟨_, rfl⟩⟩
  obtain ⟨m44, fl45, rfl, hb46, hnx47⟩ := iter_step hit43
  refine Sq ?_
  refine Sq (Rg [0, 1, 2, 3, 4, 5, 6, 7, 8, 9, 10, 11, 12, 13, 14, 15, 16, 17] ?_)
  obtain ⟨j51, hj59, h60⟩ := bind_some hb46
  refine RWP.cut (fun f w => ∃ (F3 : Mem), HS w0 F0 w F3 [] ∧ Mem.le F1 F3 ∧ FI f [] [(0, (vi x0)), (1, (.int .u8 x1)), (2, (.int .u8 x2)), (3, (pt bz0 0)), (8, (vi s24)), (27, (.bool j51))]) ?_ ?_
  ·refine Vs 1 ?_
   refine Ld (hs26.pers _ _ (le27 _ _ hz0)) ?_
   refine Vs 3 ?_
   refine Sp hj59 (fun hb61 h62 => ?_) (fun hb61 h63 => ?_)
   ·refine Vgs hb61 1 ?_
    refine Vg 16 9 4 true 14 hb61 (ld 9 3 bz0 0 false 1 (.string ⟨(z0).toArray⟩) (hs26.pers _ _ (le27 _ _ hz0))) ?_
    refine Vgs hb61 1 ?_
    obtain ⟨c64, hr65, h66⟩ := bind_some h62
    refine Vg 18 5 4 true 14 hb61 (run_sidx (t := 9) (x := (.tmp 16)) (y := (.tmp 17)) (a := z0) (k := .i64) (i := s24) (v := c64) rfl rfl (by kernel_rfl) hr65) ?_
    refine Vgs hb61 1 ?_
    refine Pk1 hb61 ?_
    refine Vs 1 ?_
    refine Sp h66 (fun hb67 h68 => ?_) (fun hb67 h69 => ?_)
    ·refine Vg 22 9 11 true 21 hb67 (ld 9 3 bz0 0 false 1 (.string ⟨(z0).toArray⟩) (hs26.pers _ _ (le27 _ _ hz0))) ?_
     refine Vgs hb67 1 ?_
     obtain ⟨c70, hr71, h72⟩ := bind_some h68
     refine Vg 24 5 11 true 21 hb67 (run_sidx (t := 9) (x := (.tmp 22)) (y := (.tmp 23)) (a := z0) (k := .i64) (i := s24) (v := c70) rfl rfl (by kernel_rfl) hr71) ?_
     refine Vgs hb67 2 ?_
     refine Pk1 hb67 ?_
     obtain rfl := some_inj h72
     exact RWP.nil ⟨rfl, F1, hs26, (Mem.le.refl _), fI⟩
    ·refine Ss hb67 5 ?_
     refine Pk0 hb67 ?_
     obtain rfl := some_inj h69
     exact RWP.nil ⟨rfl, F1, hs26, (Mem.le.refl _), fI⟩
   ·refine Ss hb61 5 ?_
    refine Pk0 hb61 ?_
    refine Vs 1 ?_
    refine Ss (rfl : false = false) 5 ?_
    refine Pk0 (rfl : false = false) ?_
    obtain rfl := some_inj h63
    exact RWP.nil ⟨rfl, F1, hs26, (Mem.le.refl _), fI⟩
  ·rintro f w48 ⟨F3, hs49, le50, ⟨_, rfl⟩⟩
   refine thenQ_nrm ?_
   refine Cd h60 (fun hb73 h74 => ?_) (fun hb73 h75 => ?_)
   ·refine Sc ?_
    refine thenQ_nrm ?_
    refine Bk ?_
    refine Rg [0, 1, 2] ?_
    refine Vs 3 ?_
    refine RWP.nil ?_
    refine blockQ_nrm ?_
    have hn76 := iter_next h74 hnx47
    exact ⟨m44, Nat.lt_succ_self _, (W64 (s24 + 1)), F3, hn76, hs49, (le27.trans le50), fI⟩
   ·refine Ex ?_
    refine thenQ_ex ?_
    refine thenQ_ex ?_
    refine blockQ_hit rfl ?_
    have ho77 := iter_done h75 hnx47
    exact .inl ⟨rfl, s24, F3, ho77, hs49, (le27.trans le50), fI⟩
 ·rintro f w35 ⟨s34, F2, rfl, hs36, le37, ⟨_, rfl⟩⟩
  have h78 := k_done h23
  refine thenQ_nrm ?_
  refine Sq (Rg [0, 1, 2, 3, 4] ?_)
  refine Ld (hs36.pers _ _ (le37 _ _ hz0)) ?_
  refine Vs 2 ?_
  obtain ⟨r79, hr80, h81⟩ := bind_some h78
  refine V 33 9 (run_ssub (t := 9) (x := (.tmp 30)) (lo := (some (.tmp 31))) (hi := (some (.tmp 32))) (a := z0) (il := x0) (ih := s34) (v := r79) rfl (by kernel_rfl) rfl rfl hr80) ?_
  refine Vs 1 ?_
  refine Nt ?_
  refine Rt ?_
  obtain rfl := some_inj h81
  exact Re [(.string ⟨(r79).toArray⟩)] hs36 rfl
end Go.Proofs.YtaihlcdkcampbaaGreatDoor
namespace Go.Proofs.YtaihlcdkcampbaaGreatDoor
open Go.Proofs
def rules_tokens_2_L0 {σ : Type} (N : Nat) (y : (σ → rules_token → Option (Bool × σ))) (z0 : (List UInt8)) (z1 : (Int → Int → Int → Option (List UInt8))) (s : σ) : (Int × σ) → Option (Flow σ (Int × σ)) := fun s4 =>
 (bif (decide (s4.1 < (z0.length : Int))) then ((ssub z0 s4.1 (W64 (s4.1 + 1))).bind fun r33 => ((sidx z0 s4.1).bind fun c41 => (bif ((c41 == 32) || (c41 == 9)) then some (.next ((W64 (s4.1 + 1)), s4.2)) else ((bif ((decide (c41 ≥ 48)) && (decide (c41 ≤ 57))) then ((z1 s4.1 48 57).bind fun r87 => some (1, r87)) else ((bif ((decide (c41 ≥ 97)) && (decide (c41 ≤ 122))) then ((z1 s4.1 97 122).bind fun r126 => some (2, r126)) else ((ssub z0 s4.1 (z0.length : Int)).bind fun r138 => ((strings_HasPrefix N r138 ([61, 62] : List UInt8)).bind fun r141 => ((bif r141 then some (3, ([61, 62] : List UInt8)) else ((strings_IndexByte N ([40, 41, 44, 58, 61, 60, 43, 45, 42, 10] : List UInt8) c41).bind fun r168 => ((bif (decide (r168 ≥ 0)) then some 3 else some 4).bind fun j179 => some (j179, r33)))).bind fun j152 => some (j152.1, j152.2))))).bind fun j114 => some (j114.1, j114.2))).bind fun j75 => ((y s4.2 ({ kind_ := j75.1, at_ := s4.1, text_ := j75.2 } : rules_token)).bind fun q193 => (bif (!q193.1) then some (.ret q193.2) else some (.next ((W64 (s4.1 + (j75.2.length : Int))), q193.2)))))))) else some (.done (s4.1, s4.2)))
def rules_tokens_2 {σ : Type} (N : Nat) (y : σ → rules_token → Option (Bool × σ)) (z0 : (List UInt8)) (z1 : (Int → Int → Int → Option (List UInt8))) (s : σ) : Option σ :=
 ((iter (rules_tokens_2_L0 N y z0 z1 s) N (0, s)).bind fun o => o.k (fun r => some r) (fun s15 => ((y s15.2 ({ kind_ := 0, at_ := (z0.length : Int), text_ := ([] : List UInt8) } : rules_token)).bind fun q208 => some q208.2)))
theorem co_rules_tokens_2 : CallOk Tryz.prog 181 := fun _ _ => by kernel_rfl
theorem c_rules_tokens_2 (N : Nat) (F0 : Mem) (z0 : (List UInt8)) (bz0 : Nat) (hz0 : F0 bz0 = some (oc #[(.string ⟨(z0).toArray⟩)] 9)) (z1 : (Int → Int → Int → Option (List UInt8))) (gz1_0 : FuncId) (fz1_0 : List Value) (kz1_0 : List Value) (hoz1_0 : CallOk Tryz.prog gz1_0) (hpz1_0 : Fn193 F0 gz1_0 fz1_0 kz1_0 z1) (bz1 : Nat) (hz1 : F0 bz1 = some (oc #[(.func (.func gz1_0) fz1_0.toArray kz1_0.toArray)] 193)) :
  SeqOk Tryz.prog 181 [(pt bz0 0), (pt bz1 0)] F0 [] enc194 ok194 px194 (fun {_} y s => rules_tokens_2 N y z0 z1 s) := by
 intro σ wb w0 Fb F1 l y J s r Lf le01 hJm hs0 hJ hY h
 have hs0 : HS wb Fb w0 F1 Lf := hs0
 refine calls_of (n := 80) (c := bodyOf Tryz.f181) Tryz.func181 (by kernel_rfl) (by kernel_rfl) (by kernel_rfl) ?_
 refine Sq ?_
 refine Sq (Rg [0] ?_)
 refine Vs 1 ?_
 refine Nt ?_
 obtain ⟨o1, ho2, h3⟩ := bind_some h
 refine CWP.cut (fun f w => ∃ (s15 : (Int × σ)) (F3 : Mem) (Lf19 : Own), o1 = .done s15 ∧ HS wb Fb w F3 Lf19 ∧ Mem.le F1 F3 ∧ FI f [] [(0, (.func (.yield l) #[] #[])), (1, (pt bz0 0))] ∧ J s15.2 F3 Lf19) ?_ ?_
 ·refine Bk ?_
  refine CWP.loop (by kernel_rfl) (fun m f w => ∃ (s4 : (Int × σ)) (F2 : Mem) (Lf8 : Own), iter (rules_tokens_2_L0 N y z0 z1 s) m s4 = some o1 ∧ HS wb Fb w F2 Lf8 ∧ Mem.le F1 F2 ∧ FI f [] [(0, (.func (.yield l) #[] #[])), (1, (pt bz0 0)), (2, (pt bz1 0)), (4, (vi s4.1))] ∧ J s4.2 F2 Lf8) N ⟨(0, s), F1, Lf, ho2, hs0, (Mem.le.refl _), fI, hJ⟩ ?_
  rintro m24 f w5 ⟨s4, F2, Lf8, hit25, hs6, le7, ⟨_, rfl⟩, hJ9⟩
  obtain ⟨m26, fl27, rfl, hb28, hnx29⟩ := iter_step hit25
  refine Sq ?_
  refine Sq (Rg [0, 1, 2, 3] ?_)
  refine Vs 1 ?_
  refine Ld (hs6.pers _ _ ((le01.trans le7) _ _ hz0)) ?_
  refine Vs 1 ?_
  refine Vs 1 ?_
  refine Nt ?_
  refine Cd hb28 (fun hb30 h31 => ?_) (fun hb30 h32 => ?_)
  ·refine Sc ?_
   refine thenQ_nrm ?_
   refine Bk ?_
   refine Sq (Rg [0, 1, 2, 3, 4, 5, 6, 7, 8] ?_)
   refine Vs 1 ?_
   refine Ld (hs6.pers _ _ ((le01.trans le7) _ _ hz0)) ?_
   refine Vs 1 ?_
   refine Vs 1 ?_
   refine Vs 1 ?_
   obtain ⟨r33, hr34, h35⟩ := bind_some h31
   refine V 16 9 (run_ssub (t := 9) (x := (.tmp 12)) (lo := (some (.tmp 13))) (hi := (some (.tmp 15))) (a := z0) (il := s4.1) (ih := (W64 (s4.1 + 1))) (v := r33) rfl (by kernel_rfl) rfl rfl hr34) ?_
   refine Vs 1 ?_
   refine Al' 97 #[(vi 0), (vi 0), (.string ⟨(([] : List UInt8)).toArray⟩)] hs6 (fun b36 w37 hs38 => ?_)
   refine St0 #[(vi 4), (vi s4.1), (.string ⟨(r33).toArray⟩)] hs38 (fun w39 hs40 => ?_)
   refine Nss ?_
   refine Sq (Rg [0, 1, 2, 3] ?_)
   refine Ld (hs40.pers _ _ ((le01.trans le7) _ _ hz0)) ?_
   refine Vs 1 ?_
   obtain ⟨c41, hr42, h43⟩ := bind_some h35
   refine V 20 5 (run_sidx (t := 9) (x := (.tmp 18)) (y := (.tmp 19)) (a := z0) (k := .i64) (i := s4.1) (v := c41) rfl rfl (by kernel_rfl) hr42) ?_
   refine Vs 1 ?_
   refine Nt ?_
   refine Bk ?_
   refine Sq (Rg [0, 1, 2, 3, 4, 5, 6] ?_)
   refine RWP.cut (fun f w => ∃ (F4 : Mem), HS wb Fb w F4 ((sb b36 #[(vi 4), (vi s4.1), (.string ⟨(r33).toArray⟩)] 97) :: Lf8) ∧ Mem.le F2 F4 ∧ FI f [] [(0, (.func (.yield l) #[] #[])), (1, (pt bz0 0)), (2, (pt bz1 0)), (4, (vi s4.1)), (5, (pt b36 0)), (6, (.int .u8 c41)), (21, (.bool ((c41 == 32) || (c41 == 9))))]) ?_ ?_
   ·refine Vs 1 ?_
    refine Vs 1 ?_
    refine Vs 1 ?_
    refine RWP.split (c41 == 32) (fun hb55 => ?_) (fun hb55 => ?_)
    ·refine Ss hb55 1 ?_--2
     refine Ss hb55 1 ?_--2
     refine Pk1 hb55 ?_
     refine Vs 1 ?_
     exact RWP.nil ⟨rfl, F2, hs40, (Mem.le.refl _), (fJ ⟨rfl, rfl, rfl, rfl, rfl, rfl, (congrArg Value.bool (or_t hb55 (rfl))), trivial⟩)⟩
    ·refine Vgs hb55 1 ?_--2
     refine Vgs hb55 1 ?_--2
     refine Pk0 hb55 ?_
     refine Vs 1 ?_
     exact RWP.nil ⟨rfl, F2, hs40, (Mem.le.refl _), (fJ ⟨rfl, rfl, rfl, rfl, rfl, rfl, (congrArg Value.bool (or_f hb55 (rfl))), trivial⟩)⟩
   ·rintro f w44 ⟨F4, hs45, le46, ⟨_, rfl⟩⟩
    refine thenQ_nrm ?_
    refine Cd h43 (fun hb56 h57 => ?_) (fun hb56 h58 => ?_)
    ·refine Sq (Rg [0, 1, 2] ?_)
     refine Vs 1 ?_
     refine Vs 1 ?_
     refine Vs 1 ?_
     refine Nt ?_
     refine Ex ?_
     refine blockQ_miss (by decide) ?_
     refine thenQ_ex ?_
     refine blockQ_hit rfl ?_
     have hn59 := iter_next h57 hnx29
     exact ⟨m26, Nat.lt_succ_self _, ((W64 (s4.1 + 1)), s4.2), F4, Lf8, hn59, hs45.dr0, (le7.trans le46), fI, (hJm _ _ _ _ hJ9 le46)⟩
    ·refine Sq (Rg [0, 1, 2, 3, 4, 5, 6] ?_)
     refine RWP.cut (fun f w => ∃ (F5 : Mem), HS wb Fb w F5 ((sb b36 #[(vi 4), (vi s4.1), (.string ⟨(r33).toArray⟩)] 97) :: Lf8) ∧ Mem.le F4 F5 ∧ FI f [] [(0, (.func (.yield l) #[] #[])), (1, (pt bz0 0)), (2, (pt bz1 0)), (4, (vi s4.1)), (5, (pt b36 0)), (6, (.int .u8 c41)), (30, (.bool ((decide (c41 ≥ 48)) && (decide (c41 ≤ 57)))))]) ?_ ?_
     ·refine Vs 1 ?_
      refine Vs 1 ?_
      refine Vs 1 ?_
      refine RWP.split (decide (c41 ≥ 48)) (fun hb71 => ?_) (fun hb71 => ?_)
      ·refine Vgs hb71 1 ?_--2
       refine Vgs hb71 1 ?_--2
       refine Pk1 hb71 ?_
       refine Vs 1 ?_
       exact RWP.nil ⟨rfl, F4, hs45, (Mem.le.refl _), (fJ ⟨rfl, rfl, rfl, rfl, rfl, rfl, (congrArg Value.bool (and_t hb71 (rfl))), trivial⟩)⟩
      ·refine Ss hb71 1 ?_--2
       refine Ss hb71 1 ?_--2
       refine Pk0 hb71 ?_
       refine Vs 1 ?_
       exact RWP.nil ⟨rfl, F4, hs45, (Mem.le.refl _), (fJ ⟨rfl, rfl, rfl, rfl, rfl, rfl, (congrArg Value.bool (and_f hb71 (rfl))), trivial⟩)⟩
     ·rintro f w60 ⟨F5, hs61, le62, ⟨_, rfl⟩⟩
      refine thenQ_nrm ?_
      obtain ⟨j75, hj82, h83⟩ := bind_some h58
      refine CWP.cut (fun f w => ∃ (F6 : Mem), HS wb Fb w F6 ((sb b36 #[(vi j75.1), (vi s4.1), (.string ⟨(j75.2).toArray⟩)] 97) :: Lf8) ∧ Mem.le F5 F6 ∧ FI f [] [(0, (.func (.yield l) #[] #[])), (1, (pt bz0 0)), (2, (pt bz1 0)), (4, (vi s4.1)), (5, (pt b36 0))]) ?_ ?_
      ·refine Cd hj82 (fun hb84 h85 => ?_) (fun hb84 h86 => ?_)
       ·refine Rg [0, 1, 2, 3, 4, 5, 6] ?_
        refine Ld (hs61.pers _ _ ((((le01.trans le7).trans le46).trans le62) _ _ hz1)) ?_
        refine Vs 1 ?_
        obtain ⟨r87, hr88, h89⟩ := bind_some h85
        refine Cq hoz1_0 hs61 (hpz1_0 w60 F5 (s4.1) (48) (57) _ (((le01.trans le7).trans le46).trans le62) hs61.pers hr88) ?_
        rintro _ F7 w91 hs92 le93 rfl
        refine Vs 1 ?_
        refine St0 #[(vi 1), (vi s4.1), (.string ⟨(r33).toArray⟩)] hs92 (fun w95 hs96 => ?_)
        refine Vs 1 ?_
        refine St0 #[(vi 1), (vi s4.1), (.string ⟨(r87).toArray⟩)] hs96 (fun w97 hs98 => ?_)
        refine RWP.nil ?_
        obtain rfl := some_inj h89
        exact .inl ⟨rfl, F7, hs98, le93, fI⟩
       ·refine Sq (Rg [0, 1, 2, 3, 4, 5, 6] ?_)
        refine RWP.cut (fun f w => ∃ (F8 : Mem), HS wb Fb w F8 ((sb b36 #[(vi 4), (vi s4.1), (.string ⟨(r33).toArray⟩)] 97) :: Lf8) ∧ Mem.le F5 F8 ∧ FI f [] [(0, (.func (.yield l) #[] #[])), (1, (pt bz0 0)), (2, (pt bz1 0)), (4, (vi s4.1)), (5, (pt b36 0)), (6, (.int .u8 c41)), (42, (.bool ((decide (c41 ≥ 97)) && (decide (c41 ≤ 122)))))]) ?_ ?_
        ·refine Vs 1 ?_
         refine Vs 1 ?_
         refine Vs 1 ?_
         refine RWP.split (decide (c41 ≥ 97)) (fun hb110 => ?_) (fun hb110 => ?_)
         ·refine Vgs hb110 1 ?_--2
          refine Vgs hb110 1 ?_--2
          refine Pk1 hb110 ?_
          refine Vs 1 ?_
          exact RWP.nil ⟨rfl, F5, hs61, (Mem.le.refl _), (fJ ⟨rfl, rfl, rfl, rfl, rfl, rfl, (congrArg Value.bool (and_t hb110 (rfl))), trivial⟩)⟩
         ·refine Ss hb110 1 ?_--2
          refine Ss hb110 1 ?_--2
          refine Pk0 hb110 ?_
          refine Vs 1 ?_
          exact RWP.nil ⟨rfl, F5, hs61, (Mem.le.refl _), (fJ ⟨rfl, rfl, rfl, rfl, rfl, rfl, (congrArg Value.bool (and_f hb110 (rfl))), trivial⟩)⟩
        ·rintro f w99 ⟨F8, hs100, le101, ⟨_, rfl⟩⟩
         refine thenQ_nrm ?_
         obtain ⟨j114, hj121, h122⟩ := bind_some h86
         refine CWP.cut (fun f w => ∃ (F9 : Mem), HS wb Fb w F9 ((sb b36 #[(vi j114.1), (vi s4.1), (.string ⟨(j114.2).toArray⟩)] 97) :: Lf8) ∧ Mem.le F8 F9 ∧ FI f [] [(0, (.func (.yield l) #[] #[])), (1, (pt bz0 0)), (2, (pt bz1 0)), (4, (vi s4.1)), (5, (pt b36 0))]) ?_ ?_
         ·refine Cd hj121 (fun hb123 h124 => ?_) (fun hb123 h125 => ?_)
          ·refine Rg [0, 1, 2, 3, 4, 5, 6] ?_
           refine Ld (hs100.pers _ _ (((((le01.trans le7).trans le46).trans le62).trans le101) _ _ hz1)) ?_
           refine Vs 1 ?_
           obtain ⟨r126, hr127, h128⟩ := bind_some h124
           refine Cq hoz1_0 hs100 (hpz1_0 w99 F8 (s4.1) (97) (122) _ ((((le01.trans le7).trans le46).trans le62).trans le101) hs100.pers hr127) ?_
           rintro _ F10 w130 hs131 le132 rfl
           refine Vs 1 ?_
           refine St0 #[(vi 2), (vi s4.1), (.string ⟨(r33).toArray⟩)] hs131 (fun w134 hs135 => ?_)
           refine Vs 1 ?_
           refine St0 #[(vi 2), (vi s4.1), (.string ⟨(r126).toArray⟩)] hs135 (fun w136 hs137 => ?_)
           refine RWP.nil ?_
           obtain rfl := some_inj h128
           exact .inl ⟨rfl, F10, hs137, le132, fI⟩
          ·refine Sq (Rg [0, 1, 2, 3, 4] ?_)
           refine Ld (hs100.pers _ _ (((((le01.trans le7).trans le46).trans le62).trans le101) _ _ hz0)) ?_
           refine Vs 1 ?_
           obtain ⟨r138, hr139, h140⟩ := bind_some h125
           refine V 57 9 (run_ssub (t := 9) (x := (.tmp 55)) (lo := (some (.tmp 56))) (hi := none) (a := z0) (il := s4.1) (ih := (z0.length : Int)) (v := r138) rfl (by kernel_rfl) rfl rfl hr139) ?_
           obtain ⟨r141, hr142, h143⟩ := bind_some h140
           refine Cl' co_strings_HasPrefix hs100 (c_strings_HasPrefix N w99 F8 hs100.pers (r138) (([61, 62] : List UInt8)) _ hr142) ?_
           rintro _ F11 w145 hs146 le147 rfl
           refine Vs 1 ?_
           refine Nt ?_
           obtain ⟨j152, hj159, h160⟩ := bind_some h143
           refine CWP.cut (fun f w => ∃ (F12 : Mem), HS wb Fb w F12 ((sb b36 #[(vi j152.1), (vi s4.1), (.string ⟨(j152.2).toArray⟩)] 97) :: Lf8) ∧ Mem.le F11 F12 ∧ FI f [] [(0, (.func (.yield l) #[] #[])), (1, (pt bz0 0)), (2, (pt bz1 0)), (4, (vi s4.1)), (5, (pt b36 0))]) ?_ ?_
           ·refine Cd hj159 (fun hb161 h162 => ?_) (fun hb161 h163 => ?_)
            ·refine Rg [0, 1, 2, 3] ?_
             refine Vs 1 ?_
             refine St0 #[(vi 3), (vi s4.1), (.string ⟨(r33).toArray⟩)] hs146 (fun w164 hs165 => ?_)
             refine Vs 1 ?_
             refine St0 #[(vi 3), (vi s4.1), (.string ⟨(([61, 62] : List UInt8)).toArray⟩)] hs165 (fun w166 hs167 => ?_)
             refine RWP.nil ?_
             obtain rfl := some_inj h162
             exact .inl ⟨rfl, F11, hs167, (Mem.le.refl _), fI⟩
            ·refine Sq (Rg [0, 1, 2, 3] ?_)
             refine Vs 1 ?_
             obtain ⟨r168, hr169, h170⟩ := bind_some h163
             refine Cl' co_strings_IndexByte hs146 (c_strings_IndexByte N w145 F11 hs146.pers (([40, 41, 44, 58, 61, 60, 43, 45, 42, 10] : List UInt8)) (c41) _ hr169) ?_
             rintro _ F13 w172 hs173 le174 rfl
             refine Vs 1 ?_
             refine Vs 1 ?_
             refine Nt ?_
             obtain ⟨j179, hj186, h187⟩ := bind_some h170
             refine CWP.cut (fun f w => ∃ (F14 : Mem), HS wb Fb w F14 ((sb b36 #[(vi j179), (vi s4.1), (.string ⟨(r33).toArray⟩)] 97) :: Lf8) ∧ Mem.le F13 F14 ∧ FI f [] [(0, (.func (.yield l) #[] #[])), (1, (pt bz0 0)), (2, (pt bz1 0)), (4, (vi s4.1)), (5, (pt b36 0))]) ?_ ?_
             ·refine Cd hj186 (fun hb188 h189 => ?_) (fun hb188 h190 => ?_)
              ·refine Rg [0, 1] ?_
               refine Vs 1 ?_
               refine St0 #[(vi 3), (vi s4.1), (.string ⟨(r33).toArray⟩)] hs173 (fun w191 hs192 => ?_)
               refine RWP.nil ?_
               obtain rfl := some_inj h189
               exact .inl ⟨rfl, F13, hs192, (Mem.le.refl _), fI⟩
              ·refine Sc ?_
               obtain rfl := some_inj h190
               exact .inl ⟨rfl, F13, hs173, (Mem.le.refl _), fI⟩
             ·rintro f w176 ⟨F14, hs177, le178, ⟨_, rfl⟩⟩
              obtain rfl := some_inj h187
              exact .inl ⟨rfl, F14, hs177, (le174.trans le178), fI⟩
           ·rintro f w149 ⟨F12, hs150, le151, ⟨_, rfl⟩⟩
            obtain rfl := some_inj h160
            exact .inl ⟨rfl, F12, hs150, (le147.trans le151), fI⟩
         ·rintro f w111 ⟨F9, hs112, le113, ⟨_, rfl⟩⟩
          obtain rfl := some_inj h122
          exact .inl ⟨rfl, F9, hs112, (le101.trans le113), fI⟩
      ·rintro f w72 ⟨F6, hs73, le74, ⟨_, rfl⟩⟩
       refine blockQ_nrm ?_
       refine thenQ_nrm ?_
       refine Sq (Rg [0, 1, 2, 3, 4, 5] ?_)
       refine Vs 1 ?_
       refine Vs 1 ?_
       refine Ld hs73.at0 ?_
       refine Vs 1 ?_
       refine Vs 1 ?_
       refine Vs 1 ?_
       refine Nss (Rg [0, 1, 2, 3] ?_)
       refine Vs 1 ?_
       refine Ld hs73.at0 ?_
       obtain ⟨q193, hq194, h195⟩ := bind_some h83
       refine RWP.yield (dst := (some 73)) (ty := 4) (g := none) (by kernel_rfl) rfl (f0 := (.tmp 71)) (aos := #[(.tmp 72)]) (ats := #[97]) (l := l) (args := [(.agg #[(vi j75.1), (vi s4.1), (.string ⟨(j75.2).toArray⟩)])]) rfl (rfl) (hY s4.2 ({ kind_ := j75.1, at_ := s4.1, text_ := j75.2 } : rules_token) w72 F6 [(sb b36 #[(vi j75.1), (vi s4.1), (.string ⟨(j75.2).toArray⟩)] 97)] Lf8 q193 (((le7.trans le46).trans le62).trans le74) trivial (hJm _ _ _ _ hJ9 ((le46.trans le62).trans le74)) hs73 hq194) ?_
       rintro _ w196 ⟨F15, Lf200, rfl, hs197, le198, hJ199⟩
       have hs201 : HS wb Fb w196 F15 ((sb b36 #[(vi j75.1), (vi s4.1), (.string ⟨(j75.2).toArray⟩)] 97) :: Lf200) := hs197
       refine ⟨_, rfl, ?_⟩
       refine Vs 1 ?_
       refine Nt ?_
       refine Cd h195 (fun hb202 h203 => ?_) (fun hb202 h204 => ?_)
       ·refine Rt ?_
        refine blockQ_ret ?_
        refine thenQ_ret ?_
        refine blockQ_ret ?_
        have hret := iter_ret h203 hnx29
        subst hret
        refine .inr ?_
        refine thenQ_ret ?_
        have hfin := some_inj h3
        subst hfin
        exact ⟨rfl, .tuple #[], res_of (l := []) (by kernel_rfl) (vs := []) trivial, F15, Lf200, rfl, hs201.dr0, ((((le7.trans le46).trans le62).trans le74).trans le198), hJ199⟩
       ·refine Sc ?_
        refine blockQ_nrm ?_
        have hn205 := iter_next h204 hnx29
        exact ⟨m26, Nat.lt_succ_self _, ((W64 (s4.1 + (j75.2.length : Int))), q193.2), F15, Lf200, hn205, hs201.dr0, ((((le7.trans le46).trans le62).trans le74).trans le198), fI, hJ199⟩
  ·refine Ex ?_
   refine thenQ_ex ?_
   refine thenQ_ex ?_
   refine blockQ_hit rfl ?_
   have ho206 := iter_done h32 hnx29
   exact .inl ⟨rfl, (s4.1, s4.2), F2, Lf8, ho206, hs6, le7, fI, hJ9⟩
 ·rintro f w16 ⟨s15, F3, Lf19, rfl, hs17, le18, ⟨_, rfl⟩, hJ20⟩
  have h207 := k_done h3
  refine thenQ_nrm ?_
  refine Rg [0, 1, 2, 3, 4] ?_
  refine Vs 1 ?_
  refine Ld (hs17.pers _ _ ((le01.trans le18) _ _ hz0)) ?_
  refine Vs 1 ?_
  refine Vs 1 ?_
  obtain ⟨q208, hq209, h210⟩ := bind_some h207
  refine RWP.yield (dst := (some 79)) (ty := 4) (g := none) (by kernel_rfl) rfl (f0 := (.tmp 75)) (aos := #[(.tmp 78)]) (ats := #[97]) (l := l) (args := [(.agg #[(vi 0), (vi (z0.length : Int)), (.string ⟨(([] : List UInt8)).toArray⟩)])]) rfl (rfl) (hY s15.2 ({ kind_ := 0, at_ := (z0.length : Int), text_ := ([] : List UInt8) } : rules_token) w16 F3 [] Lf19 q208 le18 trivial hJ20 hs17 hq209) ?_
  rintro _ w211 ⟨F16, Lf215, rfl, hs212, le213, hJ214⟩
  have hs216 : HS wb Fb w211 F16 Lf215 := hs212
  refine ⟨_, rfl, ?_⟩
  refine RWP.nil ?_
  have hfin := some_inj h210
  subst hfin
  exact ⟨rfl, .tuple #[], res_of (l := []) (by kernel_rfl) (vs := []) trivial, F16, Lf215, rfl, hs216, (le18.trans le213), hJ214⟩
end Go.Proofs.YtaihlcdkcampbaaGreatDoor
namespace Go.Proofs.YtaihlcdkcampbaaGreatDoor
open Go.Proofs
section
variable {P : Program} {ro : Option Nat} {n : Nat} {R : Array Oper} {Q : Exit → Fr → World → Prop} {w w0 : World} {F0 F : Mem} {L : Own} {f : Fr} {i : Nat} {rest : List Nat} {dst : Option Nat} {ty : TypeId} {g : Option (Nat × Bool)} {ρ : Operand → Value}
theorem run_defer0 {x : Operand} {q : FuncId} {cap : Array Value} {ats : Array TypeId} (hx : ρ x = .func (.func q) #[] cap) :
  (execB ρ (.defer { callee := .value x, args := #[], argTypes := ats }) ty).run P w = .ok (.defer { target := .fn (.func q) cap, args := #[] }) w := by
 have e : execB ρ (.defer { callee := .value x, args := #[], argTypes := ats }) ty = (do pure (Next.defer (← Deferred.ofValue (ρ x) (Array.map ρ #[])))) := rfl
 rw [e, hx]
 simp [Deferred.ofValue]
theorem RWP.defer0 {x : Operand} {q : FuncId} {cap : Array Value} {ats : Array TypeId} (ho : opq R i = some (none, .defer { callee := .value x, args := #[], argTypes := ats }, ty, g)) (hg : gd R f g = true) (hx : fev f x = .func (.func q) #[] cap)
  (k : RWP P none n R Q rest ⟨f.v, { target := .fn (.func q) cap, args := #[] } :: f.d⟩ w) : RWP P none n R Q (i :: rest) f w := by
 intro hok a ha
 obtain ⟨o, hR, hd, hop, hty, hgd⟩ := opq_spec ho
 rw [wpOpsIn]
 simp only [hR]
 rw [ha.wanted R o, hgd, hg]
 simp only [if_true]
 refine ⟨about_wide, ?_⟩
 show o.uponIn (FW none) 0 P a _ _ ((execOp a.eval o).run P w)
 rw [execOp_eq, ha.evalF, hop, hty, run_defer0 hx]
 simp only [Oper.uponIn]
 rw [hd]
 exact k hok _ ⟨ha.size, ha.at_, by simp [Act.put, ha.defers]⟩
theorem run_typeAssert' {x : Operand} {t q : TypeId} {v : Value} (hx : ρ x = .iface q v) (hu : notIface P q = true) :
  (execB ρ (.typeAssert x t q true) ty).run P w = .ok (.value (.tuple #[v, .bool true])) w := by
 have e : execB ρ (.typeAssert x t q true) ty = (do pure (Next.value (← Instr.typeAssert (ρ x) t q true))) := rfl
 rw [e, hx]
 unfold notIface at hu
 split at hu
 ·cases hu
 ·rename_i d h1 h2
  cases d <;> first | exact (h1 _ rfl).elim | simp [Instr.typeAssert, run_underlying h2, Result.andThen]
 ·cases hu
theorem wpOpsS_recover2 {ops : Array Oper} {QS : Exit → Act → List Frame → World → Prop} {a : Act} {cs : List Frame} {d d2 : Nat} {ty ty2 : TypeId}
  (ho : opq ops 0 = some (some d, .call { callee := .builtin .recover, args := #[], argTypes := #[] }, ty, none)) (ho2 : opq ops 1 = some (some d2, .assign (.tmp d), ty2, none)) (hl : ops.size = 2) (hsz : d < a.tmps.size)
  (h : match recoverD cs with | some (v, cs') => QS .normal ((a.put (some d) v).put (some d2) v) cs' w | none => QS .normal ((a.put (some d) .nilIface).put (some d2) .nilIface) cs w) : wpOpsS P ops QS (List.range ops.size) a cs w := by
 rw [hl]
 obtain ⟨o, hR, hd, hop, hty, hgd⟩ := opq_spec ho
 obtain ⟨o2, hR2, hd2, hop2, hty2, hgd2⟩ := opq_spec ho2
 show wpOpsS P ops QS [0, 1] a cs w
 have step2 : ∀ (v : Value) (cs' : List Frame), QS .normal ((a.put (some d) v).put (some d2) v) cs' w → wpOpsS P ops QS [1] (a.put (some d) v) cs' w := by
  intro v cs' hq
  simp only [wpOpsS, hR2]
  have hw : ∀ y, Region.wanted o2 y = true := fun y => by unfold Region.wanted; rw [hgd2]
  rw [if_pos (hw _)]
  have hev : (a.put (some d) v).eval (.tmp d) = v := by
   simp [Act.eval, Act.put, hsz]
  have hx : (execOp (a.put (some d) v).eval o2).run P w = .ok (.value v) w := by
   rw [execOp_eq, hop2]
   exact run_assign (ρ := (a.put (some d) v).eval) hev
  rw [hx]
  simp only [Oper.upon]
  rw [hd2]; exact hq
 rw [wpOpsS]
 simp only [hR]
 have hw : Region.wanted o (yielded ops a.tmps) = true := by unfold Region.wanted; rw [hgd]
 rw [if_pos hw]
 have hx : (execOp a.eval o).run P w = .ok .recover w := by rw [execOp_eq, hop]; rfl
 rw [hx]
 simp only
 cases hr : recoverD cs with
 | none => rw [hr] at h; simp only at h ⊢; rw [hd]; exact step2 _ _ h
 | some p => obtain ⟨v, cs'⟩ := p; rw [hr] at h; simp only at h ⊢; rw [hd]; exact step2 _ _ h
theorem restS {c : Code} {a : Act} {cs : List Frame} {Q' : Exit → Fr → World → Prop} {QS : Exit → Act → List Frame → World → Prop} (h : CWP P none n c Q' f w) (hf : Fits n f a)
  (hq : ∀ e a' w', lq n Q' e a' w' → QS e a' cs w') : c.wpS P QS a cs w := wpS_of_wp (wp_mono (wpIn_wide.1 (h a hf)) hq)
theorem fits0 {args : List Value} (hsz : decide (args.length ≤ n) = true) : Fits n (f0 args) { tmps := args.toArray ++ Array.replicate (n - args.toArray.size) undef, defers := [] } := by
 have hsz' : args.length ≤ n := by simpa using hsz
 refine ⟨?_, ?_, rfl⟩
 ·simp; omega
 ·intro i
  simp only [f0]
  rw [Array.getD_eq_getD_getElem?]
  by_cases hi : i < args.length
  ·simp [Array.getElem?_append, hi]
  ·rw [Array.getElem?_append_right (by simp; omega)]
   rw [List.getD_eq_getElem?_getD, List.getElem?_eq_none (by omega)]
   simp only [List.getElem?_toArray, Array.getElem?_replicate]
   split <;> rfl
end
section
variable {wb w : World} {Fb F : Mem} {Lf : Own}
theorem code131 : ∃ id ops, cs1 (bodyOf Tryz.f131) = .region id ops false ∧ bodyOf Tryz.f131 = .seq (cs1 (bodyOf Tryz.f131)) (cs2 (bodyOf Tryz.f131)) := ⟨_, _, rfl, rfl⟩
theorem wpS_code131 {Q : Exit → Act → List Frame → World → Prop} {a : Act} {cs : List Frame} {w : World} (h : wpOpsS Tryz.prog (cops (cs1 (bodyOf Tryz.f131))) (Exit.thenS ((cs2 (bodyOf Tryz.f131)).wpS Tryz.prog Q) Q) (List.range (cops (cs1 (bodyOf Tryz.f131))).size) a cs w) : (bodyOf Tryz.f131).wpS Tryz.prog Q a cs w := by
 obtain ⟨id, ops, h1, h2⟩ := code131
 rw [h2]
 refine wpS_seq ?_
 rw [h1] at h ⊢
 exact wpS_region h
abbrev badv (b : rules_bad) : Value := .agg #[.int .i64 b.e_, .int .i64 b.at_]
abbrev be (v : Int) : Obj := .cells #[.int .i64 v] 27 (0, 0)
abbrev ba (v : Int) : Obj := .cells #[.int .i64 v] 3 (0, 0)
abbrev rargs (b c : Nat) : List Value := [.pointer (some ⟨b, 0, none⟩), .pointer (some ⟨c, 0, none⟩)]
theorem c_read1_ret {b c : Nat} : CallsD Tryz.prog 131 (rargs b c).toArray .returning w fun e u' w' => u' = .returning ∧ e = .returned (.tuple #[]) ∧ w' = w := by
 refine callsD_of_wpS (fn := Tryz.f131) (c := bodyOf Tryz.f131) Tryz.func131 (by kernel_rfl) fun c0 cs hu => wpS_code131 (wpOpsS_recover2 (d := 5) (d2 := 2) (ty := 20) (ty2 := 20) (by kernel_rfl) (by kernel_rfl) (by kernel_rfl) (by rw [show Tryz.f131.ntmps = 20 from by kernel_rfl]; simp) ?_)
 have hr : recoverD (c0 :: cs) = none := by simp [recoverD, hu]
 rw [hr]
 simp only
 refine restS (n := 20) (f := upd (upd (f0 (rargs b c)) 5 .nilIface) 2 .nilIface) (Q' := fun e f w' => e = .normal ∧ w' = w ∧ f.d = []) ?_ (((fits0 (n := 20) (args := rargs b c) rfl).put (dst := some 5) (by decide) .nilIface).put (dst := some 2) (by decide) .nilIface) ?_
 ·refine Sq ?_
  refine Rg [0, 1] ?_
  refine V 6 20 (run_move (x := .tmp 2) (v := .nilIface) rfl) ?_
  refine V 7 4 (run_errneq (t := 20) (t' := 20) (x := .tmp 6) (c := .nilIface) (b := false) (v := .nilIface) rfl rfl rfl (by kernel_rfl)) ?_
  refine RWP.nil ?_
  refine thenQ_nrm ?_
  refine CWP.cond0 (t := false) (by kernel_rfl) rfl rfl ?_
  exact CWP.skip (by kernel_rfl) ⟨rfl, rfl, rfl⟩
 ·rintro e a' w' ⟨f, hf, rfl, rfl, hd⟩
  refine ⟨hf.defers.trans hd, .returning, by rw [← hu], .tuple #[], ?_, rfl, rfl, rfl⟩
  rw [hf.results Tryz.f131]
  exact res_of (l := []) (by kernel_rfl) (vs := []) trivial
theorem c_read1_pan {b c : Nat} {x : rules_bad} (hs : HS wb Fb w F ((some c, ba 0) :: (some b, be 0) :: Lf)) :
  CallsD Tryz.prog 131 (rargs b c).toArray (.panicking [{ v := .iface 158 (badv x), recovered := false }]) w fun e u' w' =>
   settle u' = .returning ∧ e = .returned (.tuple #[]) ∧ HS wb Fb w' F ((some c, ba x.at_) :: (some b, be x.e_) :: Lf) := by
 refine callsD_of_wpS (fn := Tryz.f131) (c := bodyOf Tryz.f131) Tryz.func131 (by kernel_rfl) fun c0 cs hu => wpS_code131 (wpOpsS_recover2 (d := 5) (d2 := 2) (ty := 20) (ty2 := 20) (by kernel_rfl) (by kernel_rfl) (by kernel_rfl) (by rw [show Tryz.f131.ntmps = 20 from by kernel_rfl]; simp) ?_)
 have hr : recoverD (c0 :: cs) = some (.iface 158 (badv x), { c0 with mode := .panicking [{ v := .iface 158 (badv x), recovered := true }] } :: cs) := by simp [recoverD, hu]
 rw [hr]
 simp only
 refine restS (n := 20) (f := upd (upd (f0 (rargs b c)) 5 (.iface 158 (badv x))) 2 (.iface 158 (badv x))) (Q' := fun e f w' => e = .normal ∧ f.d = [] ∧ HS wb Fb w' F ((some c, ba x.at_) :: (some b, be x.e_) :: Lf)) ?_ (((fits0 (n := 20) (args := rargs b c) rfl).put (dst := some 5) (by decide) _).put (dst := some 2) (by decide) _) ?_
 ·refine Sq ?_
  refine Rg [0, 1] ?_
  refine V 6 20 (run_move (x := .tmp 2) (v := .iface 158 (badv x)) rfl) ?_
  refine V 7 4 (run_errneq (t := 20) (t' := 20) (x := .tmp 6) (c := .nilIface) (b := true) (v := .iface 158 (badv x)) ⟨_, _, rfl⟩ rfl rfl (by kernel_rfl)) ?_
  refine RWP.nil ?_
  refine thenQ_nrm ?_
  refine CWP.cond1 (t := true) (by kernel_rfl) rfl rfl ?_
  refine Sq ?_
  refine Rg [0, 1, 2, 3, 4, 5, 6, 7] ?_
  refine V 9 20 (run_move (x := .tmp 2) (v := .iface 158 (badv x)) rfl) ?_
  refine V 10 159 (run_typeAssert' (x := .tmp 9) (t := 20) (q := 158) (v := badv x) rfl (by kernel_rfl)) ?_
  refine V 8 159 (run_move (x := .tmp 10) (v := .tuple #[badv x, .bool true]) rfl) ?_
  refine V 11 158 (run_extract (x := .tmp 8) (vs := #[badv x, .bool true]) (i := 0) (v := badv x) rfl rfl) ?_
  refine V 12 4 (run_extract (x := .tmp 8) (vs := #[badv x, .bool true]) (i := 1) (v := .bool true) rfl rfl) ?_
  refine RWP.alloc (dst := some 3) (ty := 0) (g := none) (by kernel_rfl) rfl (t := 158) (z := .agg #[.int .i64 0, .int .i64 0]) (by kernel_rfl) (C := #[.int .i64 0, .int .i64 0]) rfl hs (fun b3 w3 hs3 => ?_)
  refine RWP.store (ty := 0) (g := none) (by kernel_rfl) rfl (x := .tmp 3) (y := .tmp 11) (t := 158) (gg := true) (s := 2) (v := badv x) (b := b3) (o := 0) (C := #[.int .i64 0, .int .i64 0]) rfl rfl (by kernel_rfl) hs3 (k := 0) rfl rfl rfl rfl (C' := #[.int .i64 x.e_, .int .i64 x.at_]) rfl (fun w4 (hs4 : HS wb Fb w4 F ((some b3, .cells #[.int .i64 x.e_, .int .i64 x.at_] 158 (0, 0)) :: (some c, ba 0) :: (some b, be 0) :: Lf)) => ?_)
  refine V 4 4 (run_assign (x := .tmp 12) (v := .bool true) rfl) ?_
  refine RWP.nil ?_
  refine thenQ_nrm ?_
  refine Sq ?_
  refine Sq ?_
  refine Rg [0, 1] ?_
  refine V 13 4 (run_move (x := .tmp 4) (v := .bool true) rfl) ?_
  refine V 14 4 (run_not (t := 4) (x := .tmp 13) (a := true) rfl) ?_
  refine RWP.nil ?_
  refine thenQ_nrm ?_
  refine CWP.cond0 (t := false) (by kernel_rfl) rfl rfl ?_
  refine CWP.skip (by kernel_rfl) ?_
  refine thenQ_nrm ?_
  refine CWP.regionD (by kernel_rfl) (by kernel_rfl) (by kernel_rfl) (by kernel_rfl) (z := 6) (F := F) (Lc := [(some b3, .cells #[.int .i64 x.e_, .int .i64 x.at_] 158 (0, 0))]) (Lz := []) (l := [false, false, false, false, false, false]) (fuel := 6) (by kernel_rfl) (by kernel_rfl) hs4 (by simp) (by simp) (fun f w' => f.d = [] ∧ HS wb Fb w' F ((some c, ba x.at_) :: (some b, be x.e_) :: Lf)) (fun wd hw => ?_) (fun f w' h => ⟨rfl, h.1, h.2⟩)
  refine DWP.take (i := 0) (v := .pointer (some ⟨b3, 0, none⟩)) (zd := true) (dst := some 16) (ty := 0) (g := none) (by kernel_rfl) (by kernel_rfl) (by kernel_rfl) (by kernel_rfl) (by kernel_rfl) rfl (fun wq hq => run_fieldAddr (s := 158) (x := .tmp 3) (i := 0) (o := 0) (k := 1) (b := b3) (o0 := 0) rfl (by kernel_rfl) rfl (o1 := 0) rfl) (l' := [true, false, false, false, false, false]) (by kernel_rfl) ?_
  refine DWP.take (i := 1) (v := .int .i64 x.e_) (zd := true) (dst := some 17) (ty := 27) (g := none) (by kernel_rfl) (by kernel_rfl) (by kernel_rfl) (by kernel_rfl) (by kernel_rfl) rfl (fun wq hq => run_load' (t := 27) (x := .tmp 16) (b := b3) (o := 0) (g := false) (s := 1) (C := #[.int .i64 x.e_, .int .i64 x.at_]) (v := .int .i64 x.e_) rfl (by kernel_rfl) (hq.1.2 0 _ _ rfl) rfl rfl rfl) (l' := [true, true, false, false, false, false]) (by kernel_rfl) ?_
  refine DWP.take (i := 2) (v := .pointer (some ⟨b3, 1, none⟩)) (zd := true) (dst := some 18) (ty := 0) (g := none) (by kernel_rfl) (by kernel_rfl) (by kernel_rfl) (by kernel_rfl) (by kernel_rfl) rfl (fun wq hq => run_fieldAddr (s := 158) (x := .tmp 3) (i := 1) (o := 1) (k := 1) (b := b3) (o0 := 0) rfl (by kernel_rfl) rfl (o1 := 1) rfl) (l' := [true, true, true, false, false, false]) (by kernel_rfl) ?_
  refine DWP.take (i := 3) (v := .int .i64 x.at_) (zd := true) (dst := some 19) (ty := 3) (g := none) (by kernel_rfl) (by kernel_rfl) (by kernel_rfl) (by kernel_rfl) (by kernel_rfl) rfl (fun wq hq => run_load' (t := 3) (x := .tmp 18) (b := b3) (o := 1) (g := false) (s := 1) (C := #[.int .i64 x.e_, .int .i64 x.at_]) (v := .int .i64 x.at_) rfl (by kernel_rfl) (hq.1.2 0 _ _ rfl) rfl rfl rfl) (l' := [true, true, true, true, false, false]) (by kernel_rfl) ?_
  refine DWP.one (i := 4) (by kernel_rfl) ?_
  refine DStep.store (l' := [true, true, true, true, true, false]) (zd := true) (by kernel_rfl) (by kernel_rfl) (ty := 0) (g := none) (by kernel_rfl) rfl (x := .tmp 0) (y := .tmp 17) (t := 27) (v := .int .i64 x.e_) (gg := false) (s := 1) (b := b) (o := 0) (C := #[.int .i64 0]) rfl rfl (by kernel_rfl) hw (k := 2) rfl rfl rfl rfl (C' := #[.int .i64 x.e_]) rfl (Mem.le.refl _) (by simp) (fun e => by cases e) (fun w5 (hs5 : HS wb Fb w5 F ((some b3, .cells #[.int .i64 x.e_, .int .i64 x.at_] 158 (0, 0)) :: (some c, ba 0) :: (some b, be x.e_) :: Lf)) => ?_)
  refine DWP.one (i := 5) (by kernel_rfl) ?_
  refine DStep.store (l' := [true, true, true, true, true, true]) (zd := true) (by kernel_rfl) (by kernel_rfl) (ty := 0) (g := none) (by kernel_rfl) rfl (x := .tmp 1) (y := .tmp 19) (t := 3) (v := .int .i64 x.at_) (gg := false) (s := 1) (b := c) (o := 0) (C := #[.int .i64 0]) rfl rfl (by kernel_rfl) hs5 (k := 1) rfl rfl rfl rfl (C' := #[.int .i64 x.at_]) rfl (Mem.le.refl _) (by simp) (fun e => by cases e) (fun w6 (hs6 : HS wb Fb w6 F ((some b3, .cells #[.int .i64 x.e_, .int .i64 x.at_] 158 (0, 0)) :: (some c, ba x.at_) :: (some b, be x.e_) :: Lf)) => ?_)
  exact DWP.done (by kernel_rfl) ⟨rfl, hs6.drop 0⟩
 ·rintro e a' w' ⟨f, hf, rfl, hd, hs'⟩
  refine ⟨hf.defers.trans hd, _, rfl, .tuple #[], ?_, rfl, rfl, hs'⟩
  rw [hf.results Tryz.f131]
  exact res_of (l := []) (by kernel_rfl) (vs := []) trivial
theorem inv131 (b c : Nat) (w' : World) : (invoke (.fn (.func 131) (rargs b c).toArray) #[]).run Tryz.prog w' = .ok (.enter 131 (rargs b c).toArray) w' := by
 have co : CallOk Tryz.prog 131 := fun _ _ => by kernel_rfl
 simp only [invoke]; rw [co]; rfl
def rules_tokensOf (N : Nat) (s : List UInt8) : Option (List rules_token) := collectM (fun {_} y st => rules_tokens_2 N y s (fun y0 y1 y2 => rules_tokens_1 N y0 y1 y2 s) st)
theorem co_rules_read : CallOk Tryz.prog 78 := fun _ _ => by kernel_rfl
theorem c_rules_read (N : Nat) (hs : HS wb Fb w F Lf) (s : List UInt8) {g : FuncId} {cap : List Value} (hok : CallOk Tryz.prog g) (K : Option rules_bad → Mem → Own → Prop) (hlong : decide ((s.length : Int) > 65536) = true → ∀ F', K (some ⟨2, 0⟩) F' Lf)
  (hrun : decide ((s.length : Int) > 65536) = false → ∃ l, rules_tokensOf N s = some l ∧ ∀ w1 F1 be_ ba_ bp a n, Mem.le F F1 → LC l.length n → SlA trules_token F1 a l → HS wb Fb w1 F1 ((some bp, .cells #[.slice a l.length n, .int .i64 0] 100 (0, 0)) :: (some ba_, ba 0) :: (some be_, be 0) :: Lf) →
   Calls Tryz.prog g (.pointer (some ⟨bp, 0, none⟩) :: cap).toArray w1 (fun e w2 =>
   (∃ v F2 Lf2, e = .returned v ∧ HS wb Fb w2 F2 ((some ba_, ba 0) :: (some be_, be 0) :: Lf2) ∧ Mem.le F1 F2 ∧ K none F2 Lf2) ∨
   (∃ x F2 Lf2, e = .panicked [{ v := .iface 158 (badv x), recovered := false }] ∧ HS wb Fb w2 F2 ((some ba_, ba 0) :: (some be_, be 0) :: Lf2) ∧ Mem.le F1 F2 ∧ K (some x) F2 Lf2))) :
  Calls Tryz.prog 78 ([.string ⟨s.toArray⟩, .func (.func g) #[] cap.toArray] : List Value).toArray w (fun e w' => ∃ o F' Lf', e = .returned (match o with | none => .tuple #[.int .i64 0, .int .i64 0] | some x => .tuple #[.int .i64 x.e_, .int .i64 x.at_]) ∧ HS wb Fb w' F' Lf' ∧ Mem.le F F' ∧ K o F' Lf') := by
 refine calls_of_wp_defers (fn := Tryz.f78) (c := bodyOf Tryz.f78) Tryz.func78 (by kernel_rfl) ?_
 have key : CWP Tryz.prog none 17 (bodyOf Tryz.f78) (fun e f w' => ∃ b c F' Lf', f 4 = .pointer (some ⟨b, 0, none⟩) ∧ f 5 = .pointer (some ⟨c, 0, none⟩) ∧ Mem.le F F' ∧
   ((e = .ret ∧ f.d = [] ∧ HS wb Fb w' F' ((some c, ba 0) :: (some b, be 2) :: Lf') ∧ K (some ⟨2, 0⟩) F' Lf') ∨
   (e = .ret ∧ f.d = [{ target := .fn (.func 131) (rargs b c).toArray, args := #[] }] ∧ HS wb Fb w' F' ((some c, ba 0) :: (some b, be 0) :: Lf') ∧ K none F' Lf') ∨
   (∃ x, e = .panic [{ v := .iface 158 (badv x), recovered := false }] ∧ f.d = [{ target := .fn (.func 131) (rargs b c).toArray, args := #[] }] ∧ HS wb Fb w' F' ((some c, ba 0) :: (some b, be 0) :: Lf') ∧ K (some x) F' Lf'))) (f0 [.string ⟨s.toArray⟩, .func (.func g) #[] cap.toArray]) w := by
  refine Sq ?_
  refine Rg [0, 1] ?_
  refine RWP.alloc (dst := some 4) (ty := 0) (g := none) (by kernel_rfl) rfl (t := 27) (z := .int .i64 0) (by kernel_rfl) (C := #[.int .i64 0]) rfl hs (fun b w2 hs2 => ?_)
  refine RWP.alloc (dst := some 5) (ty := 0) (g := none) (by kernel_rfl) rfl (t := 3) (z := .int .i64 0) (by kernel_rfl) (C := #[.int .i64 0]) rfl hs2 (fun c w3 hs3 => ?_)
  refine RWP.nil ?_
  refine thenQ_nrm ?_
  refine Sq ?_
  refine Sq ?_
  refine Rg [0, 1, 2] ?_
  refine V 6 9 (run_move (x := .tmp 0) (v := .string ⟨s.toArray⟩) rfl) ?_
  refine V 7 3 (run_slen (x := .tmp 6) (ats := #[9]) (t := 9) (a := s) rfl rfl (by kernel_rfl)) ?_
  refine V 8 4 (run_gtr (t := 3) (t' := 3) (x := .tmp 7) (y := .const (.int .i64 65536)) (k := .i64) (a := (s.length : Int)) (b := 65536) rfl rfl) ?_
  refine RWP.nil ?_
  refine thenQ_nrm ?_
  refine CWP.cond (t := decide ((s.length : Int) > 65536)) (by kernel_rfl) rfl (fun hc => ?_) (fun hc => ?_)
  ·refine Sq ?_
   refine Rg [0, 1] ?_
   refine RWP.store (ty := 0) (g := none) (by kernel_rfl) rfl (x := .tmp 4) (y := .const (.int .i64 2)) (t := 27) (gg := false) (s := 1) (v := .int .i64 2) (b := b) (o := 0) (C := #[.int .i64 0]) rfl rfl (by kernel_rfl) hs3 (k := 1) rfl rfl rfl rfl (C' := #[.int .i64 2]) rfl (fun w4 hs4 => ?_)
   refine RWP.store (ty := 0) (g := none) (by kernel_rfl) rfl (x := .tmp 5) (y := .const (.int .i64 0)) (t := 3) (gg := false) (s := 1) (v := .int .i64 0) (b := c) (o := 0) (C := #[.int .i64 0]) rfl rfl (by kernel_rfl) hs4 (k := 0) rfl rfl rfl rfl (C' := #[.int .i64 0]) rfl (fun w5 hs5 => ?_)
   refine RWP.nil ?_
   refine thenQ_nrm ?_
   refine CWP.ret (by kernel_rfl) ?_
   exact ⟨b, c, F, Lf, rfl, rfl, Mem.le.refl F, .inl ⟨rfl, rfl, hs5, hlong hc F⟩⟩
  ·obtain ⟨l, hl, hrun⟩ := hrun hc
   refine CWP.skip (by kernel_rfl) ?_
   refine thenQ_nrm ?_
   refine Sq ?_
   refine Rg [0, 1] ?_
   refine V 9 1 (run_makeFunc (fn := .func 131) (first := #[]) (cap := #[.tmp 4, .tmp 5]) (fl := []) (cl := rargs b c) rfl rfl) ?_
   refine RWP.defer0 (ty := 0) (g := none) (x := .tmp 9) (q := 131) (cap := (rargs b c).toArray) (ats := #[]) (by kernel_rfl) rfl rfl ?_
   refine RWP.nil ?_
   refine thenQ_nrm ?_
   refine Sq ?_
   refine Rg [0, 1, 2, 3, 4, 5, 6] ?_
   refine V 10 103 (run_move (x := .tmp 1) (v := .func (.func g) #[] cap.toArray) rfl) ?_
   refine V 11 9 (run_move (x := .tmp 0) (v := .string ⟨s.toArray⟩) rfl) ?_
   refine RWP.call (dst := some 12) (ty := 162) (g := none) (by kernel_rfl) rfl (f0 := .func 133) (aos := #[.tmp 11]) (ats := #[9]) (fid := 133) (first := #[]) (cap := #[]) (args := [.string ⟨s.toArray⟩]) rfl co_rules_tokens rfl hs3 (c_rules_tokens w3 F hs3.pers s) ?_
   rintro _ F1 w4 hs4 le4 ⟨b1, b2, rfl, hb1, hb2⟩
   refine RWP.call (dst := some 13) (ty := 98) (g := none) (by kernel_rfl) rfl (f0 := .func 132) (aos := #[.tmp 12]) (ats := #[162]) (fid := 132) (first := #[]) (cap := #[]) (args := [.func (.func 181) #[] #[.pointer (some ⟨b1, 0, none⟩), .pointer (some ⟨b2, 0, none⟩)]]) rfl co_slices_Collect rfl hs4
    (c_slices_Collect w4 F1 hs4.pers 181 [.pointer (some ⟨b1, 0, none⟩), .pointer (some ⟨b2, 0, none⟩)] (fun {_} y st => rules_tokens_2 N y s (fun y0 y1 y2 => rules_tokens_1 N y0 y1 y2 s) st) co_rules_tokens_2
     (c_rules_tokens_2 N F1 s b1 hb1 (fun y0 y1 y2 => rules_tokens_1 N y0 y1 y2 s) 180 [] [.pointer (some ⟨b1, 0, none⟩)] co_rules_tokens_1 (fun w1 F2 y0 y1 y2 r le1 pe1 hr1 => c_rules_tokens_1 N w1 F2 pe1 y0 y1 y2 b1 s (le1 _ _ hb1) r hr1) b2 hb2) l hl) ?_
   rintro _ F2 w5 hs5 le5 ⟨a, n, rfl, hb, hsl⟩
   refine V 14 100 (run_build2 (t := 100) (parts := #[(0, .tmp 13)]) (vs := [(0, .slice a l.length n)]) rfl (cs := [.slice a l.length n, .int .i64 0]) (by kernel_rfl)) ?_
   refine RWP.box (dst := some 15) (ty := 95) (g := none) (by kernel_rfl) rfl (x := .tmp 14) (t := 100) (v := .agg #[.slice a l.length n, .int .i64 0]) rfl (C := #[.slice a l.length n, .int .i64 0]) rfl hs5 (fun bp w6 hs6 => ?_)
   refine RWP.enter (dst := some 16) (ty := 0) (g := none) (by kernel_rfl) rfl (run_call (f := .tmp 10) (aos := #[.tmp 15]) (ats := #[95]) (g := g) (first := #[]) (cap := cap.toArray) (args := .pointer (some ⟨bp, 0, none⟩) :: cap) rfl hok (by simp; rfl)) (hrun _ F2 b c bp a n (le4.trans le5) hb hsl hs6) ?_
   rintro e w7 (⟨v, F3, Lf2, rfl, hs7, hle, hK⟩ | ⟨x, F3, Lf2, rfl, hs7, hle, hK⟩)
   ·refine RWP.nil ?_
    refine thenQ_nrm ?_
    refine Sq ?_
    refine Rg [0, 1] ?_
    refine RWP.store (ty := 0) (g := none) (by kernel_rfl) rfl (x := .tmp 4) (y := .const (.int .i64 0)) (t := 27) (gg := false) (s := 1) (v := .int .i64 0) (b := b) (o := 0) (C := #[.int .i64 0]) rfl rfl (by kernel_rfl) hs7 (k := 1) rfl rfl rfl rfl (C' := #[.int .i64 0]) rfl (fun w8 hs8 => ?_)
    refine RWP.store (ty := 0) (g := none) (by kernel_rfl) rfl (x := .tmp 5) (y := .const (.int .i64 0)) (t := 3) (gg := false) (s := 1) (v := .int .i64 0) (b := c) (o := 0) (C := #[.int .i64 0]) rfl rfl (by kernel_rfl) hs8 (k := 0) rfl rfl rfl rfl (C' := #[.int .i64 0]) rfl (fun w9 hs9 => ?_)
    refine RWP.nil ?_
    refine thenQ_nrm ?_
    refine CWP.ret (by kernel_rfl) ?_
    exact ⟨b, c, F3, Lf2, rfl, rfl, (le4.trans le5).trans hle, .inr (.inl ⟨rfl, rfl, hs9, hK⟩)⟩
   ·exact ⟨b, c, F3, Lf2, rfl, rfl, (le4.trans le5).trans hle, .inr (.inr ⟨x, rfl, rfl, hs7, hK⟩)⟩
 refine wp_mono (wpIn_wide.1 (key _ (fits0 (n := 17) (args := [.string ⟨s.toArray⟩, .func (.func g) #[] cap.toArray]) rfl))) ?_
 have hres : ∀ {f : Fr} {b c : Nat} {v u : Int} {w' : World} {F' : Mem} {L' : Own}, f 4 = .pointer (some ⟨b, 0, none⟩) → f 5 = .pointer (some ⟨c, 0, none⟩) → HS wb Fb w' F' ((some c, ba u) :: (some b, be v) :: L') → (resultsF Tryz.f78.results f).run Tryz.prog w' = .ok (.tuple #[.int .i64 v, .int .i64 u]) w' := by
  intro f b c v u w' F' L' hf hf5 hs'
  exact res_of (l := [.cell 4 27, .cell 5 3]) (by kernel_rfl) (vs := [.int .i64 v, .int .i64 u]) ⟨b, 0, hf, run_loadVar' (t := 27) (g := false) (s := 1) (by kernel_rfl) (hs'.ownAt (k := 1) rfl) rfl (by decide), c, 0, hf5, run_loadVar' (t := 3) (g := false) (s := 1) (by kernel_rfl) (hs'.ownAt (k := 0) rfl) rfl (by decide), trivial⟩
 rintro e a w' ⟨f, hf, b, c, F', Lf', h4, h5, hle, (⟨rfl, hd, hs', hK⟩ | ⟨rfl, hd, hs', hK⟩ | ⟨x, rfl, hd, hs', hK⟩)⟩
 ·show Leaves _ _ _ _ _ _ _
  rw [hf.defers, hd]
  exact ⟨_, by rw [hf.results Tryz.f78]; exact hres h4 h5 hs', some ⟨2, 0⟩, F', Lf', rfl, (hs'.drop 0).drop 0, hle, hK⟩
 ·show Leaves _ _ _ _ _ _ _
  rw [hf.defers, hd]
  refine ⟨by simp, _, _, 131, _, rfl, inv131 b c w', ?_⟩
  intro c0 cs hc0
  obtain ⟨e, u', w2, fr, hR, hrest⟩ := c_read1_ret (w := w') (b := b) (c := c) c0 cs hc0
  refine ⟨e, u', w2, fr, ?_, hrest⟩
  obtain ⟨rfl, rfl, rfl⟩ := hR
  show Leaves _ _ _ _ _ _ _
  exact ⟨_, by rw [hf.results Tryz.f78]; exact hres h4 h5 hs', none, F', Lf', rfl, (hs'.drop 0).drop 0, hle, hK⟩
 ·show Leaves _ _ _ _ _ _ _
  rw [hf.defers, hd]
  refine ⟨by simp, _, _, 131, _, rfl, inv131 b c w', ?_⟩
  intro c0 cs hc0
  obtain ⟨e, u', w2, fr, hR, hrest⟩ := c_read1_pan (w := w') (b := b) (c := c) (x := x) hs' c0 cs hc0
  refine ⟨e, u', w2, fr, ?_, hrest⟩
  obtain ⟨hu, rfl, hs2⟩ := hR
  show Leaves _ _ _ _ _ _ _
  rw [hu]
  exact ⟨_, by rw [hf.results Tryz.f78]; exact hres h4 h5 hs2, some x, F', Lf', rfl, (hs2.drop 0).drop 0, hle, hK⟩
end
end Go.Proofs.YtaihlcdkcampbaaGreatDoor
namespace Go.Proofs.YtaihlcdkcampbaaGreatDoor
open Go.Proofs
def rules_parser_peek (N : Nat) (x0 : rules_parser) (x1 : (List UInt8)) : Option Bool :=
 (((idx x0.l_ 0).bind fun x29 => (bif (x29.kind_ == 2) then ((idx x0.l_ 0).bind fun x46 => some (x46.text_ == x1)) else ((idx x0.l_ 0).bind fun x52 => (bif (x52.kind_ == 3) then ((idx x0.l_ 0).bind fun x61 => some (x61.text_ == x1)) else some false)))).bind fun j24 => some j24)
theorem co_rules_parser_peek : CallOk Tryz.prog 134 := fun _ _ => by kernel_rfl
theorem c_rules_parser_peek (N : Nat) {wb w0 : World} {Fb F0 : Mem} {Lf : Own} (bp0 : Nat) (x0 : rules_parser) (a0_0 : Option Addr) (n0_0 : Nat) (hb0_0 : LC x0.l_.length n0_0) (hs0_0 : SlA trules_token F0 a0_0 x0.l_) (x1 : (List UInt8)) (hs0 : HS wb Fb w0 F0 ((sb bp0 (krules_parser x0 a0_0 n0_0) 100) :: Lf)) (r : Bool) (h : rules_parser_peek N x0 x1 = some r) :
  Calls Tryz.prog 134 ([(pt bp0 0), (.string ⟨(x1).toArray⟩)] : List Value).toArray w0 (BRet wb Fb F0 fun F' v L' => v = (.bool r) ∧ L' = (sb bp0 (krules_parser x0 a0_0 n0_0) 100) :: Lf) := by
 refine Go 34 Tryz.func134 ?_
 refine Sq (Rg [0] ?_)
 refine Vs 1 ?_
 refine Nss (Rg [0, 1, 2, 3, 4, 5, 6, 7, 8, 9, 10, 11, 12, 13, 14, 15, 16, 17, 18, 19, 20, 21, 22, 23, 24, 25, 26, 27, 28, 29] ?_)
 obtain ⟨j24, hj27, h28⟩ := bind_some h
 refine RWP.cut (fun f w => ∃ (F1 : Mem), HS wb Fb w F1 ((sb bp0 (krules_parser x0 a0_0 n0_0) 100) :: Lf) ∧ Mem.le F0 F1 ∧ FI f [] [(4, (.bool j24))]) ?_ ?_
 ·refine Vs 3 ?_
  refine Ld hs0.at0 ?_
  obtain ⟨x29, hx30, h32⟩ := bind_some hj27
  obtain ⟨hi31, hx30'⟩ := idx_spec hx30
  obtain ⟨b33, o34, C35, E36, fz37, rfl, hF39, hE40⟩ := SlA.open hs0_0 hx30'
  have hc42 := hE40 _ _ hx30'
  refine Ix hi31 ?_
  refine Vs 1 ?_
  refine Lx 0 (hs0.pers _ _ hF39) hc42 ?_
  refine Vs 2 ?_
  refine Sp h32 (fun hb43 h44 => ?_) (fun hb43 h45 => ?_)
  ·refine Ss hb43 8 ?_
   refine Pk1 hb43 ?_
   refine Vs 1 ?_
   refine Vg 24 95 18 true 23 rfl (mv 0 (pt bp0 0)) ?_
   refine Vg 25 0 18 true 23 rfl (run_nilCheck (x := (.tmp 24)) (a := ⟨bp0, 0, none⟩) rfl) ?_
   refine Vg 26 0 18 true 23 rfl (fa 100 25 0 0 1 bp0 0 0) ?_
   refine Vg 27 98 18 true 23 rfl (ld 98 26 bp0 0 false 1 (.slice (some ⟨b33, o34, none⟩) x0.l_.length n0_0) hs0.at0) ?_
   obtain ⟨x46, hx47, h49⟩ := bind_some h44
   obtain ⟨hi48, hx47'⟩ := idx_spec hx47
   have hc51 := hE40 _ _ hx47'
   refine Vg 28 0 18 true 23 rfl (run_index (t := 98) (x := (.tmp 27)) (y := (.const (vi 0))) (b := b33) (o := o34) (E := 97) (s := 3) (by_ := 32) rfl rfl (by kernel_rfl) hi48) ?_
   refine Vg 29 0 18 true 23 rfl (fa 97 28 2 2 1 b33 (o34 + (0 : Int).toNat * 3) ((o34 + (0 : Int).toNat * 3) + 2)) ?_
   refine Vg 30 9 18 true 23 rfl (lx 9 29 2 3 false 1 (.string ⟨(x46.text_).toArray⟩) (hs0.pers _ _ hF39) hc51) ?_
   refine Vg 31 9 18 true 23 rfl (mv 1 (.string ⟨(x1).toArray⟩)) ?_
   refine Vg 32 4 18 true 23 rfl (run_scmp (t := 9) (t' := 9) (x := (.tmp 30)) (y := (.tmp 31)) (op := .eql) (a := x46.text_) (b := x1) (v := (x46.text_ == x1)) rfl rfl rfl) ?_
   refine Pk1 (rfl : true = true) ?_
   refine Vs 1 ?_
   obtain rfl := some_inj h49
   exact RWP.nil ⟨rfl, F0, hs0, (Mem.le.refl _), fI⟩
  ·refine Vgs hb43 3 ?_
   refine Vg 17 98 8 false 13 hb43 (ld 98 16 bp0 0 false 1 (.slice (some ⟨b33, o34, none⟩) x0.l_.length n0_0) hs0.at0) ?_
   obtain ⟨x52, hx53, h55⟩ := bind_some h45
   obtain ⟨hi54, hx53'⟩ := idx_spec hx53
   have hc57 := hE40 _ _ hx53'
   refine Vg 18 0 8 false 13 hb43 (run_index (t := 98) (x := (.tmp 17)) (y := (.const (vi 0))) (b := b33) (o := o34) (E := 97) (s := 3) (by_ := 32) rfl rfl (by kernel_rfl) hi54) ?_
   refine Vgs hb43 1 ?_
   refine Vg 20 3 8 false 13 hb43 (lx 3 19 0 3 false 1 (vi x52.kind_) (hs0.pers _ _ hF39) hc57) ?_
   refine Vgs hb43 1 ?_
   refine Pk0 hb43 ?_
   refine Vs 1 ?_
   refine Sp h55 (fun hb58 h59 => ?_) (fun hb58 h60 => ?_)
   ·refine Vgs hb58 3 ?_
    refine Vg 27 98 18 true 23 hb58 (ld 98 26 bp0 0 false 1 (.slice (some ⟨b33, o34, none⟩) x0.l_.length n0_0) hs0.at0) ?_
    obtain ⟨x61, hx62, h64⟩ := bind_some h59
    obtain ⟨hi63, hx62'⟩ := idx_spec hx62
    have hc66 := hE40 _ _ hx62'
    refine Vg 28 0 18 true 23 hb58 (run_index (t := 98) (x := (.tmp 27)) (y := (.const (vi 0))) (b := b33) (o := o34) (E := 97) (s := 3) (by_ := 32) rfl rfl (by kernel_rfl) hi63) ?_
    refine Vgs hb58 1 ?_
    refine Vg 30 9 18 true 23 hb58 (lx 9 29 2 3 false 1 (.string ⟨(x61.text_).toArray⟩) (hs0.pers _ _ hF39) hc66) ?_
    refine Vgs hb58 2 ?_
    refine Pk1 hb58 ?_
    refine Vs 1 ?_
    obtain rfl := some_inj h64
    exact RWP.nil ⟨rfl, F0, hs0, (Mem.le.refl _), fI⟩
   ·refine Ss hb58 9 ?_
    refine Pk0 hb58 ?_
    refine Vs 1 ?_
    obtain rfl := some_inj h60
    exact RWP.nil ⟨rfl, F0, hs0, (Mem.le.refl _), fI⟩
 ·rintro f w21 ⟨F1, hs22, le23, ⟨_, rfl⟩⟩
  refine thenQ_nrm ?_
  refine Rt ?_
  obtain rfl := some_inj h28
  exact ReB [(.bool j24)] hs22 le23 ⟨rfl, rfl⟩
end Go.Proofs.YtaihlcdkcampbaaGreatDoor
namespace Go.Proofs.YtaihlcdkcampbaaGreatDoor
open Go.Proofs
def rules_parser_accept (N : Nat) (x0 : rules_parser) (x1 : (List UInt8)) : Option (rules_parser × Bool) :=
 ((rules_parser_peek N x0 x1).bind fun r21 => (bif (!r21) then some (x0, false) else ((sub x0.l_ 1 (x0.l_.length : Int)).bind fun r31 => some (({ l_ := r31, open_ := x0.open_ } : rules_parser), true))))
theorem co_rules_parser_accept : CallOk Tryz.prog 80 := fun _ _ => by kernel_rfl
theorem c_rules_parser_accept (N : Nat) {wb w0 : World} {Fb F0 : Mem} {Lf : Own} (bp0 : Nat) (x0 : rules_parser) (a0_0 : Option Addr) (n0_0 : Nat) (hb0_0 : LC x0.l_.length n0_0) (hs0_0 : SlA trules_token F0 a0_0 x0.l_) (x1 : (List UInt8)) (hs0 : HS wb Fb w0 F0 ((sb bp0 (krules_parser x0 a0_0 n0_0) 100) :: Lf)) (r : (rules_parser × Bool)) (h : rules_parser_accept N x0 x1 = some r) :
  Calls Tryz.prog 80 ([(pt bp0 0), (.string ⟨(x1).toArray⟩)] : List Value).toArray w0 (BRet wb Fb F0 fun F' v L' => ∃ (aq0_0 : Option Addr) (nq0_0 : Nat), v = (.bool r.2) ∧ L' = (sb bp0 (krules_parser r.1 aq0_0 nq0_0) 100) :: Lf ∧ LC r.1.l_.length nq0_0 ∧ SlA trules_token F' aq0_0 r.1.l_) := by
 refine Go 17 Tryz.func80 ?_
 refine Sq (Rg [0] ?_)
 refine Vs 1 ?_
 refine Nss ?_
 refine Sq (Rg [0, 1, 2, 3] ?_)
 refine Vs 2 ?_
 obtain ⟨r21, hr22, h23⟩ := bind_some h
 refine CB co_rules_parser_peek (c_rules_parser_peek N bp0 (x0) a0_0 n0_0 hb0_0 hs0_0 (x1) hs0 _ hr22) ?_
 rintro _ F1 w24 _ hs25 le26 ⟨rfl, rfl⟩
 refine Vs 1 ?_
 refine Nt ?_
 refine Cd h23 (fun hb28 h29 => ?_) (fun hb28 h30 => ?_)
 ·refine Sq (Rg [0] ?_)
  refine Vs 1 ?_
  refine Nt ?_
  refine Rt ?_
  refine thenQ_ret ?_
  obtain rfl := some_inj h29
  exact ReB [(.bool false)] hs25 le26 ⟨a0_0, n0_0, rfl, rfl, hb0_0, (SlA.mono hs0_0 le26)⟩
 ·refine Sc ?_
  refine thenQ_nrm ?_
  refine Sq (Rg [0, 1, 2, 3, 4, 5, 6, 7, 8] ?_)
  refine Vs 4 ?_
  refine Ld hs25.at0 ?_
  obtain ⟨r31, hr32, h33⟩ := bind_some h30
  obtain ⟨a34, n35, hb36, hs37, hrun38⟩ := part_val (P := Tryz.prog) (T := trules_token) (lo := (some (.const (vi 1)))) (hi := none) (mx := none) (t := 98) (E := 97) (by_ := 32) (c := n0_0) (a := a0_0) (l := x0.l_) (r := r31) (il := 1) (ih := (x0.l_.length : Int)) (im := 0) (by kernel_rfl) (by kernel_rfl) hb0_0 (SlA.mono hs0_0 le26) (fun h => by first | rfl | cases h) hr32
  refine V 14 98 (hrun38 (x := (.tmp 13)) rfl rfl rfl trivial) ?_
  refine Vs 2 ?_
  refine St0 #[(.slice a34 r31.length n35), (vi x0.open_)] hs25 (fun w39 hs40 => ?_)
  refine Nss (Rg [0] ?_)
  refine Vs 1 ?_
  refine Nt ?_
  refine Rt ?_
  obtain rfl := some_inj h33
  exact ReB [(.bool true)] hs40 le26 ⟨a34, n35, rfl, rfl, hb36, hs37⟩
end Go.Proofs.YtaihlcdkcampbaaGreatDoor
namespace Go.Proofs.YtaihlcdkcampbaaGreatDoor
open Go.Proofs
def rules_parser_joinedBy_L0 (N : Nat) (x0 : rules_parser) (x1 : (rules_parser → Option (rules_bad ⊕ (rules_parser × Expr)))) (x2 : (List ((List UInt8) × Int))) (r27 : (rules_parser × Expr)) : (Int × Int × List Expr × List rules_token × Int) → Option (Flow (rules_bad ⊕ (rules_parser × Expr)) (Int × Int × List Expr × List rules_token × Int)) := fun s42 =>
 ((idx s42.2.2.2.1 0).bind fun x64 => ((bif (!(mhas x2 x64.text_)) then some (true, s42.2.2.2.1, s42.2.2.2.2) else ((idx s42.2.2.2.1 0).bind fun x95 => ((rules_parser_accept N ({ l_ := s42.2.2.2.1, open_ := s42.2.2.2.2 } : rules_parser) x95.text_).bind fun r101 => some ((!r101.2), r101.1.l_, r101.1.open_)))).bind fun j81 => (bif j81.1 then some (.ret (.inr (({ l_ := j81.2.1, open_ := j81.2.2 } : rules_parser), ({ Op := s42.1, Value := s42.2.1, Kids := s42.2.2.1 } : Expr)))) else (((x1 ({ l_ := j81.2.1, open_ := j81.2.2 } : rules_parser)).bind fun r129 => sk r129 (fun b146 => some (.inl b146)) (fun r132 => some (.inr (r132.1.l_, r132.1.open_, (mgetD x2 x64.text_ 0), 0, [({ Op := s42.1, Value := s42.2.1, Kids := s42.2.2.1 } : Expr), r132.2])))).bind fun j119 => sk j119 (fun b158 => some (.ret (.inl b158))) (fun J128 => some (.next (J128.2.2.1, J128.2.2.2.1, J128.2.2.2.2, J128.1, J128.2.1)))))))
def rules_parser_joinedBy (N : Nat) (x0 : rules_parser) (x1 : (rules_parser → Option (rules_bad ⊕ (rules_parser × Expr)))) (x2 : (List ((List UInt8) × Int))) : Option (rules_bad ⊕ (rules_parser × Expr)) :=
 ((x1 x0).bind fun r24 => sk r24 (fun b165 => some (.inl b165)) (fun r27 => ((iter (rules_parser_joinedBy_L0 N x0 x1 x2 r27) N (r27.2.Op, r27.2.Value, r27.2.Kids, r27.1.l_, r27.1.open_)).bind fun o => o.k (fun r => some r) (fun s52 => some (.inr (({ l_ := s52.2.2.2.1, open_ := s52.2.2.2.2 } : rules_parser), ({ Op := 0, Value := 0, Kids := ([] : List Expr) } : Expr)))))))
theorem co_rules_parser_joinedBy : CallOk Tryz.prog 184 := fun _ _ => by kernel_rfl
theorem c_rules_parser_joinedBy (N : Nat) {wb w0 : World} {Fb F0 : Mem} {Lf : Own} (hG : Glob F0) (bp0 : Nat) (x0 : rules_parser) (a0_0 : Option Addr) (n0_0 : Nat) (hb0_0 : LC x0.l_.length n0_0) (hs0_0 : SlA trules_token F0 a0_0 x0.l_) (gx1 : FuncId) (fx1 kx1 : List Value) (x1 : (rules_parser → Option (rules_bad ⊕ (rules_parser × Expr)))) (hox1 : CallOk Tryz.prog gx1) (hpx1 : EFn117 bp0 gx1 fx1 kx1 x1) (x2 : (List ((List UInt8) × Int))) (o2_0 : Option Nat) (hm2_0 : MpA tStr tInt F0 o2_0 x2) (hs0 : HS wb Fb w0 F0 ((sb bp0 (krules_parser x0 a0_0 n0_0) 100) :: Lf)) (r : (rules_bad ⊕ (rules_parser × Expr))) (h : rules_parser_joinedBy N x0 x1 x2 = some r) :
  Calls Tryz.prog 184 ([(pt bp0 0), (.func (.func gx1) fx1.toArray kx1.toArray), (.map o2_0)] : List Value).toArray w0 (BRetP wb Fb F0 Lf r (fun b => (.iface 158 (.agg (krules_bad b)))) fun a F' v L' => ∃ (aq0_0 : Option Addr) (nq0_0 : Nat) (aq1_2 : Option Addr) (nq1_2 : Nat), v = (.agg (kExpr a.2 aq1_2 nq1_2)) ∧ L' = (sb bp0 (krules_parser a.1 aq0_0 nq0_0) 100) :: Lf ∧ LC a.1.l_.length nq0_0 ∧ SlA trules_token F' aq0_0 a.1.l_ ∧ LC a.2.Kids.length nq1_2 ∧ SlA tExpr F' aq1_2 a.2.Kids) := by
 refine Go 45 Tryz.func184 ?_
 refine Sq (Rg [0] ?_)
 refine Al' 33 #[(vi 0), (vi 0), (.slice none ([] : List Expr).length 0)] hs0 (fun b21 w22 hs23 => ?_)
 refine Nss (Rg [0, 1, 2, 3] ?_)
 refine Vs 1 ?_
 obtain ⟨r24, hr25, h26⟩ := bind_some h
 refine CPq hox1 (hpx1 hG (x0) a0_0 n0_0 hb0_0 hs0_0 hs23.pk1 _ hr25) ?_ ?_
 ·rintro r27 _ F1 w29 _ rfl hs30 le31 ⟨ar27_0_0, nr27_0_0, ar27_1_2, nr27_1_2, rfl, rfl, hbr27_0_0, hsr27_0_0, hbr27_1_2, hsr27_1_2⟩
  have h33 := sk_r h26
  refine Al' 33 #[(vi 0), (vi 0), (.slice none ([] : List Expr).length 0)] hs30 (fun b34 w35 hs36 => ?_)
  refine St0 (kExpr r27.2 ar27_1_2 nr27_1_2) hs36 (fun w37 hs38 => ?_)
  refine Nt ?_
  obtain ⟨o39, ho40, h41⟩ := bind_some h33
  refine CWP.cut (fun f w => ∃ (s52 : (Int × Int × List Expr × List rules_token × Int)) (F3 : Mem) (as52_3 : Option Addr) (ns52_3 : Nat), o39 = .done s52 ∧ HS wb Fb w F3 ((sb bp0 #[(.slice as52_3 s52.2.2.2.1.length ns52_3), (vi s52.2.2.2.2)] 100) :: (sb b21 #[(vi 0), (vi 0), (.slice none ([] : List Expr).length 0)] 33) :: Lf) ∧ Mem.le F1 F3 ∧ FI f [] [(6, (pt b21 0))] ∧ LC s52.2.2.2.1.length ns52_3 ∧ SlA trules_token F3 as52_3 s52.2.2.2.1) ?_ ?_
  ·refine Bk ?_
   refine CWP.loop (by kernel_rfl) (fun m f w => ∃ (s42 : (Int × Int × List Expr × List rules_token × Int)) (F2 : Mem) (as42_2 : Option Addr) (ns42_2 : Nat) (as42_3 : Option Addr) (ns42_3 : Nat), iter (rules_parser_joinedBy_L0 N x0 x1 x2 r27) m s42 = some o39 ∧ HS wb Fb w F2 ((sb b34 #[(vi s42.1), (vi s42.2.1), (.slice as42_2 s42.2.2.1.length ns42_2)] 33) :: (sb bp0 #[(.slice as42_3 s42.2.2.2.1.length ns42_3), (vi s42.2.2.2.2)] 100) :: (sb b21 #[(vi 0), (vi 0), (.slice none ([] : List Expr).length 0)] 33) :: Lf) ∧ Mem.le F1 F2 ∧ FI f [] [(0, (pt bp0 0)), (1, (.func (.func gx1) fx1.toArray kx1.toArray)), (2, (.map o2_0)), (6, (pt b21 0)), (7, (pt b34 0))] ∧ LC s42.2.2.1.length ns42_2 ∧ SlA tExpr F2 as42_2 s42.2.2.1 ∧ LC s42.2.2.2.1.length ns42_3 ∧ SlA trules_token F2 as42_3 s42.2.2.2.1) N ⟨(r27.2.Op, r27.2.Value, r27.2.Kids, r27.1.l_, r27.1.open_), F1, ar27_1_2, nr27_1_2, ar27_0_0, nr27_0_0, ho40, hs38, (Mem.le.refl _), fI, hbr27_1_2, hsr27_1_2, hbr27_0_0, hsr27_0_0⟩ ?_
   rintro m58 f w43 ⟨s42, F2, as42_2, ns42_2, as42_3, ns42_3, hit59, hs44, le45, ⟨_, rfl⟩, hbs42_2, hss42_2, hbs42_3, hss42_3⟩
   obtain ⟨m60, fl61, rfl, hb62, hnx63⟩ := iter_step hit59
   refine Bk ?_
   refine Sq (Rg [0, 1, 2, 3, 4, 5, 6, 7, 8, 9, 10, 11, 12, 13] ?_)
   refine Vs 4 ?_
   refine Ld hs44.at1 ?_
   obtain ⟨x64, hx65, h67⟩ := bind_some hb62
   obtain ⟨hi66, hx65'⟩ := idx_spec hx65
   obtain ⟨b68, o69, C70, E71, fz72, rfl, hF74, hE75⟩ := SlA.open hss42_3 hx65'
   have hc77 := hE75 _ _ hx65'
   refine Ix hi66 ?_
   refine Vs 1 ?_
   refine Lx 2 (hs44.pers _ _ hF74) hc77 ?_
   refine V 21 213 (run_lookV2 (mt := 198) (k := 9) (vt := 3) (m := (.tmp 13)) (x := (.tmp 20)) (kv := (.string ⟨(x64.text_).toArray⟩)) (kx := x64.text_) (z := (vi 0)) (zx := 0) (K := tStr) (T := tInt) kl9 rfl rfl ⟨_, rfl, rfl⟩ (by kernel_rfl) (by kernel_rfl) ⟨_, rfl, rfl⟩ (MpA.mpw hs44.pers (MpA.mono hm2_0 (le31.trans le45))) (fun h => by obtain ⟨_, rfl, rfl⟩ := h; rfl)) ?_
   refine Vs 5 ?_
   refine Nss ?_
   refine Sq (Rg [0, 1, 2, 3, 4, 5, 6, 7, 8, 9, 10, 11, 12, 13] ?_)
   obtain ⟨j81, hj90, h91⟩ := bind_some h67
   refine RWP.cut (fun f w => ∃ (F4 : Mem) (aj81_1 : Option Addr) (nj81_1 : Nat), HS wb Fb w F4 ((sb b34 #[(vi s42.1), (vi s42.2.1), (.slice as42_2 s42.2.2.1.length ns42_2)] 33) :: (sb bp0 #[(.slice aj81_1 j81.2.1.length nj81_1), (vi j81.2.2)] 100) :: (sb b21 #[(vi 0), (vi 0), (.slice none ([] : List Expr).length 0)] 33) :: Lf) ∧ Mem.le F2 F4 ∧ FI f [] [(0, (pt bp0 0)), (1, (.func (.func gx1) fx1.toArray kx1.toArray)), (2, (.map o2_0)), (6, (pt b21 0)), (7, (pt b34 0)), (8, (vi (mgetD x2 x64.text_ 0))), (37, (.bool j81.1))] ∧ LC j81.2.1.length nj81_1 ∧ SlA trules_token F4 aj81_1 j81.2.1) ?_ ?_
   ·refine Vs 3 ?_
    refine Sp hj90 (fun hb92 h93 => ?_) (fun hb92 h94 => ?_)
    ·refine Ss hb92 10 ?_
     refine Pk1 hb92 ?_
     obtain rfl := some_inj h93
     exact RWP.nil ⟨rfl, F2, (some ⟨b68, o69, none⟩), ns42_3, hs44, (Mem.le.refl _), fI, hbs42_3, hss42_3⟩
    ·refine Vgs hb92 4 ?_
     refine Vg 31 98 2 false 26 hb92 (ld 98 30 bp0 0 false 1 (.slice (some ⟨b68, o69, none⟩) s42.2.2.2.1.length ns42_3) hs44.at1) ?_
     obtain ⟨x95, hx96, h98⟩ := bind_some h94
     obtain ⟨hi97, hx96'⟩ := idx_spec hx96
     have hc100 := hE75 _ _ hx96'
     refine Vg 32 0 2 false 26 hb92 (run_index (t := 98) (x := (.tmp 31)) (y := (.const (vi 0))) (b := b68) (o := o69) (E := 97) (s := 3) (by_ := 32) rfl rfl (by kernel_rfl) hi97) ?_
     refine Vgs hb92 1 ?_
     refine Vg 34 9 2 false 26 hb92 (lx 9 33 2 3 false 1 (.string ⟨(x95.text_).toArray⟩) (hs44.pers _ _ hF74) hc100) ?_
     obtain ⟨r101, hr102, h103⟩ := bind_some h98
     refine RWP.callB (dst := (some 35)) (ty := 4) (g := (some (2, false))) (by kernel_rfl) (gd_y (d := 26) (by kernel_rfl) rfl hb92) (f0 := (.func 80)) (aos := #[(.tmp 27), (.tmp 34)]) (ats := #[95, 9]) (fid := 80) (first := #[]) (cap := #[]) (args := [(pt bp0 0), (.string ⟨(x95.text_).toArray⟩)]) rfl co_rules_parser_accept (rfl) (c_rules_parser_accept N bp0 (({ l_ := s42.2.2.2.1, open_ := s42.2.2.2.2 } : rules_parser)) (some ⟨b68, o69, none⟩) ns42_3 hbs42_3 hss42_3 (x95.text_) hs44.pk2.pk1.pk2 _ hr102) ?_
     rintro _ F5 w104 _ hs105 le106 ⟨ar101_0_0, nr101_0_0, rfl, rfl, hbr101_0_0, hsr101_0_0⟩
     refine Vgs hb92 1 ?_
     refine Pk0 hb92 ?_
     obtain rfl := some_inj h103
     exact RWP.nil ⟨rfl, F5, ar101_0_0, nr101_0_0, hs105.pk2.pk1.pk2, le106, fI, hbr101_0_0, hsr101_0_0⟩
   ·rintro f w78 ⟨F4, aj81_1, nj81_1, hs79, le80, ⟨_, rfl⟩, hbj81_1, hsj81_1⟩
    refine thenQ_nrm ?_
    refine Cd h91 (fun hb108 h109 => ?_) (fun hb108 h110 => ?_)
    ·refine Sq (Rg [0, 1] ?_)
     refine Ld hs79.at0 ?_
     refine St2 #[(vi s42.1), (vi s42.2.1), (.slice as42_2 s42.2.2.1.length ns42_2)] hs79 (fun w111 hs112 => ?_)
     refine Nt ?_
     refine Rt ?_
     refine thenQ_ret ?_
     refine blockQ_ret ?_
     refine thenQ_ret ?_
     refine blockQ_ret ?_
     have hret := iter_ret h109 hnx63
     subst hret
     refine .inr ?_
     obtain rfl := some_inj h41
     exact ⟨rfl, (.agg #[(vi s42.1), (vi s42.2.1), (.slice as42_2 s42.2.2.1.length ns42_2)]), res_of (l := [.cell 6 33]) (by kernel_rfl) (vs := [(.agg #[(vi s42.1), (vi s42.2.1), (.slice as42_2 s42.2.2.1.length ns42_2)])]) ⟨b21, 0, rfl, run_loadVar' (t := 33) (g := true) (s := 3) (by kernel_rfl) hs112.at2 rfl (by decide), trivial⟩, .inl ⟨_, F4, _, _, rfl, rfl, hs112.dr0.dr1, ((le31.trans le45).trans le80), ⟨aj81_1, nj81_1, as42_2, ns42_2, rfl, rfl, hbj81_1, hsj81_1, hbs42_2, (SlA.mono hss42_2 le80)⟩⟩⟩
    ·refine Sc ?_
     refine thenQ_nrm ?_
     obtain ⟨j119, hj126, h127⟩ := bind_some h110
     refine RDP 6 7 [(sb b21 #[(vi 0), (vi 0), (.slice none ([] : List Expr).length 0)] 33)] [(sb b34 #[(vi s42.1), (vi s42.2.1), (.slice as42_2 s42.2.2.1.length ns42_2)] 33)] hs79 (fun c d w => d = [] ∧ ∃ (b : rules_bad) (Fp : Mem), j119 = .inl b ∧ c = [{ v := (.iface 158 (.agg (krules_bad b))), recovered := false }] ∧ HS wb Fb w Fp Lf ∧ Mem.le F4 Fp) (fun f w => ∃ (J128 : (List rules_token × Int × Int × Int × List Expr)), j119 = .inr J128 ∧ ∃ (F6 : Mem) (aj119_0 : Option Addr) (nj119_0 : Nat) (aj119_4 : Option Addr) (nj119_4 : Nat) (ej119_4 : Option Nat × Obj), HS wb Fb w F6 (ej119_4 :: (sb b34 #[(vi J128.2.2.1), (vi J128.2.2.2.1), (.slice aj119_4 J128.2.2.2.2.length nj119_4)] 33) :: (sb bp0 #[(.slice aj119_0 J128.1.length nj119_0), (vi J128.2.1)] 100) :: (sb b21 #[(vi 0), (vi 0), (.slice none ([] : List Expr).length 0)] 33) :: Lf) ∧ Mem.le F4 F6 ∧ FI f [] [(0, (pt bp0 0)), (1, (.func (.func gx1) fx1.toArray kx1.toArray)), (2, (.map o2_0)), (6, (pt b21 0)), (7, (pt b34 0))] ∧ LC J128.1.length nj119_0 ∧ SlA trules_token F6 aj119_0 J128.1 ∧ RowR tExpr 33 F6 aj119_4 nj119_4 J128.2.2.2.2 ej119_4) (fun wd113 hw114 => ?_) ?_ ?_
     ·refine Dv [0] ?_
      refine Dl 1 (fun _ hq => ((hq.2 rfl).2 0 _ _ rfl)) ?_
      refine Dv [2] ?_
      refine D1 3 ?_
      obtain ⟨r129, hr130, h131⟩ := bind_some hj126
      refine DStep.callBP (l' := [true, true, true, true, false, false, false]) (zd := false) (by kernel_rfl) (by kernel_rfl) (Lf := (sb b34 #[(vi s42.1), (vi s42.2.1), (.slice as42_2 s42.2.2.1.length ns42_2)] 33) :: (sb b21 #[(vi 0), (vi 0), (.slice none ([] : List Expr).length 0)] 33) :: Lf) (dst := (some 42)) (ty := 33) (g := none) (by kernel_rfl) rfl (f0 := (.tmp 41)) (aos := #[]) (ats := #[]) (fid := gx1) (first := fx1.toArray) (cap := kx1.toArray) (args := (fx1 ++ (([] : List Value) ++ kx1))) rfl hox1 (app_args2 (l := []) (fi := fx1) (k := kx1) (rfl)) (hpx1 (hG.mono ((le31.trans le45).trans le80)) (({ l_ := j81.2.1, open_ := j81.2.2 } : rules_parser)) aj81_1 nj81_1 hbj81_1 hsj81_1 hw114.pk2.pk1.pk2 _ hr130) ?_ ?_
      ·rintro r132 _ F7 w134 _ rfl hs135 le136 ⟨ar132_0_0, nr132_0_0, ar132_1_2, nr132_1_2, rfl, rfl, hbr132_0_0, hsr132_0_0, hbr132_1_2, hsr132_1_2⟩
       have h138 := sk_r h131
       refine ⟨dz_of hs135 le136 (by simp) (fun _ => by simp), ?_⟩
       refine D1 4 ?_
       refine DBs 33 [(vi s42.1), (vi s42.2.1), (.slice as42_2 s42.2.2.1.length ns42_2), (vi r132.2.Op), (vi r132.2.Value), (.slice ar132_1_2 r132.2.Kids.length nr132_1_2)] hs135 le136 (fun b139 w140 hs141 => ?_)
       have hr143 : RowR tExpr 33 F7 (some ⟨b139, 0, none⟩) 2 [({ Op := s42.1, Value := s42.2.1, Kids := s42.2.2.1 } : Expr), r132.2] (some b139, .cells ([(vi s42.1), (vi s42.2.1), (.slice as42_2 s42.2.2.1.length ns42_2), (vi r132.2.Op), (vi r132.2.Value), (.slice ar132_1_2 r132.2.Kids.length nr132_1_2)] : List Value).toArray 33 (0, 0)) := RowR.lit ⟨(tExpr_mk ⟨as42_2, ns42_2, rfl, hbs42_2, (SlA.mono hss42_2 (le80.trans le136))⟩), ⟨(tExpr_mk ⟨ar132_1_2, nr132_1_2, rfl, hbr132_1_2, hsr132_1_2⟩), rfl⟩⟩ (by simp)
       refine Dv [5] ?_
       refine D1 6 ?_
       refine DSt2 #[(vi (mgetD x2 x64.text_ 0)), (vi 0), (.slice (some ⟨b139, 0, none⟩) [({ Op := s42.1, Value := s42.2.1, Kids := s42.2.2.1 } : Expr), r132.2].length 2)] hs141 le136 (fun w144 hs145 => ?_)
       obtain rfl := some_inj h138
       exact DWP.done (by kernel_rfl) ⟨_, rfl, F7, ar132_0_0, nr132_0_0, (some ⟨b139, 0, none⟩), 2, (some b139, .cells ([(vi s42.1), (vi s42.2.1), (.slice as42_2 s42.2.2.1.length ns42_2), (vi r132.2.Op), (vi r132.2.Value), (.slice ar132_1_2 r132.2.Kids.length nr132_1_2)] : List Value).toArray 33 (0, 0)), hs145.pk3.pk2.pk3.pk3, le136, fI, hbr132_0_0, hsr132_0_0, hr143⟩
      ·rintro b146 F8 w147 rfl hs148 le149
       have h150 := sk_l h131
       obtain rfl := some_inj h150
       exact ⟨rfl, _, _, rfl, rfl, hs148.dr0.dr0, le149⟩
     ·rintro f w115 ⟨J128, rfl, F6, aj119_0, nj119_0, aj119_4, nj119_4, ej119_4, hs116, le117, ⟨_, rfl⟩, hbj119_0, hsj119_0, hrj119_4⟩
      have h152 := sk_r h127
      refine blockQ_nrm ?_
      have hb156 := RowR.bound hrj119_4
      obtain ⟨F9, hs153, le154, hs155⟩ := hs116.fr0 hrj119_4
      have hn157 := iter_next h152 hnx63
      exact ⟨m60, Nat.lt_succ_self _, (J128.2.2.1, J128.2.2.2.1, J128.2.2.2.2, J128.1, J128.2.1), F9, aj119_4, nj119_4, aj119_0, nj119_0, hn157, hs153, (((le45.trans le80).trans le117).trans le154), fI, hb156, hs155, hbj119_0, (SlA.mono hsj119_0 le154)⟩
     ·rintro c f w159 ⟨hd162, b158, F10, rfl, rfl, hs160, le161⟩
      have h163 := sk_l h127
      refine blockQ_pan ?_
      refine thenQ_pan ?_
      refine blockQ_pan ?_
      have hret := iter_ret h163 hnx63
      subst hret
      refine .inr ?_
      obtain rfl := some_inj h41
      exact ⟨hd162, .inr ⟨_, F10, rfl, rfl, hs160, (((le31.trans le45).trans le80).trans le161)⟩⟩
  ·rintro f w53 ⟨s52, F3, as52_3, ns52_3, rfl, hs54, le55, ⟨_, rfl⟩, hbs52_3, hss52_3⟩
   have h164 := k_done h41
   obtain rfl := some_inj h164
   exact ⟨rfl, (.agg #[(vi 0), (vi 0), (.slice none ([] : List Expr).length 0)]), res_of (l := [.cell 6 33]) (by kernel_rfl) (vs := [(.agg #[(vi 0), (vi 0), (.slice none ([] : List Expr).length 0)])]) ⟨b21, 0, rfl, run_loadVar' (t := 33) (g := true) (s := 3) (by kernel_rfl) hs54.at1 rfl (by decide), trivial⟩, .inl ⟨_, F3, _, _, rfl, rfl, hs54.dr1, (le31.trans le55), ⟨as52_3, ns52_3, none, 0, rfl, rfl, hbs52_3, hss52_3, LC.nil, (.inl rfl)⟩⟩⟩
 ·rintro b165 F11 w166 rfl hs167 le168
  have h169 := sk_l h26
  refine thenQ_pan ?_
  obtain rfl := some_inj h169
  exact RePi hs167.dr0 le168
end Go.Proofs.YtaihlcdkcampbaaGreatDoor
namespace Go.Proofs.YtaihlcdkcampbaaGreatDoor
open Go.Proofs
def Self145 (sR145 : rules_parser → Option (rules_bad ⊕ (rules_parser × Expr))) : Prop := ∀ {wb w0 : World} {Fb F0 : Mem} {Lf : Own} (hG : Glob F0) (bp0 : Nat) (x0 : rules_parser) (a0_0 : Option Addr) (n0_0 : Nat) (hb0_0 : LC x0.l_.length n0_0) (hs0_0 : SlA trules_token F0 a0_0 x0.l_) (hs0 : HS wb Fb w0 F0 ((some bp0, (.cells #[(.slice a0_0 x0.l_.length n0_0), (.int .i64 x0.open_)] 100 (0, 0))) :: Lf)) (r : (rules_bad ⊕ (rules_parser × Expr))), sR145 x0 = some r → Calls Tryz.prog 145 ([(.pointer (some ⟨bp0, 0, none⟩))] : List Value).toArray w0 (BRetP wb Fb F0 Lf r (fun b => (.iface 158 (.agg #[(.int .i64 b.e_), (.int .i64 b.at_)]))) fun a F' v L' => ∃ (aq0_0 : Option Addr) (nq0_0 : Nat) (aq1_2 : Option Addr) (nq1_2 : Nat), v = (.agg #[(.int .i64 a.2.Op), (.int .i64 a.2.Value), (.slice aq1_2 a.2.Kids.length nq1_2)]) ∧ L' = (some bp0, (.cells #[(.slice aq0_0 a.1.l_.length nq0_0), (.int .i64 a.1.open_)] 100 (0, 0))) :: Lf ∧ LC a.1.l_.length nq0_0 ∧ SlA trules_token F' aq0_0 a.1.l_ ∧ LC a.2.Kids.length nq1_2 ∧ SlA tExpr F' aq1_2 a.2.Kids)
theorem co_rules_parser_expr : CallOk Tryz.prog 145 := fun _ _ => by kernel_rfl
def Self185 (sR185 : rules_parser → Option (rules_bad ⊕ (rules_parser × Expr))) : Prop := ∀ {wb w0 : World} {Fb F0 : Mem} {Lf : Own} (hG : Glob F0) (bp0 : Nat) (x0 : rules_parser) (a0_0 : Option Addr) (n0_0 : Nat) (hb0_0 : LC x0.l_.length n0_0) (hs0_0 : SlA trules_token F0 a0_0 x0.l_) (hs0 : HS wb Fb w0 F0 ((some bp0, (.cells #[(.slice a0_0 x0.l_.length n0_0), (.int .i64 x0.open_)] 100 (0, 0))) :: Lf)) (r : (rules_bad ⊕ (rules_parser × Expr))), sR185 x0 = some r → Calls Tryz.prog 185 ([(.pointer (some ⟨bp0, 0, none⟩))] : List Value).toArray w0 (BRetP wb Fb F0 Lf r (fun b => (.iface 158 (.agg #[(.int .i64 b.e_), (.int .i64 b.at_)]))) fun a F' v L' => ∃ (aq0_0 : Option Addr) (nq0_0 : Nat) (aq1_2 : Option Addr) (nq1_2 : Nat), v = (.agg #[(.int .i64 a.2.Op), (.int .i64 a.2.Value), (.slice aq1_2 a.2.Kids.length nq1_2)]) ∧ L' = (some bp0, (.cells #[(.slice aq0_0 a.1.l_.length nq0_0), (.int .i64 a.1.open_)] 100 (0, 0))) :: Lf ∧ LC a.1.l_.length nq0_0 ∧ SlA trules_token F' aq0_0 a.1.l_ ∧ LC a.2.Kids.length nq1_2 ∧ SlA tExpr F' aq1_2 a.2.Kids)
theorem co_rules_parser_both : CallOk Tryz.prog 185 := fun _ _ => by kernel_rfl
def Self212 (sR212 : rules_parser → Option (rules_bad ⊕ (rules_parser × Expr))) : Prop := ∀ {wb w0 : World} {Fb F0 : Mem} {Lf : Own} (hG : Glob F0) (bp0 : Nat) (x0 : rules_parser) (a0_0 : Option Addr) (n0_0 : Nat) (hb0_0 : LC x0.l_.length n0_0) (hs0_0 : SlA trules_token F0 a0_0 x0.l_) (hs0 : HS wb Fb w0 F0 ((some bp0, (.cells #[(.slice a0_0 x0.l_.length n0_0), (.int .i64 x0.open_)] 100 (0, 0))) :: Lf)) (r : (rules_bad ⊕ (rules_parser × Expr))), sR212 x0 = some r → Calls Tryz.prog 212 ([(.pointer (some ⟨bp0, 0, none⟩))] : List Value).toArray w0 (BRetP wb Fb F0 Lf r (fun b => (.iface 158 (.agg #[(.int .i64 b.e_), (.int .i64 b.at_)]))) fun a F' v L' => ∃ (aq0_0 : Option Addr) (nq0_0 : Nat) (aq1_2 : Option Addr) (nq1_2 : Nat), v = (.agg #[(.int .i64 a.2.Op), (.int .i64 a.2.Value), (.slice aq1_2 a.2.Kids.length nq1_2)]) ∧ L' = (some bp0, (.cells #[(.slice aq0_0 a.1.l_.length nq0_0), (.int .i64 a.1.open_)] 100 (0, 0))) :: Lf ∧ LC a.1.l_.length nq0_0 ∧ SlA trules_token F' aq0_0 a.1.l_ ∧ LC a.2.Kids.length nq1_2 ∧ SlA tExpr F' aq1_2 a.2.Kids)
theorem co_rules_parser_deny : CallOk Tryz.prog 212 := fun _ _ => by kernel_rfl
def Self226 (sR226 : rules_parser → Option (rules_bad ⊕ (rules_parser × Expr))) : Prop := ∀ {wb w0 : World} {Fb F0 : Mem} {Lf : Own} (hG : Glob F0) (bp0 : Nat) (x0 : rules_parser) (a0_0 : Option Addr) (n0_0 : Nat) (hb0_0 : LC x0.l_.length n0_0) (hs0_0 : SlA trules_token F0 a0_0 x0.l_) (hs0 : HS wb Fb w0 F0 ((some bp0, (.cells #[(.slice a0_0 x0.l_.length n0_0), (.int .i64 x0.open_)] 100 (0, 0))) :: Lf)) (r : (rules_bad ⊕ (rules_parser × Expr))), sR226 x0 = some r → Calls Tryz.prog 226 ([(.pointer (some ⟨bp0, 0, none⟩))] : List Value).toArray w0 (BRetP wb Fb F0 Lf r (fun b => (.iface 158 (.agg #[(.int .i64 b.e_), (.int .i64 b.at_)]))) fun a F' v L' => ∃ (aq0_0 : Option Addr) (nq0_0 : Nat) (aq1_2 : Option Addr) (nq1_2 : Nat), v = (.agg #[(.int .i64 a.2.Op), (.int .i64 a.2.Value), (.slice aq1_2 a.2.Kids.length nq1_2)]) ∧ L' = (some bp0, (.cells #[(.slice aq0_0 a.1.l_.length nq0_0), (.int .i64 a.1.open_)] 100 (0, 0))) :: Lf ∧ LC a.1.l_.length nq0_0 ∧ SlA trules_token F' aq0_0 a.1.l_ ∧ LC a.2.Kids.length nq1_2 ∧ SlA tExpr F' aq1_2 a.2.Kids)
theorem co_rules_parser_test : CallOk Tryz.prog 226 := fun _ _ => by kernel_rfl
def Self233 (sR233 : rules_parser → Option (rules_bad ⊕ (rules_parser × Expr))) : Prop := ∀ {wb w0 : World} {Fb F0 : Mem} {Lf : Own} (hG : Glob F0) (bp0 : Nat) (x0 : rules_parser) (a0_0 : Option Addr) (n0_0 : Nat) (hb0_0 : LC x0.l_.length n0_0) (hs0_0 : SlA trules_token F0 a0_0 x0.l_) (hs0 : HS wb Fb w0 F0 ((some bp0, (.cells #[(.slice a0_0 x0.l_.length n0_0), (.int .i64 x0.open_)] 100 (0, 0))) :: Lf)) (r : (rules_bad ⊕ (rules_parser × Expr))), sR233 x0 = some r → Calls Tryz.prog 233 ([(.pointer (some ⟨bp0, 0, none⟩))] : List Value).toArray w0 (BRetP wb Fb F0 Lf r (fun b => (.iface 158 (.agg #[(.int .i64 b.e_), (.int .i64 b.at_)]))) fun a F' v L' => ∃ (aq0_0 : Option Addr) (nq0_0 : Nat) (aq1_2 : Option Addr) (nq1_2 : Nat), v = (.agg #[(.int .i64 a.2.Op), (.int .i64 a.2.Value), (.slice aq1_2 a.2.Kids.length nq1_2)]) ∧ L' = (some bp0, (.cells #[(.slice aq0_0 a.1.l_.length nq0_0), (.int .i64 a.1.open_)] 100 (0, 0))) :: Lf ∧ LC a.1.l_.length nq0_0 ∧ SlA trules_token F' aq0_0 a.1.l_ ∧ LC a.2.Kids.length nq1_2 ∧ SlA tExpr F' aq1_2 a.2.Kids)
theorem co_rules_parser_sum : CallOk Tryz.prog 233 := fun _ _ => by kernel_rfl
def Self239 (sR239 : rules_parser → Option (rules_bad ⊕ (rules_parser × Expr))) : Prop := ∀ {wb w0 : World} {Fb F0 : Mem} {Lf : Own} (hG : Glob F0) (bp0 : Nat) (x0 : rules_parser) (a0_0 : Option Addr) (n0_0 : Nat) (hb0_0 : LC x0.l_.length n0_0) (hs0_0 : SlA trules_token F0 a0_0 x0.l_) (hs0 : HS wb Fb w0 F0 ((some bp0, (.cells #[(.slice a0_0 x0.l_.length n0_0), (.int .i64 x0.open_)] 100 (0, 0))) :: Lf)) (r : (rules_bad ⊕ (rules_parser × Expr))), sR239 x0 = some r → Calls Tryz.prog 239 ([(.pointer (some ⟨bp0, 0, none⟩))] : List Value).toArray w0 (BRetP wb Fb F0 Lf r (fun b => (.iface 158 (.agg #[(.int .i64 b.e_), (.int .i64 b.at_)]))) fun a F' v L' => ∃ (aq0_0 : Option Addr) (nq0_0 : Nat) (aq1_2 : Option Addr) (nq1_2 : Nat), v = (.agg #[(.int .i64 a.2.Op), (.int .i64 a.2.Value), (.slice aq1_2 a.2.Kids.length nq1_2)]) ∧ L' = (some bp0, (.cells #[(.slice aq0_0 a.1.l_.length nq0_0), (.int .i64 a.1.open_)] 100 (0, 0))) :: Lf ∧ LC a.1.l_.length nq0_0 ∧ SlA trules_token F' aq0_0 a.1.l_ ∧ LC a.2.Kids.length nq1_2 ∧ SlA tExpr F' aq1_2 a.2.Kids)
theorem co_rules_parser_term : CallOk Tryz.prog 239 := fun _ _ => by kernel_rfl
def Self243 (sR243 : rules_parser → Option (rules_bad ⊕ (rules_parser × Expr))) : Prop := ∀ {wb w0 : World} {Fb F0 : Mem} {Lf : Own} (hG : Glob F0) (bp0 : Nat) (x0 : rules_parser) (a0_0 : Option Addr) (n0_0 : Nat) (hb0_0 : LC x0.l_.length n0_0) (hs0_0 : SlA trules_token F0 a0_0 x0.l_) (hs0 : HS wb Fb w0 F0 ((some bp0, (.cells #[(.slice a0_0 x0.l_.length n0_0), (.int .i64 x0.open_)] 100 (0, 0))) :: Lf)) (r : (rules_bad ⊕ (rules_parser × Expr))), sR243 x0 = some r → Calls Tryz.prog 243 ([(.pointer (some ⟨bp0, 0, none⟩))] : List Value).toArray w0 (BRetP wb Fb F0 Lf r (fun b => (.iface 158 (.agg #[(.int .i64 b.e_), (.int .i64 b.at_)]))) fun a F' v L' => ∃ (aq0_0 : Option Addr) (nq0_0 : Nat) (aq1_2 : Option Addr) (nq1_2 : Nat), v = (.agg #[(.int .i64 a.2.Op), (.int .i64 a.2.Value), (.slice aq1_2 a.2.Kids.length nq1_2)]) ∧ L' = (some bp0, (.cells #[(.slice aq0_0 a.1.l_.length nq0_0), (.int .i64 a.1.open_)] 100 (0, 0))) :: Lf ∧ LC a.1.l_.length nq0_0 ∧ SlA trules_token F' aq0_0 a.1.l_ ∧ LC a.2.Kids.length nq1_2 ∧ SlA tExpr F' aq1_2 a.2.Kids)
theorem co_rules_parser_item : CallOk Tryz.prog 243 := fun _ _ => by kernel_rfl
end Go.Proofs.YtaihlcdkcampbaaGreatDoor
namespace Go.Proofs.YtaihlcdkcampbaaGreatDoor
open Go.Proofs
def rules_parser_expr_S (N : Nat) (sR185 : rules_parser → Option (rules_bad ⊕ (rules_parser × Expr))) (x0 : rules_parser) : Option (rules_bad ⊕ (rules_parser × Expr)) :=
 ((rules_parser_joinedBy N x0 (fun y => sR185 y) (mput ([] : List ((List UInt8) × Int)) ([111, 114] : List UInt8) 5)).bind fun r37 => sk r37 (fun b49 => some (.inl b49)) (fun r40 => some (.inr (r40.1, r40.2))))
theorem cS_rules_parser_expr (N : Nat) (sR185 : rules_parser → Option (rules_bad ⊕ (rules_parser × Expr))) (hsR185 : Self185 sR185) {wb w0 : World} {Fb F0 : Mem} {Lf : Own} (hG : Glob F0) (bp0 : Nat) (x0 : rules_parser) (a0_0 : Option Addr) (n0_0 : Nat) (hb0_0 : LC x0.l_.length n0_0) (hs0_0 : SlA trules_token F0 a0_0 x0.l_) (hs0 : HS wb Fb w0 F0 ((sb bp0 (krules_parser x0 a0_0 n0_0) 100) :: Lf)) (r : (rules_bad ⊕ (rules_parser × Expr))) (h : rules_parser_expr_S N sR185 x0 = some r) :
  Calls Tryz.prog 145 ([(pt bp0 0)] : List Value).toArray w0 (BRetP wb Fb F0 Lf r (fun b => (.iface 158 (.agg (krules_bad b)))) fun a F' v L' => ∃ (aq0_0 : Option Addr) (nq0_0 : Nat) (aq1_2 : Option Addr) (nq1_2 : Nat), v = (.agg (kExpr a.2 aq1_2 nq1_2)) ∧ L' = (sb bp0 (krules_parser a.1 aq0_0 nq0_0) 100) :: Lf ∧ LC a.1.l_.length nq0_0 ∧ SlA trules_token F' aq0_0 a.1.l_ ∧ LC a.2.Kids.length nq1_2 ∧ SlA tExpr F' aq1_2 a.2.Kids) := by
 refine Go 9 Tryz.func145 ?_
 refine Sq (Rg [0] ?_)
 refine Al' 33 #[(vi 0), (vi 0), (.slice none ([] : List Expr).length 0)] hs0 (fun b21 w22 hs23 => ?_)
 refine Nss (Rg [0, 1, 2, 3, 4, 5, 6, 7] ?_)
 refine Vs 3 ?_
 refine RWP.makeMap (t := 198) (K := tStr) (T := tInt) (dst := (some 6)) (ty := 198) (g := none) (by kernel_rfl) rfl hs23 (fun b25 e26 w27 (hs28 : HS wb Fb w27 F0 (e26 :: (sb b21 #[(vi 0), (vi 0), (.slice none ([] : List Expr).length 0)] 33) :: (sb bp0 (krules_parser x0 a0_0 n0_0) 100) :: Lf)) hr29 => ?_)
 refine RWP.mapIns kl9 (ty := 0) (g := none) (mt := 198) (k := 9) (vt := 3) (m := (.tmp 6)) (x := (.const (.string ⟨([111, 114] : List UInt8).toArray⟩))) (y := (.const (vi 5))) (b := b25) (kx := ([111, 114] : List UInt8)) (u := 5) (kv := (.string ⟨(([111, 114] : List UInt8)).toArray⟩)) (v := (vi 5)) (K := tStr) (T := tInt) (by kernel_rfl) rfl rfl rfl rfl ⟨_, rfl, rfl⟩ ⟨_, rfl, rfl⟩ (by kernel_rfl) hs28 (q := 0) rfl hr29 (fun e30 w31 (hs32 : HS wb Fb w31 F0 (e30 :: (sb b21 #[(vi 0), (vi 0), (.slice none ([] : List Expr).length 0)] 33) :: (sb bp0 (krules_parser x0 a0_0 n0_0) 100) :: Lf)) hr33 => ?_)
 refine Vs 1 ?_
 obtain ⟨F1, hs34, le35, hm36⟩ : ∃ Fq, HS wb Fb w31 Fq ((sb b21 #[(vi 0), (vi 0), (.slice none ([] : List Expr).length 0)] 33) :: (sb bp0 (krules_parser x0 a0_0 n0_0) 100) :: Lf) ∧ Mem.le F0 Fq ∧ MpA tStr tInt Fq (some b25) (mput ([] : List ((List UInt8) × Int)) ([111, 114] : List UInt8) 5) := HS.freezeMap hs32 (i := 0) rfl hr33
 obtain ⟨r37, hr38, h39⟩ := bind_some h
 refine CP co_rules_parser_joinedBy (c_rules_parser_joinedBy N (hG.mono le35) bp0 (x0) a0_0 n0_0 hb0_0 (SlA.mono hs0_0 le35) 185 [(pt bp0 0)] ([] : List Value) (fun y => sR185 y) co_rules_parser_both (fun {_ _ _ _ _} hGe y ay_0 ny_0 hby_0 hsy_0 hs r h => hsR185 hGe bp0 y ay_0 ny_0 hby_0 hsy_0 hs r h) ((mput ([] : List ((List UInt8) × Int)) ([111, 114] : List UInt8) 5)) (some b25) hm36 hs34.pk1 _ hr38) ?_ ?_
 ·rintro r40 _ F2 w42 _ rfl hs43 le44 ⟨ar40_0_0, nr40_0_0, ar40_1_2, nr40_1_2, rfl, rfl, hbr40_0_0, hsr40_0_0, hbr40_1_2, hsr40_1_2⟩
  have h46 := sk_r h39
  refine St1 (kExpr r40.2 ar40_1_2 nr40_1_2) hs43 (fun w47 hs48 => ?_)
  refine Nt ?_
  refine Rt ?_
  obtain rfl := some_inj h46
  exact ⟨rfl, (.agg (kExpr r40.2 ar40_1_2 nr40_1_2)), res_of (l := [.cell 2 33]) (by kernel_rfl) (vs := [(.agg (kExpr r40.2 ar40_1_2 nr40_1_2))]) ⟨b21, 0, rfl, run_loadVar' (t := 33) (g := true) (s := 3) (by kernel_rfl) hs48.at1 rfl (by decide), trivial⟩, .inl ⟨_, F2, _, _, rfl, rfl, hs48.dr1, (le35.trans le44), ⟨ar40_0_0, nr40_0_0, ar40_1_2, nr40_1_2, rfl, rfl, hbr40_0_0, hsr40_0_0, hbr40_1_2, hsr40_1_2⟩⟩⟩
 ·rintro b49 F3 w50 rfl hs51 le52
  have h53 := sk_l h39
  refine thenQ_pan ?_
  obtain rfl := some_inj h53
  exact RePi hs51.dr0 (le35.trans le52)
end Go.Proofs.YtaihlcdkcampbaaGreatDoor
namespace Go.Proofs.YtaihlcdkcampbaaGreatDoor
open Go.Proofs
def rules_parser_both_S (N : Nat) (sR212 : rules_parser → Option (rules_bad ⊕ (rules_parser × Expr))) (x0 : rules_parser) : Option (rules_bad ⊕ (rules_parser × Expr)) :=
 ((rules_parser_joinedBy N x0 (fun y => sR212 y) (mput ([] : List ((List UInt8) × Int)) ([97, 110, 100] : List UInt8) 4)).bind fun r37 => sk r37 (fun b49 => some (.inl b49)) (fun r40 => some (.inr (r40.1, r40.2))))
theorem cS_rules_parser_both (N : Nat) (sR212 : rules_parser → Option (rules_bad ⊕ (rules_parser × Expr))) (hsR212 : Self212 sR212) {wb w0 : World} {Fb F0 : Mem} {Lf : Own} (hG : Glob F0) (bp0 : Nat) (x0 : rules_parser) (a0_0 : Option Addr) (n0_0 : Nat) (hb0_0 : LC x0.l_.length n0_0) (hs0_0 : SlA trules_token F0 a0_0 x0.l_) (hs0 : HS wb Fb w0 F0 ((sb bp0 (krules_parser x0 a0_0 n0_0) 100) :: Lf)) (r : (rules_bad ⊕ (rules_parser × Expr))) (h : rules_parser_both_S N sR212 x0 = some r) :
  Calls Tryz.prog 185 ([(pt bp0 0)] : List Value).toArray w0 (BRetP wb Fb F0 Lf r (fun b => (.iface 158 (.agg (krules_bad b)))) fun a F' v L' => ∃ (aq0_0 : Option Addr) (nq0_0 : Nat) (aq1_2 : Option Addr) (nq1_2 : Nat), v = (.agg (kExpr a.2 aq1_2 nq1_2)) ∧ L' = (sb bp0 (krules_parser a.1 aq0_0 nq0_0) 100) :: Lf ∧ LC a.1.l_.length nq0_0 ∧ SlA trules_token F' aq0_0 a.1.l_ ∧ LC a.2.Kids.length nq1_2 ∧ SlA tExpr F' aq1_2 a.2.Kids) := by
 refine Go 9 Tryz.func185 ?_
 refine Sq (Rg [0] ?_)
 refine Al' 33 #[(vi 0), (vi 0), (.slice none ([] : List Expr).length 0)] hs0 (fun b21 w22 hs23 => ?_)
 refine Nss (Rg [0, 1, 2, 3, 4, 5, 6, 7] ?_)
 refine Vs 3 ?_
 refine RWP.makeMap (t := 198) (K := tStr) (T := tInt) (dst := (some 6)) (ty := 198) (g := none) (by kernel_rfl) rfl hs23 (fun b25 e26 w27 (hs28 : HS wb Fb w27 F0 (e26 :: (sb b21 #[(vi 0), (vi 0), (.slice none ([] : List Expr).length 0)] 33) :: (sb bp0 (krules_parser x0 a0_0 n0_0) 100) :: Lf)) hr29 => ?_)
 refine RWP.mapIns kl9 (ty := 0) (g := none) (mt := 198) (k := 9) (vt := 3) (m := (.tmp 6)) (x := (.const (.string ⟨([97, 110, 100] : List UInt8).toArray⟩))) (y := (.const (vi 4))) (b := b25) (kx := ([97, 110, 100] : List UInt8)) (u := 4) (kv := (.string ⟨(([97, 110, 100] : List UInt8)).toArray⟩)) (v := (vi 4)) (K := tStr) (T := tInt) (by kernel_rfl) rfl rfl rfl rfl ⟨_, rfl, rfl⟩ ⟨_, rfl, rfl⟩ (by kernel_rfl) hs28 (q := 0) rfl hr29 (fun e30 w31 (hs32 : HS wb Fb w31 F0 (e30 :: (sb b21 #[(vi 0), (vi 0), (.slice none ([] : List Expr).length 0)] 33) :: (sb bp0 (krules_parser x0 a0_0 n0_0) 100) :: Lf)) hr33 => ?_)
 refine Vs 1 ?_
 obtain ⟨F1, hs34, le35, hm36⟩ : ∃ Fq, HS wb Fb w31 Fq ((sb b21 #[(vi 0), (vi 0), (.slice none ([] : List Expr).length 0)] 33) :: (sb bp0 (krules_parser x0 a0_0 n0_0) 100) :: Lf) ∧ Mem.le F0 Fq ∧ MpA tStr tInt Fq (some b25) (mput ([] : List ((List UInt8) × Int)) ([97, 110, 100] : List UInt8) 4) := HS.freezeMap hs32 (i := 0) rfl hr33
 obtain ⟨r37, hr38, h39⟩ := bind_some h
 refine CP co_rules_parser_joinedBy (c_rules_parser_joinedBy N (hG.mono le35) bp0 (x0) a0_0 n0_0 hb0_0 (SlA.mono hs0_0 le35) 212 [(pt bp0 0)] ([] : List Value) (fun y => sR212 y) co_rules_parser_deny (fun {_ _ _ _ _} hGe y ay_0 ny_0 hby_0 hsy_0 hs r h => hsR212 hGe bp0 y ay_0 ny_0 hby_0 hsy_0 hs r h) ((mput ([] : List ((List UInt8) × Int)) ([97, 110, 100] : List UInt8) 4)) (some b25) hm36 hs34.pk1 _ hr38) ?_ ?_
 ·rintro r40 _ F2 w42 _ rfl hs43 le44 ⟨ar40_0_0, nr40_0_0, ar40_1_2, nr40_1_2, rfl, rfl, hbr40_0_0, hsr40_0_0, hbr40_1_2, hsr40_1_2⟩
  have h46 := sk_r h39
  refine St1 (kExpr r40.2 ar40_1_2 nr40_1_2) hs43 (fun w47 hs48 => ?_)
  refine Nt ?_
  refine Rt ?_
  obtain rfl := some_inj h46
  exact ⟨rfl, (.agg (kExpr r40.2 ar40_1_2 nr40_1_2)), res_of (l := [.cell 2 33]) (by kernel_rfl) (vs := [(.agg (kExpr r40.2 ar40_1_2 nr40_1_2))]) ⟨b21, 0, rfl, run_loadVar' (t := 33) (g := true) (s := 3) (by kernel_rfl) hs48.at1 rfl (by decide), trivial⟩, .inl ⟨_, F2, _, _, rfl, rfl, hs48.dr1, (le35.trans le44), ⟨ar40_0_0, nr40_0_0, ar40_1_2, nr40_1_2, rfl, rfl, hbr40_0_0, hsr40_0_0, hbr40_1_2, hsr40_1_2⟩⟩⟩
 ·rintro b49 F3 w50 rfl hs51 le52
  have h53 := sk_l h39
  refine thenQ_pan ?_
  obtain rfl := some_inj h53
  exact RePi hs51.dr0 (le35.trans le52)
end Go.Proofs.YtaihlcdkcampbaaGreatDoor
