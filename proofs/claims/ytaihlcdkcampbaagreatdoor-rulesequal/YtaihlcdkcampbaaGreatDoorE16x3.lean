/- Lemmas of the claim RulesEqual, printed by a program of the claimant and by hand. No statement of the seat is proved here. -/
import Derived.Test.YtaihlcdkcampbaaGreatDoorE16x2
set_option linter.unusedVariables false
set_option linter.unusedSimpArgs false
set_option linter.unusedSectionVars false
set_option maxHeartbeats 4000000
set_option maxRecDepth 100000
namespace Go.Proofs.YtaihlcdkcampbaaGreatDoor
def upto (a b : Int) : List Int := (List.range (b + 1 - a).toNat).map fun k : Nat => a + (k : Int)
theorem upto_nil {a b : Int} (h : b < a) : upto a b = [] := by
 unfold upto
 rw [show (b + 1 - a).toNat = 0 by omega]; rfl
theorem upto_cons {a b : Int} (h : a ≤ b) : upto a b = a :: upto (a + 1) b := by
 unfold upto
 obtain ⟨n, hn⟩ : ∃ n : Nat, (b + 1 - a).toNat = n + 1 := ⟨(b + 1 - a).toNat - 1, by omega⟩
 rw [hn, show (b + 1 - (a + 1)).toNat = n by omega, List.range_succ_eq_map, List.map_cons, List.map_map]
 congr 1
 ·simp
 ·apply List.map_congr_left
  intro k _
  simp only [Function.comp_apply, Nat.succ_eq_add_one]; omega
theorem upto_mem {a b x : Int} : x ∈ upto a b ↔ a ≤ x ∧ x ≤ b := by
 unfold upto
 simp only [List.mem_map, List.mem_range]
 constructor
 ·rintro ⟨k, h1, rfl⟩; omega
 ·intro h; exact ⟨(x - a).toNat, by omega, by omega⟩
theorem upto_length (a b : Int) : (upto a b).length = (b + 1 - a).toNat := by simp [upto]
def allL : List Span → List (List Int)
 | [] => [[]]
 | s :: d => (upto s.Lo s.Hi).flatMap fun v => (allL d).map (v :: ·)
def los (d : List Span) : List Int := d.map (·.Lo)
def box : List Span → List Int → Prop
 | [], [] => True
 | s :: d, v :: f => (s.Lo ≤ v ∧ v ≤ s.Hi) ∧ box d f
 | _, _ => False
def okD (d : List Span) : Prop := ∀ s, s ∈ d → s.Lo ≤ s.Hi
theorem box_len : ∀ {d : List Span} {f : List Int}, box d f → f.length = d.length
 | [], [], _ => rfl
 | s :: d, v :: f, h => by simp [box_len h.2]
 | [], _ :: _, h => h.elim
 | _ :: _, [], h => h.elim
theorem box_get : ∀ {d : List Span} {f : List Int}, box d f → ∀ (i : Nat) (hi : i < d.length) (hj : i < f.length), d[i].Lo ≤ f[i] ∧ f[i] ≤ d[i].Hi
 | s :: d, v :: f, h, 0, _, _ => h.1
 | s :: d, v :: f, h, i + 1, hi, hj => box_get h.2 i (by simpa using hi) (by simpa using hj)
theorem los_box : ∀ {d : List Span}, okD d → box d (los d)
 | [], _ => trivial
 | s :: d, h => ⟨⟨Int.le_refl _, h s (List.mem_cons_self ..)⟩, los_box fun x hx => h x (List.mem_cons_of_mem _ hx)⟩
theorem mem_allL : ∀ {d : List Span} {f : List Int}, f ∈ allL d ↔ box d f
 | [], f => by
  unfold allL
  cases f with
  | nil => simp [box]
  | cons v f => simp [box]
 | s :: d, f => by
  unfold allL
  simp only [List.mem_flatMap, List.mem_map]
  cases f with
  | nil =>
   simp only [box, iff_false, not_exists, not_and]
   intro v _ x _ h; cases h
  | cons v f =>
   simp only [box]
   constructor
   ·rintro ⟨u, hu, x, hx, h⟩
    cases h
    exact ⟨upto_mem.1 hu, mem_allL.1 hx⟩
   ·rintro ⟨h1, h2⟩
    exact ⟨v, upto_mem.2 h1, f, mem_allL.2 h2, rfl⟩
def suc : List Span → List Int → Option (List Int)
 | s :: d, v :: f => (suc d f).elim (if v < s.Hi then some ((v + 1) :: los d) else none) fun g => some (v :: g)
 | _, _ => none
def frm : List Span → List Int → List (List Int)
 | s :: d, v :: f => (frm d f).map (v :: ·) ++ (upto (v + 1) s.Hi).flatMap fun u => (allL d).map (u :: ·)
 | _, _ => [[]]
theorem frm_los : ∀ {d : List Span}, okD d → frm d (los d) = allL d
 | [], _ => rfl
 | s :: d, h => by
  show (frm d (los d)).map (s.Lo :: ·) ++ _ = _
  rw [frm_los fun x hx => h x (List.mem_cons_of_mem _ hx), allL, upto_cons (h s (List.mem_cons_self ..)), List.flatMap_cons]
theorem suc_box : ∀ {d : List Span} {f g : List Int}, okD d → box d f → suc d f = some g → box d g
 | [], [], g, _, _, h => by simp [suc] at h
 | s :: d, v :: f, g, hd, hb, h => by
  unfold suc at h
  have hd' : okD d := fun x hx => hd x (List.mem_cons_of_mem _ hx)
  cases hs : suc d f with
  | none =>
   rw [hs] at h
   simp only [Option.elim_none] at h
   split at h
   ·cases h
    exact ⟨⟨by have := hb.1.1; omega, by omega⟩, los_box hd'⟩
   ·cases h
  | some g' =>
   rw [hs] at h
   cases h
   exact ⟨hb.1, suc_box hd' hb.2 hs⟩
 | [], _ :: _, _, _, hb, _ => hb.elim
 | _ :: _, [], _, _, hb, _ => hb.elim
theorem frm_suc : ∀ {d : List Span} {f : List Int}, okD d → box d f → frm d f = f :: (suc d f).elim [] (frm d)
 | [], [], _, _ => rfl
 | s :: d, v :: f, hd, hb => by
  have hd' : okD d := fun x hx => hd x (List.mem_cons_of_mem _ hx)
  unfold frm suc
  rw [frm_suc hd' hb.2]
  cases hs : suc d f with
  | some g =>
   simp only [Option.elim_some, List.map_cons, List.cons_append]
   rfl
  | none =>
   simp only [Option.elim_none, List.map_cons, List.map_nil, List.cons_append, List.nil_append]
   congr 1
   by_cases h : v < s.Hi
   ·rw [if_pos h, Option.elim_some]
    rw [upto_cons (by omega), List.flatMap_cons]
    show _ = (frm d (los d)).map ((v + 1) :: ·) ++ _
    rw [frm_los hd']
   ·rw [if_neg h, upto_nil (by omega)]; rfl
 | [], _ :: _, _, hb => hb.elim
 | _ :: _, [], _, hb => hb.elim
theorem suc_none : ∀ {d : List Span} {f : List Int}, f.length = d.length → (∀ (i : Nat) (hi : i < d.length) (hj : i < f.length), f[i] = d[i].Hi) → suc d f = none
 | [], _, _, _ => by unfold suc; rfl
 | s :: d, v :: f, hl, h => by
  unfold suc
  rw [suc_none (by simpa using hl) fun i hi hj => h (i + 1) (by simpa using hi) (by simpa using hj)]
  have : v = s.Hi := h 0 (by simp) (by simp)
  rw [Option.elim_none, if_neg (by omega)]
 | _ :: _, [], hl, _ => by simp at hl
theorem suc_at : ∀ {d : List Span} {f : List Int} {i : Nat}, f.length = d.length → (hi : i < d.length) → (hj : i < f.length) → f[i] < d[i].Hi → (∀ (k : Nat) (hk : k < d.length) (hk' : k < f.length), i < k → f[k] = d[k].Hi) →
  suc d f = some (f.take i ++ (f[i] + 1) :: los (d.drop (i + 1)))
 | s :: d, v :: f, 0, hl, _, _, h, hk => by
  unfold suc
  rw [suc_none (by simpa using hl) fun i hi hj => hk (i + 1) (by simpa using hi) (by simpa using hj) (by omega)]
  rw [Option.elim_none, if_pos (by exact h)]
  simp
 | s :: d, v :: f, i + 1, hl, hi, hj, h, hk => by
  unfold suc
  rw [suc_at (i := i) (by simpa using hl) (by simpa using hi) (by simpa using hj) (by simpa using h) fun k hk1 hk2 hik => hk (k + 1) (by simpa using hk1) (by simpa using hk2) (by omega)]
  simp
 | [], _, _, _, hi, _, _, _ => by simp at hi
 | _ :: _, [], _, _, _, hj, _, _ => by simp at hj
def vol : List Span → Nat
 | [] => 1
 | s :: d => (s.Hi + 1 - s.Lo).toNat * vol d
theorem flatMap_len {α β : Type} {l : List α} {f : α → List β} {k : Nat} (h : ∀ x, x ∈ l → (f x).length = k) : (l.flatMap f).length = l.length * k := by
 induction l with
 | nil => simp
 | cons a l ih =>
  rw [List.flatMap_cons, List.length_append, h a (List.mem_cons_self ..), ih fun x hx => h x (List.mem_cons_of_mem _ hx), List.length_cons, Nat.succ_mul]; omega
theorem allL_length : ∀ d : List Span, (allL d).length = vol d
 | [] => rfl
 | s :: d => by
  unfold allL vol
  rw [flatMap_len (k := vol d) fun v _ => by rw [List.length_map, allL_length d], upto_length]
theorem vol_pos : ∀ {d : List Span}, okD d → 0 < vol d
 | [], _ => by simp [vol]
 | s :: d, h => by
  unfold vol
  have h1 := h s (List.mem_cons_self ..)
  exact Nat.mul_pos (by omega) (vol_pos fun x hx => h x (List.mem_cons_of_mem _ hx))
theorem allP : ∀ (d : List Span) (acc : List (List Int)), d.foldl (fun out s => out.flatMap fun p => (upto s.Lo s.Hi).map fun v => p ++ [v]) acc = acc.flatMap fun p => (allL d).map (p ++ ·)
 | [], acc => by simp [allL]
 | s :: d, acc => by
  rw [List.foldl_cons, allP d, List.flatMap_assoc]
  congr 1
  funext p
  rw [allL, List.map_flatMap, List.flatMap_map]
  congr 1
  funext v
  simp [List.map_map, Function.comp_def]
theorem allP0 (d : List Span) : d.foldl (fun out s => out.flatMap fun p => (upto s.Lo s.Hi).map fun v => p ++ [v]) [[]] = allL d := by
 rw [allP]; simp
end Go.Proofs.YtaihlcdkcampbaaGreatDoor
namespace Go.Proofs.YtaihlcdkcampbaaGreatDoor
open Go.Proofs
def rules_Points (N : Nat) (x0 : Book) (x1 : (List Int)) : Option (Int × Int) :=
 ((rules_wrong N x0 x1).bind fun r24 => (bif (r24 != 0) then some (0, r24) else ((rules_first N x0.Points x1).bind fun r35 => (bif (decide (r35 < 0)) then some (0, 70) else ((idx x0.Points r35).bind fun x46 => ((rules_value N x46.Then x1).bind fun r60 => some (r60, 0)))))))
theorem co_rules_Points : CallOk Tryz.prog 41 := fun _ _ => by kernel_rfl
theorem c_rules_Points (N : Nat) (w0 : World) (F0 : Mem) (hF : ∀ b o, F0 b = some o → w0.heap[b]? = some o) (x0 : Book) (a0_0 : Option Addr) (n0_0 : Nat) (hb0_0 : LC x0.Points.length n0_0) (hs0_0 : SlA tClause F0 a0_0 x0.Points) (a0_1 : Option Addr) (n0_1 : Nat) (hb0_1 : LC x0.Multipliers.length n0_1) (hs0_1 : SlA tClause F0 a0_1 x0.Multipliers) (a0_2 : Option Addr) (n0_2 : Nat) (hb0_2 : LC x0.Penalties.length n0_2) (hs0_2 : SlA tClause F0 a0_2 x0.Penalties) (a0_3 : Option Addr) (n0_3 : Nat) (hb0_3 : LC x0.Repeats.length n0_3) (hs0_3 : SlA tExpr F0 a0_3 x0.Repeats) (x1 : (List Int)) (a1_0 : Option Addr) (n1_0 : Nat) (hb1_0 : LC x1.length n1_0) (hs1_0 : SlA tInt F0 a1_0 x1) (r : (Int × Int)) (h : rules_Points N x0 x1 = some r) :
  Calls Tryz.prog 41 ([(.agg (kBook x0 a0_0 n0_0 a0_1 n0_1 a0_2 n0_2 a0_3 n0_3)), (.slice a1_0 x1.length n1_0)] : List Value).toArray w0 (FRet w0 F0 fun F' v => v = (.tuple #[(vi r.1), (vi r.2)])) := by
 have hs0 := HS.start hF
 refine Go 28 Tryz.func41 ?_
 refine Sq (Rg [0, 1, 2] ?_)
 refine Bx' 26 (kBook x0 a0_0 n0_0 a0_1 n0_1 a0_2 n0_2 a0_3 n0_3) hs0 (fun b21 w22 hs23 => ?_)
 refine Vs 2 ?_
 refine Nss ?_
 refine Sq (Rg [0, 1, 2, 3] ?_)
 refine Ld hs23.at0 ?_
 refine Vs 1 ?_
 obtain ⟨r24, hr25, h26⟩ := bind_some h
 refine Cl' co_rules_wrong hs23 (c_rules_wrong N w22 F0 hs23.pers (x0) a0_0 n0_0 hb0_0 hs0_0 a0_1 n0_1 hb0_1 hs0_1 a0_2 n0_2 hb0_2 hs0_2 a0_3 n0_3 hb0_3 hs0_3 (x1) a1_0 n1_0 hb1_0 hs1_0 _ hr25) ?_
 rintro _ F1 w28 hs29 le30 rfl
 refine Vs 1 ?_
 refine Nss (Rg [0, 1] ?_)
 refine Vs 2 ?_
 refine Nt ?_
 refine Cd h26 (fun hb32 h33 => ?_) (fun hb32 h34 => ?_)
 ·refine Sq (Rg [0, 1, 2] ?_)
  refine Vs 3 ?_
  refine Nt ?_
  refine Rt ?_
  refine thenQ_ret ?_
  obtain rfl := some_inj h33
  exact Re [(vi 0), (vi r24)] hs29 rfl
 ·refine Sc ?_
  refine thenQ_nrm ?_
  refine Sq (Rg [0, 1, 2, 3, 4] ?_)
  refine Vs 1 ?_
  refine Ld hs29.at0 ?_
  refine Vs 1 ?_
  obtain ⟨r35, hr36, h37⟩ := bind_some h34
  refine Cl' co_rules_first hs29 (c_rules_first N w28 F1 hs29.pers (x0.Points) a0_0 n0_0 hb0_0 (SlA.mono hs0_0 le30) (x1) a1_0 n1_0 hb1_0 (SlA.mono hs1_0 le30) _ hr36) ?_
  rintro _ F2 w39 hs40 le41 rfl
  refine Vs 1 ?_
  refine Nss ?_
  refine Sq (Rg [0, 1] ?_)
  refine Vs 2 ?_
  refine Nt ?_
  refine Cd h37 (fun hb43 h44 => ?_) (fun hb43 h45 => ?_)
  ·refine Sq (Rg [0, 1] ?_)
   refine Vs 2 ?_
   refine Nt ?_
   refine Rt ?_
   refine thenQ_ret ?_
   obtain rfl := some_inj h44
   exact Re [(vi 0), (vi 70)] hs40 rfl
  ·refine Sc ?_
   refine thenQ_nrm ?_
   refine Sq (Rg [0, 1, 2, 3, 4, 5, 6, 7, 8, 9] ?_)
   refine Vs 1 ?_
   refine Ld hs40.at0 ?_
   refine Vs 1 ?_
   obtain ⟨x46, hx47, h49⟩ := bind_some h45
   obtain ⟨hi48, hx47'⟩ := idx_spec hx47
   obtain ⟨b50, o51, C52, E53, fz54, rfl, hF56, hE57⟩ := SlA.open (SlA.mono hs0_0 (le30.trans le41)) hx47'
   obtain ⟨ae58_2, ne58_2, ae58_5, ne58_5, hc59, hbe58_2, hse58_2, hbe58_5, hse58_5⟩ := hE57 _ _ hx47'
   refine Ix hi48 ?_
   refine Vs 1 ?_
   refine Lx 3 (hs40.pers _ _ hF56) hc59 ?_
   refine Vs 1 ?_
   obtain ⟨r60, hr61, h62⟩ := bind_some h49
   refine Cl' co_rules_value hs40 (c_rules_value N w39 F2 hs40.pers (x46.Then) ae58_5 ne58_5 hbe58_5 hse58_5 (x1) a1_0 n1_0 hb1_0 (SlA.mono hs1_0 (le30.trans le41)) _ hr61) ?_
   rintro _ F3 w64 hs65 le66 rfl
   refine Vs 2 ?_
   refine Nt ?_
   refine Rt ?_
   obtain rfl := some_inj h62
   exact Re [(vi r60), (vi 0)] hs65 rfl
end Go.Proofs.YtaihlcdkcampbaaGreatDoor
namespace Go.Proofs.YtaihlcdkcampbaaGreatDoor
open Go.Proofs
end Go.Proofs.YtaihlcdkcampbaaGreatDoor
namespace Go.Proofs.YtaihlcdkcampbaaGreatDoor
open Go.Proofs
end Go.Proofs.YtaihlcdkcampbaaGreatDoor
namespace Go.Proofs.YtaihlcdkcampbaaGreatDoor
open Go.Proofs
end Go.Proofs.YtaihlcdkcampbaaGreatDoor
namespace Go.Proofs.YtaihlcdkcampbaaGreatDoor
open Go.Proofs
end Go.Proofs.YtaihlcdkcampbaaGreatDoor
namespace Go.Proofs.YtaihlcdkcampbaaGreatDoor
open Go.Proofs
end Go.Proofs.YtaihlcdkcampbaaGreatDoor
namespace Go.Proofs.YtaihlcdkcampbaaGreatDoor
open Go.Proofs
end Go.Proofs.YtaihlcdkcampbaaGreatDoor
namespace Go.Proofs.YtaihlcdkcampbaaGreatDoor
open Go.Proofs
end Go.Proofs.YtaihlcdkcampbaaGreatDoor
namespace Go.Proofs.YtaihlcdkcampbaaGreatDoor
open Go.Proofs
end Go.Proofs.YtaihlcdkcampbaaGreatDoor
namespace Go.Proofs.YtaihlcdkcampbaaGreatDoor
open Go.Proofs
end Go.Proofs.YtaihlcdkcampbaaGreatDoor
namespace Go.Proofs.YtaihlcdkcampbaaGreatDoor
section
variable {N : Nat} {f : List Int}
theorem any_none {α : Type} {l : List α} : (l.any fun _ => false) = false := by rw [List.any_eq_false]; simp
end
end Go.Proofs.YtaihlcdkcampbaaGreatDoor
namespace Go.Proofs.YtaihlcdkcampbaaGreatDoor
open Go.Proofs
theorem co_rules_all : CallOk Tryz.prog 118 := fun _ _ => by kernel_rfl
set_option maxRecDepth 100000 in
theorem c_rules_all (w0 : World) (F0 : Mem) (hF : ∀ b o, F0 b = some o → w0.heap[b]? = some o) (x0 : List Span) (a0_0 : Option Addr) (n0_0 : Nat) (_ : LC x0.length n0_0) (_ : SlA tSpan F0 a0_0 x0) :
  Calls Tryz.prog 118 ([(.slice a0_0 x0.length n0_0)] : List Value).toArray w0 (FRetO w0 F0 fun _ v L' => ∃ (b0 : Nat), v = .func (.func 172) #[] #[.pointer (some ⟨b0, 0, none⟩)] ∧ L' = [(some b0, .cells #[(.slice a0_0 x0.length n0_0)] 68 (0, 0))]) := by
 have hs0 := HS.start hF
 refine Go 4 Tryz.func118 ?_
 refine Sq (Rg [0, 1] ?_)
 refine Bx' 68 #[(.slice a0_0 x0.length n0_0)] hs0 (fun b0 w1 hs1 => ?_)
 refine Vs 1 ?_
 refine Nss (Rg [0, 1] ?_)
 refine Vs 2 ?_
 refine Nt ?_
 refine Rt ?_
 exact ⟨rfl, _, res_of (l := [.tmp 2]) (by kernel_rfl) (vs := [.func (.func 172) #[] #[.pointer (some ⟨b0, 0, none⟩)]]) ⟨by kernel_rfl, trivial⟩, _, F0, _, rfl, hs1, b0, rfl, rfl⟩
end Go.Proofs.YtaihlcdkcampbaaGreatDoor
namespace Go.Proofs.YtaihlcdkcampbaaGreatDoor
open Go.Proofs
def slices_Clone_int_int (N : Nat) (x0 : List Int) : Option (List Int) := apnd [] x0
theorem co_slices_Clone_int_int : CallOk Tryz.prog 169 := fun _ _ => by kernel_rfl
set_option maxRecDepth 100000 in
theorem c_slices_Clone_int_int (N : Nat) (w0 : World) (F0 : Mem) (hF : ∀ b o, F0 b = some o → w0.heap[b]? = some o) (x0 : List Int) (a0_0 : Option Addr) (n0_0 : Nat) (hb0_0 : LC x0.length n0_0) (hs0_0 : SlA tInt F0 a0_0 x0) (r : List Int) (h : slices_Clone_int_int N x0 = some r) :
  Calls Tryz.prog 169 ([(.slice a0_0 x0.length n0_0)] : List Value).toArray w0 (FRetO w0 F0 fun F' v L' => ∃ (a : Option Addr) (n : Nat) (e : Option Nat × Obj), v = .slice a r.length n ∧ L' = [e] ∧ RowR tInt 3 F' a n r e) := by
 have hs0 := HS.start hF
 refine Go 8 Tryz.func169 ?_
 refine Sq (Rg [0] ?_)
 refine Vs 1 ?_
 refine Nt ?_
 refine Sq ?_
 refine Sq (Rg [0, 1] ?_)
 refine Vs 1 ?_
 refine RWP.val (dst := some 4) (ty := 4) (g := none) (by kernel_rfl) rfl (run_eqnil (t := 47) (t' := 47) (e := 3) (x := .tmp 3) (y := .const (.slice none 0 0)) (a := a0_0) (n := x0.length) (c := n0_0) rfl rfl (by kernel_rfl)) ?_
 refine Nt ?_
 cases a0_0 with
 | none =>
  have hx : x0 = [] := by
   rcases hs0_0 with h | ⟨_, _, _, _, _, h, _⟩
   ·exact h
   ·cases h
  subst hx
  cases h
  refine C1 (rfl : true = true) ?_
  refine Sq (Rg [0] ?_)
  refine Vs 1 ?_
  refine Nt ?_
  refine Rt ?_
  refine thenQ_ret ?_
  exact ⟨rfl, _, res_of (l := [.tmp 2]) (by kernel_rfl) (vs := [.slice none 0 0]) ⟨by kernel_rfl, trivial⟩, _, F0, _, rfl, hs0.dummy (oc #[] 0), _, _, _, rfl, rfl, RowR.nil tInt 3 F0 _⟩
 | some ad =>
  refine C0 (rfl : false = false) ?_
  refine Sc ?_
  refine thenQ_nrm ?_
  refine Sq (Rg [0, 1, 2, 3] ?_)
  refine Bs 3 [] hs0 (fun b w1 hs1 => ?_)
  refine Vs 1 ?_
  refine Ap0 oInt hs1 (RowR.lit (T := tInt) (E := 3) (F := F0) (l := []) (cs := []) rfl (by simp)) (SlA.rd hs1 hs0_0) h (fun a n e w2 hs2 hr2 => ?_)
  refine Vs 1 ?_
  refine Nt ?_
  refine Rt ?_
  exact ⟨rfl, _, res_of (l := [.tmp 2]) (by kernel_rfl) (vs := [.slice a r.length n]) ⟨by kernel_rfl, trivial⟩, _, F0, _, rfl, hs2, _, _, _, rfl, rfl, hr2⟩
end Go.Proofs.YtaihlcdkcampbaaGreatDoor
namespace Go.Proofs.YtaihlcdkcampbaaGreatDoor
open Go.Proofs
def rules_all_1_L0 {σ : Type} (N : Nat) (y : (σ → (List Int) → Option (Bool × σ))) (z0 : (List Span)) (s : σ) (r1 : List Int) : (Int × List Int × σ) → Option (Flow σ (Int × List Int × σ)) := fun s14 =>
 (bif (decide (s14.1 < (z0.length : Int))) then ((idx z0 s14.1).bind fun x46 => ((idx s14.2.1 s14.1).bind fun x65 => some (.next ((W64 (s14.1 + 1)), (s14.2.1.set (s14.1 : Int).toNat (x46.Lo)), s14.2.2)))) else some (.done (s14.1, s14.2.1, s14.2.2)))
def rules_all_1_L2 {σ : Type} (N : Nat) (y : (σ → (List Int) → Option (Bool × σ))) (z0 : (List Span)) (s : σ) (r1 : List Int) (s27 : (Int × List Int × σ)) (s87 : (List Int × σ)) (q110 : (Bool × σ)) : (Int × List Int × σ) → Option (Flow σ (Int × List Int × σ)) := fun s125 =>
 ((bif (decide (s125.1 ≥ 0)) then ((idx s125.2.1 s125.1).bind fun x170 => ((idx z0 s125.1).bind fun x182 => some (x170 == x182.Hi))) else some false).bind fun j158 => (bif j158 then ((idx z0 s125.1).bind fun x199 => ((idx s125.2.1 s125.1).bind fun x213 => some (.next ((W64 (s125.1 - 1)), (s125.2.1.set (s125.1 : Int).toNat (x199.Lo)), s125.2.2)))) else some (.done (s125.1, s125.2.1, s125.2.2))))
def rules_all_1_L1 {σ : Type} (N : Nat) (y : (σ → (List Int) → Option (Bool × σ))) (z0 : (List Span)) (s : σ) (r1 : List Int) (s27 : (Int × List Int × σ)) : (List Int × σ) → Option (Flow σ (List Int × σ)) := fun s87 =>
 ((y s87.2 s87.1).bind fun q110 => (bif q110.1 then ((iter (rules_all_1_L2 N y z0 s r1 s27 s87 q110) N ((W64 ((z0.length : Int) - 1)), s87.1, q110.2)).bind fun o => o.k (fun r => some (.ret r)) (fun s136 => (bif (decide (s136.1 < 0)) then some (.ret s136.2.2) else ((idx s136.2.1 s136.1).bind fun x235 => ((idx s136.2.1 s136.1).bind fun x247 => some (.next ((s136.2.1.set (s136.1 : Int).toNat ((W64 (x235 + 1)))), s136.2.2))))))) else some (.done (s87.1, q110.2))))
def rules_all_1 {σ : Type} (N : Nat) (y : σ → (List Int) → Option (Bool × σ)) (z0 : (List Span)) (s : σ) : Option σ :=
 ((mk0 0 (z0.length : Int)).bind fun r1 => ((iter (rules_all_1_L0 N y z0 s r1) N (0, r1, s)).bind fun o => o.k (fun r => some r) (fun s27 => ((iter (rules_all_1_L1 N y z0 s r1 s27) N (s27.2.1, s27.2.2)).bind fun o => o.k (fun r => some r) (fun s97 => some s97.2)))))
theorem co_rules_all_1 : CallOk Tryz.prog 172 := fun _ _ => by kernel_rfl
theorem c_rules_all_1 (N : Nat) (F0 : Mem) (z0 : (List Span)) (az0_0 : Option Addr) (nz0_0 : Nat) (hbz0_0 : LC z0.length nz0_0) (hsz0_0 : SlA tSpan F0 az0_0 z0) (bz0 : Nat) :
  SeqOkI Tryz.prog 172 [(pt bz0 0)] F0 [(sb bz0 #[(.slice az0_0 z0.length nz0_0)] 68)] enc121 ok121 px121 (fun {_} y s => rules_all_1 N y z0 s) := by
 intro σ wb w0 Fb F1 l y J s r Lf le01 hJm hs0 hJ hY h
 have hs0 : HS wb Fb w0 F1 ((sb bz0 #[(.slice az0_0 z0.length nz0_0)] 68) :: Lf) := hs0
 refine calls_of (n := 61) (c := bodyOf Tryz.f172) Tryz.func172 (by kernel_rfl) (by kernel_rfl) (by kernel_rfl) ?_
 refine Sq (Rg [0, 1, 2, 3] ?_)
 refine Ld hs0.at0 ?_
 refine Vs 1 ?_
 obtain ⟨r1, hm2, h3⟩ := bind_some h
 refine RWP.makeSlice (dst := (some 9)) (ty := 47) (g := none) (by kernel_rfl) rfl (x := (.tmp 8)) (y := (.tmp 8)) (t := 47) (by_ := 8) (z := (vi 0)) (T := tInt) (E := 3) rfl rfl (by kernel_rfl) (by decide) (by kernel_rfl) (z0 := 0) (fun _ => rfl) (by decide) hs0 hm2 (fun b4 n5 C6 w7 (hs8 : HS wb Fb w7 F1 ((some b4, .cells C6 3 (0, 0)) :: (sb bz0 #[(.slice az0_0 z0.length nz0_0)] 68) :: Lf)) hr9 => ?_)
 refine Vs 1 ?_
 refine Nss ?_
 refine Sq (Rg [0, 1, 2] ?_)
 refine Ld hs8.at1 ?_
 refine Vs 1 ?_
 refine Vs 1 ?_
 refine Nt ?_
 obtain ⟨o11, ho12, h13⟩ := bind_some h3
 refine CWP.cut (fun f w => ∃ (s27 : (Int × List Int × σ)) (F3 : Mem) (es27_1 : Option Nat × Obj) (Lf31 : Own), o11 = .done s27 ∧ HS wb Fb w F3 (es27_1 :: (sb bz0 #[(.slice az0_0 z0.length nz0_0)] 68) :: Lf31) ∧ Mem.le F1 F3 ∧ FI f [] [(0, (.func (.yield l) #[] #[])), (1, (pt bz0 0)), (3, (.slice (some ⟨b4, 0, none⟩) s27.2.1.length n5))] ∧ RowR tInt 3 F3 (some ⟨b4, 0, none⟩) n5 s27.2.1 es27_1 ∧ J s27.2.2 F3 Lf31) ?_ ?_
 ·refine Bk ?_
  refine CWP.loop (by kernel_rfl) (fun m f w => ∃ (s14 : (Int × List Int × σ)) (F2 : Mem) (es14_1 : Option Nat × Obj) (Lf18 : Own), iter (rules_all_1_L0 N y z0 s r1) m s14 = some o11 ∧ HS wb Fb w F2 (es14_1 :: (sb bz0 #[(.slice az0_0 z0.length nz0_0)] 68) :: Lf18) ∧ Mem.le F1 F2 ∧ FI f [] [(0, (.func (.yield l) #[] #[])), (1, (pt bz0 0)), (3, (.slice (some ⟨b4, 0, none⟩) s14.2.1.length n5)), (10, (.slice az0_0 z0.length nz0_0)), (11, (vi (z0.length : Int))), (12, (vi s14.1))] ∧ RowR tInt 3 F2 (some ⟨b4, 0, none⟩) n5 s14.2.1 es14_1 ∧ J s14.2.2 F2 Lf18) N ⟨(0, r1, s), F1, (some b4, .cells C6 3 (0, 0)), Lf, ho12, hs8, (Mem.le.refl _), fI, hr9, hJ⟩ ?_
  rintro m37 f w15 ⟨s14, F2, es14_1, Lf18, hit38, hs16, le17, ⟨_, rfl⟩, hrs14_1, hJ19⟩
  obtain ⟨m39, fl40, rfl, hb41, hnx42⟩ := iter_step hit38
  refine Sq (Rg [0] ?_)
  refine Vs 1 ?_
  refine Nss ?_
  refine Cd hb41 (fun hb43 h44 => ?_) (fun hb43 h45 => ?_)
  ·refine Sc ?_
   refine thenQ_nrm ?_
   refine Sq ?_
   refine Bk ?_
   refine Sq (Rg [0, 1, 2, 3, 4, 5] ?_)
   refine Vs 1 ?_
   obtain ⟨x46, hx47, h49⟩ := bind_some h44
   obtain ⟨hi48, hx47'⟩ := idx_spec hx47
   obtain ⟨b50, o51, C52, E53, fz54, rfl, hF56, hE57⟩ := SlA.open (SlA.mono hsz0_0 (le01.trans le17)) hx47'
   have hc59 := hE57 _ _ hx47'
   refine Ix hi48 ?_
   refine Lx 0 (hs16.pers _ _ hF56) hc59 ?_
   refine Al' 72 #[(vi 0), (vi 0)] hs16 (fun b60 w61 hs62 => ?_)
   refine Vs 1 ?_
   refine St0 #[(vi x46.Lo), (vi x46.Hi)] hs62 (fun w63 hs64 => ?_)
   refine Nt ?_
   refine Rg [0, 1, 2, 3, 4, 5] ?_
   refine Vs 1 ?_
   refine Vs 1 ?_
   refine Vs 1 ?_
   refine Ld hs64.at0 ?_
   obtain ⟨x65, hx66, h68⟩ := bind_some h49
   obtain ⟨hi67, hx66'⟩ := idx_spec hx66
   obtain ⟨b69, C70, ha71, rfl, hE73⟩ := RowR.open hrs14_1 hx66'
   cases ha71
   have hr74 := hrs14_1
   have hc76 := hE73 _ _ hx66'
   refine Ix0 hi67 ?_
   refine RWP.storeRow (ty := 0) (g := none) (by kernel_rfl) rfl (x := (.tmp 21)) (y := (.tmp 20)) (t := 3) (v := (vi x46.Lo)) (gg := false) (b := b4) (j := (s14.1 : Int).toNat) (C := C70) (T := tInt) (E := 3) (u := (x46.Lo)) rfl rfl (by kernel_rfl) hs64 (k := 1) rfl hr74 hx66' rfl rfl (fun C77 w78 (hs79 : HS wb Fb w78 F2 ((sb b60 #[(vi x46.Lo), (vi x46.Hi)] 72) :: (some b4, .cells C77 3 (0, 0)) :: (sb bz0 #[(.slice (some ⟨b50, o51, none⟩) z0.length nz0_0)] 68) :: Lf18)) hr80 => ?_)
   refine RWP.nil ?_
   refine blockQ_nrm ?_
   refine thenQ_nrm ?_
   refine Rg [0, 1] ?_
   refine Vs 1 ?_
   refine Vs 1 ?_
   refine RWP.nil ?_
   have hn81 := iter_next h68 hnx42
   exact ⟨m39, Nat.lt_succ_self _, ((W64 (s14.1 + 1)), (s14.2.1.set (s14.1 : Int).toNat (x46.Lo)), s14.2.2), F2, (some b4, .cells C77 3 (0, 0)), Lf18, hn81, hs79.dr0, le17, (fJ ⟨rfl, rfl, (len_set rfl), rfl, rfl, rfl, trivial⟩), hr80, hJ19⟩
  ·refine Ex ?_
   refine thenQ_ex ?_
   refine thenQ_ex ?_
   refine blockQ_hit rfl ?_
   have ho82 := iter_done h45 hnx42
   exact .inl ⟨rfl, (s14.1, s14.2.1, s14.2.2), F2, es14_1, Lf18, ho82, hs16, le17, fI, hrs14_1, hJ19⟩
 ·rintro f w28 ⟨s27, F3, es27_1, Lf31, rfl, hs29, le30, ⟨_, rfl⟩, hrs27_1, hJ32⟩
  have h83 := k_done h13
  refine thenQ_nrm ?_
  obtain ⟨o84, ho85, h86⟩ := bind_some h83
  refine CWP.cut (fun f w => ∃ (s97 : (List Int × σ)) (F5 : Mem) (Lf101 : Own), o84 = .done s97 ∧ HS wb Fb w F5 Lf101 ∧ Mem.le F3 F5 ∧ FI f [] [] ∧ J s97.2 F5 Lf101) ?_ ?_
  ·refine Bk ?_
   refine CWP.loop (by kernel_rfl) (fun m f w => ∃ (s87 : (List Int × σ)) (F4 : Mem) (es87_0 : Option Nat × Obj) (Lf91 : Own), iter (rules_all_1_L1 N y z0 s r1 s27) m s87 = some o84 ∧ HS wb Fb w F4 (es87_0 :: (sb bz0 #[(.slice az0_0 z0.length nz0_0)] 68) :: Lf91) ∧ Mem.le F3 F4 ∧ FI f [] [(0, (.func (.yield l) #[] #[])), (1, (pt bz0 0)), (3, (.slice (some ⟨b4, 0, none⟩) s87.1.length n5))] ∧ RowR tInt 3 F4 (some ⟨b4, 0, none⟩) n5 s87.1 es87_0 ∧ J s87.2 F4 Lf91) N ⟨(s27.2.1, s27.2.2), F3, es27_1, Lf31, ho85, hs29, (Mem.le.refl _), fI, hrs27_1, hJ32⟩ ?_
   rintro m104 f w88 ⟨s87, F4, es87_0, Lf91, hit105, hs89, le90, ⟨_, rfl⟩, hrs87_0, hJ92⟩
   obtain ⟨m106, fl107, rfl, hb108, hnx109⟩ := iter_step hit105
   refine Sq ?_
   refine Sq (Rg [0, 1, 2] ?_)
   refine Vs 1 ?_
   refine Vs 1 ?_
   obtain ⟨q110, hq111, h112⟩ := bind_some hb108
   refine RWP.yield (dst := (some 25)) (ty := 4) (g := none) (by kernel_rfl) rfl (f0 := (.tmp 23)) (aos := #[(.tmp 24)]) (ats := #[47]) (l := l) (args := [(.slice (some ⟨b4, 0, none⟩) s87.1.length n5)]) rfl (rfl) (YOk.lent hY hJm s87.2 (s87.1, (some ⟨b4, 0, none⟩), n5) w88 F4 [(sb bz0 #[(.slice az0_0 z0.length nz0_0)] 68)] Lf91 q110 (le30.trans le90) hrs87_0 (fun _ h1 h2 => ⟨h1, h2⟩) hJ92 hs89 hq111) ?_
   rintro _ w113 ⟨F6, Lf117, rfl, hs114, le115, hJ116⟩
   have hs118 : HS wb Fb w113 F6 (es87_0 :: (sb bz0 #[(.slice az0_0 z0.length nz0_0)] 68) :: Lf117) := hs114
   refine ⟨_, rfl, ?_⟩
   refine Nt ?_
   refine Cd h112 (fun hb119 h120 => ?_) (fun hb119 h121 => ?_)
   ·refine Sc ?_
    refine thenQ_nrm ?_
    refine Bk ?_
    refine Sq (Rg [0, 1, 2, 3] ?_)
    refine Ld hs118.at1 ?_
    refine Vs 1 ?_
    refine Vs 1 ?_
    refine Vs 1 ?_
    refine Nss ?_
    obtain ⟨o122, ho123, h124⟩ := bind_some h120
    refine CWP.cut (fun f w => ∃ (s136 : (Int × List Int × σ)) (F8 : Mem) (es136_1 : Option Nat × Obj) (Lf140 : Own), o122 = .done s136 ∧ HS wb Fb w F8 (es136_1 :: (sb bz0 #[(.slice az0_0 z0.length nz0_0)] 68) :: Lf140) ∧ Mem.le F6 F8 ∧ FI f [] [(0, (.func (.yield l) #[] #[])), (1, (pt bz0 0)), (3, (.slice (some ⟨b4, 0, none⟩) s136.2.1.length n5)), (6, (vi s136.1))] ∧ RowR tInt 3 F8 (some ⟨b4, 0, none⟩) n5 s136.2.1 es136_1 ∧ J s136.2.2 F8 Lf140) ?_ ?_
    ·refine Bk ?_
     refine CWP.loop (by kernel_rfl) (fun m f w => ∃ (s125 : (Int × List Int × σ)) (F7 : Mem) (es125_1 : Option Nat × Obj) (Lf129 : Own), iter (rules_all_1_L2 N y z0 s r1 s27 s87 q110) m s125 = some o122 ∧ HS wb Fb w F7 (es125_1 :: (sb bz0 #[(.slice az0_0 z0.length nz0_0)] 68) :: Lf129) ∧ Mem.le F6 F7 ∧ FI f [] [(0, (.func (.yield l) #[] #[])), (1, (pt bz0 0)), (3, (.slice (some ⟨b4, 0, none⟩) s125.2.1.length n5)), (6, (vi s125.1))] ∧ RowR tInt 3 F7 (some ⟨b4, 0, none⟩) n5 s125.2.1 es125_1 ∧ J s125.2.2 F7 Lf129) N ⟨((W64 ((z0.length : Int) - 1)), s87.1, q110.2), F6, es87_0, Lf117, ho123, hs118, (Mem.le.refl _), fI, (hrs87_0.mono le115), hJ116⟩ ?_
     rintro m147 f w126 ⟨s125, F7, es125_1, Lf129, hit148, hs127, le128, ⟨_, rfl⟩, hrs125_1, hJ130⟩
     obtain ⟨m149, fl150, rfl, hb151, hnx152⟩ := iter_step hit148
     refine Sq ?_
     refine Sq ?_
     obtain ⟨j158, hj165, h166⟩ := bind_some hb151
     refine RD 14 14 [es125_1, (sb bz0 #[(.slice az0_0 z0.length nz0_0)] 68)] [] hs127 (fun f w => ∃ (F9 : Mem), HS wb Fb w F9 (es125_1 :: (sb bz0 #[(.slice az0_0 z0.length nz0_0)] 68) :: Lf129) ∧ Mem.le F7 F9 ∧ FI f [] [(0, (.func (.yield l) #[] #[])), (1, (pt bz0 0)), (3, (.slice (some ⟨b4, 0, none⟩) s125.2.1.length n5)), (6, (vi s125.1)), (42, (.bool j158))]) (fun wd153 hw154 => ?_) ?_
     ·refine Dv [0] ?_
      refine Dv [1] ?_
      refine Dv [2] ?_
      refine Sd hj165 (fun hb167 h168 => ?_) (fun hb167 h169 => ?_)
      ·refine Dg 3 32 47 _ 2 true 31 hb167 (fun _ hq => mv 3 (.slice (some ⟨b4, 0, none⟩) s125.2.1.length n5)) ?_
       refine Dg 4 33 3 _ 2 true 31 hb167 (fun _ hq => mv 6 (vi s125.1)) ?_
       obtain ⟨x170, hx171, h173⟩ := bind_some h168
       obtain ⟨hi172, hx171'⟩ := idx_spec hx171
       obtain ⟨b174, C175, ha176, rfl, hE178⟩ := RowR.open hrs125_1 hx171'
       cases ha176
       have hr179 := hrs125_1
       have hc181 := hE178 _ _ hx171'
       refine Dg 5 34 0 (.pointer (some ⟨b4, ((s125.1 : Int).toNat * 1), none⟩)) 2 true 31 hb167 (fun _ hq => run_index0 (t := 47) (x := (.tmp 32)) (y := (.tmp 33)) (b := b4) (E := 3) (s := 1) (by_ := 8) rfl rfl (by kernel_rfl) hi172) ?_
       refine Dg 6 35 3 _ 2 true 31 hb167 (fun _ hq => lx 3 34 0 1 false 1 (vi x170) (hq.1.2 0 _ _ rfl) hc181) ?_
       refine Dg 7 36 68 _ 2 true 31 hb167 (fun _ hq => ld 68 1 bz0 0 false 1 (.slice az0_0 z0.length nz0_0) (hq.1.2 1 _ _ rfl)) ?_
       refine Dg 8 37 3 _ 2 true 31 hb167 (fun _ hq => mv 6 (vi s125.1)) ?_
       obtain ⟨x182, hx183, h185⟩ := bind_some h173
       obtain ⟨hi184, hx183'⟩ := idx_spec hx183
       obtain ⟨b186, o187, C188, E189, fz190, rfl, hF192, hE193⟩ := SlA.open (SlA.mono hsz0_0 ((((le01.trans le30).trans le90).trans le115).trans le128)) hx183'
       have hc195 := hE193 _ _ hx183'
       refine Dg 9 38 0 (.pointer (some ⟨b186, (o187 + (s125.1 : Int).toNat * 2), none⟩)) 2 true 31 hb167 (fun _ hq => ix 68 36 37 b186 o187 72 2 16 hi184) ?_
       refine Dg 10 39 0 (.pointer (some ⟨b186, ((o187 + (s125.1 : Int).toNat * 2) + 1), none⟩)) 2 true 31 hb167 (fun _ hq => fa 72 38 1 1 1 b186 (o187 + (s125.1 : Int).toNat * 2) ((o187 + (s125.1 : Int).toNat * 2) + 1)) ?_
       refine Dg 11 40 3 _ 2 true 31 hb167 (fun _ hq => lx 3 39 1 2 false 1 (vi x182.Hi) (hq.1.1 _ _ hF192) hc195) ?_
       refine Dg 12 41 4 (.bool (x170 == x182.Hi)) 2 true 31 hb167 (fun _ hq => run_eql (t := 3) (t' := 3) (x := (.tmp 35)) (y := (.tmp 40)) (k := .i64) (a := x170) (b := x182.Hi) rfl rfl) ?_
       refine Dt 13 42 4 _ (fun _ hq => p1 31 (.tmp 41) (.const (.bool false)) (.bool (x170 == x182.Hi)) hb167) ?_
       obtain rfl := some_inj h185
       exact DWP.done (by kernel_rfl) ⟨F7, hw154, (Mem.le.refl _), fI⟩
      ·refine Dk [(3, 32), (4, 33), (5, 34), (6, 35), (7, 36), (8, 37), (9, 38), (10, 39), (11, 40), (12, 41)] 2 true 31 hb167 ?_
       refine Dt 13 42 4 _ (fun _ hq => p0 31 (.tmp 41) (.const (.bool false)) (.bool false) hb167) ?_
       obtain rfl := some_inj h169
       exact DWP.done (by kernel_rfl) ⟨F7, hw154, (Mem.le.refl _), fI⟩
     ·rintro f w155 ⟨F9, hs156, le157, ⟨_, rfl⟩⟩
      refine thenQ_nrm ?_
      refine Cd h166 (fun hb196 h197 => ?_) (fun hb196 h198 => ?_)
      ·refine Sc ?_
       refine thenQ_nrm ?_
       refine Sq ?_
       refine Bk ?_
       refine Rg [0, 1, 2, 3, 4, 5, 6, 7, 8] ?_
       refine Vs 1 ?_
       refine Vs 1 ?_
       refine Ld hs156.at1 ?_
       refine Vs 1 ?_
       obtain ⟨x199, hx200, h202⟩ := bind_some h197
       obtain ⟨hi201, hx200'⟩ := idx_spec hx200
       obtain ⟨b203, o204, C205, E206, fz207, rfl, hF209, hE210⟩ := SlA.open (SlA.mono hsz0_0 (((((le01.trans le30).trans le90).trans le115).trans le128).trans le157)) hx200'
       have hc212 := hE210 _ _ hx200'
       refine Ix hi201 ?_
       refine Vs 1 ?_
       refine Lx 0 (hs156.pers _ _ hF209) hc212 ?_
       obtain ⟨x213, hx214, h216⟩ := bind_some h202
       obtain ⟨hi215, hx214'⟩ := idx_spec hx214
       obtain ⟨b217, C218, ha219, rfl, hE221⟩ := RowR.open (hrs125_1.mono le157) hx214'
       cases ha219
       have hr222 := (hrs125_1.mono le157)
       have hc224 := hE221 _ _ hx214'
       refine Ix0 hi215 ?_
       refine RWP.storeRow (ty := 0) (g := none) (by kernel_rfl) rfl (x := (.tmp 52)) (y := (.tmp 51)) (t := 3) (v := (vi x199.Lo)) (gg := false) (b := b4) (j := (s125.1 : Int).toNat) (C := C218) (T := tInt) (E := 3) (u := (x199.Lo)) rfl rfl (by kernel_rfl) hs156 (k := 0) rfl hr222 hx214' rfl rfl (fun C225 w226 (hs227 : HS wb Fb w226 F9 ((some b4, .cells C225 3 (0, 0)) :: (sb bz0 #[(.slice (some ⟨b203, o204, none⟩) z0.length nz0_0)] 68) :: Lf129)) hr228 => ?_)
       refine RWP.nil ?_
       refine blockQ_nrm ?_
       refine thenQ_nrm ?_
       refine Rg [0, 1, 2] ?_
       refine Vs 1 ?_
       refine Vs 1 ?_
       refine Vs 1 ?_
       refine RWP.nil ?_
       have hn229 := iter_next h216 hnx152
       exact ⟨m149, Nat.lt_succ_self _, ((W64 (s125.1 - 1)), (s125.2.1.set (s125.1 : Int).toNat (x199.Lo)), s125.2.2), F9, (some b4, .cells C225 3 (0, 0)), Lf129, hn229, hs227, (le128.trans le157), (fJ ⟨rfl, rfl, (len_set rfl), rfl, trivial⟩), hr228, (hJm _ _ _ _ hJ130)⟩
      ·refine Ex ?_
       refine thenQ_ex ?_
       refine thenQ_ex ?_
       refine blockQ_hit rfl ?_
       have ho230 := iter_done h198 hnx152
       exact .inl ⟨rfl, (s125.1, s125.2.1, s125.2.2), F9, es125_1, Lf129, ho230, hs156, (le128.trans le157), fI, (hrs125_1.mono le157), (hJm _ _ _ _ hJ130)⟩
    ·rintro f w137 ⟨s136, F8, es136_1, Lf140, rfl, hs138, le139, ⟨_, rfl⟩, hrs136_1, hJ141⟩
     have h231 := k_done h124
     refine thenQ_nrm ?_
     refine Sq ?_
     refine Sq (Rg [0, 1] ?_)
     refine Vs 1 ?_
     refine Vs 1 ?_
     refine Nt ?_
     refine Cd h231 (fun hb232 h233 => ?_) (fun hb232 h234 => ?_)
     ·refine Rt ?_
      refine thenQ_ret ?_
      refine blockQ_ret ?_
      refine thenQ_ret ?_
      refine blockQ_ret ?_
      have hret := iter_ret h233 hnx109
      subst hret
      refine .inr ?_
      have hfin := some_inj h86
      subst hfin
      exact ⟨rfl, .tuple #[], res_of (l := []) (by kernel_rfl) (vs := []) trivial, F8, Lf140, rfl, hs138.dr0.dr0, (((le30.trans le90).trans le115).trans le139), hJ141⟩
     ·refine Sc ?_
      refine thenQ_nrm ?_
      refine Rg [0, 1, 2, 3, 4, 5, 6] ?_
      refine Vs 1 ?_
      refine Vs 1 ?_
      obtain ⟨x235, hx236, h238⟩ := bind_some h234
      obtain ⟨hi237, hx236'⟩ := idx_spec hx236
      obtain ⟨b239, C240, ha241, rfl, hE243⟩ := RowR.open hrs136_1 hx236'
      cases ha241
      have hr244 := hrs136_1
      have hc246 := hE243 _ _ hx236'
      refine Ix0 hi237 ?_
      refine Lx 0 hs138.at0 hc246 ?_
      refine Vs 1 ?_
      obtain ⟨x247, hx248, h250⟩ := bind_some h238
      obtain ⟨hi249, hx248'⟩ := idx_spec hx248
      obtain ⟨b251, C252, ha253, he254, hE255⟩ := RowR.open hr244 hx248'
      cases ha253
      cases he254
      have hc257 := hE255 _ _ hx248'
      refine Ix0 hi249 ?_
      refine RWP.storeRow (ty := 0) (g := none) (by kernel_rfl) rfl (x := (.tmp 60)) (y := (.tmp 59)) (t := 3) (v := (vi (W64 (x235 + 1)))) (gg := false) (b := b4) (j := (s136.1 : Int).toNat) (C := C240) (T := tInt) (E := 3) (u := ((W64 (x235 + 1)))) rfl rfl (by kernel_rfl) hs138 (k := 0) rfl hr244 hx248' rfl rfl (fun C258 w259 (hs260 : HS wb Fb w259 F8 ((some b4, .cells C258 3 (0, 0)) :: (sb bz0 #[(.slice az0_0 z0.length nz0_0)] 68) :: Lf140)) hr261 => ?_)
      refine RWP.nil ?_
      refine blockQ_nrm ?_
      have hn262 := iter_next h250 hnx109
      exact ⟨m106, Nat.lt_succ_self _, ((s136.2.1.set (s136.1 : Int).toNat ((W64 (x235 + 1)))), s136.2.2), F8, (some b4, .cells C258 3 (0, 0)), Lf140, hn262, hs260, ((le90.trans le115).trans le139), (fJ ⟨rfl, rfl, (len_set rfl), trivial⟩), hr261, hJ141⟩
   ·refine Ex ?_
    refine thenQ_ex ?_
    refine thenQ_ex ?_
    refine blockQ_hit rfl ?_
    have ho263 := iter_done h121 hnx109
    exact .inl ⟨rfl, (s87.1, q110.2), F6, Lf117, ho263, hs118.dr0.dr0, (le90.trans le115), fI, hJ116⟩
  ·rintro f w98 ⟨s97, F5, Lf101, rfl, hs99, le100, ⟨_, rfl⟩, hJ102⟩
   have h264 := k_done h86
   have hfin := some_inj h264
   subst hfin
   exact ⟨rfl, .tuple #[], res_of (l := []) (by kernel_rfl) (vs := []) trivial, F5, Lf101, rfl, hs99, (le30.trans le100), hJ102⟩
end Go.Proofs.YtaihlcdkcampbaaGreatDoor
namespace Go.Proofs.YtaihlcdkcampbaaGreatDoor
open Go.Proofs
def findY (N : Nat) (x1 : List Int → Option Bool) : Option (List Int) → List Int → Option (Bool × Option (List Int)) := fun st x => match st with
 | some _ => none
 | none => (x1 x).bind fun b => bif b then (slices_Clone_int_int N x).bind fun c => some (false, some c) else some (true, none)
def rules_find (N : Nat) (x0 : List Span) (x1 : List Int → Option Bool) : Option (List Int × Int) :=
 (rules_all_1 N (findY N x1) x0 none).bind fun o => match o with | some c => some (c, 0) | none => some ([], 3)
theorem co_rules_find : CallOk Tryz.prog 115 := fun _ _ => by kernel_rfl
theorem c_rules_find (N : Nat) (w0 : World) (F0 : Mem) (hF : ∀ b o, F0 b = some o → w0.heap[b]? = some o) (x0 : (List Span)) (a0_0 : Option Addr) (n0_0 : Nat) (hb0_0 : LC x0.length n0_0) (hs0_0 : SlA tSpan F0 a0_0 x0) (gx1 : FuncId) (fx1 kx1 : List Value) (x1 : (List Int) → Option Bool) (hox1 : CallOk Tryz.prog gx1) (hpx1 : Fn121 F0 gx1 fx1 kx1 x1) (r : ((List Int) × Int)) (h : rules_find N x0 x1 = some r) :
  Calls Tryz.prog 115 ([(.slice a0_0 x0.length n0_0), (.func (.func gx1) fx1.toArray kx1.toArray)] : List Value).toArray w0 (FRet w0 F0 fun F' v => ∃ (aq0_0 : Option Addr) (nq0_0 : Nat), v = (.tuple #[(.slice aq0_0 r.1.length nq0_0), (.int .i64 r.2)]) ∧ LC r.1.length nq0_0 ∧ SlA tInt F' aq0_0 r.1) := by
 have hs0 := HS.start hF
 refine calls_ofM (n := 15) (c := bodyOf Tryz.f115) Tryz.func115 (by kernel_rfl) (by kernel_rfl) (by kernel_rfl) ?_
 refine Sq (Rg [0, 1, 2] ?_)
 refine Bx' 121 #[.func (.func gx1) fx1.toArray kx1.toArray] hs0 (fun b3 w1 hs1 => ?_)
 refine Al' 47 #[.slice none 0 0] hs1 (fun b4 w2 hs2 => ?_)
 refine Al' 27 #[.int .i64 0] hs2 (fun b5 w3 hs3 => ?_)
 refine Nt ?_
 refine Sq ?_
 refine Sq (Rg [0, 1] ?_)
 refine Vs 1 ?_
 refine RWP.callO (dst := (some 8)) (ty := 143) (g := none) (by kernel_rfl) rfl (f0 := (.func 118)) (aos := #[(.tmp 7)]) (ats := #[68]) (fid := 118) (first := #[]) (cap := #[]) (args := [(.slice a0_0 x0.length n0_0)]) rfl co_rules_all (rfl) hs3 (c_rules_all w3 F0 hs3.pers (x0) a0_0 n0_0 hb0_0 hs0_0) ?_
 rintro _ F1 w4 _ hs4 le1 ⟨b0, rfl, rfl⟩
 refine Nt ?_
 refine CWP.block (by kernel_rfl) ?_
 obtain ⟨o, ho, h5⟩ := bind_some h
 obtain ⟨J, hJd⟩ : ∃ J : Option (List Int) → Mem → Own → Prop, J = fun s F Lq => match s with
  | none => Lq = [sb b5 #[vi 0] 27, sb b4 #[.slice none 0 0] 47, sb b3 #[.func (.func gx1) fx1.toArray kx1.toArray] 121]
  | some c => ∃ (a : Option Addr) (n : Nat) (e : Option Nat × Obj), Lq = [sb b5 #[vi 0] 27, sb b4 #[.slice a c.length n] 47, sb b3 #[.func (.func gx1) fx1.toArray kx1.toArray] 121, e] ∧ RowR tInt 3 F a n c e := ⟨_, rfl⟩
 refine CWP.rangeFuncI3 (enc := enc121) (ok := ok121) (px := px121) (m := fun {_} y s => rules_all_1 N y x0 s) (jc := .ret) (je := .ret) (B := [(some b0, (.cells #[(.slice a0_0 x0.length n0_0)] 68 (0, 0)))]) (L := [sb b5 #[vi 0] 27, sb b4 #[.slice none 0 0] 47, sb b3 #[.func (.func gx1) fx1.toArray kx1.toArray] 121]) (ps := [9]) (by kernel_rfl) (gf := 172) (cap := [(.pointer (some ⟨b0, 0, none⟩))]) (.inl ⟨rfl, rfl⟩) rfl co_rules_all_1 rfl (by kernel_rfl) (by kernel_rfl) (by rintro ⟨_, _, _⟩; rfl) hs4 (c_rules_all_1 N F1 x0 a0_0 n0_0 hb0_0 (SlA.mono hs0_0 le1) b0)
  (findY N x1) (fun s => s.isNone) J (fun s F F' L hj => ?_) (s := none) (r := o) ?_ rfl ho (fun s x q hq => ?_) ?_ ?_ ?_
 ·subst hJd
  cases s with
  | none => exact hj
  | some c => exact hj
 ·subst hJd; rfl
 ·cases s with
  | some c => cases hq
  | none =>
   refine ⟨rfl, ?_⟩
   obtain ⟨b, hb, h6⟩ := bind_some hq
   cases b with
   | true =>
    obtain ⟨c, hc, h7⟩ := bind_some h6
    cases h7; rfl
   | false => cases h6; rfl
 ·rintro l s ⟨y, ay, ny⟩ w' F' Lf Rf q le2 ⟨hby, hsy⟩ hJ hs5 hq
  cases s with
  | some c => cases hq
  | none =>
   subst hJd
   cases hJ
   obtain ⟨b, hb, h6⟩ := bind_some hq
   refine Rg [0] ?_
   refine Vs 1 ?_
   refine RWP.nil ?_
   refine ⟨rfl, F', [sb b5 #[vi 0] 27, sb b4 #[.slice none 0 0] 47, sb b3 #[.func (.func gx1) fx1.toArray kx1.toArray] 121], hs5, fun w5 Rg' hs6 => ?_⟩
   have hs6' : HS w0 F0 w5 F' (sb b5 #[vi 0] 27 :: sb b4 #[.slice none 0 0] 47 :: sb b3 #[.func (.func gx1) fx1.toArray kx1.toArray] 121 :: Rg') := hs6
   refine CWP.block (by kernel_rfl) ?_
   refine Sq (Rg [0, 1, 2] ?_)
   refine Ld hs6'.at2 ?_
   refine Vs 1 ?_
   refine Cq hox1 hs6' (hpx1 w5 F' y ay ny hby hsy _ (le1.trans le2) hs6'.pers hb) ?_
   rintro _ F2 w6 hs7 le3 rfl
   refine Nt ?_
   refine Cd h6 (fun hb' h7 => ?_) (fun hb' h7 => ?_)
   ·obtain ⟨c, hc, h8⟩ := bind_some h7
    obtain rfl := some_inj h8
    refine Sq (Rg [0, 1, 2, 3] ?_)
    refine Vs 1 ?_
    refine RWP.callO (dst := (some 14)) (ty := 47) (g := none) (by kernel_rfl) rfl (f0 := (.func 169)) (aos := #[(.tmp 13)]) (ats := #[47]) (fid := 169) (first := #[]) (cap := #[]) (args := [(.slice ay y.length ny)]) rfl co_slices_Clone_int_int (rfl) hs7 (c_slices_Clone_int_int N w6 F2 hs7.pers y ay ny hby (SlA.mono hsy le3) _ hc) ?_
    rintro _ F3 w7 _ hs8 le4 ⟨a1, n1, e1, rfl, rfl, hr1⟩
    have hs8' : HS w0 F0 w7 F3 (e1 :: sb b5 #[vi 0] 27 :: sb b4 #[.slice none 0 0] 47 :: sb b3 #[.func (.func gx1) fx1.toArray kx1.toArray] 121 :: Rg') := hs8
    refine St2 #[.slice a1 c.length n1] hs8' (fun w8 hs9 => ?_)
    refine St1 #[.int .i64 0] hs9 (fun w9 hs10 => ?_)
    refine Nt ?_
    refine Rt ?_
    refine blockQ_ret ?_
    refine ⟨.inr ⟨rfl, rfl⟩, F3, [sb b5 #[vi 0] 27, sb b4 #[.slice a1 c.length n1] 47, sb b3 #[.func (.func gx1) fx1.toArray kx1.toArray] 121, e1], hs10.pm [1, 2, 3, 0], le3.trans le4, a1, n1, e1, rfl, hr1⟩
   ·obtain rfl := some_inj h7
    refine Sc ?_
    refine blockQ_nrm ?_
    exact ⟨.inl ⟨rfl, rfl⟩, F2, [sb b5 #[vi 0] 27, sb b4 #[.slice none 0 0] 47, sb b3 #[.func (.func gx1) fx1.toArray kx1.toArray] 121], hs7, le3, rfl⟩
 ·rintro D w' F' Lf hgo hs5 le2 hJ
  cases o with
  | some c => cases hgo
  | none =>
   subst hJd
   cases hJ
   obtain rfl := some_inj h5
   refine blockQ_nrm ?_
   refine thenQ_nrm ?_
   refine Sq (Rg [0, 1] ?_)
   refine St2 #[.slice none 0 0] hs5 (fun w8 hs9 => ?_)
   refine St1 #[.int .i64 3] hs9 (fun w9 hs10 => ?_)
   refine Nt ?_
   refine Rt ?_
   have hs11 := hs10.put (k := 0) rfl (.deferred none)
   have hs12 : HS w0 F0 (putB w9 D (.deferred none)) F' [sb b5 #[.int .i64 3] 27, sb b4 #[.slice none 0 0] 47, sb b3 #[.func (.func gx1) fx1.toArray kx1.toArray] 121] := hs11.drop 0
   exact .inr ⟨D, rfl, hs10.ownAt (k := 0) rfl, _, res_of (l := [.cell 4 47, .cell 5 27]) (by kernel_rfl) (vs := [.slice none 0 0, .int .i64 3]) ⟨b4, 0, by kernel_rfl, run_loadVar' (t := 47) (g := false) (s := 1) (by kernel_rfl) hs12.at1 rfl (by decide), b5, 0, by kernel_rfl, run_loadVar' (t := 27) (g := false) (s := 1) (by kernel_rfl) hs12.at0 rfl (by decide), trivial⟩, _, F', rfl, hs12.clear, none, 0, rfl, LC.nil (α := Int), .inl rfl⟩
 ·rintro D w' F' Lf hgo hs5 le2 hJ
  cases o with
  | none => cases hgo
  | some c =>
   subst hJd
   obtain ⟨a1, n1, e1, rfl, hr1⟩ := hJ
   obtain rfl := some_inj h5
   refine blockQ_ret ?_
   refine thenQ_ret ?_
   have hs11 := hs5.put (k := 0) rfl (.deferred none)
   have hs12 : HS w0 F0 (putB w' D (.deferred none)) F' [sb b5 #[vi 0] 27, sb b4 #[.slice a1 c.length n1] 47, sb b3 #[.func (.func gx1) fx1.toArray kx1.toArray] 121, e1] := hs11.drop 0
   obtain ⟨F2, hs13, le3, hsl⟩ := hs12.fr3 hr1
   exact .inr ⟨D, rfl, hs5.ownAt (k := 0) rfl, _, res_of (l := [.cell 4 47, .cell 5 27]) (by kernel_rfl) (vs := [.slice a1 c.length n1, .int .i64 0]) ⟨b4, 0, by kernel_rfl, run_loadVar' (t := 47) (g := false) (s := 1) (by kernel_rfl) hs13.at1 rfl (by decide), b5, 0, by kernel_rfl, run_loadVar' (t := 27) (g := false) (s := 1) (by kernel_rfl) hs13.at0 rfl (by decide), trivial⟩, _, F2, rfl, hs13.clear, a1, n1, rfl, hr1.bound, hsl⟩
end Go.Proofs.YtaihlcdkcampbaaGreatDoor
namespace Go.Proofs.YtaihlcdkcampbaaGreatDoor
open Go.Proofs
def ref06_Domains_L0 (N : Nat) (x0 : (List Span)) : (Int × Int) → Option (Flow Bool (Int × Int)) := fun s27 =>
 (bif (decide (s27.2 < (x0.length : Int))) then (((idx x0 s27.2).bind fun x62 => (bif (decide (x62.Lo < 0)) then some true else ((idx x0 s27.2).bind fun x79 => ((idx x0 s27.2).bind fun x85 => (bif (decide (x79.Hi < x85.Lo)) then some true else ((idx x0 s27.2).bind fun x94 => some (decide (x94.Hi > 1000000)))))))).bind fun j54 => (bif j54 then some (.ret false) else (((idx x0 s27.2).bind fun x115 => ((idx x0 s27.2).bind fun x129 => some (W64 (s27.1 * (W64 ((W64 (x115.Hi - x129.Lo)) + 1)))))).bind fun j108 => (bif (decide (j108 > 4096)) then some (.ret false) else some (.next (j108, (W64 (s27.2 + 1)))))))) else some (.done (s27.1, s27.2)))
def ref06_Domains (N : Nat) (x0 : (List Span)) : Option Bool :=
 (bif ((x0.length : Int) != 14) then some false else ((iter (ref06_Domains_L0 N x0) N (1, 0)).bind fun o => o.k (fun r => some r) (fun s35 => some true)))
theorem co_ref06_Domains : CallOk Tryz.prog 112 := fun _ _ => by kernel_rfl
theorem c_ref06_Domains (N : Nat) (w0 : World) (F0 : Mem) (hF : ∀ b o, F0 b = some o → w0.heap[b]? = some o) (x0 : (List Span)) (a0_0 : Option Addr) (n0_0 : Nat) (hb0_0 : LC x0.length n0_0) (hs0_0 : SlA tSpan F0 a0_0 x0) (r : Bool) (h : ref06_Domains N x0 = some r) :
  Calls Tryz.prog 112 ([(.slice a0_0 x0.length n0_0)] : List Value).toArray w0 (FRet w0 F0 fun F' v => v = (.bool r)) := by
 have hs0 := HS.start hF
 refine Go 57 Tryz.func112 ?_
 refine Sq (Rg [0] ?_)
 refine Vs 1 ?_
 refine Nss ?_
 refine Sq (Rg [0, 1, 2] ?_)
 refine Vs 3 ?_
 refine Nt ?_
 refine Cd h (fun hb21 h22 => ?_) (fun hb21 h23 => ?_)
 ·refine Sq (Rg [0] ?_)
  refine Vs 1 ?_
  refine Nt ?_
  refine Rt ?_
  refine thenQ_ret ?_
  obtain rfl := some_inj h22
  exact Re [(.bool false)] hs0 rfl
 ·refine Sc ?_
  refine thenQ_nrm ?_
  refine Sq (Rg [0] ?_)
  refine Vs 1 ?_
  refine Nss ?_
  refine Sq (Rg [0] ?_)
  refine Vs 1 ?_
  refine Nt ?_
  obtain ⟨o24, ho25, h26⟩ := bind_some h23
  refine CWP.cut (fun f w => ∃ (s35 : (Int × Int)) (F2 : Mem), o24 = .done s35 ∧ HS w0 F0 w F2 [] ∧ Mem.le F0 F2 ∧ FI f [] []) ?_ ?_
  ·refine Bk ?_
   refine CWP.loop (by kernel_rfl) (fun m f w => ∃ (s27 : (Int × Int)) (F1 : Mem), iter (ref06_Domains_L0 N x0) m s27 = some o24 ∧ HS w0 F0 w F1 [] ∧ Mem.le F0 F1 ∧ FI f [] [(0, (.slice a0_0 x0.length n0_0)), (3, (vi s27.1)), (4, (vi s27.2))]) N ⟨(1, 0), F0, ho25, hs0, (Mem.le.refl _), fI⟩ ?_
   rintro m40 f w28 ⟨s27, F1, hit41, hs29, le30, ⟨_, rfl⟩⟩
   obtain ⟨m42, fl43, rfl, hb44, hnx45⟩ := iter_step hit41
   refine Sq ?_
   refine Sq (Rg [0, 1, 2, 3] ?_)
   refine Vs 4 ?_
   refine Nt ?_
   refine Cd hb44 (fun hb46 h47 => ?_) (fun hb46 h48 => ?_)
   ·refine Sc ?_
    refine thenQ_nrm ?_
    refine Sq ?_
    refine Bk ?_
    refine Sq ?_
    refine Sq ?_
    obtain ⟨j54, hj60, h61⟩ := bind_some h47
    refine RD 27 27 [] [] hs29 (fun f w => ∃ (F3 : Mem), HS w0 F0 w F3 [] ∧ Mem.le F1 F3 ∧ FI f [] [(0, (.slice a0_0 x0.length n0_0)), (3, (vi s27.1)), (4, (vi s27.2)), (40, (.bool j54))]) (fun wd49 hw50 => ?_) ?_
    ·refine Dvl [0, 1] [tt, tt, ff, ff, ff, ff, ff, ff, ff, ff, ff, ff, ff, ff, ff, ff, ff, ff, ff, ff, ff, ff, ff, ff, ff, ff, ff] ?_
     obtain ⟨x62, hx63, h65⟩ := bind_some hj60
     obtain ⟨hi64, hx63'⟩ := idx_spec hx63
     obtain ⟨b66, o67, C68, E69, fz70, rfl, hF72, hE73⟩ := SlA.open (SlA.mono hs0_0 le30) hx63'
     have hc75 := hE73 _ _ hx63'
     refine Di 2 hi64 ?_
     refine Dvl [3] [tt, tt, tt, tt, ff, ff, ff, ff, ff, ff, ff, ff, ff, ff, ff, ff, ff, ff, ff, ff, ff, ff, ff, ff, ff, ff, ff] ?_
     refine Dx 4 0 (fun _ hq => hq.1.1 _ _ hF72) hc75 ?_
     refine Dvl [5, 6] [tt, tt, tt, tt, tt, tt, tt, ff, ff, ff, ff, ff, ff, ff, ff, ff, ff, ff, ff, ff, ff, ff, ff, ff, ff, ff, ff] ?_
     refine Sd h65 (fun hb76 h77 => ?_) (fun hb76 h78 => ?_)
     ·refine Dkl [(7, 21), (8, 22), (9, 23), (10, 24), (11, 25), (12, 26)] 6 false 20 hb76 [tt, tt, tt, tt, tt, tt, tt, tt, tt, tt, tt, tt, tt, ff, ff, ff, ff, ff, ff, ff, ff, ff, ff, ff, ff, ff, ff] ?_
      refine Dkl [(13, 27), (14, 28), (15, 29), (16, 30), (17, 31)] 6 false 20 hb76 [tt, tt, tt, tt, tt, tt, tt, tt, tt, tt, tt, tt, tt, tt, tt, tt, tt, tt, ff, ff, ff, ff, ff, ff, ff, ff, ff] ?_
      refine Dtl 18 32 4 _ [tt, tt, tt, tt, tt, tt, tt, tt, tt, tt, tt, tt, tt, tt, tt, tt, tt, tt, tt, ff, ff, ff, ff, ff, ff, ff, ff] (fun _ hq => p1 20 (.const (.bool true)) (.tmp 31) (.bool true) hb76) ?_
      refine Dvl [19] [tt, tt, tt, tt, tt, tt, tt, tt, tt, tt, tt, tt, tt, tt, tt, tt, tt, tt, tt, tt, ff, ff, ff, ff, ff, ff, ff] ?_
      refine Dkl [(20, 34), (21, 35), (22, 36), (23, 37), (24, 38), (25, 39)] 19 false 33 rfl [tt, tt, tt, tt, tt, tt, tt, tt, tt, tt, tt, tt, tt, tt, tt, tt, tt, tt, tt, tt, tt, tt, tt, tt, tt, tt, ff] ?_
      refine Dtl 26 40 4 _ [tt, tt, tt, tt, tt, tt, tt, tt, tt, tt, tt, tt, tt, tt, tt, tt, tt, tt, tt, tt, tt, tt, tt, tt, tt, tt, tt] (fun _ hq => p1 33 (.const (.bool true)) (.tmp 39) (.bool true) rfl) ?_
      obtain rfl := some_inj h77
      exact DWP.done (by kernel_rfl) ⟨F1, hw50, (Mem.le.refl _), fI⟩
     ·refine Dgl 7 21 68 _ [tt, tt, tt, tt, tt, tt, tt, tt, ff, ff, ff, ff, ff, ff, ff, ff, ff, ff, ff, ff, ff, ff, ff, ff, ff, ff, ff] 6 false 20 hb76 (fun _ hq => mv 0 (.slice (some ⟨b66, o67, none⟩) x0.length n0_0)) ?_
      refine Dgl 8 22 3 _ [tt, tt, tt, tt, tt, tt, tt, tt, tt, ff, ff, ff, ff, ff, ff, ff, ff, ff, ff, ff, ff, ff, ff, ff, ff, ff, ff] 6 false 20 hb76 (fun _ hq => mv 4 (vi s27.2)) ?_
      obtain ⟨x79, hx80, h82⟩ := bind_some h78
      obtain ⟨hi81, hx80'⟩ := idx_spec hx80
      have hc84 := hE73 _ _ hx80'
      refine Dgl 9 23 0 (.pointer (some ⟨b66, (o67 + (s27.2 : Int).toNat * 2), none⟩)) [tt, tt, tt, tt, tt, tt, tt, tt, tt, tt, ff, ff, ff, ff, ff, ff, ff, ff, ff, ff, ff, ff, ff, ff, ff, ff, ff] 6 false 20 hb76 (fun _ hq => ix 68 21 22 b66 o67 72 2 16 hi81) ?_
      refine Dgl 10 24 0 (.pointer (some ⟨b66, ((o67 + (s27.2 : Int).toNat * 2) + 1), none⟩)) [tt, tt, tt, tt, tt, tt, tt, tt, tt, tt, tt, ff, ff, ff, ff, ff, ff, ff, ff, ff, ff, ff, ff, ff, ff, ff, ff] 6 false 20 hb76 (fun _ hq => fa 72 23 1 1 1 b66 (o67 + (s27.2 : Int).toNat * 2) ((o67 + (s27.2 : Int).toNat * 2) + 1)) ?_
      refine Dgl 11 25 3 _ [tt, tt, tt, tt, tt, tt, tt, tt, tt, tt, tt, tt, ff, ff, ff, ff, ff, ff, ff, ff, ff, ff, ff, ff, ff, ff, ff] 6 false 20 hb76 (fun _ hq => lx 3 24 1 2 false 1 (vi x79.Hi) (hq.1.1 _ _ hF72) hc84) ?_
      refine Dgl 12 26 68 _ [tt, tt, tt, tt, tt, tt, tt, tt, tt, tt, tt, tt, tt, ff, ff, ff, ff, ff, ff, ff, ff, ff, ff, ff, ff, ff, ff] 6 false 20 hb76 (fun _ hq => mv 0 (.slice (some ⟨b66, o67, none⟩) x0.length n0_0)) ?_
      refine Dgl 13 27 3 _ [tt, tt, tt, tt, tt, tt, tt, tt, tt, tt, tt, tt, tt, tt, ff, ff, ff, ff, ff, ff, ff, ff, ff, ff, ff, ff, ff] 6 false 20 hb76 (fun _ hq => mv 4 (vi s27.2)) ?_
      obtain ⟨x85, hx86, h88⟩ := bind_some h82
      obtain ⟨hi87, hx86'⟩ := idx_spec hx86
      have hc90 := hE73 _ _ hx86'
      refine Dgl 14 28 0 (.pointer (some ⟨b66, (o67 + (s27.2 : Int).toNat * 2), none⟩)) [tt, tt, tt, tt, tt, tt, tt, tt, tt, tt, tt, tt, tt, tt, tt, ff, ff, ff, ff, ff, ff, ff, ff, ff, ff, ff, ff] 6 false 20 hb76 (fun _ hq => ix 68 26 27 b66 o67 72 2 16 hi87) ?_
      refine Dgl 15 29 0 (.pointer (some ⟨b66, (o67 + (s27.2 : Int).toNat * 2), none⟩)) [tt, tt, tt, tt, tt, tt, tt, tt, tt, tt, tt, tt, tt, tt, tt, tt, ff, ff, ff, ff, ff, ff, ff, ff, ff, ff, ff] 6 false 20 hb76 (fun _ hq => fa 72 28 0 0 1 b66 (o67 + (s27.2 : Int).toNat * 2) (o67 + (s27.2 : Int).toNat * 2)) ?_
      refine Dgl 16 30 3 _ [tt, tt, tt, tt, tt, tt, tt, tt, tt, tt, tt, tt, tt, tt, tt, tt, tt, ff, ff, ff, ff, ff, ff, ff, ff, ff, ff] 6 false 20 hb76 (fun _ hq => lx 3 29 0 2 false 1 (vi x85.Lo) (hq.1.1 _ _ hF72) hc90) ?_
      refine Dgl 17 31 4 (.bool (decide (x79.Hi < x85.Lo))) [tt, tt, tt, tt, tt, tt, tt, tt, tt, tt, tt, tt, tt, tt, tt, tt, tt, tt, ff, ff, ff, ff, ff, ff, ff, ff, ff] 6 false 20 hb76 (fun _ hq => run_lss (t := 3) (t' := 3) (x := (.tmp 25)) (y := (.tmp 30)) (k := .i64) (a := x79.Hi) (b := x85.Lo) rfl rfl) ?_
      refine Dtl 18 32 4 _ [tt, tt, tt, tt, tt, tt, tt, tt, tt, tt, tt, tt, tt, tt, tt, tt, tt, tt, tt, ff, ff, ff, ff, ff, ff, ff, ff] (fun _ hq => p0 20 (.const (.bool true)) (.tmp 31) (.bool (decide (x79.Hi < x85.Lo))) hb76) ?_
      refine Dvl [19] [tt, tt, tt, tt, tt, tt, tt, tt, tt, tt, tt, tt, tt, tt, tt, tt, tt, tt, tt, tt, ff, ff, ff, ff, ff, ff, ff] ?_
      refine Sd h88 (fun hb91 h92 => ?_) (fun hb91 h93 => ?_)
      ·refine Dkl [(20, 34), (21, 35), (22, 36), (23, 37), (24, 38), (25, 39)] 19 false 33 hb91 [tt, tt, tt, tt, tt, tt, tt, tt, tt, tt, tt, tt, tt, tt, tt, tt, tt, tt, tt, tt, tt, tt, tt, tt, tt, tt, ff] ?_
       refine Dtl 26 40 4 _ [tt, tt, tt, tt, tt, tt, tt, tt, tt, tt, tt, tt, tt, tt, tt, tt, tt, tt, tt, tt, tt, tt, tt, tt, tt, tt, tt] (fun _ hq => p1 33 (.const (.bool true)) (.tmp 39) (.bool true) hb91) ?_
       obtain rfl := some_inj h92
       exact DWP.done (by kernel_rfl) ⟨F1, hw50, (Mem.le.refl _), fI⟩
      ·refine Dgl 20 34 68 _ [tt, tt, tt, tt, tt, tt, tt, tt, tt, tt, tt, tt, tt, tt, tt, tt, tt, tt, tt, tt, tt, ff, ff, ff, ff, ff, ff] 19 false 33 hb91 (fun _ hq => mv 0 (.slice (some ⟨b66, o67, none⟩) x0.length n0_0)) ?_
       refine Dgl 21 35 3 _ [tt, tt, tt, tt, tt, tt, tt, tt, tt, tt, tt, tt, tt, tt, tt, tt, tt, tt, tt, tt, tt, tt, ff, ff, ff, ff, ff] 19 false 33 hb91 (fun _ hq => mv 4 (vi s27.2)) ?_
       obtain ⟨x94, hx95, h97⟩ := bind_some h93
       obtain ⟨hi96, hx95'⟩ := idx_spec hx95
       have hc99 := hE73 _ _ hx95'
       refine Dgl 22 36 0 (.pointer (some ⟨b66, (o67 + (s27.2 : Int).toNat * 2), none⟩)) [tt, tt, tt, tt, tt, tt, tt, tt, tt, tt, tt, tt, tt, tt, tt, tt, tt, tt, tt, tt, tt, tt, tt, ff, ff, ff, ff] 19 false 33 hb91 (fun _ hq => ix 68 34 35 b66 o67 72 2 16 hi96) ?_
       refine Dgl 23 37 0 (.pointer (some ⟨b66, ((o67 + (s27.2 : Int).toNat * 2) + 1), none⟩)) [tt, tt, tt, tt, tt, tt, tt, tt, tt, tt, tt, tt, tt, tt, tt, tt, tt, tt, tt, tt, tt, tt, tt, tt, ff, ff, ff] 19 false 33 hb91 (fun _ hq => fa 72 36 1 1 1 b66 (o67 + (s27.2 : Int).toNat * 2) ((o67 + (s27.2 : Int).toNat * 2) + 1)) ?_
       refine Dgl 24 38 3 _ [tt, tt, tt, tt, tt, tt, tt, tt, tt, tt, tt, tt, tt, tt, tt, tt, tt, tt, tt, tt, tt, tt, tt, tt, tt, ff, ff] 19 false 33 hb91 (fun _ hq => lx 3 37 1 2 false 1 (vi x94.Hi) (hq.1.1 _ _ hF72) hc99) ?_
       refine Dgl 25 39 4 (.bool (decide (x94.Hi > 1000000))) [tt, tt, tt, tt, tt, tt, tt, tt, tt, tt, tt, tt, tt, tt, tt, tt, tt, tt, tt, tt, tt, tt, tt, tt, tt, tt, ff] 19 false 33 hb91 (fun _ hq => run_gtr (t := 3) (t' := 3) (x := (.tmp 38)) (y := (.const (vi 1000000))) (k := .i64) (a := x94.Hi) (b := 1000000) rfl rfl) ?_
       refine Dtl 26 40 4 _ [tt, tt, tt, tt, tt, tt, tt, tt, tt, tt, tt, tt, tt, tt, tt, tt, tt, tt, tt, tt, tt, tt, tt, tt, tt, tt, tt] (fun _ hq => p0 33 (.const (.bool true)) (.tmp 39) (.bool (decide (x94.Hi > 1000000))) hb91) ?_
       obtain rfl := some_inj h97
       exact DWP.done (by kernel_rfl) ⟨F1, hw50, (Mem.le.refl _), fI⟩
    ·rintro f w51 ⟨F3, hs52, le53, ⟨_, rfl⟩⟩
     refine thenQ_nrm ?_
     refine Cd h61 (fun hb100 h101 => ?_) (fun hb100 h102 => ?_)
     ·refine Sq (Rg [0] ?_)
      refine Vs 1 ?_
      refine Nt ?_
      refine Rt ?_
      refine thenQ_ret ?_
      refine blockQ_ret ?_
      refine thenQ_ret ?_
      refine thenQ_ret ?_
      refine blockQ_ret ?_
      have hret := iter_ret h101 hnx45
      subst hret
      refine .inr ?_
      refine thenQ_ret ?_
      obtain rfl := some_inj h26
      exact Re [(.bool false)] hs52 rfl
     ·refine Sc ?_
      refine thenQ_nrm ?_
      refine Sq ?_
      obtain ⟨j108, hj113, h114⟩ := bind_some h102
      refine RD 15 15 [] [] hs52 (fun f w => ∃ (F4 : Mem), HS w0 F0 w F4 [] ∧ Mem.le F3 F4 ∧ FI f [] [(0, (.slice a0_0 x0.length n0_0)), (3, (vi j108)), (4, (vi s27.2))]) (fun wd103 hw104 => ?_) ?_
      ·refine Dv [0, 1, 2] ?_
       obtain ⟨x115, hx116, h118⟩ := bind_some hj113
       obtain ⟨hi117, hx116'⟩ := idx_spec hx116
       obtain ⟨b119, o120, C121, E122, fz123, rfl, hF125, hE126⟩ := SlA.open (SlA.mono hs0_0 (le30.trans le53)) hx116'
       have hc128 := hE126 _ _ hx116'
       refine Di 3 hi117 ?_
       refine Dv [4] ?_
       refine Dx 5 1 (fun _ hq => hq.1.1 _ _ hF125) hc128 ?_
       refine Dv [6, 7] ?_
       obtain ⟨x129, hx130, h132⟩ := bind_some h118
       obtain ⟨hi131, hx130'⟩ := idx_spec hx130
       have hc134 := hE126 _ _ hx130'
       refine Di 8 hi131 ?_
       refine Dv [9] ?_
       refine Dx 10 0 (fun _ hq => hq.1.1 _ _ hF125) hc134 ?_
       refine Dv [11, 12, 13, 14] ?_
       obtain rfl := some_inj h132
       exact DWP.done (by kernel_rfl) ⟨F3, hw104, (Mem.le.refl _), fI⟩
      ·rintro f w105 ⟨F4, hs106, le107, ⟨_, rfl⟩⟩
       refine thenQ_nrm ?_
       refine Sq (Rg [0, 1] ?_)
       refine Vs 2 ?_
       refine Nt ?_
       refine Cd h114 (fun hb135 h136 => ?_) (fun hb135 h137 => ?_)
       ·refine Sq (Rg [0] ?_)
        refine Vs 1 ?_
        refine Nt ?_
        refine Rt ?_
        refine blockQ_ret ?_
        refine thenQ_ret ?_
        refine thenQ_ret ?_
        refine blockQ_ret ?_
        have hret := iter_ret h136 hnx45
        subst hret
        refine .inr ?_
        refine thenQ_ret ?_
        obtain rfl := some_inj h26
        exact Re [(.bool false)] hs106 rfl
       ·refine Sc ?_
        refine blockQ_nrm ?_
        refine thenQ_nrm ?_
        refine Rg [0, 1, 2] ?_
        refine Vs 3 ?_
        refine RWP.nil ?_
        have hn138 := iter_next h137 hnx45
        exact ⟨m42, Nat.lt_succ_self _, (j108, (W64 (s27.2 + 1))), F4, hn138, hs106, ((le30.trans le53).trans le107), fI⟩
   ·refine Ex ?_
    refine thenQ_ex ?_
    refine thenQ_ex ?_
    refine blockQ_hit rfl ?_
    have ho139 := iter_done h48 hnx45
    exact .inl ⟨rfl, (s27.1, s27.2), F1, ho139, hs29, le30, fI⟩
  ·rintro f w36 ⟨s35, F2, rfl, hs37, le38, ⟨_, rfl⟩⟩
   have h140 := k_done h26
   refine thenQ_nrm ?_
   refine Sq (Rg [0] ?_)
   refine Vs 1 ?_
   refine Nt ?_
   refine Rt ?_
   obtain rfl := some_inj h140
   exact Re [(.bool true)] hs37 rfl
end Go.Proofs.YtaihlcdkcampbaaGreatDoor
namespace Go.Proofs.YtaihlcdkcampbaaGreatDoor
open Go.Proofs
def rules_domains_L0 (N : Nat) (x0 : (List Span)) : (Int × Int) → Option (Flow Bool (Int × Int)) := fun s27 =>
 (bif (decide (s27.2 < (x0.length : Int))) then ((idx x0 s27.2).bind fun x50 => (bif ((decide (x50.Lo < 0)) || ((decide (x50.Lo > x50.Hi)) || (decide (x50.Hi > 1000000)))) then some (.ret false) else (bif (decide ((W64 (s27.1 * (W64 ((W64 (x50.Hi - x50.Lo)) + 1)))) > 4096)) then some (.ret false) else some (.next ((W64 (s27.1 * (W64 ((W64 (x50.Hi - x50.Lo)) + 1)))), (W64 (s27.2 + 1))))))) else some (.done (s27.1, s27.2)))
def rules_domains (N : Nat) (x0 : (List Span)) : Option Bool :=
 (bif ((x0.length : Int) != 14) then some false else ((iter (rules_domains_L0 N x0) N (1, 0)).bind fun o => o.k (fun r => some r) (fun s36 => some true)))
theorem co_rules_domains : CallOk Tryz.prog 114 := fun _ _ => by kernel_rfl
theorem c_rules_domains (N : Nat) (w0 : World) (F0 : Mem) (hF : ∀ b o, F0 b = some o → w0.heap[b]? = some o) (x0 : (List Span)) (a0_0 : Option Addr) (n0_0 : Nat) (hb0_0 : LC x0.length n0_0) (hs0_0 : SlA tSpan F0 a0_0 x0) (r : Bool) (h : rules_domains N x0 = some r) :
  Calls Tryz.prog 114 ([(.slice a0_0 x0.length n0_0)] : List Value).toArray w0 (FRet w0 F0 fun F' v => v = (.bool r)) := by
 have hs0 := HS.start hF
 refine Go 41 Tryz.func114 ?_
 refine Sq (Rg [0] ?_)
 refine Vs 1 ?_
 refine Nss ?_
 refine Sq (Rg [0, 1, 2] ?_)
 refine Vs 3 ?_
 refine Nt ?_
 refine Cd h (fun hb21 h22 => ?_) (fun hb21 h23 => ?_)
 ·refine Sq (Rg [0] ?_)
  refine Vs 1 ?_
  refine Nt ?_
  refine Rt ?_
  refine thenQ_ret ?_
  obtain rfl := some_inj h22
  exact Re [(.bool false)] hs0 rfl
 ·refine Sc ?_
  refine thenQ_nrm ?_
  refine Sq (Rg [0] ?_)
  refine Vs 1 ?_
  refine Nss ?_
  refine Sq (Rg [0, 1, 2] ?_)
  refine Vs 3 ?_
  refine Nt ?_
  obtain ⟨o24, ho25, h26⟩ := bind_some h23
  refine CWP.cut (fun f w => ∃ (s36 : (Int × Int)) (F2 : Mem), o24 = .done s36 ∧ HS w0 F0 w F2 [] ∧ Mem.le F0 F2 ∧ FI f [] []) ?_ ?_
  ·refine Bk ?_
   refine CWP.loop (by kernel_rfl) (fun m f w => ∃ (s27 : (Int × Int)) (F1 : Mem), iter (rules_domains_L0 N x0) m s27 = some o24 ∧ HS w0 F0 w F1 [] ∧ Mem.le F0 F1 ∧ FI f [] [(3, (vi s27.1)), (9, (.slice a0_0 x0.length n0_0)), (10, (vi (x0.length : Int))), (11, (vi s27.2))]) N ⟨(1, 0), F0, ho25, hs0, (Mem.le.refl _), fI⟩ ?_
   rintro m41 f w28 ⟨s27, F1, hit42, hs29, le30, ⟨_, rfl⟩⟩
   obtain ⟨m43, fl44, rfl, hb45, hnx46⟩ := iter_step hit42
   refine Sq (Rg [0] ?_)
   refine Vs 1 ?_
   refine Nss ?_
   refine Cd hb45 (fun hb47 h48 => ?_) (fun hb47 h49 => ?_)
   ·refine Sc ?_
    refine thenQ_nrm ?_
    refine Sq ?_
    refine Bk ?_
    refine Sq (Rg [0, 1, 2, 3] ?_)
    obtain ⟨x50, hx51, h53⟩ := bind_some h48
    obtain ⟨hi52, hx51'⟩ := idx_spec hx51
    obtain ⟨b54, o55, C56, E57, fz58, rfl, hF60, hE61⟩ := SlA.open (SlA.mono hs0_0 le30) hx51'
    have hc63 := hE61 _ _ hx51'
    refine Ix hi52 ?_
    refine Lx 0 (hs29.pers _ _ hF60) hc63 ?_
    refine Al' 72 #[(vi 0), (vi 0)] hs29 (fun b64 w65 hs66 => ?_)
    refine St0 #[(vi x50.Lo), (vi x50.Hi)] hs66 (fun w67 hs68 => ?_)
    refine Nss ?_
    refine Sq (Rg [0, 1, 2, 3, 4, 5, 6, 7, 8, 9, 10, 11, 12, 13, 14] ?_)
    refine RWP.cut (fun f w => ∃ (F3 : Mem), HS w0 F0 w F3 [(sb b64 #[(vi x50.Lo), (vi x50.Hi)] 72)] ∧ Mem.le F1 F3 ∧ FI f [] [(3, (vi s27.1)), (5, (pt b64 0)), (9, (.slice (some ⟨b54, o55, none⟩) x0.length n0_0)), (10, (vi (x0.length : Int))), (11, (vi s27.2)), (29, (.bool ((decide (x50.Lo < 0)) || ((decide (x50.Lo > x50.Hi)) || (decide (x50.Hi > 1000000))))))]) ?_ ?_
    ·refine Vs 1 ?_
     refine Ld hs68.at0 ?_
     refine Vs 2 ?_
     refine RWP.split (decide (x50.Lo < 0)) (fun hb79 => ?_) (fun hb79 => ?_)
     ·refine Ss hb79 5 ?_
      refine Pk1 hb79 ?_
      refine Vs 1 ?_
      refine Ss (rfl : true = true) 3 ?_
      refine Pk1 (rfl : true = true) ?_
      exact RWP.nil ⟨rfl, F1, hs68, (Mem.le.refl _), (fJ ⟨rfl, rfl, rfl, rfl, rfl, (congrArg Value.bool (or_t hb79 (rfl))), trivial⟩)⟩
     ·refine Vgs hb79 1 ?_
      refine Lg hb79 hs68.at0 ?_
      refine Vgs hb79 1 ?_
      refine Lg hb79 hs68.at0 ?_
      refine Vgs hb79 1 ?_
      refine Pk0 hb79 ?_
      refine Vs 1 ?_
      refine RWP.split (decide (x50.Lo > x50.Hi)) (fun hb80 => ?_) (fun hb80 => ?_)
      ·refine Ss hb80 3 ?_
       refine Pk1 hb80 ?_
       exact RWP.nil ⟨rfl, F1, hs68, (Mem.le.refl _), (fJ ⟨rfl, rfl, rfl, rfl, rfl, (congrArg Value.bool (or_f hb79 (or_t hb80 (rfl)))), trivial⟩)⟩
      ·refine Vgs hb80 1 ?_
       refine Lg hb80 hs68.at0 ?_
       refine Vgs hb80 1 ?_
       refine Pk0 hb80 ?_
       exact RWP.nil ⟨rfl, F1, hs68, (Mem.le.refl _), (fJ ⟨rfl, rfl, rfl, rfl, rfl, (congrArg Value.bool (or_f hb79 (or_f hb80 (rfl)))), trivial⟩)⟩
    ·rintro f w69 ⟨F3, hs70, le71, ⟨_, rfl⟩⟩
     refine thenQ_nrm ?_
     refine Cd h53 (fun hb81 h82 => ?_) (fun hb81 h83 => ?_)
     ·refine Sq (Rg [0] ?_)
      refine Vs 1 ?_
      refine Nt ?_
      refine Rt ?_
      refine thenQ_ret ?_
      refine blockQ_ret ?_
      refine thenQ_ret ?_
      refine thenQ_ret ?_
      refine blockQ_ret ?_
      have hret := iter_ret h82 hnx46
      subst hret
      refine .inr ?_
      refine thenQ_ret ?_
      obtain rfl := some_inj h26
      exact Re [(.bool false)] hs70 rfl
     ·refine Sc ?_
      refine thenQ_nrm ?_
      refine Sq (Rg [0, 1, 2, 3, 4, 5, 6, 7, 8] ?_)
      refine Vs 2 ?_
      refine Ld hs70.at0 ?_
      refine Vs 1 ?_
      refine Ld hs70.at0 ?_
      refine Vs 4 ?_
      refine Nss (Rg [0, 1] ?_)
      refine Vs 2 ?_
      refine Nt ?_
      refine Cd h83 (fun hb84 h85 => ?_) (fun hb84 h86 => ?_)
      ·refine Sq (Rg [0] ?_)
       refine Vs 1 ?_
       refine Nt ?_
       refine Rt ?_
       refine blockQ_ret ?_
       refine thenQ_ret ?_
       refine thenQ_ret ?_
       refine blockQ_ret ?_
       have hret := iter_ret h85 hnx46
       subst hret
       refine .inr ?_
       refine thenQ_ret ?_
       obtain rfl := some_inj h26
       exact Re [(.bool false)] hs70 rfl
      ·refine Sc ?_
       refine blockQ_nrm ?_
       refine thenQ_nrm ?_
       refine Rg [0, 1] ?_
       refine Vs 2 ?_
       refine RWP.nil ?_
       have hn87 := iter_next h86 hnx46
       exact ⟨m43, Nat.lt_succ_self _, ((W64 (s27.1 * (W64 ((W64 (x50.Hi - x50.Lo)) + 1)))), (W64 (s27.2 + 1))), F3, hn87, hs70.dr0, (le30.trans le71), fI⟩
   ·refine Ex ?_
    refine thenQ_ex ?_
    refine thenQ_ex ?_
    refine blockQ_hit rfl ?_
    have ho88 := iter_done h49 hnx46
    exact .inl ⟨rfl, (s27.1, s27.2), F1, ho88, hs29, le30, fI⟩
  ·rintro f w37 ⟨s36, F2, rfl, hs38, le39, ⟨_, rfl⟩⟩
   have h89 := k_done h26
   refine thenQ_nrm ?_
   refine Sq (Rg [0] ?_)
   refine Vs 1 ?_
   refine Nt ?_
   refine Rt ?_
   obtain rfl := some_inj h89
   exact Re [(.bool true)] hs38 rfl
end Go.Proofs.YtaihlcdkcampbaaGreatDoor
namespace Go.Proofs.YtaihlcdkcampbaaGreatDoor
open Go.Proofs
def ref06_All_L2 (N : Nat) (x0 : (List Span)) (s29 : (List (List Int) × Int)) (s57 : (List (List Int) × Int)) (x84 : Span) : (List (List Int) × Int) → Option (Flow (List (List Int)) (List (List Int) × Int)) := fun s101 =>
 ((idx x0 s29.2).bind fun x128 => (bif (decide (s101.2 ≤ x128.Hi)) then ((idx s29.1 s57.2).bind fun x142 => ((apnd ([] : List Int) x142).bind fun r154 => ((apnd r154 [s101.2]).bind fun r168 => ((apnd s101.1 [r168]).bind fun r186 => some (.next (r186, (W64 (s101.2 + 1)))))))) else some (.done (s101.1, s101.2))))
def ref06_All_L1 (N : Nat) (x0 : (List Span)) (s29 : (List (List Int) × Int)) : (List (List Int) × Int) → Option (Flow (List (List Int)) (List (List Int) × Int)) := fun s57 =>
 (bif (decide (s57.2 < (s29.1.length : Int))) then ((idx x0 s29.2).bind fun x84 => ((iter (ref06_All_L2 N x0 s29 s57 x84) N (s57.1, x84.Lo)).bind fun o => o.k (fun r => some (.ret r)) (fun s112 => some (.next (s112.1, (W64 (s57.2 + 1))))))) else some (.done (s57.1, s57.2)))
def ref06_All_L0 (N : Nat) (x0 : (List Span)) : (List (List Int) × Int) → Option (Flow (List (List Int)) (List (List Int) × Int)) := fun s29 =>
 (bif (decide (s29.2 < (x0.length : Int))) then ((iter (ref06_All_L1 N x0 s29) N (([] : List (List Int)), 0)).bind fun o => o.k (fun r => some (.ret r)) (fun s67 => some (.next (s67.1, (W64 (s29.2 + 1)))))) else some (.done (s29.1, s29.2)))
def ref06_All (N : Nat) (x0 : (List Span)) : Option (List (List Int)) :=
 ((iter (ref06_All_L0 N x0) N ([([] : List Int)], 0)).bind fun o => o.k (fun r => some r) (fun s37 => some s37.1))
theorem co_ref06_All : CallOk Tryz.prog 61 := fun _ _ => by kernel_rfl
theorem c_ref06_All (N : Nat) (w0 : World) (F0 : Mem) (hF : ∀ b o, F0 b = some o → w0.heap[b]? = some o) (x0 : (List Span)) (a0_0 : Option Addr) (n0_0 : Nat) (hb0_0 : LC x0.length n0_0) (hs0_0 : SlA tSpan F0 a0_0 x0) (r : (List (List Int))) (h : ref06_All N x0 = some r) :
  Calls Tryz.prog 61 ([(.slice a0_0 x0.length n0_0)] : List Value).toArray w0 (FRet w0 F0 fun F' v => ∃ (aq0_0 : Option Addr) (nq0_0 : Nat), v = (.slice aq0_0 r.length nq0_0) ∧ LC r.length nq0_0 ∧ SlA (tSl tInt) F' aq0_0 r) := by
 have hs0 := HS.start hF
 refine Go 49 Tryz.func61 ?_
 refine Sq (Rg [0] ?_)
 refine Vs 1 ?_
 refine Nss (Rg [0, 1] ?_)
 refine Bs 47 [(.slice none ([] : List Int).length 0)] hs0 (fun b21 w22 hs23 => ?_)
 have hr25 : RowR (tSl tInt) 47 F0 (some ⟨b21, 0, none⟩) 1 [([] : List Int)] (some b21, .cells ([(.slice none ([] : List Int).length 0)] : List Value).toArray 47 (0, 0)) := RowR.lit ⟨⟨none, 0, rfl, LC.nil, (.inl rfl)⟩, rfl⟩ (by simp)
 refine Vs 1 ?_
 refine Nss ?_
 refine Sq (Rg [0] ?_)
 refine Vs 1 ?_
 refine Nt ?_
 obtain ⟨o26, ho27, h28⟩ := bind_some h
 refine CWP.cut (fun f w => ∃ (s37 : (List (List Int) × Int)) (F2 : Mem) (as37_0 : Option Addr) (ns37_0 : Nat) (es37_0 : Option Nat × Obj), o26 = .done s37 ∧ HS w0 F0 w F2 [es37_0] ∧ Mem.le F0 F2 ∧ FI f [] [(3, (.slice as37_0 s37.1.length ns37_0))] ∧ RowR (tSl tInt) 47 F2 as37_0 ns37_0 s37.1 es37_0) ?_ ?_
 ·refine Bk ?_
  refine CWP.loop (by kernel_rfl) (fun m f w => ∃ (s29 : (List (List Int) × Int)) (F1 : Mem) (as29_0 : Option Addr) (ns29_0 : Nat) (es29_0 : Option Nat × Obj), iter (ref06_All_L0 N x0) m s29 = some o26 ∧ HS w0 F0 w F1 [es29_0] ∧ Mem.le F0 F1 ∧ FI f [] [(0, (.slice a0_0 x0.length n0_0)), (3, (.slice as29_0 s29.1.length ns29_0)), (4, (vi s29.2))] ∧ RowR (tSl tInt) 47 F1 as29_0 ns29_0 s29.1 es29_0) N ⟨([([] : List Int)], 0), F0, (some ⟨b21, 0, none⟩), 1, (some b21, .cells ([(.slice none ([] : List Int).length 0)] : List Value).toArray 47 (0, 0)), ho27, hs23, (Mem.le.refl _), fI, hr25⟩ ?_
  rintro m43 f w30 ⟨s29, F1, as29_0, ns29_0, es29_0, hit44, hs31, le32, ⟨_, rfl⟩, hrs29_0⟩
  obtain ⟨m45, fl46, rfl, hb47, hnx48⟩ := iter_step hit44
  refine Sq ?_
  refine Sq (Rg [0, 1, 2, 3] ?_)
  refine Vs 4 ?_
  refine Nt ?_
  refine Cd hb47 (fun hb49 h50 => ?_) (fun hb49 h51 => ?_)
  ·refine Sc ?_
   refine thenQ_nrm ?_
   refine Sq ?_
   refine Bk ?_
   refine Sq (Rg [0] ?_)
   refine Vs 1 ?_
   refine Nss ?_
   refine Sq (Rg [0] ?_)
   refine Vs 1 ?_
   refine Nt ?_
   have hs52 := hs31.dummy (oc #[] 0)
   obtain ⟨o54, ho55, h56⟩ := bind_some h50
   refine CWP.cut (fun f w => ∃ (s67 : (List (List Int) × Int)) (F4 : Mem) (as67_0 : Option Addr) (ns67_0 : Nat) (es67_0 : Option Nat × Obj), o54 = .done s67 ∧ HS w0 F0 w F4 [es67_0] ∧ Mem.le F1 F4 ∧ FI f [] [(0, (.slice a0_0 x0.length n0_0)), (4, (vi s29.2)), (5, (.slice as67_0 s67.1.length ns67_0))] ∧ RowR (tSl tInt) 47 F4 as67_0 ns67_0 s67.1 es67_0) ?_ ?_
   ·refine Bk ?_
    refine CWP.loop (by kernel_rfl) (fun m f w => ∃ (s57 : (List (List Int) × Int)) (F3 : Mem) (as57_0 : Option Addr) (ns57_0 : Nat) (es57_0 : Option Nat × Obj), iter (ref06_All_L1 N x0 s29) m s57 = some o54 ∧ HS w0 F0 w F3 [es57_0, es29_0] ∧ Mem.le F1 F3 ∧ FI f [] [(0, (.slice a0_0 x0.length n0_0)), (3, (.slice as29_0 s29.1.length ns29_0)), (4, (vi s29.2)), (5, (.slice as57_0 s57.1.length ns57_0)), (6, (vi s57.2))] ∧ RowR (tSl tInt) 47 F3 as57_0 ns57_0 s57.1 es57_0) N ⟨(([] : List (List Int)), 0), F1, none, 0, (none, .cells #[] 0 (0, 0)), ho55, hs52, (Mem.le.refl _), fI, (RowR.nil (tSl tInt) 47 F1 _)⟩ ?_
    rintro m75 f w58 ⟨s57, F3, as57_0, ns57_0, es57_0, hit76, hs59, le60, ⟨_, rfl⟩, hrs57_0⟩
    obtain ⟨m77, fl78, rfl, hb79, hnx80⟩ := iter_step hit76
    refine Sq ?_
    refine Sq (Rg [0, 1, 2, 3] ?_)
    refine Vs 4 ?_
    refine Nt ?_
    refine Cd hb79 (fun hb81 h82 => ?_) (fun hb81 h83 => ?_)
    ·refine Sc ?_
     refine thenQ_nrm ?_
     refine Sq ?_
     refine Bk ?_
     refine Sq (Rg [0, 1, 2, 3, 4, 5] ?_)
     refine Vs 2 ?_
     obtain ⟨x84, hx85, h87⟩ := bind_some h82
     obtain ⟨hi86, hx85'⟩ := idx_spec hx85
     obtain ⟨b88, o89, C90, E91, fz92, rfl, hF94, hE95⟩ := SlA.open (SlA.mono hs0_0 (le32.trans le60)) hx85'
     have hc97 := hE95 _ _ hx85'
     refine Ix hi86 ?_
     refine Vs 1 ?_
     refine Lx 0 (hs59.pers _ _ hF94) hc97 ?_
     refine Vs 1 ?_
     refine Nt ?_
     obtain ⟨o98, ho99, h100⟩ := bind_some h87
     refine CWP.cut (fun f w => ∃ (s112 : (List (List Int) × Int)) (F6 : Mem) (as112_0 : Option Addr) (ns112_0 : Nat) (es112_0 : Option Nat × Obj), o98 = .done s112 ∧ HS w0 F0 w F6 [es112_0, es29_0] ∧ Mem.le F3 F6 ∧ FI f [] [(0, (.slice (some ⟨b88, o89, none⟩) x0.length n0_0)), (3, (.slice as29_0 s29.1.length ns29_0)), (4, (vi s29.2)), (5, (.slice as112_0 s112.1.length ns112_0)), (6, (vi s57.2))] ∧ RowR (tSl tInt) 47 F6 as112_0 ns112_0 s112.1 es112_0) ?_ ?_
     ·refine Bk ?_
      refine CWP.loop (by kernel_rfl) (fun m f w => ∃ (s101 : (List (List Int) × Int)) (F5 : Mem) (as101_0 : Option Addr) (ns101_0 : Nat) (es101_0 : Option Nat × Obj), iter (ref06_All_L2 N x0 s29 s57 x84) m s101 = some o98 ∧ HS w0 F0 w F5 [es101_0, es29_0] ∧ Mem.le F3 F5 ∧ FI f [] [(0, (.slice (some ⟨b88, o89, none⟩) x0.length n0_0)), (3, (.slice as29_0 s29.1.length ns29_0)), (4, (vi s29.2)), (5, (.slice as101_0 s101.1.length ns101_0)), (6, (vi s57.2)), (7, (vi s101.2))] ∧ RowR (tSl tInt) 47 F5 as101_0 ns101_0 s101.1 es101_0) N ⟨(s57.1, x84.Lo), F3, as57_0, ns57_0, es57_0, ho99, hs59, (Mem.le.refl _), fI, hrs57_0⟩ ?_
      rintro m122 f w102 ⟨s101, F5, as101_0, ns101_0, es101_0, hit123, hs103, le104, ⟨_, rfl⟩, hrs101_0⟩
      obtain ⟨m124, fl125, rfl, hb126, hnx127⟩ := iter_step hit123
      refine Sq ?_
      refine Sq (Rg [0, 1, 2, 3, 4, 5, 6] ?_)
      refine Vs 3 ?_
      obtain ⟨x128, hx129, h131⟩ := bind_some hb126
      obtain ⟨hi130, hx129'⟩ := idx_spec hx129
      have hc133 := hE95 _ _ hx129'
      refine Ix hi130 ?_
      refine Vs 1 ?_
      refine Lx 1 (hs103.pers _ _ (le104 _ _ hF94)) hc133 ?_
      refine Vs 1 ?_
      refine Nt ?_
      refine Cd h131 (fun hb134 h135 => ?_) (fun hb134 h136 => ?_)
      ·refine Sc ?_
       refine thenQ_nrm ?_
       refine Sq ?_
       refine Bk ?_
       refine Rg [0, 1, 2, 3, 4, 5, 6, 7, 8, 9, 10, 11, 12] ?_
       refine Vs 1 ?_
       refine Bs 3 [] hs103 (fun b137 w138 hs139 => ?_)
       have hr141 : RowR tInt 3 F5 (some ⟨b137, 0, none⟩) 0 ([] : List Int) (some b137, .cells ([] : List Value).toArray 3 (0, 0)) := RowR.lit rfl (by simp)
       refine Vs 2 ?_
       obtain ⟨x142, hx143, h145⟩ := bind_some h135
       obtain ⟨hi144, hx143'⟩ := idx_spec hx143
       obtain ⟨b146, C147, rfl, rfl, hE150⟩ := RowR.open (hrs29_0.mono (le60.trans le104)) hx143'
       have hr151 := (hrs29_0.mono (le60.trans le104))
       obtain ⟨ae152_0, ne152_0, hc153, hbe152_0, hse152_0⟩ := hE150 _ _ hx143'
       refine Ix0 hi144 ?_
       refine Lx 0 hs139.at2 hc153 ?_
       obtain ⟨r154, hap155, h156⟩ := bind_some h145
       refine Ap0 oInt hs139 hr141 (SlA.rd hs139 hse152_0) hap155 (fun a157 n158 e159 w160 hs161 hr162 => ?_)
       refine Vs 1 ?_
       refine Bs 3 [(vi s101.2)] hs161 (fun b163 w164 hs165 => ?_)
       have hr167 : RowR tInt 3 F5 (some ⟨b163, 0, none⟩) 1 [s101.2] (some b163, .cells ([(vi s101.2)] : List Value).toArray 3 (0, 0)) := RowR.lit ⟨rfl, rfl⟩ (by simp)
       obtain ⟨r168, hap169, h170⟩ := bind_some h156
       refine Ap1 oInt hs165 hr162 (hs165.rd0 hr167) hap169 (fun a171 n172 e173 w174 hs175 hr176 => ?_)
       have hb180 := RowR.bound hr176
       obtain ⟨F7, hs177, le178, hs179⟩ := hs175.fr1 hr176
       refine Bs 47 [(.slice a171 r168.length n172)] hs177 (fun b181 w182 hs183 => ?_)
       have hr185 : RowR (tSl tInt) 47 F7 (some ⟨b181, 0, none⟩) 1 [r168] (some b181, .cells ([(.slice a171 r168.length n172)] : List Value).toArray 47 (0, 0)) := RowR.lit ⟨⟨a171, n172, rfl, hb180, hs179⟩, rfl⟩ (by simp)
       obtain ⟨r186, hap187, h188⟩ := bind_some h170
       refine Ap2 oSl hs183 (hrs101_0.mono le178) (hs183.rd0 hr185) hap187 (fun a189 n190 e191 w192 hs193 hr194 => ?_)
       refine Vs 1 ?_
       refine RWP.nil ?_
       refine blockQ_nrm ?_
       refine thenQ_nrm ?_
       refine Rg [0, 1, 2] ?_
       refine Vs 3 ?_
       refine RWP.nil ?_
       have hn195 := iter_next h188 hnx127
       exact ⟨m124, Nat.lt_succ_self _, (r186, (W64 (s101.2 + 1))), F7, a189, n190, e191, hn195, hs193.dr0.dr0, (le104.trans le178), fI, hr194⟩
      ·refine Ex ?_
       refine thenQ_ex ?_
       refine thenQ_ex ?_
       refine blockQ_hit rfl ?_
       have ho196 := iter_done h136 hnx127
       exact .inl ⟨rfl, (s101.1, s101.2), F5, as101_0, ns101_0, es101_0, ho196, hs103, le104, fI, hrs101_0⟩
     ·rintro f w113 ⟨s112, F6, as112_0, ns112_0, es112_0, rfl, hs114, le115, ⟨_, rfl⟩, hrs112_0⟩
      have h197 := k_done h100
      refine blockQ_nrm ?_
      refine thenQ_nrm ?_
      refine Rg [0, 1, 2] ?_
      refine Vs 3 ?_
      refine RWP.nil ?_
      have hn198 := iter_next h197 hnx80
      exact ⟨m77, Nat.lt_succ_self _, (s112.1, (W64 (s57.2 + 1))), F6, as112_0, ns112_0, es112_0, hn198, hs114, (le60.trans le115), fI, hrs112_0⟩
    ·refine Ex ?_
     refine thenQ_ex ?_
     refine thenQ_ex ?_
     refine blockQ_hit rfl ?_
     have ho199 := iter_done h83 hnx80
     exact .inl ⟨rfl, (s57.1, s57.2), F3, as57_0, ns57_0, es57_0, ho199, hs59.dr1, le60, fI, hrs57_0⟩
   ·rintro f w68 ⟨s67, F4, as67_0, ns67_0, es67_0, rfl, hs69, le70, ⟨_, rfl⟩, hrs67_0⟩
    have h200 := k_done h56
    refine thenQ_nrm ?_
    refine Rg [0, 1] ?_
    refine Vs 2 ?_
    refine RWP.nil ?_
    refine blockQ_nrm ?_
    refine thenQ_nrm ?_
    refine Rg [0, 1, 2] ?_
    refine Vs 3 ?_
    refine RWP.nil ?_
    have hn201 := iter_next h200 hnx48
    exact ⟨m45, Nat.lt_succ_self _, (s67.1, (W64 (s29.2 + 1))), F4, as67_0, ns67_0, es67_0, hn201, hs69, (le32.trans le70), fI, hrs67_0⟩
  ·refine Ex ?_
   refine thenQ_ex ?_
   refine thenQ_ex ?_
   refine blockQ_hit rfl ?_
   have ho202 := iter_done h51 hnx48
   exact .inl ⟨rfl, (s29.1, s29.2), F1, as29_0, ns29_0, es29_0, ho202, hs31, le32, fI, hrs29_0⟩
 ·rintro f w38 ⟨s37, F2, as37_0, ns37_0, es37_0, rfl, hs39, le40, ⟨_, rfl⟩, hrs37_0⟩
  have h203 := k_done h28
  refine thenQ_nrm ?_
  refine Sq (Rg [0, 1] ?_)
  refine Vs 2 ?_
  refine Nt ?_
  refine Rt ?_
  have hb207 := RowR.bound hrs37_0
  obtain ⟨F8, hs204, le205, hs206⟩ := hs39.fr0 hrs37_0
  obtain rfl := some_inj h203
  exact Re [(.slice as37_0 s37.1.length ns37_0)] hs204 ⟨as37_0, ns37_0, rfl, hb207, hs206⟩
end Go.Proofs.YtaihlcdkcampbaaGreatDoor
namespace Go.Proofs.YtaihlcdkcampbaaGreatDoor
open Go.Proofs
def law06_few_L0 (N : Nat) (x0 : (List Span)) (x1 : Int) (r24 : Bool) : (Int × Int) → Option (Flow Bool (Int × Int)) := fun s38 =>
 (bif (decide (s38.2 < (x0.length : Int))) then (((idx x0 s38.2).bind fun x76 => ((idx x0 s38.2).bind fun x90 => some (W64 (s38.1 * (W64 ((W64 (x76.Hi - x90.Lo)) + 1)))))).bind fun j68 => some (.next (j68, (W64 (s38.2 + 1))))) else some (.done (s38.1, s38.2)))
def law06_few (N : Nat) (x0 : (List Span)) (x1 : Int) : Option Bool :=
 (bif (decide ((x0.length : Int) > 30)) then some false else ((ref06_Domains N x0).bind fun r24 => (bif (!r24) then some true else ((iter (law06_few_L0 N x0 x1 r24) N (1, 0)).bind fun o => o.k (fun r => some r) (fun s47 => some (decide (s47.1 ≤ x1)))))))
theorem co_law06_few : CallOk Tryz.prog 55 := fun _ _ => by kernel_rfl
theorem c_law06_few (N : Nat) (w0 : World) (F0 : Mem) (hF : ∀ b o, F0 b = some o → w0.heap[b]? = some o) (x0 : (List Span)) (a0_0 : Option Addr) (n0_0 : Nat) (hb0_0 : LC x0.length n0_0) (hs0_0 : SlA tSpan F0 a0_0 x0) (x1 : Int) (r : Bool) (h : law06_few N x0 x1 = some r) :
  Calls Tryz.prog 55 ([(.slice a0_0 x0.length n0_0), (vi x1)] : List Value).toArray w0 (FRet w0 F0 fun F' v => v = (.bool r)) := by
 have hs0 := HS.start hF
 refine Go 36 Tryz.func55 ?_
 refine Sq (Rg [0] ?_)
 refine Vs 1 ?_
 refine Nss ?_
 refine Sq (Rg [0, 1, 2] ?_)
 refine Vs 3 ?_
 refine Nt ?_
 refine Cd h (fun hb21 h22 => ?_) (fun hb21 h23 => ?_)
 ·refine Sq (Rg [0] ?_)
  refine Vs 1 ?_
  refine Nt ?_
  refine Rt ?_
  refine thenQ_ret ?_
  obtain rfl := some_inj h22
  exact Re [(.bool false)] hs0 rfl
 ·refine Sc ?_
  refine thenQ_nrm ?_
  refine Sq ?_
  refine Sq (Rg [0, 1, 2] ?_)
  refine Vs 1 ?_
  obtain ⟨r24, hr25, h26⟩ := bind_some h23
  refine Cl' co_ref06_Domains hs0 (c_ref06_Domains N w0 F0 hs0.pers (x0) a0_0 n0_0 hb0_0 hs0_0 _ hr25) ?_
  rintro _ F1 w28 hs29 le30 rfl
  refine Vs 1 ?_
  refine Nt ?_
  refine Cd h26 (fun hb32 h33 => ?_) (fun hb32 h34 => ?_)
  ·refine Sq (Rg [0] ?_)
   refine Vs 1 ?_
   refine Nt ?_
   refine Rt ?_
   refine thenQ_ret ?_
   obtain rfl := some_inj h33
   exact Re [(.bool true)] hs29 rfl
  ·refine Sc ?_
   refine thenQ_nrm ?_
   refine Sq (Rg [0] ?_)
   refine Vs 1 ?_
   refine Nss ?_
   refine Sq (Rg [0] ?_)
   refine Vs 1 ?_
   refine Nt ?_
   obtain ⟨o35, ho36, h37⟩ := bind_some h34
   refine CWP.cut (fun f w => ∃ (s47 : (Int × Int)) (F3 : Mem), o35 = .done s47 ∧ HS w0 F0 w F3 [] ∧ Mem.le F1 F3 ∧ FI f [] [(1, (vi x1)), (5, (vi s47.1))]) ?_ ?_
   ·refine Bk ?_
    refine CWP.loop (by kernel_rfl) (fun m f w => ∃ (s38 : (Int × Int)) (F2 : Mem), iter (law06_few_L0 N x0 x1 r24) m s38 = some o35 ∧ HS w0 F0 w F2 [] ∧ Mem.le F1 F2 ∧ FI f [] [(0, (.slice a0_0 x0.length n0_0)), (1, (vi x1)), (5, (vi s38.1)), (6, (vi s38.2))]) N ⟨(1, 0), F1, ho36, hs29, (Mem.le.refl _), fI⟩ ?_
    rintro m54 f w39 ⟨s38, F2, hit55, hs40, le41, ⟨_, rfl⟩⟩
    obtain ⟨m56, fl57, rfl, hb58, hnx59⟩ := iter_step hit55
    refine Sq ?_
    refine Sq (Rg [0, 1, 2, 3] ?_)
    refine Vs 4 ?_
    refine Nt ?_
    refine Cd hb58 (fun hb60 h61 => ?_) (fun hb60 h62 => ?_)
    ·refine Sc ?_
     refine thenQ_nrm ?_
     refine Sq ?_
     refine Bk ?_
     obtain ⟨j68, hj74, h75⟩ := bind_some h61
     refine RD 15 15 [] [] hs40 (fun f w => ∃ (F4 : Mem), HS w0 F0 w F4 [] ∧ Mem.le F2 F4 ∧ FI f [] [(0, (.slice a0_0 x0.length n0_0)), (1, (vi x1)), (5, (vi j68)), (6, (vi s38.2))]) (fun wd63 hw64 => ?_) ?_
     ·refine Dv [0, 1, 2] ?_
      obtain ⟨x76, hx77, h79⟩ := bind_some hj74
      obtain ⟨hi78, hx77'⟩ := idx_spec hx77
      obtain ⟨b80, o81, C82, E83, fz84, rfl, hF86, hE87⟩ := SlA.open (SlA.mono hs0_0 (le30.trans le41)) hx77'
      have hc89 := hE87 _ _ hx77'
      refine Di 3 hi78 ?_
      refine Dv [4] ?_
      refine Dx 5 1 (fun _ hq => hq.1.1 _ _ hF86) hc89 ?_
      refine Dv [6, 7] ?_
      obtain ⟨x90, hx91, h93⟩ := bind_some h79
      obtain ⟨hi92, hx91'⟩ := idx_spec hx91
      have hc95 := hE87 _ _ hx91'
      refine Di 8 hi92 ?_
      refine Dv [9] ?_
      refine Dx 10 0 (fun _ hq => hq.1.1 _ _ hF86) hc95 ?_
      refine Dv [11, 12, 13, 14] ?_
      obtain rfl := some_inj h93
      exact DWP.done (by kernel_rfl) ⟨F2, hw64, (Mem.le.refl _), fI⟩
     ·rintro f w65 ⟨F4, hs66, le67, ⟨_, rfl⟩⟩
      refine blockQ_nrm ?_
      refine thenQ_nrm ?_
      refine Rg [0, 1, 2] ?_
      refine Vs 3 ?_
      refine RWP.nil ?_
      have hn96 := iter_next h75 hnx59
      exact ⟨m56, Nat.lt_succ_self _, (j68, (W64 (s38.2 + 1))), F4, hn96, hs66, (le41.trans le67), fI⟩
    ·refine Ex ?_
     refine thenQ_ex ?_
     refine thenQ_ex ?_
     refine blockQ_hit rfl ?_
     have ho97 := iter_done h62 hnx59
     exact .inl ⟨rfl, (s38.1, s38.2), F2, ho97, hs40, le41, fI⟩
   ·rintro f w48 ⟨s47, F3, rfl, hs49, le50, ⟨_, rfl⟩⟩
    have h98 := k_done h37
    refine thenQ_nrm ?_
    refine Sq (Rg [0, 1, 2, 3] ?_)
    refine Vs 4 ?_
    refine Nt ?_
    refine Rt ?_
    obtain rfl := some_inj h98
    exact Re [(.bool (decide (s47.1 ≤ x1)))] hs49 rfl
end Go.Proofs.YtaihlcdkcampbaaGreatDoor
namespace Go.Proofs.YtaihlcdkcampbaaGreatDoor
def domF : Int → List Span → Bool
 | _, [] => true
 | p, s :: d => (decide (0 ≤ s.Lo) && (decide (s.Lo ≤ s.Hi) && decide (s.Hi ≤ 1000000))) && (decide (p * (s.Hi - s.Lo + 1) ≤ 4096) && domF (p * (s.Hi - s.Lo + 1)) d)
def dom (d : List Span) : Bool := decide (d.length = 14) && domF 1 d
theorem domF_vol : ∀ {d : List Span} {p : Int}, domF p d = true → 0 ≤ p → p ≤ 4096 → p * (vol d : Int) ≤ 4096
 | [], p, _, _, h => by simpa [vol] using h
 | s :: d, p, h, h0, _ => by
  unfold domF at h
  simp only [Bool.and_eq_true, decide_eq_true_eq] at h
  obtain ⟨⟨h1, h2, h3⟩, h4, h5⟩ := h
  have := domF_vol h5 (Int.mul_nonneg h0 (by omega)) h4
  unfold vol
  rw [Int.natCast_mul, show (((s.Hi + 1 - s.Lo).toNat : Nat) : Int) = s.Hi - s.Lo + 1 by omega, ← Int.mul_assoc]
  exact this
theorem domF_ok : ∀ {d : List Span} {p : Int}, domF p d = true → ∀ s, s ∈ d → 0 ≤ s.Lo ∧ s.Lo ≤ s.Hi ∧ s.Hi ≤ 1000000
 | [], _, _, s, hs => by cases hs
 | a :: d, p, h, s, hs => by
  unfold domF at h
  simp only [Bool.and_eq_true, decide_eq_true_eq] at h
  rcases List.mem_cons.1 hs with rfl | hs
  ·exact h.1
  ·exact domF_ok h.2.2 s hs
theorem dom_len {d : List Span} (h : dom d = true) : d.length = 14 := by unfold dom at h; simp at h; exact h.1
theorem dom_ok {d : List Span} (h : dom d = true) : ∀ s, s ∈ d → 0 ≤ s.Lo ∧ s.Lo ≤ s.Hi ∧ s.Hi ≤ 1000000 := by unfold dom at h; simp only [Bool.and_eq_true] at h; exact domF_ok h.2
theorem dom_okD {d : List Span} (h : dom d = true) : okD d := fun s hs => (dom_ok h s hs).2.1
theorem dom_vol {d : List Span} (h : dom d = true) : vol d ≤ 4096 := by
 unfold dom at h; simp only [Bool.and_eq_true] at h
 have := domF_vol h.2 (by omega) (by omega); omega
theorem dom_fac {d : List Span} (h : dom d = true) {f : List Int} (hf : f ∈ allL d) : fac f = true := by
 have hb := mem_allL.1 hf
 have hl := box_len hb
 have hd := dom_len h
 unfold fac
 simp only [Bool.and_eq_true, decide_eq_true_eq, List.all_eq_true]
 refine ⟨by omega, fun n hn => ?_⟩
 obtain ⟨i, hi, rfl⟩ := List.getElem_of_mem hn
 have h1 := box_get hb i (by omega) hi
 have h2 := dom_ok h d[i] (List.getElem_mem (by omega))
 omega
section
variable {N : Nat}
theorem dom_step {p : Int} {s : Span} {d : List Span} (hp : 0 ≤ p) (hp' : p ≤ 4096) (h : 0 ≤ s.Lo ∧ s.Lo ≤ s.Hi ∧ s.Hi ≤ 1000000) : W64 (p * (W64 ((W64 (s.Hi - s.Lo)) + 1))) = p * (s.Hi - s.Lo + 1) ∧ 0 ≤ p * (s.Hi - s.Lo + 1) := by
 rw [W64_small (n := s.Hi - s.Lo) (by omega) (by omega), W64_small (n := s.Hi - s.Lo + 1) (by omega) (by omega)]
 have h1 : 0 ≤ p * (s.Hi - s.Lo + 1) := Int.mul_nonneg hp (by omega)
 have h2 : p * (s.Hi - s.Lo + 1) ≤ 4096 * 1000001 := Int.mul_le_mul hp' (by omega) (by omega) (by omega)
 exact ⟨W64_small (by omega) (by omega), h1⟩
theorem dom_iter {d : List Span} {body : Int × Int → Option (Flow Bool (Int × Int))} (hN : 100 < N) (hd : d.length = 14)
  (hb : ∀ (i : Nat) (p : Int) (h : i < d.length), 0 ≤ p → p ≤ 4096 → body (p, (i : Int)) = some (if (decide (0 ≤ d[i].Lo) && (decide (d[i].Lo ≤ d[i].Hi) && decide (d[i].Hi ≤ 1000000))) && decide (p * (d[i].Hi - d[i].Lo + 1) ≤ 4096) then .next (p * (d[i].Hi - d[i].Lo + 1), ((i + 1 : Nat) : Int)) else .ret false)) (he : ∀ p, body (p, (d.length : Int)) = some (.done (p, (d.length : Int)))) :
  ((iter body N (1, 0)).bind fun o => o.k (fun r => some r) (fun _ => some true)) = some (domF 1 d) := by
 obtain ⟨o, ho, hR⟩ := iter_ex (body := body) d.length (fun i s => s.2 = (i : Int) ∧ 0 ≤ s.1 ∧ s.1 ≤ 4096 ∧ domF 1 d = domF s.1 (d.drop i)) (fun o => o.k (fun r => some r) (fun _ => some true) = some (domF 1 d)) (by
  rintro i ⟨p, q⟩ hi ⟨h1, h2, h3, h4⟩
  simp only at h1 h2 h3 h4
  subst h1
  by_cases h : i < d.length
  ·have e := hb i p h h2 h3
   rw [List.drop_eq_getElem_cons h, domF] at h4
   cases hc : (decide (0 ≤ d[i].Lo) && (decide (d[i].Lo ≤ d[i].Hi) && decide (d[i].Hi ≤ 1000000))) && decide (p * (d[i].Hi - d[i].Lo + 1) ≤ 4096) with
   | true =>
    rw [hc, if_pos rfl] at e
    simp only [Bool.and_eq_true, decide_eq_true_eq] at hc
    refine .inl ⟨_, e, ⟨rfl, Int.mul_nonneg h2 (by omega), hc.2, ?_⟩, h⟩
    rw [h4]
    simp [hc.1.1, hc.1.2.1, hc.1.2.2, hc.2]
   | false =>
    rw [hc, if_neg (by simp)] at e
    refine .inr ⟨_, e, fun _ h => (by cases h), ?_⟩
    rw [h4, ← Bool.and_assoc, hc]; rfl
  ·have : i = d.length := by omega
   subst this
   refine .inr ⟨_, he p, fun _ h => (by cases h), ?_⟩
   rw [h4, List.drop_length]; rfl) d.length N 0 (1, 0) (by omega) ⟨rfl, by omega, by omega, by simp⟩ (by omega)
 rw [ho, Option.bind_some]; exact hR
theorem s_domains (hN : 100 < N) (d : List Span) : rules_domains N d = some (dom d) := by
 unfold rules_domains dom
 by_cases hd : d.length = 14
 ·rw [show ((d.length : Int) != 14) = false by rw [hd]; rfl, cond_false, decide_eq_true hd, Bool.true_and]
  refine dom_iter hN hd (fun i p h h2 h3 => ?_) fun p => ?_
  ·unfold rules_domains_L0
   simp only
   rw [lt_t h, cond_true, idx_nat h, Option.bind_some]
   by_cases hc : 0 ≤ d[i].Lo ∧ d[i].Lo ≤ d[i].Hi ∧ d[i].Hi ≤ 1000000
   ·rw [(dom_step h2 h3 hc (d := [])).1, W64_succ (by omega)]
    have e1 : (decide (d[i].Lo < 0) || (decide (d[i].Lo > d[i].Hi) || decide (d[i].Hi > 1000000))) = false := by simp; omega
    rw [e1, cond_false]
    by_cases hv : p * (d[i].Hi - d[i].Lo + 1) ≤ 4096
    ·rw [decide_eq_false (by omega), cond_false]; simp [hc.1, hc.2.1, hc.2.2, hv]
    ·rw [decide_eq_true (by omega), cond_true]; simp [hv]
   ·have e1 : (decide (d[i].Lo < 0) || (decide (d[i].Lo > d[i].Hi) || decide (d[i].Hi > 1000000))) = true := by simp; omega
    rw [e1, cond_true, if_neg]
    simp only [Bool.and_eq_true, decide_eq_true_eq]; exact fun h => hc h.1
  ·unfold rules_domains_L0
   simp only
   rw [lt_f, cond_false]
 ·rw [show ((d.length : Int) != 14) = true by simp; omega, cond_true, decide_eq_false hd]; rfl
theorem s_Domains (hN : 100 < N) (d : List Span) : ref06_Domains N d = some (dom d) := by
 unfold ref06_Domains dom
 by_cases hd : d.length = 14
 ·rw [show ((d.length : Int) != 14) = false by rw [hd]; rfl, cond_false, decide_eq_true hd, Bool.true_and]
  refine dom_iter hN hd (fun i p h h2 h3 => ?_) fun p => ?_
  ·unfold ref06_Domains_L0
   simp only
   rw [lt_t h, cond_true]
   simp only [idx_nat h, Option.bind_some]
   by_cases hc : 0 ≤ d[i].Lo ∧ d[i].Lo ≤ d[i].Hi ∧ d[i].Hi ≤ 1000000
   ·rw [(dom_step h2 h3 hc (d := [])).1, W64_succ (by omega)]
    rw [decide_eq_false (by omega : ¬ d[i].Lo < 0), cond_false, decide_eq_false (by omega : ¬ d[i].Hi < d[i].Lo), cond_false, decide_eq_false (by omega : ¬ d[i].Hi > 1000000), Option.bind_some, cond_false]
    by_cases hv : p * (d[i].Hi - d[i].Lo + 1) ≤ 4096
    ·rw [decide_eq_false (by omega), cond_false]; simp [hc.1, hc.2.1, hc.2.2, hv]
    ·rw [decide_eq_true (by omega), cond_true]; simp [hv]
   ·rw [if_neg (by simp only [Bool.and_eq_true, decide_eq_true_eq]; exact fun h => hc h.1)]
    by_cases h1 : d[i].Lo < 0
    ·rw [decide_eq_true h1, cond_true, Option.bind_some, cond_true]
    ·rw [decide_eq_false h1, cond_false]
     by_cases h2 : d[i].Hi < d[i].Lo
     ·rw [decide_eq_true h2, cond_true, Option.bind_some, cond_true]
     ·rw [decide_eq_false h2, cond_false, decide_eq_true (by omega), Option.bind_some, cond_true]
  ·unfold ref06_Domains_L0
   simp only
   rw [lt_f, cond_false]
 ·rw [show ((d.length : Int) != 14) = true by simp; omega, cond_true, decide_eq_false hd]; rfl
theorem s_few (hN : 100 < N) (d : List Span) (k : Int) : ∃ b, law06_few N d k = some b ∧ (dom d = false → d.length ≤ 30 → b = true) := by
 unfold law06_few
 by_cases hl : d.length > 30
 ·exact ⟨false, by rw [decide_eq_true (by omega), cond_true], fun _ h => by omega⟩
 ·rw [decide_eq_false (by omega), cond_false, s_Domains hN, Option.bind_some]
  cases hd : dom d with
  | false => exact ⟨true, rfl, fun _ _ => rfl⟩
  | true =>
   rw [show (!true) = false from rfl, cond_false]
   rw [iter_fold d (fun s => some (W64 (W64 (s.Hi - s.Lo) + 1))) (fun s => W64 (W64 (s.Hi - s.Lo) + 1)) (fun s r => W64 (s * r)) (fun _ _ => rfl) (fun s i => by
    unfold law06_few_L0
    simp only
    cases decide (i < (d.length : Int)) with
    | false => rfl
    | true =>
     rw [cond_true, cond_true]
     cases idx d i <;> rfl) (by omega) (by omega)]
   exact ⟨_, rfl, fun h => by cases h⟩
variable {σ : Type}
def foldY (y : σ → List Int → Option (Bool × σ)) : List (List Int) → σ → Option σ
 | [], s => some s
 | x :: l, s => (y s x).bind fun q => bif q.1 then foldY y l q.2 else some q.2
theorem los_get {d : List Span} {i : Nat} (h : i < (los d).length) : (los d)[i] = (d[i]'(by simpa [los] using h)).Lo := by simp [los]
theorem los_len (d : List Span) : (los d).length = d.length := by simp [los]
theorem set_take {α : Type} {l m : List α} {k : Nat} {x : α} (hk : k < l.length) (hm : m.length = l.length) (hx : m[k]'(by omega) = x) : (l.take (k + 1) ++ m.drop (k + 1)).set k x = l.take k ++ m.drop k := by
 subst hx
 apply List.ext_getElem
 ·simp; omega
 ·intro i h1 h2
  rw [List.getElem_set]
  split
  ·rename_i e; subst e
   rw [List.getElem_append_right (by simp; omega)]
   simp [Nat.min_eq_left (Nat.le_of_lt hk)]
  ·rename_i e
   by_cases hi : i < k
   ·rw [List.getElem_append_left (by simp; omega), List.getElem_append_left (by simp; omega)]
    simp
   ·rw [List.getElem_append_right (by simp; omega), List.getElem_append_right (by simp; omega)]
    simp only [List.length_take, List.getElem_drop]
    congr 1
    omega
theorem iter_nx {ρ τ : Type} {body : τ → Option (Flow ρ τ)} {m : Nat} {s s' : τ} (h : body s = some (.next s')) : iter body (m + 1) s = iter body m s' := by rw [iter, h]
theorem iter_dn {ρ τ : Type} {body : τ → Option (Flow ρ τ)} {m : Nat} {s x : τ} (h : body s = some (.done x)) : iter body (m + 1) s = some (.done x) := by rw [iter, h]
theorem back_iter {y : σ → List Int → Option (Bool × σ)} {d : List Span} {s : σ} {r1 : List Int} {s27 : Int × List Int × σ} {s87 : List Int × σ} {q : Bool × σ} {f : List Int} {t : σ} (hd : d.length = 14) (hb : box d f) :
  ∀ (k m : Nat), k ≤ 14 → k < m → (∀ (j : Nat) (h1 : j < d.length) (h2 : j < f.length), k ≤ j → f[j] = d[j].Hi) →
   ∃ o, iter (rules_all_1_L2 N y d s r1 s27 s87 q) m ((k : Int) - 1, f.take k ++ (los d).drop k, t) = some (.done o) ∧ o.2.2 = t ∧
    ((o.1 < 0 ∧ suc d f = none) ∨ ∃ (i : Nat) (h1 : i < d.length) (h2 : i < f.length), o.1 = (i : Int) ∧ o.2.1 = f.take (i + 1) ++ (los d).drop (i + 1) ∧ suc d f = some (f.take i ++ (f[i] + 1) :: los (d.drop (i + 1))) ∧ f[i] < d[i].Hi)
 | 0, m + 1, _, _, hall => by
  refine ⟨((0 : Nat) - 1, f.take 0 ++ (los d).drop 0, t), ?_, rfl, .inl ⟨by simp, suc_none (box_len hb) fun i h1 h2 => hall i h1 h2 (by omega)⟩⟩
  rw [iter]
  unfold rules_all_1_L2
  simp only
  rw [decide_eq_false (by omega), cond_false, Option.bind_some, cond_false]
 | k + 1, m + 1, hk, hm, hall => by
  have hl := box_len hb
  have hkl : k < d.length := by omega
  have hkf : k < f.length := by omega
  have hg : k < (f.take (k + 1) ++ (los d).drop (k + 1)).length := by simp [los]; omega
  have hge : (f.take (k + 1) ++ (los d).drop (k + 1))[k] = f[k] := by
   rw [List.getElem_append_left (by simp; omega)]; simp
  have hbk := box_get hb k hkl hkf
  rw [show (((k + 1 : Nat) : Int) - 1) = (k : Int) by omega]
  by_cases hh : f[k] = d[k].Hi
  ·obtain ⟨o, h1, h2, h3⟩ := back_iter (y := y) (s := s) (r1 := r1) (s27 := s27) (s87 := s87) (q := q) (t := t) hd hb k m (by omega) (by omega) fun j h1 h2 hj => by
    by_cases hjk : j = k
    ·subst hjk; exact hh
    ·exact hall j h1 h2 (by omega)
   refine ⟨o, ?_, h2, h3⟩
   rw [iter_nx (s' := ((k : Int) - 1, f.take k ++ (los d).drop k, t)), h1]
   unfold rules_all_1_L2
   simp only
   rw [decide_eq_true (by omega), cond_true, idx_nat hg, Option.bind_some, idx_nat hkl, Option.bind_some, Option.bind_some, hge, hh]
   rw [show (d[k].Hi == d[k].Hi) = true by simp, cond_true, Option.bind_some, Option.bind_some, Int.toNat_natCast, set_take hkf (by rw [los_len]; omega) (los_get _), W64_small (by omega) (by omega)]
  ·refine ⟨((k : Int), f.take (k + 1) ++ (los d).drop (k + 1), t), ?_, rfl, .inr ⟨k, hkl, hkf, rfl, rfl, suc_at hl hkl hkf (by omega) fun j h1 h2 hj => hall j h1 h2 (by omega), by omega⟩⟩
   rw [iter_dn (x := ((k : Int), f.take (k + 1) ++ (los d).drop (k + 1), t))]
   unfold rules_all_1_L2
   simp only
   rw [decide_eq_true (by omega), cond_true, idx_nat hg, Option.bind_some, idx_nat hkl, Option.bind_some, Option.bind_some, hge]
   rw [show (f[k] == d[k].Hi) = false by simpa using hh, cond_false]
theorem set_next {d : List Span} {f : List Int} {i : Nat} (hl : f.length = d.length) (hi : i < f.length) : (f.take (i + 1) ++ (los d).drop (i + 1)).set i (f[i] + 1) = f.take i ++ (f[i] + 1) :: los (d.drop (i + 1)) := by
 have e : los (d.drop (i + 1)) = (los d).drop (i + 1) := by simp [los]
 rw [e]
 have h2 : (los d).length = f.length := by rw [los_len]; omega
 apply List.ext_getElem
 ·simp [los]; omega
 ·intro j h1 h3
  rw [List.getElem_set]
  split
  ·rename_i e; subst e
   rw [List.getElem_append_right (by simp; omega)]
   simp [Nat.min_eq_left (Nat.le_of_lt hi)]
  ·rename_i e
   by_cases hj : j < i
   ·rw [List.getElem_append_left (by simp; omega), List.getElem_append_left (by simp; omega)]
    simp
   ·rw [List.getElem_append_right (by simp; omega), List.getElem_append_right (by simp; omega)]
    rw [List.getElem_cons]
    have h4 : ¬ (j - (f.take i).length = 0) := by simp; omega
    rw [dif_neg h4]
    simp only [List.length_take, List.getElem_drop]
    congr 1
    omega
theorem rounds {y : σ → List Int → Option (Bool × σ)} {d : List Span} {s : σ} {r1 : List Int} {s27 : Int × List Int × σ} (hd : dom d = true) (hN : 100 < N) :
  ∀ (k : Nat) (f : List Int) (t : σ) (m : Nat), box d f → (frm d f).length ≤ k → k < m →
   ((iter (rules_all_1_L1 N y d s r1 s27) m (f, t)).bind fun o => o.k (fun r => some r) (fun s97 => some s97.2)) = foldY y (frm d f) t
 | k, f, t, 0, _, _, hm => absurd hm (by omega)
 | k, f, t, m + 1, hb, hk, hm => by
  have hdl := dom_len hd
  have hl := box_len hb
  rw [frm_suc (dom_okD hd) hb] at hk ⊢
  rw [foldY, iter]
  unfold rules_all_1_L1
  simp only
  cases hy : y t f with
  | none => rfl
  | some q =>
   rw [Option.bind_some, Option.bind_some]
   cases hq : q.1 with
   | false => rfl
   | true =>
    rw [cond_true, cond_true]
    obtain ⟨o, h1, h2, h3⟩ := back_iter (N := N) (y := y) (s := s) (r1 := r1) (s27 := s27) (s87 := (f, t)) (q := q) (t := q.2) hdl hb 14 N (by omega) (by omega) fun j h4 h5 hj => by omega
    rw [show (((14 : Nat) : Int) - 1) = W64 ((d.length : Int) - 1) by rw [hdl]; rfl] at h1
    rw [List.take_of_length_le (by omega), List.drop_of_length_le (by rw [los_len]; omega), List.append_nil] at h1
    rw [h1, Option.bind_some]
    simp only [Flow.k]
    rcases h3 with ⟨h4, h5⟩ | ⟨i, h4, h5, h6, h7, h8, h9⟩
    ·rw [decide_eq_true h4, cond_true, h5, Option.elim_none, h2]
     rfl
    ·have hg : i < o.2.1.length := by rw [h7]; simp [los]; omega
     have hge : o.2.1[i] = f[i] := by
      simp only [h7]
      rw [List.getElem_append_left (by simp; omega)]; simp
     have hbi := box_get hb i h4 h5
     have hdi := dom_ok hd d[i] (List.getElem_mem h4)
     rw [h6, decide_eq_false (by omega), cond_false, idx_nat hg, Option.bind_some, Option.bind_some, hge, Int.toNat_natCast, W64_small (by omega) (by omega), h7, set_next hl h5, h2]
     simp only [← h7]
     rw [h8, Option.elim_some] at hk
     rw [h8, Option.elim_some]
     have hb' : box d (f.take i ++ (f[i] + 1) :: los (d.drop (i + 1))) := suc_box (dom_okD hd) hb h8
     simp only [List.length_cons] at hk
     obtain ⟨k', rfl⟩ : ∃ k', k = k' + 1 := ⟨k - 1, by omega⟩
     exact rounds hd hN k' _ q.2 m hb' (by omega) (by omega)
theorem first_iter {y : σ → List Int → Option (Bool × σ)} {d : List Span} {s : σ} {r1 : List Int} (hr : r1.length = d.length) (hd : d.length = 14) (hN : 100 < N) :
  iter (rules_all_1_L0 N y d s r1) N (0, r1, s) = some (.done ((d.length : Int), los d, s)) := by
 obtain ⟨o, ho, rfl⟩ := iter_ex (body := rules_all_1_L0 N y d s r1) d.length (fun i t => t = ((i : Int), (los d).take i ++ r1.drop i, s)) (fun o => o = .done ((d.length : Int), los d, s)) (by
  rintro i t hi rfl
  by_cases h : i < d.length
  ·refine .inl ⟨((i + 1 : Nat), (los d).take (i + 1) ++ r1.drop (i + 1), s), ?_, rfl, h⟩
   unfold rules_all_1_L0
   simp only
   have hg : i < ((los d).take i ++ r1.drop i).length := by simp [los]; omega
   rw [lt_t h, cond_true, idx_nat h, Option.bind_some, idx_nat hg, Option.bind_some, W64_succ (by omega), Int.toNat_natCast]
   have : ((los d).take i ++ r1.drop i).set i d[i].Lo = (los d).take (i + 1) ++ r1.drop (i + 1) := by
    rw [List.set_append_right _ _ (by simp; omega)]
    rw [show i - ((los d).take i).length = 0 by simp [los]; omega]
    rw [List.drop_eq_getElem_cons (by omega : i < r1.length), List.set_cons_zero, List.take_succ_eq_append_getElem (by rw [los_len]; exact h), los_get]
    simp
   rw [this]
  ·have : i = d.length := by omega
   subst this
   refine .inr ⟨.done ((d.length : Int), (los d).take d.length ++ r1.drop d.length, s), ?_, (fun _ h => by cases h), ?_⟩
   ·unfold rules_all_1_L0
    simp only
    rw [lt_f, cond_false]
   ·rw [List.take_of_length_le (by rw [los_len]; omega), List.drop_of_length_le (by omega), List.append_nil]) d.length N 0 (0, r1, s) (by omega) (by simp) (by omega)
 exact ho
theorem s_all1 (y : σ → List Int → Option (Bool × σ)) {d : List Span} (s : σ) (hd : dom d = true) (hN : 5000 < N) : rules_all_1 N y d s = foldY y (allL d) s := by
 unfold rules_all_1
 have hdl := dom_len hd
 have e : mk0 (0 : Int) (d.length : Int) = some (List.replicate 14 0) := by rw [hdl]; rfl
 rw [e, Option.bind_some, first_iter (by simp [hdl]) hdl (by omega), Option.bind_some]
 simp only [Flow.k]
 have hv := dom_vol hd
 have hf := frm_los (dom_okD hd)
 have := rounds (N := N) (y := y) (s := s) (r1 := List.replicate 14 0) (s27 := ((d.length : Int), los d, s)) hd (by omega) (vol d) (los d) s N (los_box (dom_okD hd)) (by rw [hf, allL_length]; omega) (by omega)
 rw [hf] at this
 exact this
theorem find_fold {p : List Int → Option Bool} {q : List Int → Bool} : ∀ {L : List (List Int)}, (∀ f, f ∈ L → p f = some (q f) ∧ f.length < 4294967296) → foldY (findY N p) L none = some (L.find? q)
 | [], _ => rfl
 | x :: L, h => by
  obtain ⟨h1, h2⟩ := h x (List.mem_cons_self ..)
  rw [foldY]
  unfold findY
  simp only
  rw [h1, Option.bind_some, List.find?_cons]
  cases hq : q x with
  | true =>
   rw [cond_true]
   unfold slices_Clone_int_int
   rw [apnd_ok (by simpa using h2)]; rfl
  | false =>
   rw [cond_false, Option.bind_some, cond_true]
   exact find_fold fun f hf => h f (List.mem_cons_of_mem _ hf)
def found (o : Option (List Int)) : List Int × Int := match o with | some c => (c, 0) | none => ([], 3)
theorem s_find {d : List Span} {p : List Int → Option Bool} {q : List Int → Bool} (hd : dom d = true) (hN : 5000 < N) (h : ∀ f, f ∈ allL d → p f = some (q f)) : rules_find N d p = some (found ((allL d).find? q)) := by
 unfold rules_find
 rw [s_all1 _ _ hd hN, find_fold fun f hf => ⟨h f hf, by have := box_len (mem_allL.1 hf); have := dom_len hd; omega⟩, Option.bind_some]
 cases (allL d).find? q <;> rfl
end
end Go.Proofs.YtaihlcdkcampbaaGreatDoor
namespace Go.Proofs.YtaihlcdkcampbaaGreatDoor
open Go.Proofs
end Go.Proofs.YtaihlcdkcampbaaGreatDoor
namespace Go.Proofs.YtaihlcdkcampbaaGreatDoor
open Go.Proofs
end Go.Proofs.YtaihlcdkcampbaaGreatDoor
namespace Go.Proofs.YtaihlcdkcampbaaGreatDoor
open Go.Proofs
end Go.Proofs.YtaihlcdkcampbaaGreatDoor
namespace Go.Proofs.YtaihlcdkcampbaaGreatDoor
open Go.Proofs
end Go.Proofs.YtaihlcdkcampbaaGreatDoor
namespace Go.Proofs.YtaihlcdkcampbaaGreatDoor
open Go.Proofs
end Go.Proofs.YtaihlcdkcampbaaGreatDoor
namespace Go.Proofs.YtaihlcdkcampbaaGreatDoor
open Go.Proofs
end Go.Proofs.YtaihlcdkcampbaaGreatDoor
namespace Go.Proofs.YtaihlcdkcampbaaGreatDoor
open Go.Proofs
end Go.Proofs.YtaihlcdkcampbaaGreatDoor
namespace Go.Proofs.YtaihlcdkcampbaaGreatDoor
open Go.Proofs
end Go.Proofs.YtaihlcdkcampbaaGreatDoor
namespace Go.Proofs.YtaihlcdkcampbaaGreatDoor
open Go.Proofs
end Go.Proofs.YtaihlcdkcampbaaGreatDoor
namespace Go.Proofs.YtaihlcdkcampbaaGreatDoor
open Go.Proofs
def rules_Differ_1 (N : Nat) (x0 : (List Int)) (z0 : Expr) (z1 : Expr) : Option Bool :=
 (((rules_value N z0 x0).bind fun r31 => ((rules_value N z1 x0).bind fun r39 => some (r31 != r39))).bind fun j26 => some j26)
theorem co_rules_Differ_1 : CallOk Tryz.prog 116 := fun _ _ => by kernel_rfl
theorem c_rules_Differ_1 (N : Nat) (w0 : World) (F0 : Mem) (hF : ∀ b o, F0 b = some o → w0.heap[b]? = some o) (x0 : (List Int)) (a0_0 : Option Addr) (n0_0 : Nat) (hb0_0 : LC x0.length n0_0) (hs0_0 : SlA tInt F0 a0_0 x0) (bz0 : Nat) (z0 : Expr) (az0_2 : Option Addr) (nz0_2 : Nat) (hbz0_2 : LC z0.Kids.length nz0_2) (hsz0_2 : SlA tExpr F0 az0_2 z0.Kids) (hz0 : F0 bz0 = some (oc (kExpr z0 az0_2 nz0_2) 33)) (bz1 : Nat) (z1 : Expr) (az1_2 : Option Addr) (nz1_2 : Nat) (hbz1_2 : LC z1.Kids.length nz1_2) (hsz1_2 : SlA tExpr F0 az1_2 z1.Kids) (hz1 : F0 bz1 = some (oc (kExpr z1 az1_2 nz1_2) 33)) (r : Bool) (h : rules_Differ_1 N x0 z0 z1 = some r) :
  Calls Tryz.prog 116 ([(.slice a0_0 x0.length n0_0), (pt bz0 0), (pt bz1 0)] : List Value).toArray w0 (FRet w0 F0 fun F' v => v = (.bool r)) := by
 have hs0 := HS.start hF
 refine Go 12 Tryz.func116 ?_
 refine Sq (Rg [0] ?_)
 refine Vs 1 ?_
 refine Nss ?_
 obtain ⟨j26, hj29, h30⟩ := bind_some h
 refine RD 8 8 [] [] hs0 (fun f w => ∃ (F1 : Mem), HS w0 F0 w F1 [] ∧ Mem.le F0 F1 ∧ FI f [] [(4, (.bool j26))]) (fun wd21 hw22 => ?_) ?_
 ·refine Dl 0 (fun _ hq => (hq.1.1 _ _ hz0)) ?_
  refine Dv [1] ?_
  refine Dl 3 (fun _ hq => (hq.1.1 _ _ hz1)) ?_
  refine Dv [4] ?_
  refine D1 2 ?_
  obtain ⟨r31, hr32, h33⟩ := bind_some hj29
  refine DCl co_rules_value hw22 (c_rules_value N wd21 F0 hw22.pers (z0) az0_2 nz0_2 hbz0_2 hsz0_2 (x0) a0_0 n0_0 hb0_0 hs0_0 _ hr32) ?_
  rintro _ F2 w35 hs36 le37 rfl
  refine D1 5 ?_
  obtain ⟨r39, hr40, h41⟩ := bind_some h33
  refine DCl co_rules_value hs36 (c_rules_value N w35 F2 hs36.pers (z1) az1_2 nz1_2 hbz1_2 (SlA.mono hsz1_2 le37) (x0) a0_0 n0_0 hb0_0 (SlA.mono hs0_0 le37) _ hr40) ?_
  rintro _ F3 w43 hs44 le45 rfl
  refine Dv [6, 7] ?_
  obtain rfl := some_inj h41
  exact DWP.done (by kernel_rfl) ⟨F3, hs44, (le37.trans le45), fI⟩
 ·rintro f w23 ⟨F1, hs24, le25, ⟨_, rfl⟩⟩
  refine thenQ_nrm ?_
  refine Rt ?_
  obtain rfl := some_inj h30
  exact Re [(.bool j26)] hs24 rfl
end Go.Proofs.YtaihlcdkcampbaaGreatDoor
namespace Go.Proofs.YtaihlcdkcampbaaGreatDoor
open Go.Proofs
def rules_Differ (N : Nat) (x0 : Expr) (x1 : Expr) (x2 : (List Span)) : Option ((List Int) × Int) :=
 (((rules_sound N x0).bind fun r40 => (bif (!r40) then some true else ((rules_sound N x1).bind fun r51 => (bif (!r51) then some true else ((rules_kindOf N x0).bind fun r62 => ((rules_kindOf N x1).bind fun r70 => some (r62 != r70))))))).bind fun j32 => (bif j32 then some (([] : List Int), 61) else ((rules_domains N x2).bind fun r81 => (bif (!r81) then some (([] : List Int), 64) else ((rules_find N x2 (fun y0 => rules_Differ_1 N y0 x0 x1)).bind fun r98 => some (r98.1, r98.2))))))
theorem co_rules_Differ : CallOk Tryz.prog 56 := fun _ _ => by kernel_rfl
theorem c_rules_Differ (N : Nat) (w0 : World) (F0 : Mem) (hF : ∀ b o, F0 b = some o → w0.heap[b]? = some o) (x0 : Expr) (a0_2 : Option Addr) (n0_2 : Nat) (hb0_2 : LC x0.Kids.length n0_2) (hs0_2 : SlA tExpr F0 a0_2 x0.Kids) (x1 : Expr) (a1_2 : Option Addr) (n1_2 : Nat) (hb1_2 : LC x1.Kids.length n1_2) (hs1_2 : SlA tExpr F0 a1_2 x1.Kids) (x2 : (List Span)) (a2_0 : Option Addr) (n2_0 : Nat) (hb2_0 : LC x2.length n2_0) (hs2_0 : SlA tSpan F0 a2_0 x2) (r : ((List Int) × Int)) (h : rules_Differ N x0 x1 x2 = some r) :
  Calls Tryz.prog 56 ([(.agg (kExpr x0 a0_2 n0_2)), (.agg (kExpr x1 a1_2 n1_2)), (.slice a2_0 x2.length n2_0)] : List Value).toArray w0 (FRet w0 F0 fun F' v => ∃ (aq0_0 : Option Addr) (nq0_0 : Nat), v = (.tuple #[(.slice aq0_0 r.1.length nq0_0), (vi r.2)]) ∧ LC r.1.length nq0_0 ∧ SlA tInt F' aq0_0 r.1) := by
 have hs0 := HS.start hF
 refine Go 33 Tryz.func56 ?_
 refine Sq (Rg [0, 1, 2, 3] ?_)
 refine Bx' 33 (kExpr x0 a0_2 n0_2) hs0 (fun b21 w22 hs23 => ?_)
 refine Bx' 33 (kExpr x1 a1_2 n1_2) hs23 (fun b24 w25 hs26 => ?_)
 refine Vs 2 ?_
 refine Nss ?_
 refine Bk ?_
 refine Sq ?_
 obtain ⟨j32, hj38, h39⟩ := bind_some h
 refine RD 16 16 [(sb b24 (kExpr x1 a1_2 n1_2) 33), (sb b21 (kExpr x0 a0_2 n0_2) 33)] [] hs26 (fun f w => ∃ (F1 : Mem), HS w0 F0 w F1 [(sb b24 (kExpr x1 a1_2 n1_2) 33), (sb b21 (kExpr x0 a0_2 n0_2) 33)] ∧ Mem.le F0 F1 ∧ FI f [] [(2, (.slice a2_0 x2.length n2_0)), (3, (pt b21 0)), (4, (pt b24 0)), (8, (.bool j32))]) (fun wd27 hw28 => ?_) ?_
 ·refine Dl 0 (fun _ hq => (hq.1.2 1 _ _ rfl)) ?_
  refine D1 1 ?_
  obtain ⟨r40, hr41, h42⟩ := bind_some hj38
  refine DCl co_rules_sound hw28 (c_rules_sound N wd27 F0 hw28.pers (x0) a0_2 n0_2 hb0_2 hs0_2 _ hr41) ?_
  rintro _ F2 w44 hs45 le46 rfl
  refine Dv [2, 3] ?_
  refine Sd h42 (fun hb48 h49 => ?_) (fun hb48 h50 => ?_)
  ·refine Dk [(4, 13), (5, 14), (6, 15)] 3 false 12 hb48 ?_
   refine Dt 7 16 4 _ (fun _ hq => p1 12 (.const (.bool true)) (.tmp 15) (.bool true) hb48) ?_
   refine Dv [8] ?_
   refine Dk [(9, 18), (10, 19), (11, 20), (12, 21), (13, 22)] 8 false 17 rfl ?_
   refine Dt 14 23 4 _ (fun _ hq => p1 17 (.const (.bool true)) (.tmp 22) (.bool true) rfl) ?_
   refine Dv [15] ?_
   obtain rfl := some_inj h49
   exact DWP.done (by kernel_rfl) ⟨F2, hs45, le46, fI⟩
  ·refine Dg 4 13 33 _ 3 false 12 hb48 (fun _ hq => ld 33 4 b24 0 true 3 (.agg (kExpr x1 a1_2 n1_2)) (hq.1.2 0 _ _ rfl)) ?_
   refine D1 5 ?_
   obtain ⟨r51, hr52, h53⟩ := bind_some h50
   refine DStep.call (l' := [true, true, true, true, true, true, false, false, false, false, false, false, false, false, false, false]) (zd := true) (by kernel_rfl) (by kernel_rfl) (by kernel_rfl) (dst := (some 14)) (ty := 4) (g := (some (3, false))) (by kernel_rfl) (gd_y (d := 12) (by kernel_rfl) rfl hb48) (f0 := (.func 93)) (aos := #[(.tmp 13)]) (ats := #[33]) (fid := 93) (first := #[]) (cap := #[]) (args := [(.agg (kExpr x1 a1_2 n1_2))]) rfl co_rules_sound (rfl) hs45 (c_rules_sound N w44 F2 hs45.pers (x1) a1_2 n1_2 hb1_2 (SlA.mono hs1_2 le46) _ hr52) ?_
   rintro _ F3 w55 hs56 le57 rfl
   refine Dg 6 15 4 (.bool (!r51)) 3 false 12 hb48 (fun _ hq => run_not (t := 4) (x := (.tmp 14)) (a := r51) rfl) ?_
   refine Dt 7 16 4 _ (fun _ hq => p0 12 (.const (.bool true)) (.tmp 15) (.bool (!r51)) hb48) ?_
   refine Dv [8] ?_
   refine Sd h53 (fun hb59 h60 => ?_) (fun hb59 h61 => ?_)
   ·refine Dk [(9, 18), (10, 19), (11, 20), (12, 21), (13, 22)] 8 false 17 hb59 ?_
    refine Dt 14 23 4 _ (fun _ hq => p1 17 (.const (.bool true)) (.tmp 22) (.bool true) hb59) ?_
    refine Dv [15] ?_
    obtain rfl := some_inj h60
    exact DWP.done (by kernel_rfl) ⟨F3, hs56, (le46.trans le57), fI⟩
   ·refine Dg 9 18 33 _ 8 false 17 hb59 (fun _ hq => ld 33 3 b21 0 true 3 (.agg (kExpr x0 a0_2 n0_2)) (hq.1.2 1 _ _ rfl)) ?_
    refine Dg 11 20 33 _ 8 false 17 hb59 (fun _ hq => ld 33 4 b24 0 true 3 (.agg (kExpr x1 a1_2 n1_2)) (hq.1.2 0 _ _ rfl)) ?_
    refine D1 10 ?_
    obtain ⟨r62, hr63, h64⟩ := bind_some h61
    refine DStep.call (l' := [true, true, true, true, true, true, true, true, true, true, true, true, false, false, false, false]) (zd := true) (by kernel_rfl) (by kernel_rfl) (by kernel_rfl) (dst := (some 19)) (ty := 3) (g := (some (8, false))) (by kernel_rfl) (gd_y (d := 17) (by kernel_rfl) rfl hb59) (f0 := (.func 113)) (aos := #[(.tmp 18)]) (ats := #[33]) (fid := 113) (first := #[]) (cap := #[]) (args := [(.agg (kExpr x0 a0_2 n0_2))]) rfl co_rules_kindOf (rfl) hs56 (c_rules_kindOf N w55 F3 hs56.pers (x0) a0_2 n0_2 hb0_2 (SlA.mono hs0_2 (le46.trans le57)) _ hr63) ?_
    rintro _ F4 w66 hs67 le68 rfl
    refine D1 12 ?_
    obtain ⟨r70, hr71, h72⟩ := bind_some h64
    refine DStep.call (l' := [true, true, true, true, true, true, true, true, true, true, true, true, true, false, false, false]) (zd := true) (by kernel_rfl) (by kernel_rfl) (by kernel_rfl) (dst := (some 21)) (ty := 3) (g := (some (8, false))) (by kernel_rfl) (gd_y (d := 17) (by kernel_rfl) rfl hb59) (f0 := (.func 113)) (aos := #[(.tmp 20)]) (ats := #[33]) (fid := 113) (first := #[]) (cap := #[]) (args := [(.agg (kExpr x1 a1_2 n1_2))]) rfl co_rules_kindOf (rfl) hs67 (c_rules_kindOf N w66 F4 hs67.pers (x1) a1_2 n1_2 hb1_2 (SlA.mono hs1_2 ((le46.trans le57).trans le68)) _ hr71) ?_
    rintro _ F5 w74 hs75 le76 rfl
    refine Dg 13 22 4 (.bool (r62 != r70)) 8 false 17 hb59 (fun _ hq => run_neq (t := 3) (t' := 3) (x := (.tmp 19)) (y := (.tmp 21)) (k := .i64) (a := r62) (b := r70) rfl rfl) ?_
    refine Dt 14 23 4 _ (fun _ hq => p0 17 (.const (.bool true)) (.tmp 22) (.bool (r62 != r70)) hb59) ?_
    refine Dv [15] ?_
    obtain rfl := some_inj h72
    exact DWP.done (by kernel_rfl) ⟨F5, hs75, (((le46.trans le57).trans le68).trans le76), fI⟩
 ·rintro f w29 ⟨F1, hs30, le31, ⟨_, rfl⟩⟩
  refine thenQ_nrm ?_
  refine Cd h39 (fun hb78 h79 => ?_) (fun hb78 h80 => ?_)
  ·refine Sq (Rg [0, 1] ?_)
   refine Vs 2 ?_
   refine Nt ?_
   refine Rt ?_
   refine blockQ_ret ?_
   refine thenQ_ret ?_
   obtain rfl := some_inj h79
   exact Re [(.slice none ([] : List Int).length 0), (vi 61)] hs30 ⟨none, 0, rfl, LC.nil, (.inl rfl)⟩
  ·refine Sq (Rg [0, 1, 2, 3] ?_)
   refine Vs 1 ?_
   obtain ⟨r81, hr82, h83⟩ := bind_some h80
   refine Cl' co_rules_domains hs30 (c_rules_domains N w29 F1 hs30.pers (x2) a2_0 n2_0 hb2_0 (SlA.mono hs2_0 le31) _ hr82) ?_
   rintro _ F6 w85 hs86 le87 rfl
   refine Vs 2 ?_
   refine Nt ?_
   refine Cd h83 (fun hb89 h90 => ?_) (fun hb89 h91 => ?_)
   ·refine Sq (Rg [0, 1] ?_)
    refine Vs 2 ?_
    refine Nt ?_
    refine Rt ?_
    refine blockQ_ret ?_
    refine thenQ_ret ?_
    obtain rfl := some_inj h90
    exact Re [(.slice none ([] : List Int).length 0), (vi 64)] hs86 ⟨none, 0, rfl, LC.nil, (.inl rfl)⟩
   ·refine Sc ?_
    refine blockQ_nrm ?_
    refine thenQ_nrm ?_
    refine Sq (Rg [0, 1, 2, 3, 4, 5, 6] ?_)
    refine Vs 2 ?_
    obtain ⟨F7, hs92, le93, hF94⟩ := hs86.fc1
    obtain ⟨F8, hs95, le96, hF97⟩ := hs92.fc0
    obtain ⟨r98, hr99, h100⟩ := bind_some h91
    refine Cl' co_rules_find hs95 (c_rules_find N w85 F8 hs95.pers (x2) a2_0 n2_0 hb2_0 (SlA.mono hs2_0 (((le31.trans le87).trans le93).trans le96)) 116 [] [(pt b21 0), (pt b24 0)] (fun y0 => rules_Differ_1 N y0 x0 x1) co_rules_Differ_1 (fun w1 F1 y0 ay0_0 ny0_0 hby0_0 hsy0_0 r le1 pe1 hr1 => c_rules_Differ_1 N w1 F1 pe1  y0 ay0_0 ny0_0 hby0_0 hsy0_0 b21 x0 a0_2 n0_2 hb0_2 (SlA.mono (SlA.mono hs0_2 (((le31.trans le87).trans le93).trans le96)) le1) (le1 _ _ (le96 _ _ hF94)) b24 x1 a1_2 n1_2 hb1_2 (SlA.mono (SlA.mono hs1_2 (((le31.trans le87).trans le93).trans le96)) le1) (le1 _ _ hF97) r hr1) _ hr99) ?_
    rintro _ F9 w102 hs103 le104 ⟨ar98_0_0, nr98_0_0, rfl, hbr98_0_0, hsr98_0_0⟩
    refine Vs 4 ?_
    refine Nt ?_
    refine Rt ?_
    obtain rfl := some_inj h100
    exact Re [(.slice ar98_0_0 r98.1.length nr98_0_0), (vi r98.2)] hs103 ⟨ar98_0_0, nr98_0_0, rfl, hbr98_0_0, hsr98_0_0⟩
end Go.Proofs.YtaihlcdkcampbaaGreatDoor
namespace Go.Proofs.YtaihlcdkcampbaaGreatDoor
open Go.Proofs
end Go.Proofs.YtaihlcdkcampbaaGreatDoor
namespace Go.Proofs.YtaihlcdkcampbaaGreatDoor
open Go.Proofs
def rules_Range_L0 (N : Nat) (x0 : Expr) (x1 : (List Span)) (r27 : Bool) (r40 : Bool) : (Int × Int) → (List Int) → Option (Int × Int) := fun s63 y85 =>
 ((rules_value N x0 y85).bind fun r92 => some ((min s63.1 r92), (max s63.2 r92)))
def rules_Range (N : Nat) (x0 : Expr) (x1 : (List Span)) : Option (Span × Int) :=
 ((rules_sound N x0).bind fun r27 => (bif (!r27) then some (({ Lo := 0, Hi := 0 } : Span), 61) else ((rules_domains N x1).bind fun r40 => (bif (!r40) then some (({ Lo := 0, Hi := 0 } : Span), 64) else ((rules_all_1 N (fun st x => ((rules_Range_L0 N x0 x1 r27 r40) st x).map fun t => (true, t)) x1 (1000000, (-1000000))).bind fun r71 => some (({ Lo := r71.1, Hi := r71.2 } : Span), 0))))))
theorem co_rules_Range : CallOk Tryz.prog 58 := fun _ _ => by kernel_rfl
theorem c_rules_Range (N : Nat) (w0 : World) (F0 : Mem) (hF : ∀ b o, F0 b = some o → w0.heap[b]? = some o) (x0 : Expr) (a0_2 : Option Addr) (n0_2 : Nat) (hb0_2 : LC x0.Kids.length n0_2) (hs0_2 : SlA tExpr F0 a0_2 x0.Kids) (x1 : (List Span)) (a1_0 : Option Addr) (n1_0 : Nat) (hb1_0 : LC x1.length n1_0) (hs1_0 : SlA tSpan F0 a1_0 x1) (r : (Span × Int)) (h : rules_Range N x0 x1 = some r) :
  Calls Tryz.prog 58 ([(.agg (kExpr x0 a0_2 n0_2)), (.slice a1_0 x1.length n1_0)] : List Value).toArray w0 (FRet w0 F0 fun F' v => v = (.tuple #[(.agg #[(vi r.1.Lo), (vi r.1.Hi)]), (vi r.2)])) := by
 have hs0 := HS.start hF
 refine calls_ofM (n := 36) (c := bodyOf Tryz.f58) Tryz.func58 (by kernel_rfl) (by kernel_rfl) (by kernel_rfl) ?_
 refine Sq (Rg [0, 1, 2] ?_)
 refine Bx' 33 (kExpr x0 a0_2 n0_2) hs0 (fun b21 w22 hs23 => ?_)
 refine Al' 72 #[(vi 0), (vi 0)] hs23 (fun b24 w25 hs26 => ?_)
 refine Vs 1 ?_
 refine Nss ?_
 refine Bk ?_
 refine Sq (Rg [0, 1, 2, 3] ?_)
 refine Ld hs26.at1 ?_
 obtain ⟨r27, hr28, h29⟩ := bind_some h
 refine Cl' co_rules_sound hs26 (c_rules_sound N w25 F0 hs26.pers (x0) a0_2 n0_2 hb0_2 hs0_2 _ hr28) ?_
 rintro _ F1 w31 hs32 le33 rfl
 refine Vs 2 ?_
 refine Nt ?_
 refine Cd h29 (fun hb35 h36 => ?_) (fun hb35 h37 => ?_)
 ·refine Sq (Rg [0, 1, 2] ?_)
  refine Vs 1 ?_
  refine St0 #[(vi 0), (vi 0)] hs32 (fun w38 hs39 => ?_)
  refine Vs 1 ?_
  refine Nt ?_
  refine Rt ?_
  refine blockQ_ret ?_
  refine thenQ_ret ?_
  obtain rfl := some_inj h36
  exact .inl ⟨rfl, (.tuple #[(.agg #[(vi 0), (vi 0)]), (vi 61)]), res_of (l := [.cell 4 72, .tmp 5]) (by kernel_rfl) (vs := [(.agg #[(vi 0), (vi 0)]), (vi 61)]) ⟨b24, 0, rfl, run_loadVar' (t := 72) (g := true) (s := 2) (by kernel_rfl) hs39.at0 rfl (by decide), ⟨rfl, trivial⟩⟩, (.tuple #[(.agg #[(vi 0), (vi 0)]), (vi 61)]), F1, rfl, hs39.clear, rfl⟩
 ·refine Sq (Rg [0, 1, 2, 3] ?_)
  refine Vs 1 ?_
  obtain ⟨r40, hr41, h42⟩ := bind_some h37
  refine Cl' co_rules_domains hs32 (c_rules_domains N w31 F1 hs32.pers (x1) a1_0 n1_0 hb1_0 (SlA.mono hs1_0 le33) _ hr41) ?_
  rintro _ F2 w44 hs45 le46 rfl
  refine Vs 2 ?_
  refine Nt ?_
  refine Cd h42 (fun hb48 h49 => ?_) (fun hb48 h50 => ?_)
  ·refine Sq (Rg [0, 1, 2] ?_)
   refine Vs 1 ?_
   refine St0 #[(vi 0), (vi 0)] hs45 (fun w51 hs52 => ?_)
   refine Vs 1 ?_
   refine Nt ?_
   refine Rt ?_
   refine blockQ_ret ?_
   refine thenQ_ret ?_
   obtain rfl := some_inj h49
   exact .inl ⟨rfl, (.tuple #[(.agg #[(vi 0), (vi 0)]), (vi 64)]), res_of (l := [.cell 4 72, .tmp 5]) (by kernel_rfl) (vs := [(.agg #[(vi 0), (vi 0)]), (vi 64)]) ⟨b24, 0, rfl, run_loadVar' (t := 72) (g := true) (s := 2) (by kernel_rfl) hs52.at0 rfl (by decide), ⟨rfl, trivial⟩⟩, (.tuple #[(.agg #[(vi 0), (vi 0)]), (vi 64)]), F2, rfl, hs52.clear, rfl⟩
  ·refine Sc ?_
   refine blockQ_nrm ?_
   refine thenQ_nrm ?_
   refine Sq (Rg [0, 1, 2] ?_)
   refine Vs 1 ?_
   refine Al' 72 #[(vi 0), (vi 0)] hs45 (fun b53 w54 hs55 => ?_)
   refine St0 #[(vi 1000000), (vi (-1000000))] hs55 (fun w56 hs57 => ?_)
   refine Nss ?_
   refine Sq (Rg [0, 1] ?_)
   refine Vs 1 ?_
   refine RWP.callO (dst := (some 21)) (ty := 143) (g := none) (by kernel_rfl) rfl (f0 := (.func 118)) (aos := #[(.tmp 20)]) (ats := #[68]) (fid := 118) (first := #[]) (cap := #[]) (args := [(.slice a1_0 x1.length n1_0)]) rfl co_rules_all (rfl) hs57 (c_rules_all w56 F2 hs57.pers (x1) a1_0 n1_0 hb1_0 (SlA.mono hs1_0 (le33.trans le46))) ?_
   rintro _ F3 w59 _ hs60 le61 ⟨b58, rfl, rfl⟩
   have hs62 : HS w0 F0 w59 F3 [(sb b58 #[(.slice a1_0 x1.length n1_0)] 68), (sb b53 #[(vi 1000000), (vi (-1000000))] 72), (sb b24 #[(vi 0), (vi 0)] 72), (sb b21 (kExpr x0 a0_2 n0_2) 33)] := hs60
   refine Nt ?_
   refine Bk ?_
   obtain ⟨r71, hr72, h73⟩ := bind_some h50
   refine CWP.rangeFuncI (enc := enc121) (ok := ok121) (px := px121) (m := fun {_} y s => rules_all_1 N y x1 s) (L := [(sb b53 #[(vi 1000000), (vi (-1000000))] 72), (sb b24 #[(vi 0), (vi 0)] 72), (sb b21 (kExpr x0 a0_2 n0_2) 33)]) (B := [(sb b58 #[(.slice a1_0 x1.length n1_0)] 68)]) (ps := [22]) (by kernel_rfl) (gf := 172) (cap := [(pt b58 0)]) rfl co_rules_all_1 rfl (by kernel_rfl) (by kernel_rfl) (by rintro ⟨_, _, _⟩; rfl) hs62 (c_rules_all_1 N F3 x1 a1_0 n1_0 hb1_0 (SlA.mono hs1_0 ((le33.trans le46).trans le61)) b58) (fun st x => ((rules_Range_L0 N x0 x1 r27 r40) st x).map fun t => (true, t)) (fun (s63 : (Int × Int)) (F4 : Mem) (Lq : Own) => Lq = [(sb b53 #[(vi s63.1), (vi s63.2)] 72), (sb b24 #[(vi 0), (vi 0)] 72), (sb b21 (kExpr x0 a0_2 n0_2) 33)]) ?_ (s := (1000000, (-1000000))) (r := r71) ?_ hr72 (fun _ _ _ h => (map_true h).1) ?_ ?_
   ·rintro s F F' L rfl
    exact rfl
   ·exact rfl
   ·rintro l74 s63 ⟨y85, ay85_0, ny85_0⟩ w77 F4 _ Rf79 ⟨_, q80⟩ le81 ⟨hby85_0, hsy85_0⟩ rfl hs83 hy84
    have h86 := (map_true hy84).2
    have hs87 : HS w0 F0 w77 F4 ((sb b53 #[(vi s63.1), (vi s63.2)] 72) :: (sb b24 #[(vi 0), (vi 0)] 72) :: (sb b21 (kExpr x0 a0_2 n0_2) 33) :: Rf79) := hs83
    refine Rg [0] ?_
    refine Vs 1 ?_
    refine RWP.nil ?_
    refine ⟨rfl, F4, [(sb b53 #[(vi s63.1), (vi s63.2)] 72), (sb b24 #[(vi 0), (vi 0)] 72), (sb b21 (kExpr x0 a0_2 n0_2) 33)], hs87, fun w88 Rf89 hs90 => ?_⟩
    have hs91 : HS w0 F0 w88 F4 ((sb b53 #[(vi s63.1), (vi s63.2)] 72) :: (sb b24 #[(vi 0), (vi 0)] 72) :: (sb b21 (kExpr x0 a0_2 n0_2) 33) :: Rf89) := hs90
    refine Bk ?_
    refine Sq (Rg [0, 1, 2, 3] ?_)
    refine Ld hs91.at2 ?_
    refine Vs 1 ?_
    obtain ⟨r92, hr93, h94⟩ := bind_some h86
    refine Cl' co_rules_value hs91 (c_rules_value N w88 F4 hs91.pers (x0) a0_2 n0_2 hb0_2 (SlA.mono hs0_2 (((le33.trans le46).trans le61).trans le81)) (y85) ay85_0 ny85_0 hby85_0 hsy85_0 _ hr93) ?_
    rintro _ F6 w96 hs97 le98 rfl
    refine Vs 1 ?_
    refine Nt ?_
    refine Rg [0, 1, 2, 3, 4, 5, 6, 7, 8, 9] ?_
    refine Vs 1 ?_
    refine Ld hs97.at0 ?_
    refine Vs 3 ?_
    refine Ld hs97.at0 ?_
    refine Vs 3 ?_
    refine St0 #[(vi (min s63.1 r92)), (vi (max s63.2 r92))] hs97 (fun w100 hs101 => ?_)
    refine RWP.nil ?_
    refine blockQ_nrm ?_
    obtain rfl := some_inj h94
    exact ⟨rfl, F6, [(sb b53 #[(vi (min s63.1 r92)), (vi (max s63.2 r92))] 72), (sb b24 #[(vi 0), (vi 0)] 72), (sb b21 (kExpr x0 a0_2 n0_2) 33)], hs101, le98, rfl⟩
   ·rintro D103 w104 F5 _ hs105 le106 rfl
    have hs107 : HS w0 F0 w104 F5 [(some D103, (.deferred (some []))), (sb b53 #[(vi r71.1), (vi r71.2)] 72), (sb b24 #[(vi 0), (vi 0)] 72), (sb b21 (kExpr x0 a0_2 n0_2) 33)] := hs105
    refine blockQ_nrm ?_
    refine thenQ_nrm ?_
    refine Sq (Rg [0, 1, 2] ?_)
    refine Ld hs107.at1 ?_
    refine St2 #[(vi r71.1), (vi r71.2)] hs107 (fun w108 hs109 => ?_)
    refine Vs 1 ?_
    refine Nt ?_
    refine Rt ?_
    have hs110 := hs109.put (k := 0) rfl (.deferred none)
    have hs111 : HS w0 F0 (putB w108 D103 (.deferred none)) F5 [(sb b53 #[(vi r71.1), (vi r71.2)] 72), (sb b24 #[(vi r71.1), (vi r71.2)] 72), (sb b21 (kExpr x0 a0_2 n0_2) 33)] := hs110.drop 0
    obtain rfl := some_inj h73
    exact .inr ⟨D103, rfl, hs109.ownAt (k := 0) rfl, (.tuple #[(.agg #[(vi r71.1), (vi r71.2)]), (vi 0)]), res_of (l := [.cell 4 72, .tmp 5]) (by kernel_rfl) (vs := [(.agg #[(vi r71.1), (vi r71.2)]), (vi 0)]) ⟨b24, 0, rfl, run_loadVar' (t := 72) (g := true) (s := 2) (by kernel_rfl) hs111.at1 rfl (by decide), ⟨rfl, trivial⟩⟩, (.tuple #[(.agg #[(vi r71.1), (vi r71.2)]), (vi 0)]), F5, rfl, hs111.clear, rfl⟩
end Go.Proofs.YtaihlcdkcampbaaGreatDoor
namespace Go.Proofs.YtaihlcdkcampbaaGreatDoor
open Go.Proofs
end Go.Proofs.YtaihlcdkcampbaaGreatDoor
namespace Go.Proofs.YtaihlcdkcampbaaGreatDoor
theorem vol_append : ∀ (a b : List Span), vol (a ++ b) = vol a * vol b
 | [], b => by simp [vol]
 | s :: a, b => by simp only [List.cons_append, vol, vol_append a b, Nat.mul_assoc]
theorem vol_take {d : List Span} (h : okD d) (i : Nat) : vol (d.take i) ≤ vol d := by
 have e : vol d = vol (d.take i) * vol (d.drop i) := by rw [← vol_append, List.take_append_drop]
 have := vol_pos (d := d.drop i) fun s hs => h s (List.mem_of_mem_drop hs)
 rw [e]; exact Nat.le_mul_of_pos_right _ this
section
variable {N : Nat}
theorem All_L2 {d : List Span} {s29 s57 : List (List Int) × Int} {x84 s : Span} {p : List Int} (h1 : idx d s29.2 = some s) (h2 : idx s29.1 s57.2 = some p) (hp : p.length < 20) (hs : 0 ≤ s.Lo ∧ s.Hi ≤ 1000000) :
  ∀ (k m : Nat) (v : Int) (acc : List (List Int)), (s.Hi + 1 - v).toNat = k → s.Lo ≤ v → v ≤ s.Hi + 1 → acc.length + k < 4000000000 → k < m →
   iter (ref06_All_L2 N d s29 s57 x84) m (acc, v) = some (.done (acc ++ (upto v s.Hi).map (fun u => p ++ [u]), s.Hi + 1))
 | 0, m + 1, v, acc, hk, _, hv, _, _ => by
  have : v = s.Hi + 1 := by omega
  subst this
  rw [upto_nil (by omega), List.map_nil, List.append_nil]
  apply iter_dn
  unfold ref06_All_L2
  simp only
  rw [h1, Option.bind_some, decide_eq_false (by omega), cond_false]
 | k + 1, m + 1, v, acc, hk, hlo, hv, hl, hm => by
  rw [iter_nx (s' := (acc ++ [p ++ [v]], v + 1)), All_L2 h1 h2 hp hs k m (v + 1) _ (by omega) (by omega) (by omega) (by simp; omega) (by omega), upto_cons (by omega : v ≤ s.Hi)]
  ·simp
  ·unfold ref06_All_L2
   simp only
   rw [h1, Option.bind_some, decide_eq_true (by omega), cond_true, h2, Option.bind_some, apnd_ok (by simp; omega), Option.bind_some, apnd_ok (by simp; omega), Option.bind_some, apnd_ok (by simp; omega), Option.bind_some, W64_small (by omega) (by omega)]
   rfl
theorem All_L1 {d : List Span} {out : List (List Int)} {i : Nat} {s : Span} (h1 : idx d (i : Int) = some s) (ho : out.length ≤ 4096) (hp : ∀ p, p ∈ out → p.length < 20) (hs : 0 ≤ s.Lo ∧ s.Lo ≤ s.Hi ∧ s.Hi ≤ 1000000) (hc : out.length * (s.Hi + 1 - s.Lo).toNat ≤ 4096) (hN : 2000000 < N) :
  iter (ref06_All_L1 N d (out, (i : Int))) N ([], 0) = some (.done (out.flatMap fun p => (upto s.Lo s.Hi).map fun v => p ++ [v], (out.length : Int))) := by
 obtain ⟨o, ho', rfl⟩ := iter_ex (body := ref06_All_L1 N d (out, (i : Int))) out.length (fun k t => t = ((out.take k).flatMap fun p => (upto s.Lo s.Hi).map fun v => p ++ [v], (k : Int))) (fun o => o = .done (out.flatMap fun p => (upto s.Lo s.Hi).map fun v => p ++ [v], (out.length : Int))) (by
  rintro k t hk rfl
  by_cases h : k < out.length
  ·refine .inl ⟨_, ?_, rfl, h⟩
   have hlen : ((out.take k).flatMap fun p => (upto s.Lo s.Hi).map fun v => p ++ [v]).length = k * (s.Hi + 1 - s.Lo).toNat := by
    rw [flatMap_len (k := (s.Hi + 1 - s.Lo).toNat) fun p _ => by rw [List.length_map, upto_length], List.length_take, Nat.min_eq_left (by omega)]
   have hle : k * (s.Hi + 1 - s.Lo).toNat ≤ 4096 := Nat.le_trans (Nat.mul_le_mul_right _ (by omega)) hc
   unfold ref06_All_L1
   simp only
   rw [lt_t h, cond_true, h1, Option.bind_some, All_L2 (p := out[k]) (s := s) h1 (idx_nat h) (hp _ (List.getElem_mem h)) ⟨hs.1, hs.2.2⟩ (s.Hi + 1 - s.Lo).toNat N s.Lo _ rfl (by omega) (by omega) (by rw [hlen]; omega) (by omega), Option.bind_some]
   simp only [Flow.k]
   rw [W64_succ (by omega), List.take_succ_eq_append_getElem h, List.flatMap_append]
   simp
  ·have : k = out.length := by omega
   subst this
   refine .inr ⟨_, ?_, (fun _ h => by cases h), rfl⟩
   unfold ref06_All_L1
   simp only
   rw [lt_f, cond_false, List.take_length]) out.length N 0 ([], 0) (by omega) (by simp) (by omega)
 exact ho'
theorem s_All {d : List Span} (hd : dom d = true) (hN : 2000000 < N) : ref06_All N d = some (allL d) := by
 have hl := dom_len hd
 have hv := dom_vol hd
 have hok := dom_okD hd
 unfold ref06_All
 obtain ⟨o, ho', rfl⟩ := iter_ex (body := ref06_All_L0 N d) d.length (fun i t => t = (allL (d.take i), (i : Int))) (fun o => o = .done (allL d, (d.length : Int))) (by
  rintro i t hi rfl
  by_cases h : i < d.length
  ·refine .inl ⟨_, ?_, rfl, h⟩
   have hti : d.take (i + 1) = d.take i ++ [d[i]] := List.take_succ_eq_append_getElem h
   have hvi := vol_take hok (i + 1)
   rw [hti, vol_append] at hvi
   simp only [vol, Nat.mul_one] at hvi
   have hvi0 := vol_take hok i
   unfold ref06_All_L0
   simp only
   rw [lt_t h, cond_true, All_L1 (s := d[i]) (idx_nat h) (by rw [allL_length]; omega) (fun p hp => by have := box_len (mem_allL.1 hp); simp at this; omega) (dom_ok hd _ (List.getElem_mem h)) (by rw [allL_length]; omega) hN, Option.bind_some]
   simp only [Flow.k]
   rw [W64_succ (by omega), hti, ← allP0 (d.take i ++ [d[i]]), List.foldl_append, allP0]
   rfl
  ·have : i = d.length := by omega
   subst this
   refine .inr ⟨_, ?_, (fun _ h => by cases h), rfl⟩
   unfold ref06_All_L0
   simp only
   rw [lt_f, cond_false, List.take_length]) d.length N 0 ([[]], 0) (by omega) (by simp [allL]) (by omega)
 rw [ho', Option.bind_some]
 rfl
theorem tf : ¬ (true = false) := by simp
noncomputable def diffS (a b : Expr) (d : List Span) : List Int × Int := if snd0 a = false ∨ snd0 b = false ∨ kd a ≠ kd b then ([], 61) else if dom d = false then ([], 64) else found ((allL d).find? fun f => val f a != val f b)
theorem s_Differ {a b : Expr} {d : List Span} (hN : 5000 < N) (ha : Fit N a) (hb : Fit N b) : rules_Differ N a b d = some (diffS a b d) := by
 unfold rules_Differ diffS
 rw [s_sound ha, Option.bind_some, s_sound hb, s_kindOf ha, s_kindOf hb, s_domains (by omega)]
 cases h1 : snd0 a
 ·simp
 ·cases h2 : snd0 b
  ·simp
  ·by_cases h3 : kd a = kd b
   ·rw [if_neg (by simp [h3])]
    simp only [Bool.not_true, cond_false, Option.bind_some, show (kd a != kd b) = false by simp [h3]]
    cases hd : dom d
    ·rfl
    ·have e : rules_find N d (fun y0 => rules_Differ_1 N y0 a b) = some (found ((allL d).find? fun f => val f a != val f b)) :=
      s_find hd hN fun f hf => by
       unfold rules_Differ_1
       rw [s_value (dom_fac hd hf) ha (snd0_k h1), Option.bind_some, s_value (dom_fac hd hf) hb (snd0_k h2)]; rfl
     rw [if_neg tf]
     rw [show (!true) = false from rfl, cond_false, e, Option.bind_some]
   ·rw [if_pos (by simp [h3])]
    simp only [Bool.not_true, cond_false, Option.bind_some, show (kd a != kd b) = true by simp [h3], cond_true]
end
end Go.Proofs.YtaihlcdkcampbaaGreatDoor
namespace Go.Proofs.YtaihlcdkcampbaaGreatDoor
open Go.Proofs
def rules_constant (N : Nat) (x0 : Int) : Option Expr :=
 some ({ Op := 1, Value := x0, Kids := ([] : List Expr) } : Expr)
theorem co_rules_constant : CallOk Tryz.prog 191 := fun _ _ => by kernel_rfl
theorem c_rules_constant (N : Nat) (w0 : World) (F0 : Mem) (hF : ∀ b o, F0 b = some o → w0.heap[b]? = some o) (x0 : Int) (r : Expr) (h : rules_constant N x0 = some r) :
  Calls Tryz.prog 191 ([(vi x0)] : List Value).toArray w0 (FRet w0 F0 fun F' v => ∃ (aq0_2 : Option Addr) (nq0_2 : Nat), v = (.agg (kExpr r aq0_2 nq0_2)) ∧ LC r.Kids.length nq0_2 ∧ SlA tExpr F' aq0_2 r.Kids) := by
 have hs0 := HS.start hF
 refine Go 5 Tryz.func191 ?_
 refine Sq (Rg [0] ?_)
 refine Al' 33 #[(vi 0), (vi 0), (.slice none ([] : List Expr).length 0)] hs0 (fun b21 w22 hs23 => ?_)
 refine Nss (Rg [0, 1, 2] ?_)
 refine Vs 2 ?_
 refine St0 #[(vi 1), (vi x0), (.slice none ([] : List Expr).length 0)] hs23 (fun w24 hs25 => ?_)
 refine Nt ?_
 refine Rt ?_
 obtain rfl := some_inj h
 exact ⟨rfl, (.agg #[(vi 1), (vi x0), (.slice none ([] : List Expr).length 0)]), res_of (l := [.cell 2 33]) (by kernel_rfl) (vs := [(.agg #[(vi 1), (vi x0), (.slice none ([] : List Expr).length 0)])]) ⟨b21, 0, rfl, run_loadVar' (t := 33) (g := true) (s := 3) (by kernel_rfl) hs25.at0 rfl (by decide), trivial⟩, (.agg #[(vi 1), (vi x0), (.slice none ([] : List Expr).length 0)]), F0, rfl, hs25.clear, ⟨none, 0, rfl, LC.nil, (.inl rfl)⟩⟩
end Go.Proofs.YtaihlcdkcampbaaGreatDoor
namespace Go.Proofs.YtaihlcdkcampbaaGreatDoor
open Go.Proofs
def rules_truthOf (N : Nat) (x0 : Bool) : Option Expr :=
 ((rules_constant N 0).bind fun r31 => ((rules_constant N 0).bind fun r39 => some ({ Op := (bif x0 then 6 else 7), Value := 0, Kids := [r31, r39] } : Expr)))
theorem co_rules_truthOf : CallOk Tryz.prog 188 := fun _ _ => by kernel_rfl
theorem c_rules_truthOf (N : Nat) (w0 : World) (F0 : Mem) (hF : ∀ b o, F0 b = some o → w0.heap[b]? = some o) (x0 : Bool) (r : Expr) (h : rules_truthOf N x0 = some r) :
  Calls Tryz.prog 188 ([(.bool x0)] : List Value).toArray w0 (FRet w0 F0 fun F' v => ∃ (aq0_2 : Option Addr) (nq0_2 : Nat), v = (.agg (kExpr r aq0_2 nq0_2)) ∧ LC r.Kids.length nq0_2 ∧ SlA tExpr F' aq0_2 r.Kids) := by
 have hs0 := HS.start hF
 refine Go 10 Tryz.func188 ?_
 refine Sq (Rg [0] ?_)
 refine Al' 33 #[(vi 0), (vi 0), (.slice none ([] : List Expr).length 0)] hs0 (fun b21 w22 hs23 => ?_)
 refine Nss (Rg [0] ?_)
 refine Vs 1 ?_
 refine Nss ?_
 refine Sq (Rg [0] ?_)
 refine Vs 1 ?_
 refine Nt ?_
 refine CWP.cut (fun f w => ∃ (F1 : Mem), HS w0 F0 w F1 [(sb b21 #[(vi 0), (vi 0), (.slice none ([] : List Expr).length 0)] 33)] ∧ Mem.le F0 F1 ∧ FI f [] [(2, (pt b21 0)), (3, (vi (bif x0 then 6 else 7)))]) ?_ ?_
 ·refine Cp x0 (fun hb30 => ?_) (fun hb30 => ?_)
  ·refine Rg [0] ?_
   refine Vs 1 ?_
   refine RWP.nil ?_
   exact .inl ⟨rfl, F0, hs23, (Mem.le.refl _), (fJ ⟨rfl, (congrArg (Value.int .i64) (bif_t hb30 (rfl))), trivial⟩)⟩
  ·refine Sc ?_
   exact .inl ⟨rfl, F0, hs23, (Mem.le.refl _), (fJ ⟨rfl, (congrArg (Value.int .i64) (bif_f hb30 (rfl))), trivial⟩)⟩
 ·rintro f w24 ⟨F1, hs25, le26, ⟨_, rfl⟩⟩
  refine thenQ_nrm ?_
  refine Sq (Rg [0, 1, 2, 3, 4, 5] ?_)
  refine Vs 1 ?_
  obtain ⟨r31, hr32, h33⟩ := bind_some h
  refine Cl' co_rules_constant hs25 (c_rules_constant N w24 F1 hs25.pers (0) _ hr32) ?_
  rintro _ F2 w35 hs36 le37 ⟨ar31_0_2, nr31_0_2, rfl, hbr31_0_2, hsr31_0_2⟩
  obtain ⟨r39, hr40, h41⟩ := bind_some h33
  refine Cl' co_rules_constant hs36 (c_rules_constant N w35 F2 hs36.pers (0) _ hr40) ?_
  rintro _ F3 w43 hs44 le45 ⟨ar39_0_2, nr39_0_2, rfl, hbr39_0_2, hsr39_0_2⟩
  refine Bs 33 [(vi r31.Op), (vi r31.Value), (.slice ar31_0_2 r31.Kids.length nr31_0_2), (vi r39.Op), (vi r39.Value), (.slice ar39_0_2 r39.Kids.length nr39_0_2)] hs44 (fun b47 w48 hs49 => ?_)
  have hr51 : RowR tExpr 33 F3 (some ⟨b47, 0, none⟩) 2 [r31, r39] (some b47, .cells ([(vi r31.Op), (vi r31.Value), (.slice ar31_0_2 r31.Kids.length nr31_0_2), (vi r39.Op), (vi r39.Value), (.slice ar39_0_2 r39.Kids.length nr39_0_2)] : List Value).toArray 33 (0, 0)) := RowR.lit ⟨(tExpr_mk ⟨ar31_0_2, nr31_0_2, rfl, hbr31_0_2, (SlA.mono hsr31_0_2 le45)⟩), ⟨(tExpr_mk ⟨ar39_0_2, nr39_0_2, rfl, hbr39_0_2, hsr39_0_2⟩), rfl⟩⟩ (by simp)
  refine Vs 1 ?_
  refine St1 #[(vi (bif x0 then 6 else 7)), (vi 0), (.slice (some ⟨b47, 0, none⟩) [r31, r39].length 2)] hs49 (fun w52 hs53 => ?_)
  refine Nt ?_
  refine Rt ?_
  have hb57 := RowR.bound hr51
  obtain ⟨F4, hs54, le55, hs56⟩ := hs53.fr0 hr51
  obtain rfl := some_inj h41
  exact ⟨rfl, (.agg #[(vi (bif x0 then 6 else 7)), (vi 0), (.slice (some ⟨b47, 0, none⟩) [r31, r39].length 2)]), res_of (l := [.cell 2 33]) (by kernel_rfl) (vs := [(.agg #[(vi (bif x0 then 6 else 7)), (vi 0), (.slice (some ⟨b47, 0, none⟩) [r31, r39].length 2)])]) ⟨b21, 0, rfl, run_loadVar' (t := 33) (g := true) (s := 3) (by kernel_rfl) hs54.at0 rfl (by decide), trivial⟩, (.agg #[(vi (bif x0 then 6 else 7)), (vi 0), (.slice (some ⟨b47, 0, none⟩) [r31, r39].length 2)]), F4, rfl, hs54.clear, ⟨(some ⟨b47, 0, none⟩), 2, rfl, hb57, hs56⟩⟩
end Go.Proofs.YtaihlcdkcampbaaGreatDoor
namespace Go.Proofs.YtaihlcdkcampbaaGreatDoor
open Go.Proofs
def rules_isTruth (N : Nat) (x0 : Expr) (x1 : Bool) : Option Bool :=
 (((rules_truthOf N x1).bind fun r34 => ((rules_same N x0 r34).bind fun r42 => some r42)).bind fun j29 => some j29)
theorem co_rules_isTruth : CallOk Tryz.prog 187 := fun _ _ => by kernel_rfl
theorem c_rules_isTruth (N : Nat) (w0 : World) (F0 : Mem) (hF : ∀ b o, F0 b = some o → w0.heap[b]? = some o) (x0 : Expr) (a0_2 : Option Addr) (n0_2 : Nat) (hb0_2 : LC x0.Kids.length n0_2) (hs0_2 : SlA tExpr F0 a0_2 x0.Kids) (x1 : Bool) (r : Bool) (h : rules_isTruth N x0 x1 = some r) :
  Calls Tryz.prog 187 ([(.agg (kExpr x0 a0_2 n0_2)), (.bool x1)] : List Value).toArray w0 (FRet w0 F0 fun F' v => v = (.bool r)) := by
 have hs0 := HS.start hF
 refine Go 9 Tryz.func187 ?_
 refine Sq (Rg [0, 1] ?_)
 refine Bx' 33 (kExpr x0 a0_2 n0_2) hs0 (fun b21 w22 hs23 => ?_)
 refine Vs 1 ?_
 refine Nss ?_
 obtain ⟨j29, hj32, h33⟩ := bind_some h
 refine RD 5 5 [(sb b21 (kExpr x0 a0_2 n0_2) 33)] [] hs23 (fun f w => ∃ (F1 : Mem), HS w0 F0 w F1 [] ∧ Mem.le F0 F1 ∧ FI f [] [(4, (.bool j29))]) (fun wd24 hw25 => ?_) ?_
 ·refine Dl 0 (fun _ hq => (hq.1.2 0 _ _ rfl)) ?_
  refine Dv [1] ?_
  refine D1 2 ?_
  obtain ⟨r34, hr35, h36⟩ := bind_some hj32
  refine DCl co_rules_truthOf hw25 (c_rules_truthOf N wd24 F0 hw25.pers (x1) _ hr35) ?_
  rintro _ F2 w38 hs39 le40 ⟨ar34_0_2, nr34_0_2, rfl, hbr34_0_2, hsr34_0_2⟩
  refine D1 3 ?_
  obtain ⟨r42, hr43, h44⟩ := bind_some h36
  refine DCl co_rules_same hs39 (c_rules_same N w38 F2 hs39.pers (x0) a0_2 n0_2 hb0_2 (SlA.mono hs0_2 le40) (r34) ar34_0_2 nr34_0_2 hbr34_0_2 hsr34_0_2 _ hr43) ?_
  rintro _ F3 w46 hs47 le48 rfl
  refine Dv [4] ?_
  obtain rfl := some_inj h44
  exact DWP.done (by kernel_rfl) ⟨F3, hs47.dr0, (le40.trans le48), fI⟩
 ·rintro f w26 ⟨F1, hs27, le28, ⟨_, rfl⟩⟩
  refine thenQ_nrm ?_
  refine Rt ?_
  obtain rfl := some_inj h33
  exact Re [(.bool j29)] hs27 rfl
end Go.Proofs.YtaihlcdkcampbaaGreatDoor
namespace Go.Proofs.YtaihlcdkcampbaaGreatDoor
open Go.Proofs
end Go.Proofs.YtaihlcdkcampbaaGreatDoor
namespace Go.Proofs.YtaihlcdkcampbaaGreatDoor
open Go.Proofs
def rules_isConstant (N : Nat) (x0 : Expr) (x1 : Int) : Option Bool :=
 some ((x0.Op == 1) && (x0.Value == x1))
theorem co_rules_isConstant : CallOk Tryz.prog 215 := fun _ _ => by kernel_rfl
theorem c_rules_isConstant (N : Nat) (w0 : World) (F0 : Mem) (hF : ∀ b o, F0 b = some o → w0.heap[b]? = some o) (x0 : Expr) (a0_2 : Option Addr) (n0_2 : Nat) (hb0_2 : LC x0.Kids.length n0_2) (hs0_2 : SlA tExpr F0 a0_2 x0.Kids) (x1 : Int) (r : Bool) (h : rules_isConstant N x0 x1 = some r) :
  Calls Tryz.prog 215 ([(.agg (kExpr x0 a0_2 n0_2)), (vi x1)] : List Value).toArray w0 (FRet w0 F0 fun F' v => v = (.bool r)) := by
 have hs0 := HS.start hF
 refine Go 14 Tryz.func215 ?_
 refine Sq (Rg [0, 1] ?_)
 refine Bx' 33 (kExpr x0 a0_2 n0_2) hs0 (fun b21 w22 hs23 => ?_)
 refine Vs 1 ?_
 refine Nss (Rg [0, 1, 2, 3, 4, 5, 6, 7, 8, 9] ?_)
 refine RWP.cut (fun f w => ∃ (F1 : Mem), HS w0 F0 w F1 [] ∧ Mem.le F0 F1 ∧ FI f [] [(4, (.bool ((x0.Op == 1) && (x0.Value == x1))))]) ?_ ?_
 ·refine Vs 1 ?_
  refine Ld hs23.at0 ?_
  refine Vs 2 ?_
  refine RWP.split (x0.Op == 1) (fun hb29 => ?_) (fun hb29 => ?_)
  ·refine Vgs hb29 1 ?_
   refine Lg hb29 hs23.at0 ?_
   refine Vgs hb29 2 ?_
   refine Pk1 hb29 ?_
   refine Vs 1 ?_
   exact RWP.nil ⟨rfl, F0, hs23.dr0, (Mem.le.refl _), (fJ ⟨(congrArg Value.bool (and_t hb29 (rfl))), trivial⟩)⟩
  ·refine Ss hb29 4 ?_
   refine Pk0 hb29 ?_
   refine Vs 1 ?_
   exact RWP.nil ⟨rfl, F0, hs23.dr0, (Mem.le.refl _), (fJ ⟨(congrArg Value.bool (and_f hb29 (rfl))), trivial⟩)⟩
 ·rintro f w24 ⟨F1, hs25, le26, ⟨_, rfl⟩⟩
  refine thenQ_nrm ?_
  refine Rt ?_
  obtain rfl := some_inj h
  exact Re [(.bool ((x0.Op == 1) && (x0.Value == x1)))] hs25 rfl
end Go.Proofs.YtaihlcdkcampbaaGreatDoor
namespace Go.Proofs.YtaihlcdkcampbaaGreatDoor
open Go.Proofs
def rules_reckoned (N : Nat) (x0 : Expr) (x1 : Expr) (x2 : Expr) : Option Expr :=
 (bif (x0.Op == 8) then ((rules_isConstant N x1 0).bind fun r36 => (bif r36 then some x2 else ((rules_isConstant N x2 0).bind fun r49 => (bif r49 then some x1 else some x0)))) else none)
theorem co_rules_reckoned : CallOk Tryz.prog 192 := fun _ _ => by kernel_rfl
theorem c_rules_reckoned (N : Nat) (w0 : World) (F0 : Mem) (hF : ∀ b o, F0 b = some o → w0.heap[b]? = some o) (x0 : Expr) (a0_2 : Option Addr) (n0_2 : Nat) (hb0_2 : LC x0.Kids.length n0_2) (hs0_2 : SlA tExpr F0 a0_2 x0.Kids) (x1 : Expr) (a1_2 : Option Addr) (n1_2 : Nat) (hb1_2 : LC x1.Kids.length n1_2) (hs1_2 : SlA tExpr F0 a1_2 x1.Kids) (x2 : Expr) (a2_2 : Option Addr) (n2_2 : Nat) (hb2_2 : LC x2.Kids.length n2_2) (hs2_2 : SlA tExpr F0 a2_2 x2.Kids) (r : Expr) (h : rules_reckoned N x0 x1 x2 = some r) :
  Calls Tryz.prog 192 ([(.agg (kExpr x0 a0_2 n0_2)), (.agg (kExpr x1 a1_2 n1_2)), (.agg (kExpr x2 a2_2 n2_2))] : List Value).toArray w0 (FRet w0 F0 fun F' v => ∃ (aq0_2 : Option Addr) (nq0_2 : Nat), v = (.agg (kExpr r aq0_2 nq0_2)) ∧ LC r.Kids.length nq0_2 ∧ SlA tExpr F' aq0_2 r.Kids) := by
 have hs0 := HS.start hF
 refine Go 49 Tryz.func192 ?_
 refine Sq (Rg [0, 1, 2, 3] ?_)
 refine Bx' 33 (kExpr x0 a0_2 n0_2) hs0 (fun b21 w22 hs23 => ?_)
 refine Bx' 33 (kExpr x1 a1_2 n1_2) hs23 (fun b24 w25 hs26 => ?_)
 refine Bx' 33 (kExpr x2 a2_2 n2_2) hs26 (fun b27 w28 hs29 => ?_)
 refine Al' 33 #[(vi 0), (vi 0), (.slice none ([] : List Expr).length 0)] hs29 (fun b30 w31 hs32 => ?_)
 refine Nss ?_
 refine Sq (Rg [0, 1] ?_)
 refine Vs 1 ?_
 refine Ld hs32.at3 ?_
 refine Nt ?_
 refine Bk ?_
 refine Sq (Rg [0, 1] ?_)
 refine Vs 2 ?_
 refine Nt ?_
 refine Cd h (fun hb33 h34 => ?_) (fun hb33 h35 => ?_)
 ·refine Bk ?_
  refine Sq (Rg [0, 1, 2] ?_)
  refine Ld hs32.at2 ?_
  obtain ⟨r36, hr37, h38⟩ := bind_some h34
  refine Cl' co_rules_isConstant hs32 (c_rules_isConstant N w31 F0 hs32.pers (x1) a1_2 n1_2 hb1_2 hs1_2 (0) _ hr37) ?_
  rintro _ F1 w40 hs41 le42 rfl
  refine Vs 1 ?_
  refine Nt ?_
  refine Cd h38 (fun hb44 h45 => ?_) (fun hb44 h46 => ?_)
  ·refine Sq (Rg [0, 1] ?_)
   refine Ld hs41.at1 ?_
   refine St0 (kExpr x2 a2_2 n2_2) hs41 (fun w47 hs48 => ?_)
   refine Nt ?_
   refine Rt ?_
   refine blockQ_ret ?_
   refine blockQ_ret ?_
   refine thenQ_ret ?_
   obtain rfl := some_inj h45
   exact ⟨rfl, (.agg (kExpr x2 a2_2 n2_2)), res_of (l := [.cell 6 33]) (by kernel_rfl) (vs := [(.agg (kExpr x2 a2_2 n2_2))]) ⟨b30, 0, rfl, run_loadVar' (t := 33) (g := true) (s := 3) (by kernel_rfl) hs48.at0 rfl (by decide), trivial⟩, (.agg (kExpr x2 a2_2 n2_2)), F1, rfl, hs48.clear, ⟨a2_2, n2_2, rfl, hb2_2, (SlA.mono hs2_2 le42)⟩⟩
  ·refine Sq (Rg [0, 1, 2] ?_)
   refine Ld hs41.at1 ?_
   obtain ⟨r49, hr50, h51⟩ := bind_some h46
   refine Cl' co_rules_isConstant hs41 (c_rules_isConstant N w40 F1 hs41.pers (x2) a2_2 n2_2 hb2_2 (SlA.mono hs2_2 le42) (0) _ hr50) ?_
   rintro _ F2 w53 hs54 le55 rfl
   refine Vs 1 ?_
   refine Nt ?_
   refine Cd h51 (fun hb57 h58 => ?_) (fun hb57 h59 => ?_)
   ·refine Sq (Rg [0, 1] ?_)
    refine Ld hs54.at2 ?_
    refine St0 (kExpr x1 a1_2 n1_2) hs54 (fun w60 hs61 => ?_)
    refine Nt ?_
    refine Rt ?_
    refine blockQ_ret ?_
    refine blockQ_ret ?_
    refine thenQ_ret ?_
    obtain rfl := some_inj h58
    exact ⟨rfl, (.agg (kExpr x1 a1_2 n1_2)), res_of (l := [.cell 6 33]) (by kernel_rfl) (vs := [(.agg (kExpr x1 a1_2 n1_2))]) ⟨b30, 0, rfl, run_loadVar' (t := 33) (g := true) (s := 3) (by kernel_rfl) hs61.at0 rfl (by decide), trivial⟩, (.agg (kExpr x1 a1_2 n1_2)), F2, rfl, hs61.clear, ⟨a1_2, n1_2, rfl, hb1_2, (SlA.mono hs1_2 (le42.trans le55))⟩⟩
   ·refine Sc ?_
    refine blockQ_nrm ?_
    refine blockQ_nrm ?_
    refine thenQ_nrm ?_
    refine Sq (Rg [0, 1] ?_)
    refine Ld hs54.at3 ?_
    refine St0 (kExpr x0 a0_2 n0_2) hs54 (fun w62 hs63 => ?_)
    refine Nt ?_
    refine Rt ?_
    obtain rfl := some_inj h59
    exact ⟨rfl, (.agg (kExpr x0 a0_2 n0_2)), res_of (l := [.cell 6 33]) (by kernel_rfl) (vs := [(.agg (kExpr x0 a0_2 n0_2))]) ⟨b30, 0, rfl, run_loadVar' (t := 33) (g := true) (s := 3) (by kernel_rfl) hs63.at0 rfl (by decide), trivial⟩, (.agg (kExpr x0 a0_2 n0_2)), F2, rfl, hs63.clear, ⟨a0_2, n0_2, rfl, hb0_2, (SlA.mono hs0_2 (le42.trans le55))⟩⟩
 ·cases h35
end Go.Proofs.YtaihlcdkcampbaaGreatDoor
namespace Go.Proofs.YtaihlcdkcampbaaGreatDoor
open Go.Proofs
def rules_simpler (N : Nat) (x0 : Expr) : Option Expr :=
 (bif ((x0.Kids.length : Int) == 0) then some x0 else ((idx x0.Kids 0).bind fun x32 => (bif (x0.Op == 3) then none else ((idx x0.Kids 1).bind fun x54 => (bif (bif (x0.Op == 6) then (x0.Op == 6) else (x0.Op == 7)) then ((bif ((x32.Op == 1) && (x54.Op == 1)) then some true else ((rules_same N x32 x54).bind fun r106 => some r106)).bind fun j93 => (bif j93 then (bif (x0.Op == 6) then ((rules_same N x32 x54).bind fun r120 => (bif r120 then ((rules_truthOf N true).bind fun r131 => some r131) else (bif (x0.Op == 7) then none else none))) else (bif (x0.Op == 7) then none else none)) else some x0)) else (bif (bif (x0.Op == 4) then (x0.Op == 4) else (x0.Op == 5)) then none else (bif (bif (x0.Op == 8) then (x0.Op == 8) else (bif (x0.Op == 9) then (x0.Op == 9) else (x0.Op == 10))) then (((mk0 0 14).bind fun r206 => ((rules_value N x0 r206).bind fun r220 => some r220)).bind fun j196 => (bif (((x32.Op == 1) && (x54.Op == 1)) && (decide (j196 ≥ 0))) then ((rules_constant N j196).bind fun r242 => some r242) else ((rules_reckoned N x0 x32 x54).bind fun r252 => some r252))) else (bif (x0.Op == 11) then ((rules_isTruth N x32 true).bind fun r265 => (bif r265 then some x54 else ((rules_isTruth N x32 false).bind fun r278 => (bif r278 then ((idx x0.Kids 2).bind fun x289 => some x289) else (((idx x0.Kids 2).bind fun x310 => ((rules_same N x54 x310).bind fun r316 => some r316)).bind fun j302 => (bif j302 then some x54 else some x0)))))) else none))))))))
theorem co_rules_simpler : CallOk Tryz.prog 148 := fun _ _ => by kernel_rfl
theorem c_rules_simpler (N : Nat) (w0 : World) (F0 : Mem) (hF : ∀ b o, F0 b = some o → w0.heap[b]? = some o) (x0 : Expr) (a0_2 : Option Addr) (n0_2 : Nat) (hb0_2 : LC x0.Kids.length n0_2) (hs0_2 : SlA tExpr F0 a0_2 x0.Kids) (r : Expr) (h : rules_simpler N x0 = some r) :
  Calls Tryz.prog 148 ([(.agg (kExpr x0 a0_2 n0_2))] : List Value).toArray w0 (FRet w0 F0 fun F' v => ∃ (aq0_2 : Option Addr) (nq0_2 : Nat), v = (.agg (kExpr r aq0_2 nq0_2)) ∧ LC r.Kids.length nq0_2 ∧ SlA tExpr F' aq0_2 r.Kids) := by
 have hs0 := HS.start hF
 refine Go 130 Tryz.func148 ?_
 refine Sq (Rg [0, 1] ?_)
 refine Bx' 33 (kExpr x0 a0_2 n0_2) hs0 (fun b21 w22 hs23 => ?_)
 refine Al' 33 #[(vi 0), (vi 0), (.slice none ([] : List Expr).length 0)] hs23 (fun b24 w25 hs26 => ?_)
 refine Nss ?_
 refine Sq (Rg [0, 1, 2, 3] ?_)
 refine Vs 1 ?_
 refine Ld hs26.at1 ?_
 refine Vs 2 ?_
 refine Nt ?_
 refine Cd h (fun hb27 h28 => ?_) (fun hb27 h29 => ?_)
 ·refine Sq (Rg [0, 1] ?_)
  refine Ld hs26.at1 ?_
  refine St0 (kExpr x0 a0_2 n0_2) hs26 (fun w30 hs31 => ?_)
  refine Nt ?_
  refine Rt ?_
  refine thenQ_ret ?_
  obtain rfl := some_inj h28
  exact ⟨rfl, (.agg (kExpr x0 a0_2 n0_2)), res_of (l := [.cell 2 33]) (by kernel_rfl) (vs := [(.agg (kExpr x0 a0_2 n0_2))]) ⟨b24, 0, rfl, run_loadVar' (t := 33) (g := true) (s := 3) (by kernel_rfl) hs31.at0 rfl (by decide), trivial⟩, (.agg (kExpr x0 a0_2 n0_2)), F0, rfl, hs31.clear, ⟨a0_2, n0_2, rfl, hb0_2, hs0_2⟩⟩
 ·refine Sc ?_
  refine thenQ_nrm ?_
  refine Sq (Rg [0, 1, 2, 3, 4, 5] ?_)
  refine Vs 1 ?_
  refine Ld hs26.at1 ?_
  obtain ⟨x32, hx33, h35⟩ := bind_some h29
  obtain ⟨hi34, hx33'⟩ := idx_spec hx33
  obtain ⟨b36, o37, C38, E39, fz40, rfl, hF42, hE43⟩ := SlA.open hs0_2 hx33'
  obtain ⟨ae44_2, ne44_2, hc45, hbe44_2, hse44_2⟩ := (tExpr_open (hE43 _ _ hx33'))
  refine Ix hi34 ?_
  refine Lx 0 (hs26.pers _ _ hF42) hc45 ?_
  refine Al' 33 #[(vi 0), (vi 0), (.slice none ([] : List Expr).length 0)] hs26 (fun b46 w47 hs48 => ?_)
  refine St0 (kExpr x32 ae44_2 ne44_2) hs48 (fun w49 hs50 => ?_)
  refine Nss ?_
  refine Sq (Rg [0, 1, 2] ?_)
  refine Vs 1 ?_
  refine Ld hs50.at2 ?_
  refine Vs 1 ?_
  refine Nt ?_
  refine Cd h35 (fun hb51 h52 => ?_) (fun hb51 h53 => ?_)
  ·cases h52
  ·refine Sc ?_
   refine thenQ_nrm ?_
   refine Sq (Rg [0, 1, 2, 3, 4, 5] ?_)
   refine Vs 1 ?_
   refine Ld hs50.at2 ?_
   obtain ⟨x54, hx55, h57⟩ := bind_some h53
   obtain ⟨hi56, hx55'⟩ := idx_spec hx55
   obtain ⟨ae58_2, ne58_2, hc59, hbe58_2, hse58_2⟩ := (tExpr_open (hE43 _ _ hx55'))
   refine Ix hi56 ?_
   refine Lx 0 (hs50.pers _ _ hF42) hc59 ?_
   refine Al' 33 #[(vi 0), (vi 0), (.slice none ([] : List Expr).length 0)] hs50 (fun b60 w61 hs62 => ?_)
   refine St0 (kExpr x54 ae58_2 ne58_2) hs62 (fun w63 hs64 => ?_)
   refine Nss (Rg [0, 1, 2, 3, 4, 5, 6, 7, 8] ?_)
   refine RWP.cut (fun f w => ∃ (F1 : Mem), HS w0 F0 w F1 [(sb b60 (kExpr x54 ae58_2 ne58_2) 33), (sb b46 (kExpr x32 ae44_2 ne44_2) 33), (sb b24 #[(vi 0), (vi 0), (.slice none ([] : List Expr).length 0)] 33), (sb b21 (kExpr x0 (some ⟨b36, o37, none⟩) n0_2) 33)] ∧ Mem.le F0 F1 ∧ FI f [] [(1, (pt b21 0)), (2, (pt b24 0)), (3, (pt b46 0)), (4, (pt b60 0)), (5, (.bool ((x32.Op == 1) && (x54.Op == 1))))]) ?_ ?_
   ·refine Vs 1 ?_
    refine Ld hs64.at1 ?_
    refine Vs 2 ?_
    refine RWP.split (x32.Op == 1) (fun hb74 => ?_) (fun hb74 => ?_)
    ·refine Vgs hb74 1 ?_
     refine Lg hb74 hs64.at0 ?_
     refine Vgs hb74 1 ?_
     refine Pk1 hb74 ?_
     refine Vs 1 ?_
     exact RWP.nil ⟨rfl, F0, hs64, (Mem.le.refl _), (fJ ⟨rfl, rfl, rfl, rfl, (congrArg Value.bool (and_t hb74 (rfl))), trivial⟩)⟩
    ·refine Ss hb74 3 ?_
     refine Pk0 hb74 ?_
     refine Vs 1 ?_
     exact RWP.nil ⟨rfl, F0, hs64, (Mem.le.refl _), (fJ ⟨rfl, rfl, rfl, rfl, (congrArg Value.bool (and_f hb74 (rfl))), trivial⟩)⟩
   ·rintro f w65 ⟨F1, hs66, le67, ⟨_, rfl⟩⟩
    refine thenQ_nrm ?_
    refine Sq ?_
    refine Sq (Rg [0, 1] ?_)
    refine Vs 1 ?_
    refine Ld hs66.at3 ?_
    refine Nt ?_
    refine Bk ?_
    refine Sq ?_
    refine Sq (Rg [0, 1] ?_)
    refine Vs 2 ?_
    refine Nt ?_
    refine CWP.cut (fun f w => ∃ (F2 : Mem), HS w0 F0 w F2 [(sb b60 (kExpr x54 ae58_2 ne58_2) 33), (sb b46 (kExpr x32 ae44_2 ne44_2) 33), (sb b24 #[(vi 0), (vi 0), (.slice none ([] : List Expr).length 0)] 33), (sb b21 (kExpr x0 (some ⟨b36, o37, none⟩) n0_2) 33)] ∧ Mem.le F1 F2 ∧ FI f [] [(1, (pt b21 0)), (2, (pt b24 0)), (3, (pt b46 0)), (4, (pt b60 0)), (5, (.bool ((x32.Op == 1) && (x54.Op == 1)))), (49, (vi x0.Op)), (50, (.bool (bif (x0.Op == 6) then (x0.Op == 6) else (x0.Op == 7))))]) ?_ ?_
    ·refine Cp (x0.Op == 6) (fun hb86 => ?_) (fun hb86 => ?_)
     ·refine Sc ?_
      exact .inl ⟨rfl, F1, hs66, (Mem.le.refl _), (fJ ⟨rfl, rfl, rfl, rfl, rfl, rfl, (congrArg Value.bool (bif_t hb86 (rfl))), trivial⟩)⟩
     ·refine Rg [0, 1] ?_
      refine Vs 2 ?_
      refine RWP.nil ?_
      exact .inl ⟨rfl, F1, hs66, (Mem.le.refl _), (fJ ⟨rfl, rfl, rfl, rfl, rfl, rfl, (congrArg Value.bool (bif_f hb86 (rfl))), trivial⟩)⟩
    ·rintro f w75 ⟨F2, hs76, le77, ⟨_, rfl⟩⟩
     refine thenQ_nrm ?_
     refine Cd h57 (fun hb87 h88 => ?_) (fun hb87 h89 => ?_)
     ·refine Sq (Rg [0, 1, 2, 3, 4, 5] ?_)
      obtain ⟨j93, hj101, h102⟩ := bind_some h88
      refine RWP.cut (fun f w => ∃ (F3 : Mem), HS w0 F0 w F3 [(sb b60 (kExpr x54 ae58_2 ne58_2) 33), (sb b46 (kExpr x32 ae44_2 ne44_2) 33), (sb b24 #[(vi 0), (vi 0), (.slice none ([] : List Expr).length 0)] 33), (sb b21 (kExpr x0 (some ⟨b36, o37, none⟩) n0_2) 33)] ∧ Mem.le F2 F3 ∧ FI f [] [(1, (pt b21 0)), (2, (pt b24 0)), (3, (pt b46 0)), (4, (pt b60 0)), (5, (.bool ((x32.Op == 1) && (x54.Op == 1)))), (58, (.bool j93))]) ?_ ?_
      ·refine Vs 2 ?_
       refine Sp hj101 (fun hb103 h104 => ?_) (fun hb103 h105 => ?_)
       ·refine Ss hb103 3 ?_
        refine Pk1 hb103 ?_
        obtain rfl := some_inj h104
        exact RWP.nil ⟨rfl, F2, hs76, (Mem.le.refl _), fI⟩
       ·refine Lg hb103 hs76.at1 ?_
        refine Lg hb103 hs76.at0 ?_
        obtain ⟨r106, hr107, h108⟩ := bind_some h105
        refine Cg hb103 co_rules_same hs76 (c_rules_same N w75 F2 hs76.pers (x32) ae44_2 ne44_2 hbe44_2 (SlA.mono hse44_2 (le67.trans le77)) (x54) ae58_2 ne58_2 hbe58_2 (SlA.mono hse58_2 (le67.trans le77)) _ hr107) ?_
        rintro _ F4 w110 hs111 le112 rfl
        refine Pk0 hb103 ?_
        obtain rfl := some_inj h108
        exact RWP.nil ⟨rfl, F4, hs111, le112, fI⟩
      ·rintro f w90 ⟨F3, hs91, le92, ⟨_, rfl⟩⟩
       refine thenQ_nrm ?_
       refine Cd h102 (fun hb114 h115 => ?_) (fun hb114 h116 => ?_)
       ·refine Sq (Rg [0, 1, 2, 3, 4, 5, 6, 7, 8, 9, 10, 11, 12, 13, 14, 15, 16, 17, 18, 19, 20, 21, 22, 23, 24] ?_)
        refine Vs 1 ?_
        refine Ld hs91.at3 ?_
        refine Vs 2 ?_
        refine Sp h115 (fun hb117 h118 => ?_) (fun hb117 h119 => ?_)
        ·refine Lg hb117 hs91.at1 ?_
         refine Lg hb117 hs91.at0 ?_
         obtain ⟨r120, hr121, h122⟩ := bind_some h118
         refine Cg hb117 co_rules_same hs91 (c_rules_same N w90 F3 hs91.pers (x32) ae44_2 ne44_2 hbe44_2 (SlA.mono hse44_2 ((le67.trans le77).trans le92)) (x54) ae58_2 ne58_2 hbe58_2 (SlA.mono hse58_2 ((le67.trans le77).trans le92)) _ hr121) ?_
         rintro _ F5 w124 hs125 le126 rfl
         refine Pk1 hb117 ?_
         refine Vs 1 ?_
         refine Sp h122 (fun hb128 h129 => ?_) (fun hb128 h130 => ?_)
         ·refine Ss hb128 4 ?_
          refine Su' 1 ?_
          refine Ss hb128 2 ?_
          refine Su' 5 ?_
          refine Ss hb128 1 ?_
          refine Pk1 hb128 ?_
          obtain ⟨r131, hr132, h133⟩ := bind_some h129
          refine Cl' co_rules_truthOf hs125 (c_rules_truthOf N w124 F5 hs125.pers (true) _ hr132) ?_
          rintro _ F6 w135 hs136 le137 ⟨ar131_0_2, nr131_0_2, rfl, hbr131_0_2, hsr131_0_2⟩
          refine St2 (kExpr r131 ar131_0_2 nr131_0_2) hs136 (fun w139 hs140 => ?_)
          refine Nt ?_
          refine Rt ?_
          refine blockQ_ret ?_
          refine thenQ_ret ?_
          obtain rfl := some_inj h133
          exact ⟨rfl, (.agg (kExpr r131 ar131_0_2 nr131_0_2)), res_of (l := [.cell 2 33]) (by kernel_rfl) (vs := [(.agg (kExpr r131 ar131_0_2 nr131_0_2))]) ⟨b24, 0, rfl, run_loadVar' (t := 33) (g := true) (s := 3) (by kernel_rfl) hs140.at2 rfl (by decide), trivial⟩, (.agg (kExpr r131 ar131_0_2 nr131_0_2)), F6, rfl, hs140.clear, ⟨ar131_0_2, nr131_0_2, rfl, hbr131_0_2, hsr131_0_2⟩⟩
         ·refine Vgs hb128 1 ?_
          refine Lg hb128 hs125.at3 ?_
          refine Vgs hb128 2 ?_
          refine Sp h130 (fun hb141 h142 => ?_) (fun hb141 h143 => ?_)
          ·cases h142
          ·cases h143
        ·refine Ss hb117 3 ?_
         refine Pk0 hb117 ?_
         refine Vs 1 ?_
         refine Vg 68 0 8 false 67 rfl (fa 33 1 0 0 1 b21 0 0) ?_
         refine Vg 69 3 8 false 67 rfl (ld 3 68 b21 0 false 1 (vi x0.Op) hs91.at3) ?_
         refine Vg 70 4 8 false 67 rfl (run_eql (t := 3) (t' := 3) (x := (.tmp 69)) (y := (.const (vi 7))) (k := .i64) (a := x0.Op) (b := 7) rfl rfl) ?_
         refine Vg 71 4 8 false 67 rfl (mv 70 (.bool (x0.Op == 7))) ?_
         refine Sp h119 (fun hb144 h145 => ?_) (fun hb144 h146 => ?_)
         ·cases h145
         ·cases h146
       ·refine Sc ?_
        refine blockQ_nrm ?_
        refine thenQ_nrm ?_
        refine Sq (Rg [0, 1] ?_)
        refine Ld hs91.at3 ?_
        refine St2 (kExpr x0 (some ⟨b36, o37, none⟩) n0_2) hs91 (fun w147 hs148 => ?_)
        refine Nt ?_
        refine Rt ?_
        obtain rfl := some_inj h116
        exact ⟨rfl, (.agg (kExpr x0 (some ⟨b36, o37, none⟩) n0_2)), res_of (l := [.cell 2 33]) (by kernel_rfl) (vs := [(.agg (kExpr x0 (some ⟨b36, o37, none⟩) n0_2))]) ⟨b24, 0, rfl, run_loadVar' (t := 33) (g := true) (s := 3) (by kernel_rfl) hs148.at2 rfl (by decide), trivial⟩, (.agg (kExpr x0 (some ⟨b36, o37, none⟩) n0_2)), F3, rfl, hs148.clear, ⟨(some ⟨b36, o37, none⟩), n0_2, rfl, hb0_2, (SlA.mono hs0_2 ((le67.trans le77).trans le92))⟩⟩
     ·refine Sq ?_
      refine Sq (Rg [0, 1] ?_)
      refine Vs 2 ?_
      refine Nt ?_
      refine CWP.cut (fun f w => ∃ (F7 : Mem), HS w0 F0 w F7 [(sb b60 (kExpr x54 ae58_2 ne58_2) 33), (sb b46 (kExpr x32 ae44_2 ne44_2) 33), (sb b24 #[(vi 0), (vi 0), (.slice none ([] : List Expr).length 0)] 33), (sb b21 (kExpr x0 (some ⟨b36, o37, none⟩) n0_2) 33)] ∧ Mem.le F2 F7 ∧ FI f [] [(1, (pt b21 0)), (2, (pt b24 0)), (3, (pt b46 0)), (4, (pt b60 0)), (5, (.bool ((x32.Op == 1) && (x54.Op == 1)))), (49, (vi x0.Op)), (83, (.bool (bif (x0.Op == 4) then (x0.Op == 4) else (x0.Op == 5))))]) ?_ ?_
      ·refine Cp (x0.Op == 4) (fun hb160 => ?_) (fun hb160 => ?_)
       ·refine Sc ?_
        exact .inl ⟨rfl, F2, hs76, (Mem.le.refl _), (fJ ⟨rfl, rfl, rfl, rfl, rfl, rfl, (congrArg Value.bool (bif_t hb160 (rfl))), trivial⟩)⟩
       ·refine Rg [0, 1] ?_
        refine Vs 2 ?_
        refine RWP.nil ?_
        exact .inl ⟨rfl, F2, hs76, (Mem.le.refl _), (fJ ⟨rfl, rfl, rfl, rfl, rfl, rfl, (congrArg Value.bool (bif_f hb160 (rfl))), trivial⟩)⟩
      ·rintro f w149 ⟨F7, hs150, le151, ⟨_, rfl⟩⟩
       refine thenQ_nrm ?_
       refine Cd h89 (fun hb161 h162 => ?_) (fun hb161 h163 => ?_)
       ·cases h162
       ·refine Sq ?_
        refine Sq (Rg [0, 1] ?_)
        refine Vs 2 ?_
        refine Nt ?_
        refine CWP.cut (fun f w => ∃ (F8 : Mem), HS w0 F0 w F8 [(sb b60 (kExpr x54 ae58_2 ne58_2) 33), (sb b46 (kExpr x32 ae44_2 ne44_2) 33), (sb b24 #[(vi 0), (vi 0), (.slice none ([] : List Expr).length 0)] 33), (sb b21 (kExpr x0 (some ⟨b36, o37, none⟩) n0_2) 33)] ∧ Mem.le F7 F8 ∧ FI f [] [(1, (pt b21 0)), (2, (pt b24 0)), (3, (pt b46 0)), (4, (pt b60 0)), (5, (.bool ((x32.Op == 1) && (x54.Op == 1)))), (49, (vi x0.Op)), (90, (.bool (bif (x0.Op == 8) then (x0.Op == 8) else (bif (x0.Op == 9) then (x0.Op == 9) else (x0.Op == 10)))))]) ?_ ?_
        ·refine Cp (x0.Op == 8) (fun hb175 => ?_) (fun hb175 => ?_)
         ·refine Sc ?_
          exact .inl ⟨rfl, F7, hs150, (Mem.le.refl _), (fJ ⟨rfl, rfl, rfl, rfl, rfl, rfl, (congrArg Value.bool (bif_t hb175 (rfl))), trivial⟩)⟩
         ·refine Sq (Rg [0, 1] ?_)
          refine Vs 2 ?_
          refine Nt ?_
          refine CWP.cut (fun f w => ∃ (F9 : Mem), HS w0 F0 w F9 [(sb b60 (kExpr x54 ae58_2 ne58_2) 33), (sb b46 (kExpr x32 ae44_2 ne44_2) 33), (sb b24 #[(vi 0), (vi 0), (.slice none ([] : List Expr).length 0)] 33), (sb b21 (kExpr x0 (some ⟨b36, o37, none⟩) n0_2) 33)] ∧ Mem.le F7 F9 ∧ FI f [] [(1, (pt b21 0)), (2, (pt b24 0)), (3, (pt b46 0)), (4, (pt b60 0)), (5, (.bool ((x32.Op == 1) && (x54.Op == 1)))), (49, (vi x0.Op)), (90, (.bool (bif (x0.Op == 9) then (x0.Op == 9) else (x0.Op == 10))))]) ?_ ?_
          ·refine Cp (x0.Op == 9) (fun hb187 => ?_) (fun hb187 => ?_)
           ·refine Sc ?_
            exact .inl ⟨rfl, F7, hs150, (Mem.le.refl _), (fJ ⟨rfl, rfl, rfl, rfl, rfl, rfl, (congrArg Value.bool (bif_t hb187 (rfl))), trivial⟩)⟩
           ·refine Rg [0, 1] ?_
            refine Vs 2 ?_
            refine RWP.nil ?_
            exact .inl ⟨rfl, F7, hs150, (Mem.le.refl _), (fJ ⟨rfl, rfl, rfl, rfl, rfl, rfl, (congrArg Value.bool (bif_f hb187 (rfl))), trivial⟩)⟩
          ·rintro f w176 ⟨F9, hs177, le178, ⟨_, rfl⟩⟩
           exact .inl ⟨rfl, F9, hs177, le178, (fJ ⟨rfl, rfl, rfl, rfl, rfl, rfl, (congrArg Value.bool (bif_f hb175 (rfl))), trivial⟩)⟩
        ·rintro f w164 ⟨F8, hs165, le166, ⟨_, rfl⟩⟩
         refine thenQ_nrm ?_
         refine Cd h163 (fun hb188 h189 => ?_) (fun hb188 h190 => ?_)
         ·refine Sq ?_
          refine Sq ?_
          obtain ⟨j196, hj204, h205⟩ := bind_some h189
          refine RD 4 4 [(sb b60 (kExpr x54 ae58_2 ne58_2) 33), (sb b46 (kExpr x32 ae44_2 ne44_2) 33), (sb b24 #[(vi 0), (vi 0), (.slice none ([] : List Expr).length 0)] 33), (sb b21 (kExpr x0 (some ⟨b36, o37, none⟩) n0_2) 33)] [] hs165 (fun f w => ∃ (F10 : Mem), HS w0 F0 w F10 [(sb b60 (kExpr x54 ae58_2 ne58_2) 33), (sb b46 (kExpr x32 ae44_2 ne44_2) 33), (sb b24 #[(vi 0), (vi 0), (.slice none ([] : List Expr).length 0)] 33), (sb b21 (kExpr x0 (some ⟨b36, o37, none⟩) n0_2) 33)] ∧ Mem.le F8 F10 ∧ FI f [] [(1, (pt b21 0)), (2, (pt b24 0)), (3, (pt b46 0)), (4, (pt b60 0)), (5, (.bool ((x32.Op == 1) && (x54.Op == 1)))), (6, (vi j196))]) (fun wd191 hw192 => ?_) ?_
          ·refine Dl 0 (fun _ hq => (hq.1.2 3 _ _ rfl)) ?_
           refine D1 1 ?_
           obtain ⟨r206, hm207, h208⟩ := bind_some hj204
           refine DStep.makeSlice (l' := [true, true, false, false]) (zd := true) (by kernel_rfl) (by kernel_rfl) (dst := (some 95)) (ty := 47) (g := none) (by kernel_rfl) rfl (x := (.const (vi 14))) (y := (.const (vi 14))) (t := 47) (by_ := 8) (z := (vi 0)) (T := tInt) (E := 3) rfl rfl (by kernel_rfl) (by decide) (by kernel_rfl) (z0 := 0) (fun _ => rfl) (by decide) hw192 hm207 (Mem.le.refl _) (by simp) (fun e => by cases e) (fun b209 n210 C211 w212 (hs213 : HS w0 F0 w212 F8 [(some b209, .cells C211 3 (0, 0)), (sb b60 (kExpr x54 ae58_2 ne58_2) 33), (sb b46 (kExpr x32 ae44_2 ne44_2) 33), (sb b24 #[(vi 0), (vi 0), (.slice none ([] : List Expr).length 0)] 33), (sb b21 (kExpr x0 (some ⟨b36, o37, none⟩) n0_2) 33)]) hr214 => ?_)
           refine D1 2 ?_
           have hb219 := RowR.bound hr214
           obtain ⟨F11, hs216, le217, hs218⟩ := hs213.fr0 hr214
           obtain ⟨r220, hr221, h222⟩ := bind_some h208
           refine DCl co_rules_value hs216 (c_rules_value N w212 F11 hs216.pers (x0) (some ⟨b36, o37, none⟩) n0_2 hb0_2 (SlA.mono hs0_2 ((((le67.trans le77).trans le151).trans le166).trans le217)) (r206) (some ⟨b209, 0, none⟩) n210 hb219 hs218 _ hr221) ?_
           rintro _ F12 w224 hs225 le226 rfl
           refine Dv [3] ?_
           obtain rfl := some_inj h222
           exact DWP.done (by kernel_rfl) ⟨F12, hs225, (le217.trans le226), fI⟩
          ·rintro f w193 ⟨F10, hs194, le195, ⟨_, rfl⟩⟩
           refine thenQ_nrm ?_
           refine Sq (Rg [0, 1, 2, 3, 4] ?_)
           refine RWP.cut (fun f w => ∃ (F13 : Mem), HS w0 F0 w F13 [(sb b60 (kExpr x54 ae58_2 ne58_2) 33), (sb b46 (kExpr x32 ae44_2 ne44_2) 33), (sb b24 #[(vi 0), (vi 0), (.slice none ([] : List Expr).length 0)] 33), (sb b21 (kExpr x0 (some ⟨b36, o37, none⟩) n0_2) 33)] ∧ Mem.le F10 F13 ∧ FI f [] [(1, (pt b21 0)), (2, (pt b24 0)), (3, (pt b46 0)), (4, (pt b60 0)), (6, (vi j196)), (101, (.bool (((x32.Op == 1) && (x54.Op == 1)) && (decide (j196 ≥ 0)))))]) ?_ ?_
           ·refine Vs 2 ?_
            refine RWP.split ((x32.Op == 1) && (x54.Op == 1)) (fun hb238 => ?_) (fun hb238 => ?_)
            ·refine Vgs hb238 2 ?_
             refine Pk1 hb238 ?_
             exact RWP.nil ⟨rfl, F10, hs194, (Mem.le.refl _), (fJ ⟨rfl, rfl, rfl, rfl, rfl, (congrArg Value.bool (and_t hb238 (rfl))), trivial⟩)⟩
            ·refine Ss hb238 2 ?_
             refine Pk0 hb238 ?_
             exact RWP.nil ⟨rfl, F10, hs194, (Mem.le.refl _), (fJ ⟨rfl, rfl, rfl, rfl, rfl, (congrArg Value.bool (and_f hb238 (rfl))), trivial⟩)⟩
           ·rintro f w228 ⟨F13, hs229, le230, ⟨_, rfl⟩⟩
            refine thenQ_nrm ?_
            refine Cd h205 (fun hb239 h240 => ?_) (fun hb239 h241 => ?_)
            ·refine Sq (Rg [0, 1, 2] ?_)
             refine Vs 1 ?_
             obtain ⟨r242, hr243, h244⟩ := bind_some h240
             refine Cl' co_rules_constant hs229 (c_rules_constant N w228 F13 hs229.pers (j196) _ hr243) ?_
             rintro _ F14 w246 hs247 le248 ⟨ar242_0_2, nr242_0_2, rfl, hbr242_0_2, hsr242_0_2⟩
             refine St2 (kExpr r242 ar242_0_2 nr242_0_2) hs247 (fun w250 hs251 => ?_)
             refine Nt ?_
             refine Rt ?_
             refine thenQ_ret ?_
             refine blockQ_ret ?_
             refine thenQ_ret ?_
             obtain rfl := some_inj h244
             exact ⟨rfl, (.agg (kExpr r242 ar242_0_2 nr242_0_2)), res_of (l := [.cell 2 33]) (by kernel_rfl) (vs := [(.agg (kExpr r242 ar242_0_2 nr242_0_2))]) ⟨b24, 0, rfl, run_loadVar' (t := 33) (g := true) (s := 3) (by kernel_rfl) hs251.at2 rfl (by decide), trivial⟩, (.agg (kExpr r242 ar242_0_2 nr242_0_2)), F14, rfl, hs251.clear, ⟨ar242_0_2, nr242_0_2, rfl, hbr242_0_2, hsr242_0_2⟩⟩
            ·refine Sc ?_
             refine thenQ_nrm ?_
             refine Sq (Rg [0, 1, 2, 3, 4] ?_)
             refine Ld hs229.at3 ?_
             refine Ld hs229.at1 ?_
             refine Ld hs229.at0 ?_
             obtain ⟨r252, hr253, h254⟩ := bind_some h241
             refine Cl' co_rules_reckoned hs229 (c_rules_reckoned N w228 F13 hs229.pers (x0) (some ⟨b36, o37, none⟩) n0_2 hb0_2 (SlA.mono hs0_2 (((((le67.trans le77).trans le151).trans le166).trans le195).trans le230)) (x32) ae44_2 ne44_2 hbe44_2 (SlA.mono hse44_2 (((((le67.trans le77).trans le151).trans le166).trans le195).trans le230)) (x54) ae58_2 ne58_2 hbe58_2 (SlA.mono hse58_2 (((((le67.trans le77).trans le151).trans le166).trans le195).trans le230)) _ hr253) ?_
             rintro _ F15 w256 hs257 le258 ⟨ar252_0_2, nr252_0_2, rfl, hbr252_0_2, hsr252_0_2⟩
             refine St2 (kExpr r252 ar252_0_2 nr252_0_2) hs257 (fun w260 hs261 => ?_)
             refine Nt ?_
             refine Rt ?_
             refine blockQ_ret ?_
             refine thenQ_ret ?_
             obtain rfl := some_inj h254
             exact ⟨rfl, (.agg (kExpr r252 ar252_0_2 nr252_0_2)), res_of (l := [.cell 2 33]) (by kernel_rfl) (vs := [(.agg (kExpr r252 ar252_0_2 nr252_0_2))]) ⟨b24, 0, rfl, run_loadVar' (t := 33) (g := true) (s := 3) (by kernel_rfl) hs261.at2 rfl (by decide), trivial⟩, (.agg (kExpr r252 ar252_0_2 nr252_0_2)), F15, rfl, hs261.clear, ⟨ar252_0_2, nr252_0_2, rfl, hbr252_0_2, hsr252_0_2⟩⟩
         ·refine Sq (Rg [0, 1] ?_)
          refine Vs 2 ?_
          refine Nt ?_
          refine Cd h190 (fun hb262 h263 => ?_) (fun hb262 h264 => ?_)
          ·refine Bk ?_
           refine Sq (Rg [0, 1, 2] ?_)
           refine Ld hs165.at1 ?_
           obtain ⟨r265, hr266, h267⟩ := bind_some h263
           refine Cl' co_rules_isTruth hs165 (c_rules_isTruth N w164 F8 hs165.pers (x32) ae44_2 ne44_2 hbe44_2 (SlA.mono hse44_2 (((le67.trans le77).trans le151).trans le166)) (true) _ hr266) ?_
           rintro _ F16 w269 hs270 le271 rfl
           refine Vs 1 ?_
           refine Nt ?_
           refine Cd h267 (fun hb273 h274 => ?_) (fun hb273 h275 => ?_)
           ·refine Sq (Rg [0, 1] ?_)
            refine Ld hs270.at0 ?_
            refine St2 (kExpr x54 ae58_2 ne58_2) hs270 (fun w276 hs277 => ?_)
            refine Nt ?_
            refine Rt ?_
            refine blockQ_ret ?_
            refine blockQ_ret ?_
            refine thenQ_ret ?_
            obtain rfl := some_inj h274
            exact ⟨rfl, (.agg (kExpr x54 ae58_2 ne58_2)), res_of (l := [.cell 2 33]) (by kernel_rfl) (vs := [(.agg (kExpr x54 ae58_2 ne58_2))]) ⟨b24, 0, rfl, run_loadVar' (t := 33) (g := true) (s := 3) (by kernel_rfl) hs277.at2 rfl (by decide), trivial⟩, (.agg (kExpr x54 ae58_2 ne58_2)), F16, rfl, hs277.clear, ⟨ae58_2, ne58_2, rfl, hbe58_2, (SlA.mono hse58_2 ((((le67.trans le77).trans le151).trans le166).trans le271))⟩⟩
           ·refine Sq (Rg [0, 1, 2] ?_)
            refine Ld hs270.at1 ?_
            obtain ⟨r278, hr279, h280⟩ := bind_some h275
            refine Cl' co_rules_isTruth hs270 (c_rules_isTruth N w269 F16 hs270.pers (x32) ae44_2 ne44_2 hbe44_2 (SlA.mono hse44_2 ((((le67.trans le77).trans le151).trans le166).trans le271)) (false) _ hr279) ?_
            rintro _ F17 w282 hs283 le284 rfl
            refine Vs 1 ?_
            refine Nt ?_
            refine Cd h280 (fun hb286 h287 => ?_) (fun hb286 h288 => ?_)
            ·refine Sq (Rg [0, 1, 2, 3, 4] ?_)
             refine Vs 1 ?_
             refine Ld hs283.at3 ?_
             obtain ⟨x289, hx290, h292⟩ := bind_some h287
             obtain ⟨hi291, hx290'⟩ := idx_spec hx290
             obtain ⟨ae293_2, ne293_2, hc294, hbe293_2, hse293_2⟩ := (tExpr_open (hE43 _ _ hx290'))
             refine Ix hi291 ?_
             refine Lx 0 (hs283.pers _ _ ((((((le67.trans le77).trans le151).trans le166).trans le271).trans le284) _ _ hF42)) hc294 ?_
             refine St2 (kExpr x289 ae293_2 ne293_2) hs283 (fun w295 hs296 => ?_)
             refine Nt ?_
             refine Rt ?_
             refine blockQ_ret ?_
             refine blockQ_ret ?_
             refine thenQ_ret ?_
             obtain rfl := some_inj h292
             exact ⟨rfl, (.agg (kExpr x289 ae293_2 ne293_2)), res_of (l := [.cell 2 33]) (by kernel_rfl) (vs := [(.agg (kExpr x289 ae293_2 ne293_2))]) ⟨b24, 0, rfl, run_loadVar' (t := 33) (g := true) (s := 3) (by kernel_rfl) hs296.at2 rfl (by decide), trivial⟩, (.agg (kExpr x289 ae293_2 ne293_2)), F17, rfl, hs296.clear, ⟨ae293_2, ne293_2, rfl, hbe293_2, (SlA.mono hse293_2 (((((le67.trans le77).trans le151).trans le166).trans le271).trans le284))⟩⟩
            ·refine Sq ?_
             obtain ⟨j302, hj308, h309⟩ := bind_some h288
             refine RD 7 7 [(sb b60 (kExpr x54 ae58_2 ne58_2) 33), (sb b46 (kExpr x32 ae44_2 ne44_2) 33), (sb b24 #[(vi 0), (vi 0), (.slice none ([] : List Expr).length 0)] 33), (sb b21 (kExpr x0 (some ⟨b36, o37, none⟩) n0_2) 33)] [] hs283 (fun f w => ∃ (F18 : Mem), HS w0 F0 w F18 [(sb b60 (kExpr x54 ae58_2 ne58_2) 33), (sb b24 #[(vi 0), (vi 0), (.slice none ([] : List Expr).length 0)] 33), (sb b21 (kExpr x0 (some ⟨b36, o37, none⟩) n0_2) 33)] ∧ Mem.le F17 F18 ∧ FI f [] [(1, (pt b21 0)), (2, (pt b24 0)), (4, (pt b60 0)), (121, (.bool j302))]) (fun wd297 hw298 => ?_) ?_
             ·refine Dl 0 (fun _ hq => (hq.1.2 0 _ _ rfl)) ?_
              refine Dv [1] ?_
              refine Dl 2 (fun _ hq => (hq.1.2 3 _ _ rfl)) ?_
              obtain ⟨x310, hx311, h313⟩ := bind_some hj308
              obtain ⟨hi312, hx311'⟩ := idx_spec hx311
              obtain ⟨ae314_2, ne314_2, hc315, hbe314_2, hse314_2⟩ := (tExpr_open (hE43 _ _ hx311'))
              refine Di 3 hi312 ?_
              refine Dx 4 0 (fun _ hq => hq.1.1 _ _ ((((((le67.trans le77).trans le151).trans le166).trans le271).trans le284) _ _ hF42)) hc315 ?_
              refine D1 5 ?_
              obtain ⟨r316, hr317, h318⟩ := bind_some h313
              refine DCl co_rules_same hw298 (c_rules_same N wd297 F17 hw298.pers (x54) ae58_2 ne58_2 hbe58_2 (SlA.mono hse58_2 (((((le67.trans le77).trans le151).trans le166).trans le271).trans le284)) (x310) ae314_2 ne314_2 hbe314_2 (SlA.mono hse314_2 (((((le67.trans le77).trans le151).trans le166).trans le271).trans le284)) _ hr317) ?_
              rintro _ F19 w320 hs321 le322 rfl
              refine Dv [6] ?_
              obtain rfl := some_inj h318
              exact DWP.done (by kernel_rfl) ⟨F19, hs321.dr1, le322, fI⟩
             ·rintro f w299 ⟨F18, hs300, le301, ⟨_, rfl⟩⟩
              refine thenQ_nrm ?_
              refine Cd h309 (fun hb324 h325 => ?_) (fun hb324 h326 => ?_)
              ·refine Sq (Rg [0, 1] ?_)
               refine Ld hs300.at0 ?_
               refine St1 (kExpr x54 ae58_2 ne58_2) hs300 (fun w327 hs328 => ?_)
               refine Nt ?_
               refine Rt ?_
               refine blockQ_ret ?_
               refine blockQ_ret ?_
               refine thenQ_ret ?_
               obtain rfl := some_inj h325
               exact ⟨rfl, (.agg (kExpr x54 ae58_2 ne58_2)), res_of (l := [.cell 2 33]) (by kernel_rfl) (vs := [(.agg (kExpr x54 ae58_2 ne58_2))]) ⟨b24, 0, rfl, run_loadVar' (t := 33) (g := true) (s := 3) (by kernel_rfl) hs328.at1 rfl (by decide), trivial⟩, (.agg (kExpr x54 ae58_2 ne58_2)), F18, rfl, hs328.clear, ⟨ae58_2, ne58_2, rfl, hbe58_2, (SlA.mono hse58_2 ((((((le67.trans le77).trans le151).trans le166).trans le271).trans le284).trans le301))⟩⟩
              ·refine Sc ?_
               refine blockQ_nrm ?_
               refine blockQ_nrm ?_
               refine thenQ_nrm ?_
               refine Sq (Rg [0, 1] ?_)
               refine Ld hs300.at2 ?_
               refine St1 (kExpr x0 (some ⟨b36, o37, none⟩) n0_2) hs300 (fun w329 hs330 => ?_)
               refine Nt ?_
               refine Rt ?_
               obtain rfl := some_inj h326
               exact ⟨rfl, (.agg (kExpr x0 (some ⟨b36, o37, none⟩) n0_2)), res_of (l := [.cell 2 33]) (by kernel_rfl) (vs := [(.agg (kExpr x0 (some ⟨b36, o37, none⟩) n0_2))]) ⟨b24, 0, rfl, run_loadVar' (t := 33) (g := true) (s := 3) (by kernel_rfl) hs330.at1 rfl (by decide), trivial⟩, (.agg (kExpr x0 (some ⟨b36, o37, none⟩) n0_2)), F18, rfl, hs330.clear, ⟨(some ⟨b36, o37, none⟩), n0_2, rfl, hb0_2, (SlA.mono hs0_2 ((((((le67.trans le77).trans le151).trans le166).trans le271).trans le284).trans le301))⟩⟩
          ·cases h264
end Go.Proofs.YtaihlcdkcampbaaGreatDoor
namespace Go.Proofs.YtaihlcdkcampbaaGreatDoor
open Go.Proofs
def Self94 (sR94 : Expr → Option Expr) : Prop := ∀ (w0 : World) (F0 : Mem) (hF : ∀ b o, F0 b = some o → w0.heap[b]? = some o) (x0 : Expr) (a0_2 : Option Addr) (n0_2 : Nat) (hb0_2 : LC x0.Kids.length n0_2) (hs0_2 : SlA tExpr F0 a0_2 x0.Kids) (r : Expr), sR94 x0 = some r → Calls Tryz.prog 94 ([(.agg #[(.int .i64 x0.Op), (.int .i64 x0.Value), (.slice a0_2 x0.Kids.length n0_2)])] : List Value).toArray w0 (FRet w0 F0 fun F' v => ∃ (aq0_2 : Option Addr) (nq0_2 : Nat), v = (.agg #[(.int .i64 r.Op), (.int .i64 r.Value), (.slice aq0_2 r.Kids.length nq0_2)]) ∧ LC r.Kids.length nq0_2 ∧ SlA tExpr F' aq0_2 r.Kids)
theorem co_rules_simplified : CallOk Tryz.prog 94 := fun _ _ => by kernel_rfl
end Go.Proofs.YtaihlcdkcampbaaGreatDoor
namespace Go.Proofs.YtaihlcdkcampbaaGreatDoor
open Go.Proofs
def rules_simplified_L0 (N : Nat) (sR94 : Expr → Option Expr) (x0 : Expr) : (Int × List Expr) → Option (Flow Expr (Int × List Expr)) := fun s37 =>
 (bif (decide (s37.1 < (x0.Kids.length : Int))) then ((idx x0.Kids s37.1).bind fun x63 => (((sR94 x63).bind fun r96 => ((apnd s37.2 [r96]).bind fun r109 => some r109)).bind fun j87 => some (.next ((W64 (s37.1 + 1)), j87)))) else some (.done (s37.1, s37.2)))
def rules_simplified_S (N : Nat) (sR94 : Expr → Option Expr) (x0 : Expr) : Option Expr :=
 ((iter (rules_simplified_L0 N sR94 x0) N (0, ([] : List Expr))).bind fun o => o.k (fun r => some r) (fun s47 => ((rules_simpler N ({ Op := x0.Op, Value := x0.Value, Kids := s47.2 } : Expr)).bind fun r127 => some r127)))
theorem cS_rules_simplified (N : Nat) (sR94 : Expr → Option Expr) (hsR94 : Self94 sR94) (w0 : World) (F0 : Mem) (hF : ∀ b o, F0 b = some o → w0.heap[b]? = some o) (x0 : Expr) (a0_2 : Option Addr) (n0_2 : Nat) (hb0_2 : LC x0.Kids.length n0_2) (hs0_2 : SlA tExpr F0 a0_2 x0.Kids) (r : Expr) (h : rules_simplified_S N sR94 x0 = some r) :
  Calls Tryz.prog 94 ([(.agg (kExpr x0 a0_2 n0_2))] : List Value).toArray w0 (FRet w0 F0 fun F' v => ∃ (aq0_2 : Option Addr) (nq0_2 : Nat), v = (.agg (kExpr r aq0_2 nq0_2)) ∧ LC r.Kids.length nq0_2 ∧ SlA tExpr F' aq0_2 r.Kids) := by
 have hs0 := HS.start hF
 refine Go 28 Tryz.func94 ?_
 refine Sq (Rg [0, 1] ?_)
 refine Bx' 33 (kExpr x0 a0_2 n0_2) hs0 (fun b21 w22 hs23 => ?_)
 refine Al' 33 #[(vi 0), (vi 0), (.slice none ([] : List Expr).length 0)] hs23 (fun b24 w25 hs26 => ?_)
 refine Nss (Rg [0, 1, 2, 3, 4, 5, 6] ?_)
 refine Vs 1 ?_
 refine Ld hs26.at1 ?_
 refine Vs 1 ?_
 refine Ld hs26.at1 ?_
 refine Vs 1 ?_
 refine Al' 33 #[(vi 0), (vi 0), (.slice none ([] : List Expr).length 0)] hs26 (fun b27 w28 hs29 => ?_)
 refine St0 #[(vi x0.Op), (vi x0.Value), (.slice none ([] : List Expr).length 0)] hs29 (fun w30 hs31 => ?_)
 refine Nss ?_
 refine Sq (Rg [0, 1, 2, 3] ?_)
 refine Vs 1 ?_
 refine Ld hs31.at2 ?_
 refine Vs 2 ?_
 refine Nt ?_
 have hs32 := hs31.dr2.dummy (oc #[] 0)
 obtain ⟨o34, ho35, h36⟩ := bind_some h
 refine CWP.cut (fun f w => ∃ (s47 : (Int × List Expr)) (F2 : Mem) (as47_1 : Option Addr) (ns47_1 : Nat) (es47_1 : Option Nat × Obj), o34 = .done s47 ∧ HS w0 F0 w F2 [es47_1, (sb b27 #[(vi x0.Op), (vi x0.Value), (.slice as47_1 s47.2.length ns47_1)] 33), (sb b24 #[(vi 0), (vi 0), (.slice none ([] : List Expr).length 0)] 33)] ∧ Mem.le F0 F2 ∧ FI f [] [(2, (pt b24 0)), (3, (pt b27 0))] ∧ RowR tExpr 33 F2 as47_1 ns47_1 s47.2 es47_1) ?_ ?_
 ·refine Bk ?_
  refine CWP.loop (by kernel_rfl) (fun m f w => ∃ (s37 : (Int × List Expr)) (F1 : Mem) (as37_1 : Option Addr) (ns37_1 : Nat) (es37_1 : Option Nat × Obj), iter (rules_simplified_L0 N sR94 x0) m s37 = some o34 ∧ HS w0 F0 w F1 [es37_1, (sb b27 #[(vi x0.Op), (vi x0.Value), (.slice as37_1 s37.2.length ns37_1)] 33), (sb b24 #[(vi 0), (vi 0), (.slice none ([] : List Expr).length 0)] 33)] ∧ Mem.le F0 F1 ∧ FI f [] [(2, (pt b24 0)), (3, (pt b27 0)), (12, (.slice a0_2 x0.Kids.length n0_2)), (13, (vi (x0.Kids.length : Int))), (14, (vi s37.1))] ∧ RowR tExpr 33 F1 as37_1 ns37_1 s37.2 es37_1) N ⟨(0, ([] : List Expr)), F0, none, 0, (none, .cells #[] 0 (0, 0)), ho35, hs32, (Mem.le.refl _), fI, (RowR.nil tExpr 33 F0 _)⟩ ?_
  rintro m54 f w38 ⟨s37, F1, as37_1, ns37_1, es37_1, hit55, hs39, le40, ⟨_, rfl⟩, hrs37_1⟩
  obtain ⟨m56, fl57, rfl, hb58, hnx59⟩ := iter_step hit55
  refine Sq (Rg [0] ?_)
  refine Vs 1 ?_
  refine Nss ?_
  refine Cd hb58 (fun hb60 h61 => ?_) (fun hb60 h62 => ?_)
  ·refine Sc ?_
   refine thenQ_nrm ?_
   refine Sq ?_
   refine Bk ?_
   refine Sq (Rg [0, 1, 2, 3] ?_)
   obtain ⟨x63, hx64, h66⟩ := bind_some h61
   obtain ⟨hi65, hx64'⟩ := idx_spec hx64
   obtain ⟨b67, o68, C69, E70, fz71, rfl, hF73, hE74⟩ := SlA.open (SlA.mono hs0_2 le40) hx64'
   obtain ⟨ae75_2, ne75_2, hc76, hbe75_2, hse75_2⟩ := (tExpr_open (hE74 _ _ hx64'))
   refine Ix hi65 ?_
   refine Lx 0 (hs39.pers _ _ hF73) hc76 ?_
   refine Al' 33 #[(vi 0), (vi 0), (.slice none ([] : List Expr).length 0)] hs39 (fun b77 w78 hs79 => ?_)
   refine St0 (kExpr x63 ae75_2 ne75_2) hs79 (fun w80 hs81 => ?_)
   refine Nt ?_
   obtain ⟨j87, hj94, h95⟩ := bind_some h66
   refine RD 7 8 [(sb b77 (kExpr x63 ae75_2 ne75_2) 33), (sb b24 #[(vi 0), (vi 0), (.slice none ([] : List Expr).length 0)] 33)] [(sb b27 #[(vi x0.Op), (vi x0.Value), (.slice as37_1 s37.2.length ns37_1)] 33)] hs81 (fun f w => ∃ (F3 : Mem) (aj87_0 : Option Addr) (nj87_0 : Nat) (ej87_0 : Option Nat × Obj), HS w0 F0 w F3 [ej87_0, (sb b27 #[(vi x0.Op), (vi x0.Value), (.slice aj87_0 j87.length nj87_0)] 33), (sb b24 #[(vi 0), (vi 0), (.slice none ([] : List Expr).length 0)] 33)] ∧ Mem.le F1 F3 ∧ FI f [] [(2, (pt b24 0)), (3, (pt b27 0)), (12, (.slice (some ⟨b67, o68, none⟩) x0.Kids.length n0_2)), (13, (vi (x0.Kids.length : Int))), (14, (vi s37.1))] ∧ RowR tExpr 33 F3 aj87_0 nj87_0 j87 ej87_0) (fun wd82 hw83 => ?_) ?_
   ·refine Dv [0] ?_
    refine Dl 1 (fun _ hq => ((hq.2 rfl).2 0 _ _ rfl)) ?_
    refine Dl 2 (fun _ hq => (hq.1.2 0 _ _ rfl)) ?_
    refine D1 3 ?_
    obtain ⟨r96, hr97, h98⟩ := bind_some hj94
    refine DCl co_rules_simplified hw83 (hsR94 wd82 F1 hw83.pers (x63) ae75_2 ne75_2 hbe75_2 hse75_2 _ hr97) ?_
    rintro _ F4 w100 hs101 le102 ⟨ar96_0_2, nr96_0_2, rfl, hbr96_0_2, hsr96_0_2⟩
    refine D1 4 ?_
    refine DBs 33 [(vi r96.Op), (vi r96.Value), (.slice ar96_0_2 r96.Kids.length nr96_0_2)] hs101 le102 (fun b104 w105 hs106 => ?_)
    have hr108 : RowR tExpr 33 F4 (some ⟨b104, 0, none⟩) 1 [r96] (some b104, .cells ([(vi r96.Op), (vi r96.Value), (.slice ar96_0_2 r96.Kids.length nr96_0_2)] : List Value).toArray 33 (0, 0)) := RowR.lit ⟨(tExpr_mk ⟨ar96_0_2, nr96_0_2, rfl, hbr96_0_2, hsr96_0_2⟩), rfl⟩ (by simp)
    refine D1 5 ?_
    obtain ⟨r109, hap110, h111⟩ := bind_some h98
    refine DAp2 oExpr hs106 (hrs37_1.mono le102) (hs106.rd0 hr108) hap110 le102 (fun a112 n113 e114 w115 hs116 hr117 => ?_)
    refine Dv [6] ?_
    refine D1 7 ?_
    refine DSt3 #[(vi x0.Op), (vi x0.Value), (.slice a112 r109.length n113)] hs116 le102 (fun w118 hs119 => ?_)
    obtain rfl := some_inj h111
    exact DWP.done (by kernel_rfl) ⟨F4, a112, n113, e114, hs119.dr0.dr0, le102, fI, hr117⟩
   ·rintro f w84 ⟨F3, aj87_0, nj87_0, ej87_0, hs85, le86, ⟨_, rfl⟩, hrj87_0⟩
    refine blockQ_nrm ?_
    refine thenQ_nrm ?_
    refine Rg [0, 1] ?_
    refine Vs 2 ?_
    refine RWP.nil ?_
    have hn120 := iter_next h95 hnx59
    exact ⟨m56, Nat.lt_succ_self _, ((W64 (s37.1 + 1)), j87), F3, aj87_0, nj87_0, ej87_0, hn120, hs85, (le40.trans le86), fI, hrj87_0⟩
  ·refine Ex ?_
   refine thenQ_ex ?_
   refine thenQ_ex ?_
   refine blockQ_hit rfl ?_
   have ho121 := iter_done h62 hnx59
   exact .inl ⟨rfl, (s37.1, s37.2), F1, as37_1, ns37_1, es37_1, ho121, hs39, le40, fI, hrs37_1⟩
 ·rintro f w48 ⟨s47, F2, as47_1, ns47_1, es47_1, rfl, hs49, le50, ⟨_, rfl⟩, hrs47_1⟩
  have h122 := k_done h36
  refine thenQ_nrm ?_
  refine Sq (Rg [0, 1, 2] ?_)
  refine Ld hs49.at1 ?_
  have hb126 := RowR.bound hrs47_1
  obtain ⟨F5, hs123, le124, hs125⟩ := hs49.fr0 hrs47_1
  obtain ⟨r127, hr128, h129⟩ := bind_some h122
  refine Cl' co_rules_simpler hs123 (c_rules_simpler N w48 F5 hs123.pers (({ Op := x0.Op, Value := x0.Value, Kids := s47.2 } : Expr)) as47_1 ns47_1 hb126 hs125 _ hr128) ?_
  rintro _ F6 w131 hs132 le133 ⟨ar127_0_2, nr127_0_2, rfl, hbr127_0_2, hsr127_0_2⟩
  refine St1 (kExpr r127 ar127_0_2 nr127_0_2) hs132 (fun w135 hs136 => ?_)
  refine Nt ?_
  refine Rt ?_
  obtain rfl := some_inj h129
  exact ⟨rfl, (.agg (kExpr r127 ar127_0_2 nr127_0_2)), res_of (l := [.cell 2 33]) (by kernel_rfl) (vs := [(.agg (kExpr r127 ar127_0_2 nr127_0_2))]) ⟨b24, 0, rfl, run_loadVar' (t := 33) (g := true) (s := 3) (by kernel_rfl) hs136.at1 rfl (by decide), trivial⟩, (.agg (kExpr r127 ar127_0_2 nr127_0_2)), F6, rfl, hs136.clear, ⟨ar127_0_2, nr127_0_2, rfl, hbr127_0_2, hsr127_0_2⟩⟩
end Go.Proofs.YtaihlcdkcampbaaGreatDoor
namespace Go.Proofs.YtaihlcdkcampbaaGreatDoor
open Go.Proofs
structure Rec94 where
 q94 : Expr → Option Expr
def rec94 (N : Nat) : Nat → Rec94
 | 0 => ⟨fun _ => none⟩
 | k + 1 => ⟨rules_simplified_S N (rec94 N k).q94⟩
theorem rec94_ok (N : Nat) : ∀ k, Self94 (rec94 N k).q94
 | 0 => (by unfold Self94; intros; rename_i h; cases h)
 | k + 1 => by
  have ih := rec94_ok N k
  exact @cS_rules_simplified N (rec94 N k).q94 ih
def rules_simplified (N : Nat) (x0 : Expr) : Option Expr := (rec94 N N).q94 x0
theorem c_rules_simplified (N : Nat) (w0 : World) (F0 : Mem) (hF : ∀ b o, F0 b = some o → w0.heap[b]? = some o) (x0 : Expr) (a0_2 : Option Addr) (n0_2 : Nat) (hb0_2 : LC x0.Kids.length n0_2) (hs0_2 : SlA tExpr F0 a0_2 x0.Kids) (r : Expr) (h : rules_simplified N x0 = some r) :
  Calls Tryz.prog 94 ([(.agg #[(.int .i64 x0.Op), (.int .i64 x0.Value), (.slice a0_2 x0.Kids.length n0_2)])] : List Value).toArray w0 (FRet w0 F0 fun F' v => ∃ (aq0_2 : Option Addr) (nq0_2 : Nat), v = (.agg #[(.int .i64 r.Op), (.int .i64 r.Value), (.slice aq0_2 r.Kids.length nq0_2)]) ∧ LC r.Kids.length nq0_2 ∧ SlA tExpr F' aq0_2 r.Kids) := (rec94_ok N N) w0 F0 hF x0 a0_2 n0_2 hb0_2 hs0_2 r h
end Go.Proofs.YtaihlcdkcampbaaGreatDoor
namespace Go.Proofs.YtaihlcdkcampbaaGreatDoor
open Go.Proofs
def rules_Simplify (N : Nat) (x0 : Expr) : Option (Expr × Int) :=
 ((rules_sound N x0).bind fun r27 => (bif (!r27) then some (({ Op := 0, Value := 0, Kids := ([] : List Expr) } : Expr), 61) else ((rules_simplified N x0).bind fun r40 => some (r40, 0))))
theorem co_rules_Simplify : CallOk Tryz.prog 30 := fun _ _ => by kernel_rfl
theorem c_rules_Simplify (N : Nat) (w0 : World) (F0 : Mem) (hF : ∀ b o, F0 b = some o → w0.heap[b]? = some o) (x0 : Expr) (a0_2 : Option Addr) (n0_2 : Nat) (hb0_2 : LC x0.Kids.length n0_2) (hs0_2 : SlA tExpr F0 a0_2 x0.Kids) (r : (Expr × Int)) (h : rules_Simplify N x0 = some r) :
  Calls Tryz.prog 30 ([(.agg (kExpr x0 a0_2 n0_2))] : List Value).toArray w0 (FRet w0 F0 fun F' v => ∃ (aq0_2 : Option Addr) (nq0_2 : Nat), v = (.tuple #[(.agg (kExpr r.1 aq0_2 nq0_2)), (vi r.2)]) ∧ LC r.1.Kids.length nq0_2 ∧ SlA tExpr F' aq0_2 r.1.Kids) := by
 have hs0 := HS.start hF
 refine Go 10 Tryz.func30 ?_
 refine Sq (Rg [0, 1, 2] ?_)
 refine Bx' 33 (kExpr x0 a0_2 n0_2) hs0 (fun b21 w22 hs23 => ?_)
 refine Al' 33 #[(vi 0), (vi 0), (.slice none ([] : List Expr).length 0)] hs23 (fun b24 w25 hs26 => ?_)
 refine Vs 1 ?_
 refine Nss ?_
 refine Sq (Rg [0, 1, 2] ?_)
 refine Ld hs26.at1 ?_
 obtain ⟨r27, hr28, h29⟩ := bind_some h
 refine Cl' co_rules_sound hs26 (c_rules_sound N w25 F0 hs26.pers (x0) a0_2 n0_2 hb0_2 hs0_2 _ hr28) ?_
 rintro _ F1 w31 hs32 le33 rfl
 refine Vs 1 ?_
 refine Nt ?_
 refine Cd h29 (fun hb35 h36 => ?_) (fun hb35 h37 => ?_)
 ·refine Sq (Rg [0, 1, 2] ?_)
  refine Vs 1 ?_
  refine St0 #[(vi 0), (vi 0), (.slice none ([] : List Expr).length 0)] hs32 (fun w38 hs39 => ?_)
  refine Vs 1 ?_
  refine Nt ?_
  refine Rt ?_
  refine thenQ_ret ?_
  obtain rfl := some_inj h36
  exact ⟨rfl, (.tuple #[(.agg #[(vi 0), (vi 0), (.slice none ([] : List Expr).length 0)]), (vi 61)]), res_of (l := [.cell 2 33, .tmp 3]) (by kernel_rfl) (vs := [(.agg #[(vi 0), (vi 0), (.slice none ([] : List Expr).length 0)]), (vi 61)]) ⟨b24, 0, rfl, run_loadVar' (t := 33) (g := true) (s := 3) (by kernel_rfl) hs39.at0 rfl (by decide), ⟨rfl, trivial⟩⟩, (.tuple #[(.agg #[(vi 0), (vi 0), (.slice none ([] : List Expr).length 0)]), (vi 61)]), F1, rfl, hs39.clear, ⟨none, 0, rfl, LC.nil, (.inl rfl)⟩⟩
 ·refine Sc ?_
  refine thenQ_nrm ?_
  refine Sq (Rg [0, 1, 2, 3] ?_)
  refine Ld hs32.at1 ?_
  obtain ⟨r40, hr41, h42⟩ := bind_some h37
  refine Cl' co_rules_simplified hs32 (c_rules_simplified N w31 F1 hs32.pers (x0) a0_2 n0_2 hb0_2 (SlA.mono hs0_2 le33) _ hr41) ?_
  rintro _ F2 w44 hs45 le46 ⟨ar40_0_2, nr40_0_2, rfl, hbr40_0_2, hsr40_0_2⟩
  refine St0 (kExpr r40 ar40_0_2 nr40_0_2) hs45 (fun w48 hs49 => ?_)
  refine Vs 1 ?_
  refine Nt ?_
  refine Rt ?_
  obtain rfl := some_inj h42
  exact ⟨rfl, (.tuple #[(.agg (kExpr r40 ar40_0_2 nr40_0_2)), (vi 0)]), res_of (l := [.cell 2 33, .tmp 3]) (by kernel_rfl) (vs := [(.agg (kExpr r40 ar40_0_2 nr40_0_2)), (vi 0)]) ⟨b24, 0, rfl, run_loadVar' (t := 33) (g := true) (s := 3) (by kernel_rfl) hs49.at0 rfl (by decide), ⟨rfl, trivial⟩⟩, (.tuple #[(.agg (kExpr r40 ar40_0_2 nr40_0_2)), (vi 0)]), F2, rfl, hs49.clear, ⟨ar40_0_2, nr40_0_2, rfl, hbr40_0_2, hsr40_0_2⟩⟩
end Go.Proofs.YtaihlcdkcampbaaGreatDoor
namespace Go.Proofs.YtaihlcdkcampbaaGreatDoor
open Go.Proofs
def rules_signOf (N : Nat) (x0 : Int) : Option (rules_sign × Bool) :=
 (bif (x0 == 5) then some (({ text_ := ([111, 114] : List UInt8), rank_ := 1, left_ := 1, right_ := 2 } : rules_sign), true) else (bif (x0 == 4) then some (({ text_ := ([97, 110, 100] : List UInt8), rank_ := 2, left_ := 2, right_ := 3 } : rules_sign), true) else (bif (x0 == 6) then some (({ text_ := ([61] : List UInt8), rank_ := 4, left_ := 5, right_ := 5 } : rules_sign), true) else (bif (x0 == 7) then some (({ text_ := ([60] : List UInt8), rank_ := 4, left_ := 5, right_ := 5 } : rules_sign), true) else (bif (x0 == 8) then some (({ text_ := ([43] : List UInt8), rank_ := 5, left_ := 5, right_ := 6 } : rules_sign), true) else (bif (x0 == 9) then some (({ text_ := ([45] : List UInt8), rank_ := 5, left_ := 5, right_ := 6 } : rules_sign), true) else (bif (x0 == 10) then some (({ text_ := ([42] : List UInt8), rank_ := 6, left_ := 6, right_ := 7 } : rules_sign), true) else some (({ text_ := ([] : List UInt8), rank_ := 0, left_ := 0, right_ := 0 } : rules_sign), false))))))))
theorem co_rules_signOf : CallOk Tryz.prog 150 := fun _ _ => by kernel_rfl
theorem c_rules_signOf (N : Nat) (w0 : World) (F0 : Mem) (hF : ∀ b o, F0 b = some o → w0.heap[b]? = some o) (x0 : Int) (r : (rules_sign × Bool)) (h : rules_signOf N x0 = some r) :
  Calls Tryz.prog 150 ([(vi x0)] : List Value).toArray w0 (FRet w0 F0 fun F' v => v = (.tuple #[(.agg (krules_sign r.1)), (.bool r.2)])) := by
 have hs0 := HS.start hF
 refine Go 27 Tryz.func150 ?_
 refine Sq (Rg [0, 1] ?_)
 refine Al' 173 #[(.string ⟨(([] : List UInt8)).toArray⟩), (vi 0), (vi 0), (vi 0)] hs0 (fun b21 w22 hs23 => ?_)
 refine Vs 1 ?_
 refine Nss ?_
 refine Sq (Rg [0] ?_)
 refine Vs 1 ?_
 refine Nt ?_
 refine Bk ?_
 refine Sq (Rg [0, 1] ?_)
 refine Vs 2 ?_
 refine Nt ?_
 refine Cd h (fun hb24 h25 => ?_) (fun hb24 h26 => ?_)
 ·refine Sq (Rg [0, 1, 2] ?_)
  refine Vs 1 ?_
  refine St0 #[(.string ⟨(([111, 114] : List UInt8)).toArray⟩), (vi 1), (vi 1), (vi 2)] hs23 (fun w27 hs28 => ?_)
  refine Vs 1 ?_
  refine Nt ?_
  refine Rt ?_
  refine blockQ_ret ?_
  refine thenQ_ret ?_
  obtain rfl := some_inj h25
  exact ⟨rfl, (.tuple #[(.agg #[(.string ⟨(([111, 114] : List UInt8)).toArray⟩), (vi 1), (vi 1), (vi 2)]), (.bool true)]), res_of (l := [.cell 2 173, .tmp 3]) (by kernel_rfl) (vs := [(.agg #[(.string ⟨(([111, 114] : List UInt8)).toArray⟩), (vi 1), (vi 1), (vi 2)]), (.bool true)]) ⟨b21, 0, rfl, run_loadVar' (t := 173) (g := true) (s := 4) (by kernel_rfl) hs28.at0 rfl (by decide), ⟨rfl, trivial⟩⟩, (.tuple #[(.agg #[(.string ⟨(([111, 114] : List UInt8)).toArray⟩), (vi 1), (vi 1), (vi 2)]), (.bool true)]), F0, rfl, hs28.clear, rfl⟩
 ·refine Sq (Rg [0, 1] ?_)
  refine Vs 2 ?_
  refine Nt ?_
  refine Cd h26 (fun hb29 h30 => ?_) (fun hb29 h31 => ?_)
  ·refine Sq (Rg [0, 1, 2] ?_)
   refine Vs 1 ?_
   refine St0 #[(.string ⟨(([97, 110, 100] : List UInt8)).toArray⟩), (vi 2), (vi 2), (vi 3)] hs23 (fun w32 hs33 => ?_)
   refine Vs 1 ?_
   refine Nt ?_
   refine Rt ?_
   refine blockQ_ret ?_
   refine thenQ_ret ?_
   obtain rfl := some_inj h30
   exact ⟨rfl, (.tuple #[(.agg #[(.string ⟨(([97, 110, 100] : List UInt8)).toArray⟩), (vi 2), (vi 2), (vi 3)]), (.bool true)]), res_of (l := [.cell 2 173, .tmp 3]) (by kernel_rfl) (vs := [(.agg #[(.string ⟨(([97, 110, 100] : List UInt8)).toArray⟩), (vi 2), (vi 2), (vi 3)]), (.bool true)]) ⟨b21, 0, rfl, run_loadVar' (t := 173) (g := true) (s := 4) (by kernel_rfl) hs33.at0 rfl (by decide), ⟨rfl, trivial⟩⟩, (.tuple #[(.agg #[(.string ⟨(([97, 110, 100] : List UInt8)).toArray⟩), (vi 2), (vi 2), (vi 3)]), (.bool true)]), F0, rfl, hs33.clear, rfl⟩
  ·refine Sq (Rg [0, 1] ?_)
   refine Vs 2 ?_
   refine Nt ?_
   refine Cd h31 (fun hb34 h35 => ?_) (fun hb34 h36 => ?_)
   ·refine Sq (Rg [0, 1, 2] ?_)
    refine Vs 1 ?_
    refine St0 #[(.string ⟨(([61] : List UInt8)).toArray⟩), (vi 4), (vi 5), (vi 5)] hs23 (fun w37 hs38 => ?_)
    refine Vs 1 ?_
    refine Nt ?_
    refine Rt ?_
    refine blockQ_ret ?_
    refine thenQ_ret ?_
    obtain rfl := some_inj h35
    exact ⟨rfl, (.tuple #[(.agg #[(.string ⟨(([61] : List UInt8)).toArray⟩), (vi 4), (vi 5), (vi 5)]), (.bool true)]), res_of (l := [.cell 2 173, .tmp 3]) (by kernel_rfl) (vs := [(.agg #[(.string ⟨(([61] : List UInt8)).toArray⟩), (vi 4), (vi 5), (vi 5)]), (.bool true)]) ⟨b21, 0, rfl, run_loadVar' (t := 173) (g := true) (s := 4) (by kernel_rfl) hs38.at0 rfl (by decide), ⟨rfl, trivial⟩⟩, (.tuple #[(.agg #[(.string ⟨(([61] : List UInt8)).toArray⟩), (vi 4), (vi 5), (vi 5)]), (.bool true)]), F0, rfl, hs38.clear, rfl⟩
   ·refine Sq (Rg [0, 1] ?_)
    refine Vs 2 ?_
    refine Nt ?_
    refine Cd h36 (fun hb39 h40 => ?_) (fun hb39 h41 => ?_)
    ·refine Sq (Rg [0, 1, 2] ?_)
     refine Vs 1 ?_
     refine St0 #[(.string ⟨(([60] : List UInt8)).toArray⟩), (vi 4), (vi 5), (vi 5)] hs23 (fun w42 hs43 => ?_)
     refine Vs 1 ?_
     refine Nt ?_
     refine Rt ?_
     refine blockQ_ret ?_
     refine thenQ_ret ?_
     obtain rfl := some_inj h40
     exact ⟨rfl, (.tuple #[(.agg #[(.string ⟨(([60] : List UInt8)).toArray⟩), (vi 4), (vi 5), (vi 5)]), (.bool true)]), res_of (l := [.cell 2 173, .tmp 3]) (by kernel_rfl) (vs := [(.agg #[(.string ⟨(([60] : List UInt8)).toArray⟩), (vi 4), (vi 5), (vi 5)]), (.bool true)]) ⟨b21, 0, rfl, run_loadVar' (t := 173) (g := true) (s := 4) (by kernel_rfl) hs43.at0 rfl (by decide), ⟨rfl, trivial⟩⟩, (.tuple #[(.agg #[(.string ⟨(([60] : List UInt8)).toArray⟩), (vi 4), (vi 5), (vi 5)]), (.bool true)]), F0, rfl, hs43.clear, rfl⟩
    ·refine Sq (Rg [0, 1] ?_)
     refine Vs 2 ?_
     refine Nt ?_
     refine Cd h41 (fun hb44 h45 => ?_) (fun hb44 h46 => ?_)
     ·refine Sq (Rg [0, 1, 2] ?_)
      refine Vs 1 ?_
      refine St0 #[(.string ⟨(([43] : List UInt8)).toArray⟩), (vi 5), (vi 5), (vi 6)] hs23 (fun w47 hs48 => ?_)
      refine Vs 1 ?_
      refine Nt ?_
      refine Rt ?_
      refine blockQ_ret ?_
      refine thenQ_ret ?_
      obtain rfl := some_inj h45
      exact ⟨rfl, (.tuple #[(.agg #[(.string ⟨(([43] : List UInt8)).toArray⟩), (vi 5), (vi 5), (vi 6)]), (.bool true)]), res_of (l := [.cell 2 173, .tmp 3]) (by kernel_rfl) (vs := [(.agg #[(.string ⟨(([43] : List UInt8)).toArray⟩), (vi 5), (vi 5), (vi 6)]), (.bool true)]) ⟨b21, 0, rfl, run_loadVar' (t := 173) (g := true) (s := 4) (by kernel_rfl) hs48.at0 rfl (by decide), ⟨rfl, trivial⟩⟩, (.tuple #[(.agg #[(.string ⟨(([43] : List UInt8)).toArray⟩), (vi 5), (vi 5), (vi 6)]), (.bool true)]), F0, rfl, hs48.clear, rfl⟩
     ·refine Sq (Rg [0, 1] ?_)
      refine Vs 2 ?_
      refine Nt ?_
      refine Cd h46 (fun hb49 h50 => ?_) (fun hb49 h51 => ?_)
      ·refine Sq (Rg [0, 1, 2] ?_)
       refine Vs 1 ?_
       refine St0 #[(.string ⟨(([45] : List UInt8)).toArray⟩), (vi 5), (vi 5), (vi 6)] hs23 (fun w52 hs53 => ?_)
       refine Vs 1 ?_
       refine Nt ?_
       refine Rt ?_
       refine blockQ_ret ?_
       refine thenQ_ret ?_
       obtain rfl := some_inj h50
       exact ⟨rfl, (.tuple #[(.agg #[(.string ⟨(([45] : List UInt8)).toArray⟩), (vi 5), (vi 5), (vi 6)]), (.bool true)]), res_of (l := [.cell 2 173, .tmp 3]) (by kernel_rfl) (vs := [(.agg #[(.string ⟨(([45] : List UInt8)).toArray⟩), (vi 5), (vi 5), (vi 6)]), (.bool true)]) ⟨b21, 0, rfl, run_loadVar' (t := 173) (g := true) (s := 4) (by kernel_rfl) hs53.at0 rfl (by decide), ⟨rfl, trivial⟩⟩, (.tuple #[(.agg #[(.string ⟨(([45] : List UInt8)).toArray⟩), (vi 5), (vi 5), (vi 6)]), (.bool true)]), F0, rfl, hs53.clear, rfl⟩
      ·refine Sq (Rg [0, 1] ?_)
       refine Vs 2 ?_
       refine Nt ?_
       refine Cd h51 (fun hb54 h55 => ?_) (fun hb54 h56 => ?_)
       ·refine Sq (Rg [0, 1, 2] ?_)
        refine Vs 1 ?_
        refine St0 #[(.string ⟨(([42] : List UInt8)).toArray⟩), (vi 6), (vi 6), (vi 7)] hs23 (fun w57 hs58 => ?_)
        refine Vs 1 ?_
        refine Nt ?_
        refine Rt ?_
        refine blockQ_ret ?_
        refine thenQ_ret ?_
        obtain rfl := some_inj h55
        exact ⟨rfl, (.tuple #[(.agg #[(.string ⟨(([42] : List UInt8)).toArray⟩), (vi 6), (vi 6), (vi 7)]), (.bool true)]), res_of (l := [.cell 2 173, .tmp 3]) (by kernel_rfl) (vs := [(.agg #[(.string ⟨(([42] : List UInt8)).toArray⟩), (vi 6), (vi 6), (vi 7)]), (.bool true)]) ⟨b21, 0, rfl, run_loadVar' (t := 173) (g := true) (s := 4) (by kernel_rfl) hs58.at0 rfl (by decide), ⟨rfl, trivial⟩⟩, (.tuple #[(.agg #[(.string ⟨(([42] : List UInt8)).toArray⟩), (vi 6), (vi 6), (vi 7)]), (.bool true)]), F0, rfl, hs58.clear, rfl⟩
       ·refine Sc ?_
        refine blockQ_nrm ?_
        refine thenQ_nrm ?_
        refine Sq (Rg [0, 1, 2] ?_)
        refine Vs 1 ?_
        refine St0 #[(.string ⟨(([] : List UInt8)).toArray⟩), (vi 0), (vi 0), (vi 0)] hs23 (fun w59 hs60 => ?_)
        refine Vs 1 ?_
        refine Nt ?_
        refine Rt ?_
        obtain rfl := some_inj h56
        exact ⟨rfl, (.tuple #[(.agg #[(.string ⟨(([] : List UInt8)).toArray⟩), (vi 0), (vi 0), (vi 0)]), (.bool false)]), res_of (l := [.cell 2 173, .tmp 3]) (by kernel_rfl) (vs := [(.agg #[(.string ⟨(([] : List UInt8)).toArray⟩), (vi 0), (vi 0), (vi 0)]), (.bool false)]) ⟨b21, 0, rfl, run_loadVar' (t := 173) (g := true) (s := 4) (by kernel_rfl) hs60.at0 rfl (by decide), ⟨rfl, trivial⟩⟩, (.tuple #[(.agg #[(.string ⟨(([] : List UInt8)).toArray⟩), (vi 0), (vi 0), (vi 0)]), (.bool false)]), F0, rfl, hs60.clear, rfl⟩
end Go.Proofs.YtaihlcdkcampbaaGreatDoor
namespace Go.Proofs.YtaihlcdkcampbaaGreatDoor
open Go.Proofs
def rules_names (N : Nat)  : Option (List (List UInt8)) :=
 some [([98, 97, 110, 100] : List UInt8), ([109, 111, 100, 101] : List UInt8), ([104, 111, 117, 114] : List UInt8), ([109, 121, 99, 111, 117, 110, 116, 114, 121] : List UInt8), ([109, 121, 122, 111, 110, 101] : List UInt8), ([109, 121, 99, 111, 110, 116, 105, 110, 101, 110, 116] : List UInt8), ([99, 111, 117, 110, 116, 114, 121] : List UInt8), ([122, 111, 110, 101] : List UInt8), ([99, 111, 110, 116, 105, 110, 101, 110, 116] : List UInt8), ([99, 97, 108, 108] : List UInt8), ([103, 111, 116, 122, 111, 110, 101] : List UInt8), ([99, 97, 116, 101, 103, 111, 114, 121] : List UInt8), ([112, 111, 119, 101, 114] : List UInt8), ([115, 116, 97, 116, 117, 115] : List UInt8)]
theorem co_rules_names : CallOk Tryz.prog 152 := fun _ _ => by kernel_rfl
theorem c_rules_names (N : Nat) (w0 : World) (F0 : Mem) (hF : ∀ b o, F0 b = some o → w0.heap[b]? = some o)  (r : (List (List UInt8))) (h : rules_names N  = some r) :
  Calls Tryz.prog 152 ([] : List Value).toArray w0 (FRet w0 F0 fun F' v => ∃ (aq0_0 : Option Addr) (nq0_0 : Nat), v = (.slice aq0_0 r.length nq0_0) ∧ LC r.length nq0_0 ∧ SlA tStr F' aq0_0 r) := by
 have hs0 := HS.start hF
 refine Go 2 Tryz.func152 ?_
 refine Sq (Rg [0] ?_)
 refine Vs 1 ?_
 refine Nss (Rg [0, 1] ?_)
 refine Bs 9 [(.string ⟨(([98, 97, 110, 100] : List UInt8)).toArray⟩), (.string ⟨(([109, 111, 100, 101] : List UInt8)).toArray⟩), (.string ⟨(([104, 111, 117, 114] : List UInt8)).toArray⟩), (.string ⟨(([109, 121, 99, 111, 117, 110, 116, 114, 121] : List UInt8)).toArray⟩), (.string ⟨(([109, 121, 122, 111, 110, 101] : List UInt8)).toArray⟩), (.string ⟨(([109, 121, 99, 111, 110, 116, 105, 110, 101, 110, 116] : List UInt8)).toArray⟩), (.string ⟨(([99, 111, 117, 110, 116, 114, 121] : List UInt8)).toArray⟩), (.string ⟨(([122, 111, 110, 101] : List UInt8)).toArray⟩), (.string ⟨(([99, 111, 110, 116, 105, 110, 101, 110, 116] : List UInt8)).toArray⟩), (.string ⟨(([99, 97, 108, 108] : List UInt8)).toArray⟩), (.string ⟨(([103, 111, 116, 122, 111, 110, 101] : List UInt8)).toArray⟩), (.string ⟨(([99, 97, 116, 101, 103, 111, 114, 121] : List UInt8)).toArray⟩), (.string ⟨(([112, 111, 119, 101, 114] : List UInt8)).toArray⟩), (.string ⟨(([115, 116, 97, 116, 117, 115] : List UInt8)).toArray⟩)] hs0 (fun b21 w22 hs23 => ?_)
 have hr25 : RowR tStr 9 F0 (some ⟨b21, 0, none⟩) 14 [([98, 97, 110, 100] : List UInt8), ([109, 111, 100, 101] : List UInt8), ([104, 111, 117, 114] : List UInt8), ([109, 121, 99, 111, 117, 110, 116, 114, 121] : List UInt8), ([109, 121, 122, 111, 110, 101] : List UInt8), ([109, 121, 99, 111, 110, 116, 105, 110, 101, 110, 116] : List UInt8), ([99, 111, 117, 110, 116, 114, 121] : List UInt8), ([122, 111, 110, 101] : List UInt8), ([99, 111, 110, 116, 105, 110, 101, 110, 116] : List UInt8), ([99, 97, 108, 108] : List UInt8), ([103, 111, 116, 122, 111, 110, 101] : List UInt8), ([99, 97, 116, 101, 103, 111, 114, 121] : List UInt8), ([112, 111, 119, 101, 114] : List UInt8), ([115, 116, 97, 116, 117, 115] : List UInt8)] (some b21, .cells ([(.string ⟨(([98, 97, 110, 100] : List UInt8)).toArray⟩), (.string ⟨(([109, 111, 100, 101] : List UInt8)).toArray⟩), (.string ⟨(([104, 111, 117, 114] : List UInt8)).toArray⟩), (.string ⟨(([109, 121, 99, 111, 117, 110, 116, 114, 121] : List UInt8)).toArray⟩), (.string ⟨(([109, 121, 122, 111, 110, 101] : List UInt8)).toArray⟩), (.string ⟨(([109, 121, 99, 111, 110, 116, 105, 110, 101, 110, 116] : List UInt8)).toArray⟩), (.string ⟨(([99, 111, 117, 110, 116, 114, 121] : List UInt8)).toArray⟩), (.string ⟨(([122, 111, 110, 101] : List UInt8)).toArray⟩), (.string ⟨(([99, 111, 110, 116, 105, 110, 101, 110, 116] : List UInt8)).toArray⟩), (.string ⟨(([99, 97, 108, 108] : List UInt8)).toArray⟩), (.string ⟨(([103, 111, 116, 122, 111, 110, 101] : List UInt8)).toArray⟩), (.string ⟨(([99, 97, 116, 101, 103, 111, 114, 121] : List UInt8)).toArray⟩), (.string ⟨(([112, 111, 119, 101, 114] : List UInt8)).toArray⟩), (.string ⟨(([115, 116, 97, 116, 117, 115] : List UInt8)).toArray⟩)] : List Value).toArray 9 (0, 0)) := RowR.lit ⟨rfl, ⟨rfl, ⟨rfl, ⟨rfl, ⟨rfl, ⟨rfl, ⟨rfl, ⟨rfl, ⟨rfl, ⟨rfl, ⟨rfl, ⟨rfl, ⟨rfl, ⟨rfl, rfl⟩⟩⟩⟩⟩⟩⟩⟩⟩⟩⟩⟩⟩⟩ (by simp)
 refine Vs 1 ?_
 refine Nt ?_
 refine Rt ?_
 have hb29 := RowR.bound hr25
 obtain ⟨F1, hs26, le27, hs28⟩ := hs23.fr0 hr25
 obtain rfl := some_inj h
 exact Re [(.slice (some ⟨b21, 0, none⟩) [([98, 97, 110, 100] : List UInt8), ([109, 111, 100, 101] : List UInt8), ([104, 111, 117, 114] : List UInt8), ([109, 121, 99, 111, 117, 110, 116, 114, 121] : List UInt8), ([109, 121, 122, 111, 110, 101] : List UInt8), ([109, 121, 99, 111, 110, 116, 105, 110, 101, 110, 116] : List UInt8), ([99, 111, 117, 110, 116, 114, 121] : List UInt8), ([122, 111, 110, 101] : List UInt8), ([99, 111, 110, 116, 105, 110, 101, 110, 116] : List UInt8), ([99, 97, 108, 108] : List UInt8), ([103, 111, 116, 122, 111, 110, 101] : List UInt8), ([99, 97, 116, 101, 103, 111, 114, 121] : List UInt8), ([112, 111, 119, 101, 114] : List UInt8), ([115, 116, 97, 116, 117, 115] : List UInt8)].length 14)] hs26 ⟨(some ⟨b21, 0, none⟩), 14, rfl, hb29, hs28⟩
end Go.Proofs.YtaihlcdkcampbaaGreatDoor
namespace Go.Proofs
open Go.Shelf
def Tryz.lays137_ren : Go.Shelf.Ren := ⟨fun | 137 => 183 | 217 => 211 | 266 => 225 | n => n, fun | 9 => 9 | 5 => 5 | 3 => 3 | n => n, fun | n => n⟩
theorem Tryz.lays137 : Go.Proofs.Lays.n137 Tryz.prog Tryz.lays137_ren := {
 mixed := by kernel_rfl
 f137 := Tryz.func183.trans (congrArg some (by kernel_rfl))
 f217 := Tryz.func211.trans (congrArg some (by kernel_rfl))
 f266 := Tryz.func225.trans (congrArg some (by kernel_rfl))
 t3 := Tryz.underlying3
 a3 := Tryz.isAgg3
 z3 := Tryz.sizeOf3
 v3 := Tryz.zeroValue3
 t5 := Tryz.underlying5
 a5 := Tryz.isAgg5
 z5 := Tryz.sizeOf5
 v5 := Tryz.zeroValue5
 t9 := Tryz.underlying9
 a9 := Tryz.isAgg9
 z9 := Tryz.sizeOf9
 v9 := Tryz.zeroValue9 }
open Go.RowKit in
theorem Tryz.strings_IndexByte (s : ByteArray) (c : Int) (w : World) :
  Calls Tryz.prog 183 #[.string s, .int .u8 c] w fun e w' => e = .returned (.int .i64 (Lib.indexByte s.data.toList c.toNat.toUInt8)) ∧ w' = w := Any.strings_IndexByte Tryz.lays137 s c w
def Tryz.lays172_ren : Go.Shelf.Ren := ⟨fun | 172 => 248 | 244 => 251 | 245 => 252 | 247 => 253 | 279 => 254 | 280 => 255 | 281 => 256 | 282 => 257 | 287 => 258 | 316 => 259 | 171 => 151 | 205 => 260 | 321 => 261 | 322 => 262 | 243 => 196 | 246 => 218 | 283 => 228 | 284 => 229 | 285 => 230 | 286 => 231 | 129 => 209 | 317 => 235 | 318 => 236 | 319 => 237 | 320 => 238 | 337 => 241 | 338 => 242 | n => n, fun | 9 => 9 | 3 => 3 | 75 => 134 | 76 => 135 | 4 => 4 | 5 => 5 | 167 => 241 | 37 => 42 | 0 => 0 | 85 => 242 | 2 => 2 | 168 => 244 | 53 => 218 | 175 => 247 | 46 => 191 | 210 => 251 | 127 => 184 | 145 => 256 | 143 => 254 | 21 => 21 | 171 => 227 | 173 => 229 | 212 => 234 | 51 => 216 | 20 => 20 | 213 => 235 | 232 => 237 | 233 => 238 | 80 => 137 | n => n, fun | 15 => 4 | 16 => 5 | 17 => 1 | 18 => 2 | 19 => 3 | n => n⟩
theorem Tryz.lays172 : Go.Proofs.Lays.n172 Tryz.prog Tryz.lays172_ren := {
 mixed := by kernel_rfl
 f129 := Tryz.func209.trans (congrArg some (by kernel_rfl))
 f171 := Tryz.func151.trans (congrArg some (by kernel_rfl))
 f172 := Tryz.func248.trans (congrArg some (by kernel_rfl))
 f205 := Tryz.func260.trans (congrArg some (by kernel_rfl))
 f243 := Tryz.func196.trans (congrArg some (by kernel_rfl))
 f244 := Tryz.func251.trans (congrArg some (by kernel_rfl))
 f245 := Tryz.func252.trans (congrArg some (by kernel_rfl))
 f246 := Tryz.func218.trans (congrArg some (by kernel_rfl))
 f247 := Tryz.func253.trans (congrArg some (by kernel_rfl))
 f279 := Tryz.func254.trans (congrArg some (by kernel_rfl))
 f280 := Tryz.func255.trans (congrArg some (by kernel_rfl))
 f281 := Tryz.func256.trans (congrArg some (by kernel_rfl))
 f282 := Tryz.func257.trans (congrArg some (by kernel_rfl))
 f283 := Tryz.func228.trans (congrArg some (by kernel_rfl))
 f284 := Tryz.func229.trans (congrArg some (by kernel_rfl))
 f285 := Tryz.func230.trans (congrArg some (by kernel_rfl))
 f286 := Tryz.func231.trans (congrArg some (by kernel_rfl))
 f287 := Tryz.func258.trans (congrArg some (by kernel_rfl))
 f316 := Tryz.func259.trans (congrArg some (by kernel_rfl))
 f317 := Tryz.func235.trans (congrArg some (by kernel_rfl))
 f318 := Tryz.func236.trans (congrArg some (by kernel_rfl))
 f319 := Tryz.func237.trans (congrArg some (by kernel_rfl))
 f320 := Tryz.func238.trans (congrArg some (by kernel_rfl))
 f321 := Tryz.func261.trans (congrArg some (by kernel_rfl))
 f322 := Tryz.func262.trans (congrArg some (by kernel_rfl))
 f337 := Tryz.func241.trans (congrArg some (by kernel_rfl))
 f338 := Tryz.func242.trans (congrArg some (by kernel_rfl))
 t0 := Tryz.underlying0
 a0 := Tryz.isAgg0
 z0 := Tryz.sizeOf0
 v0 := Tryz.zeroValue0
 t2 := Tryz.underlying2
 a2 := Tryz.isAgg2
 z2 := Tryz.sizeOf2
 v2 := Tryz.zeroValue2
 t3 := Tryz.underlying3
 a3 := Tryz.isAgg3
 z3 := Tryz.sizeOf3
 v3 := Tryz.zeroValue3
 t4 := Tryz.underlying4
 a4 := Tryz.isAgg4
 z4 := Tryz.sizeOf4
 v4 := Tryz.zeroValue4
 t5 := Tryz.underlying5
 a5 := Tryz.isAgg5
 z5 := Tryz.sizeOf5
 v5 := Tryz.zeroValue5
 t9 := Tryz.underlying9
 a9 := Tryz.isAgg9
 z9 := Tryz.sizeOf9
 v9 := Tryz.zeroValue9
 t20 := Tryz.underlying20
 a20 := Tryz.isAgg20
 z20 := Tryz.sizeOf20
 v20 := Tryz.zeroValue20
 t21 := Tryz.underlying21
 a21 := Tryz.isAgg21
 z21 := Tryz.sizeOf21
 v21 := Tryz.zeroValue21
 t37 := Tryz.underlying42
 a37 := Tryz.isAgg42
 z37 := Tryz.sizeOf42
 v37 := Tryz.zeroValue42
 t46 := Tryz.underlying191
 a46 := Tryz.isAgg191
 z46 := Tryz.sizeOf191
 v46 := Tryz.zeroValue191
 t51 := Tryz.underlying216
 a51 := Tryz.isAgg216
 z51 := Tryz.sizeOf216
 v51 := Tryz.zeroValue216
 t53 := Tryz.underlying218
 a53 := Tryz.isAgg218
 z53 := Tryz.sizeOf218
 v53 := Tryz.zeroValue218
 t75 := Tryz.underlying134
 a75 := Tryz.isAgg134
 z75 := Tryz.sizeOf134
 v75 := Tryz.zeroValue134
 t76 := Tryz.underlying135
 a76 := Tryz.isAgg135
 z76 := Tryz.sizeOf135
 v76 := Tryz.zeroValue135
 t85 := Tryz.underlying242
 a85 := Tryz.isAgg242
 z85 := Tryz.sizeOf242
 v85 := Tryz.zeroValue242
 t127 := Tryz.underlying184
 a127 := Tryz.isAgg184
 z127 := Tryz.sizeOf184
 v127 := Tryz.zeroValue184
 t143 := Tryz.underlying254
 a143 := Tryz.isAgg254
 z143 := Tryz.sizeOf254
 v143 := Tryz.zeroValue254
 t145 := Tryz.underlying256
 a145 := Tryz.isAgg256
 z145 := Tryz.sizeOf256
 v145 := Tryz.zeroValue256
 t167 := Tryz.underlying241
 a167 := Tryz.isAgg241
 z167 := Tryz.sizeOf241
 v167 := Tryz.zeroValue241
 t168 := Tryz.underlying244
 a168 := Tryz.isAgg244
 z168 := Tryz.sizeOf244
 v168 := Tryz.zeroValue244
 t171 := Tryz.underlying227
 a171 := Tryz.isAgg227
 z171 := Tryz.sizeOf227
 v171 := Tryz.zeroValue227
 t173 := Tryz.underlying229
 a173 := Tryz.isAgg229
 z173 := Tryz.sizeOf229
 v173 := Tryz.zeroValue229
 t175 := Tryz.underlying247
 a175 := Tryz.isAgg247
 z175 := Tryz.sizeOf247
 v175 := Tryz.zeroValue247
 t210 := Tryz.underlying251
 a210 := Tryz.isAgg251
 z210 := Tryz.sizeOf251
 v210 := Tryz.zeroValue251
 t212 := Tryz.underlying234
 a212 := Tryz.isAgg234
 z212 := Tryz.sizeOf234
 v212 := Tryz.zeroValue234
 t213 := Tryz.underlying235
 a213 := Tryz.isAgg235
 z213 := Tryz.sizeOf235
 t232 := Tryz.underlying237
 a232 := Tryz.isAgg237
 z232 := Tryz.sizeOf237
 v232 := Tryz.zeroValue237
 t233 := Tryz.underlying238
 a233 := Tryz.isAgg238
 z233 := Tryz.sizeOf238
 v233 := Tryz.zeroValue238
 g15 := by kernel_rfl
 g16 := by kernel_rfl
 g17 := by kernel_rfl
 g18 := by kernel_rfl
 g19 := by kernel_rfl }
open Go.RowKit in
theorem Tryz.strconv_Atoi (s : ByteArray) (n : Int) (hl : s.size ≤ 18) (h : Lib.atoi s.data.toList = some n) (w : World) :
  Calls Tryz.prog 248 #[.string s] w fun e w' => e = .returned (.tuple #[.int .i64 n, .nilIface]) ∧ ∃ t, w' = Lib.bytesWorld w 5 t := Any.strconv_Atoi Tryz.lays172 s n hl h w
def Tryz.laysM171_ren : Go.Shelf.Ren := ⟨fun | 171 => 151 | 243 => 196 | 246 => 218 | 283 => 228 | 284 => 229 | 285 => 230 | 286 => 231 | 129 => 209 | 317 => 235 | 318 => 236 | 319 => 237 | 320 => 238 | 337 => 241 | 338 => 242 | n => n, fun | 3 => 3 | 9 => 9 | 2 => 2 | 4 => 4 | 171 => 227 | 0 => 0 | 53 => 218 | 37 => 42 | 5 => 5 | 173 => 229 | 212 => 234 | 51 => 216 | 20 => 20 | 213 => 235 | 46 => 191 | 232 => 237 | 233 => 238 | n => n, fun | 17 => 1 | 18 => 2 | 19 => 3 | n => n⟩
theorem Tryz.laysM171 : Go.Proofs.LaysM.n171 Tryz.prog Tryz.laysM171_ren := {
 mixed := by kernel_rfl
 f129 := Tryz.func209.trans (congrArg some (by kernel_rfl))
 f171 := Tryz.func151.trans (congrArg some (by kernel_rfl))
 f243 := Tryz.func196.trans (congrArg some (by kernel_rfl))
 f246 := Tryz.func218.trans (congrArg some (by kernel_rfl))
 f283 := Tryz.func228.trans (congrArg some (by kernel_rfl))
 f284 := Tryz.func229.trans (congrArg some (by kernel_rfl))
 f285 := Tryz.func230.trans (congrArg some (by kernel_rfl))
 f286 := Tryz.func231.trans (congrArg some (by kernel_rfl))
 f317 := Tryz.func235.trans (congrArg some (by kernel_rfl))
 f318 := Tryz.func236.trans (congrArg some (by kernel_rfl))
 f319 := Tryz.func237.trans (congrArg some (by kernel_rfl))
 f320 := Tryz.func238.trans (congrArg some (by kernel_rfl))
 f337 := Tryz.func241.trans (congrArg some (by kernel_rfl))
 f338 := Tryz.func242.trans (congrArg some (by kernel_rfl))
 t0 := Tryz.underlying0
 a0 := Tryz.isAgg0
 z0 := Tryz.sizeOf0
 v0 := Tryz.zeroValue0
 t2 := Tryz.underlying2
 a2 := Tryz.isAgg2
 z2 := Tryz.sizeOf2
 v2 := Tryz.zeroValue2
 t3 := Tryz.underlying3
 a3 := Tryz.isAgg3
 z3 := Tryz.sizeOf3
 v3 := Tryz.zeroValue3
 t4 := Tryz.underlying4
 a4 := Tryz.isAgg4
 z4 := Tryz.sizeOf4
 v4 := Tryz.zeroValue4
 t5 := Tryz.underlying5
 a5 := Tryz.isAgg5
 z5 := Tryz.sizeOf5
 v5 := Tryz.zeroValue5
 t9 := Tryz.underlying9
 a9 := Tryz.isAgg9
 z9 := Tryz.sizeOf9
 v9 := Tryz.zeroValue9
 t20 := Tryz.underlying20
 a20 := Tryz.isAgg20
 z20 := Tryz.sizeOf20
 v20 := Tryz.zeroValue20
 t37 := Tryz.underlying42
 a37 := Tryz.isAgg42
 z37 := Tryz.sizeOf42
 v37 := Tryz.zeroValue42
 t46 := Tryz.underlying191
 a46 := Tryz.isAgg191
 z46 := Tryz.sizeOf191
 v46 := Tryz.zeroValue191
 t51 := Tryz.underlying216
 a51 := Tryz.isAgg216
 z51 := Tryz.sizeOf216
 v51 := Tryz.zeroValue216
 t53 := Tryz.underlying218
 a53 := Tryz.isAgg218
 z53 := Tryz.sizeOf218
 v53 := Tryz.zeroValue218
 t171 := Tryz.underlying227
 a171 := Tryz.isAgg227
 z171 := Tryz.sizeOf227
 v171 := Tryz.zeroValue227
 t173 := Tryz.underlying229
 a173 := Tryz.isAgg229
 z173 := Tryz.sizeOf229
 v173 := Tryz.zeroValue229
 t212 := Tryz.underlying234
 a212 := Tryz.isAgg234
 z212 := Tryz.sizeOf234
 v212 := Tryz.zeroValue234
 t213 := Tryz.underlying235
 a213 := Tryz.isAgg235
 z213 := Tryz.sizeOf235
 t232 := Tryz.underlying237
 a232 := Tryz.isAgg237
 z232 := Tryz.sizeOf237
 v232 := Tryz.zeroValue237
 t233 := Tryz.underlying238
 a233 := Tryz.isAgg238
 z233 := Tryz.sizeOf238
 v233 := Tryz.zeroValue238
 g17 := by kernel_rfl
 g18 := by kernel_rfl
 g19 := by kernel_rfl
 i0 := by kernel_rfl
 i2 := by kernel_rfl
 i3 := by kernel_rfl
 i4 := by kernel_rfl
 i5 := by kernel_rfl
 i9 := by kernel_rfl
 i20 := by kernel_rfl
 i37 := by kernel_rfl
 i46 := by kernel_rfl
 i51 := by kernel_rfl
 i53 := by kernel_rfl
 i171 := by kernel_rfl
 i173 := by kernel_rfl
 i212 := by kernel_rfl
 i232 := by kernel_rfl
 i233 := by kernel_rfl
 m17 := by kernel_rfl
 m18 := by kernel_rfl
 m19 := by kernel_rfl }
open Go.RowKit Go.Sort Go.Lib in
theorem Tryz.strconv_Itoa (n : Int) (h0 : -9223372036854775808 ≤ n) (h1 : n ≤ 9223372036854775807) (w : World) (htab : Lib.TabIs Tryz.prog w "internal/strconv.uint64pow10" .u64 Lib.pow10Tab) :
  Calls Tryz.prog 151 #[.int .i64 n] w fun e w' => e = .returned (.string ⟨(Lib.itoa n).toArray⟩) ∧ ∃ k os, w' = grow (w.drewN k) os := Any.strconv_Itoa Tryz.laysM171 n h0 h1 w htab
def Tryz.laysC172_ren : Go.Shelf.Ren := ⟨fun | 172 => 248 | 244 => 251 | 245 => 252 | 247 => 253 | 279 => 254 | 280 => 255 | 281 => 256 | 282 => 257 | 287 => 258 | 316 => 259 | 171 => 151 | 205 => 260 | 321 => 261 | 322 => 262 | 243 => 196 | 246 => 218 | 283 => 228 | 284 => 229 | 285 => 230 | 286 => 231 | 129 => 209 | 317 => 235 | 318 => 236 | 319 => 237 | 320 => 238 | 337 => 241 | 338 => 242 | n => n, fun | 9 => 9 | 3 => 3 | 75 => 134 | 76 => 135 | 4 => 4 | 5 => 5 | 167 => 241 | 37 => 42 | 0 => 0 | 85 => 242 | 2 => 2 | 168 => 244 | 53 => 218 | 175 => 247 | 46 => 191 | 210 => 251 | 127 => 184 | 145 => 256 | 143 => 254 | 21 => 21 | 171 => 227 | 173 => 229 | 212 => 234 | 51 => 216 | 20 => 20 | 213 => 235 | 232 => 237 | 233 => 238 | 80 => 137 | n => n, fun | 15 => 4 | 16 => 5 | 17 => 1 | 18 => 2 | 19 => 3 | n => n⟩
theorem Tryz.laysC172 : Go.Proofs.LaysC.n172 Tryz.prog Tryz.laysC172_ren := {
 mixed := by kernel_rfl
 f129 := Tryz.func209.trans (congrArg some (by kernel_rfl))
 f171 := Tryz.func151.trans (congrArg some (by kernel_rfl))
 f172 := Tryz.func248.trans (congrArg some (by kernel_rfl))
 f205 := Tryz.func260.trans (congrArg some (by kernel_rfl))
 f243 := Tryz.func196.trans (congrArg some (by kernel_rfl))
 f244 := Tryz.func251.trans (congrArg some (by kernel_rfl))
 f245 := Tryz.func252.trans (congrArg some (by kernel_rfl))
 f246 := Tryz.func218.trans (congrArg some (by kernel_rfl))
 f247 := Tryz.func253.trans (congrArg some (by kernel_rfl))
 f279 := Tryz.func254.trans (congrArg some (by kernel_rfl))
 f280 := Tryz.func255.trans (congrArg some (by kernel_rfl))
 f281 := Tryz.func256.trans (congrArg some (by kernel_rfl))
 f282 := Tryz.func257.trans (congrArg some (by kernel_rfl))
 f283 := Tryz.func228.trans (congrArg some (by kernel_rfl))
 f284 := Tryz.func229.trans (congrArg some (by kernel_rfl))
 f285 := Tryz.func230.trans (congrArg some (by kernel_rfl))
 f286 := Tryz.func231.trans (congrArg some (by kernel_rfl))
 f287 := Tryz.func258.trans (congrArg some (by kernel_rfl))
 f316 := Tryz.func259.trans (congrArg some (by kernel_rfl))
 f317 := Tryz.func235.trans (congrArg some (by kernel_rfl))
 f318 := Tryz.func236.trans (congrArg some (by kernel_rfl))
 f319 := Tryz.func237.trans (congrArg some (by kernel_rfl))
 f320 := Tryz.func238.trans (congrArg some (by kernel_rfl))
 f321 := Tryz.func261.trans (congrArg some (by kernel_rfl))
 f322 := Tryz.func262.trans (congrArg some (by kernel_rfl))
 f337 := Tryz.func241.trans (congrArg some (by kernel_rfl))
 f338 := Tryz.func242.trans (congrArg some (by kernel_rfl))
 t0 := Tryz.underlying0
 a0 := Tryz.isAgg0
 z0 := Tryz.sizeOf0
 v0 := Tryz.zeroValue0
 t2 := Tryz.underlying2
 a2 := Tryz.isAgg2
 z2 := Tryz.sizeOf2
 v2 := Tryz.zeroValue2
 t3 := Tryz.underlying3
 a3 := Tryz.isAgg3
 z3 := Tryz.sizeOf3
 v3 := Tryz.zeroValue3
 t4 := Tryz.underlying4
 a4 := Tryz.isAgg4
 z4 := Tryz.sizeOf4
 v4 := Tryz.zeroValue4
 t5 := Tryz.underlying5
 a5 := Tryz.isAgg5
 z5 := Tryz.sizeOf5
 v5 := Tryz.zeroValue5
 t9 := Tryz.underlying9
 a9 := Tryz.isAgg9
 z9 := Tryz.sizeOf9
 v9 := Tryz.zeroValue9
 t20 := Tryz.underlying20
 a20 := Tryz.isAgg20
 z20 := Tryz.sizeOf20
 v20 := Tryz.zeroValue20
 t21 := Tryz.underlying21
 a21 := Tryz.isAgg21
 z21 := Tryz.sizeOf21
 v21 := Tryz.zeroValue21
 t37 := Tryz.underlying42
 a37 := Tryz.isAgg42
 z37 := Tryz.sizeOf42
 v37 := Tryz.zeroValue42
 t46 := Tryz.underlying191
 a46 := Tryz.isAgg191
 z46 := Tryz.sizeOf191
 v46 := Tryz.zeroValue191
 t51 := Tryz.underlying216
 a51 := Tryz.isAgg216
 z51 := Tryz.sizeOf216
 v51 := Tryz.zeroValue216
 t53 := Tryz.underlying218
 a53 := Tryz.isAgg218
 z53 := Tryz.sizeOf218
 v53 := Tryz.zeroValue218
 t75 := Tryz.underlying134
 a75 := Tryz.isAgg134
 z75 := Tryz.sizeOf134
 v75 := Tryz.zeroValue134
 t76 := Tryz.underlying135
 a76 := Tryz.isAgg135
 z76 := Tryz.sizeOf135
 v76 := Tryz.zeroValue135
 t85 := Tryz.underlying242
 a85 := Tryz.isAgg242
 z85 := Tryz.sizeOf242
 v85 := Tryz.zeroValue242
 t127 := Tryz.underlying184
 a127 := Tryz.isAgg184
 z127 := Tryz.sizeOf184
 v127 := Tryz.zeroValue184
 t143 := Tryz.underlying254
 a143 := Tryz.isAgg254
 z143 := Tryz.sizeOf254
 v143 := Tryz.zeroValue254
 t145 := Tryz.underlying256
 a145 := Tryz.isAgg256
 z145 := Tryz.sizeOf256
 v145 := Tryz.zeroValue256
 t167 := Tryz.underlying241
 a167 := Tryz.isAgg241
 z167 := Tryz.sizeOf241
 v167 := Tryz.zeroValue241
 t168 := Tryz.underlying244
 a168 := Tryz.isAgg244
 z168 := Tryz.sizeOf244
 v168 := Tryz.zeroValue244
 t171 := Tryz.underlying227
 a171 := Tryz.isAgg227
 z171 := Tryz.sizeOf227
 v171 := Tryz.zeroValue227
 t173 := Tryz.underlying229
 a173 := Tryz.isAgg229
 z173 := Tryz.sizeOf229
 v173 := Tryz.zeroValue229
 t175 := Tryz.underlying247
 a175 := Tryz.isAgg247
 z175 := Tryz.sizeOf247
 v175 := Tryz.zeroValue247
 t210 := Tryz.underlying251
 a210 := Tryz.isAgg251
 z210 := Tryz.sizeOf251
 v210 := Tryz.zeroValue251
 t212 := Tryz.underlying234
 a212 := Tryz.isAgg234
 z212 := Tryz.sizeOf234
 v212 := Tryz.zeroValue234
 t213 := Tryz.underlying235
 a213 := Tryz.isAgg235
 z213 := Tryz.sizeOf235
 t232 := Tryz.underlying237
 a232 := Tryz.isAgg237
 z232 := Tryz.sizeOf237
 v232 := Tryz.zeroValue237
 t233 := Tryz.underlying238
 a233 := Tryz.isAgg238
 z233 := Tryz.sizeOf238
 v233 := Tryz.zeroValue238
 g15 := by kernel_rfl
 g16 := by kernel_rfl
 g17 := by kernel_rfl
 g18 := by kernel_rfl
 g19 := by kernel_rfl
 t80 := Tryz.underlying137
 a80 := Tryz.isAgg137
 z80 := Tryz.sizeOf137
 v80 := Tryz.zeroValue137
 i0 := by kernel_rfl
 i2 := by kernel_rfl
 i3 := by kernel_rfl
 i4 := by kernel_rfl
 i5 := by kernel_rfl
 i9 := by kernel_rfl
 i20 := by kernel_rfl
 i21 := by kernel_rfl
 i37 := by kernel_rfl
 i46 := by kernel_rfl
 i51 := by kernel_rfl
 i53 := by kernel_rfl
 i75 := by kernel_rfl
 i76 := by kernel_rfl
 i80 := by kernel_rfl
 i85 := by kernel_rfl
 i127 := by kernel_rfl
 i143 := by kernel_rfl
 i145 := by kernel_rfl
 i167 := by kernel_rfl
 i168 := by kernel_rfl
 i171 := by kernel_rfl
 i173 := by kernel_rfl
 i175 := by kernel_rfl
 i210 := by kernel_rfl
 i212 := by kernel_rfl
 i232 := by kernel_rfl
 i233 := by kernel_rfl
 m15 := by kernel_rfl
 m16 := by kernel_rfl
 m17 := by kernel_rfl
 m18 := by kernel_rfl
 m19 := by kernel_rfl
 c0 := by kernel_rfl
 c2 := by kernel_rfl
 c3 := by kernel_rfl
 c4 := by kernel_rfl
 c5 := by kernel_rfl
 c9 := by kernel_rfl
 c20 := by kernel_rfl
 c21 := by kernel_rfl
 c37 := by kernel_rfl
 c46 := by kernel_rfl
 c51 := by kernel_rfl
 c53 := by kernel_rfl
 c75 := by kernel_rfl
 c76 := by kernel_rfl
 c80 := by kernel_rfl
 c85 := by kernel_rfl
 c127 := by kernel_rfl
 c143 := by kernel_rfl
 c145 := by kernel_rfl
 c167 := by kernel_rfl
 c168 := by kernel_rfl
 c171 := by kernel_rfl
 c173 := by kernel_rfl
 c175 := by kernel_rfl
 c210 := by kernel_rfl
 c212 := by kernel_rfl
 c213 := by kernel_rfl
 c232 := by kernel_rfl
 c233 := by kernel_rfl }
open Go.RowKit in
theorem Tryz.strconv_Atoi_ok (s : ByteArray) (hmax : s.size ≤ 9223372036854775806) (v : Int) (h : Lib.atoiAll s.data.toList = .ok v) (w : World) :
  Calls Tryz.prog 248 #[.string s] w fun e w' => e = .returned (.tuple #[.int .i64 v, .nilIface]) ∧ (w' = w ∨ ∃ t, w' = Lib.bytesWorld w 5 t) := Any.strconv_Atoi_ok Tryz.laysC172 s hmax v h w
open Go.RowKit in
theorem Tryz.strconv_Atoi_range_var (s : ByteArray) (hlim : s.size ≤ 281474976710656) (h : Lib.atoiAll s.data.toList = .range) (tp : TypeId) (p : Value) (w : World) (hvar : w.var? Tryz.prog "strconv.ErrRange" = some #[.iface tp p]) :
  Calls Tryz.prog 248 #[.string s] w fun e w' => ∃ N, e = .returned (.tuple #[.int .i64 (Lib.atoiSat s.data.toList), .iface 244 (.pointer (some ⟨N, 0, none⟩))]) ∧ w.heap.size ≤ N ∧ w'.heap[N]? = some (.cells #[.string ⟨#[65, 116, 111, 105]⟩, .string s, .iface tp p] 251 (0, 0)) ∧ Below w.heap.size w w' := Any.strconv_Atoi_range_var Tryz.laysC172 s hlim h tp p w hvar
def Tryz.lays99_ren : Go.Shelf.Ren := ⟨fun | 99 => 182 | 206 => 210 | n => n, fun | 9 => 9 | 4 => 4 | 3 => 3 | n => n, fun | n => n⟩
theorem Tryz.lays99 : Go.Proofs.Lays.n99 Tryz.prog Tryz.lays99_ren := {
 mixed := by kernel_rfl
 f99 := Tryz.func182.trans (congrArg some (by kernel_rfl))
 f206 := Tryz.func210.trans (congrArg some (by kernel_rfl))
 t3 := Tryz.underlying3
 a3 := Tryz.isAgg3
 z3 := Tryz.sizeOf3
 v3 := Tryz.zeroValue3
 t4 := Tryz.underlying4
 a4 := Tryz.isAgg4
 z4 := Tryz.sizeOf4
 v4 := Tryz.zeroValue4
 t9 := Tryz.underlying9
 a9 := Tryz.isAgg9
 z9 := Tryz.sizeOf9
 v9 := Tryz.zeroValue9 }
open Go.RowKit Go.Lib in
theorem Tryz.strings_HasPrefix (s p : ByteArray) (w : World) :
  Calls Tryz.prog 182 #[.string s, .string p] w fun e w' => e = .returned (.bool (Lib.hasPrefix s.data.toList p.data.toList)) ∧ w' = w := Any.strings_HasPrefix Tryz.lays99 s p w
end Go.Proofs
namespace Go.Proofs.YtaihlcdkcampbaaGreatDoor
open Go.Proofs Go.RowKit Go.Sort Go.Lib
def strings_HasPrefix (_N : Nat) (s p : List UInt8) : Option Bool := some (Go.Lib.hasPrefix s p)
theorem co_strings_HasPrefix : CallOk Tryz.prog 182 := fun _ _ => by kernel_rfl
theorem c_strings_HasPrefix (N : Nat) (w0 : World) (F0 : Mem) (hF : ∀ b o, F0 b = some o → w0.heap[b]? = some o) (x0 : (List UInt8)) (x1 : (List UInt8)) (r : Bool) (h : strings_HasPrefix N x0 x1 = some r) :
  Calls Tryz.prog 182 ([(.string ⟨(x0).toArray⟩), (.string ⟨(x1).toArray⟩)] : List Value).toArray w0 (FRet w0 F0 fun _ v => v = (.bool r)) := by
 cases h
 exact FRet.below hF ((Tryz.strings_HasPrefix ⟨x0.toArray⟩ ⟨x1.toArray⟩ w0).mono fun e w' ⟨he, hw⟩ => ⟨he, hw ▸ Below.refl _ _⟩) rfl
def strings_IndexByte (_N : Nat) (s : List UInt8) (c : Int) : Option Int := some (Go.Lib.indexByte s c.toNat.toUInt8)
theorem co_strings_IndexByte : CallOk Tryz.prog 183 := fun _ _ => by kernel_rfl
theorem c_strings_IndexByte (N : Nat) (w0 : World) (F0 : Mem) (hF : ∀ b o, F0 b = some o → w0.heap[b]? = some o) (x0 : (List UInt8)) (x1 : Int) (r : Int) (h : strings_IndexByte N x0 x1 = some r) :
  Calls Tryz.prog 183 ([(.string ⟨(x0).toArray⟩), (.int .u8 x1)] : List Value).toArray w0 (FRet w0 F0 fun _ v => v = (.int .i64 r)) := by
 cases h
 exact FRet.below hF ((Tryz.strings_IndexByte ⟨x0.toArray⟩ x1 w0).mono fun e w' ⟨he, hw⟩ => ⟨he, hw ▸ Below.refl _ _⟩) rfl
def strconv_Itoa (_N : Nat) (n : Int) : Option (List UInt8) := if -9223372036854775808 ≤ n ∧ n ≤ 9223372036854775807 then some (Go.Lib.itoa n) else none
theorem co_strconv_Itoa : CallOk Tryz.prog 151 := fun _ _ => by kernel_rfl
theorem c_strconv_Itoa (N : Nat) (w0 : World) (F0 : Mem) (hF : ∀ b o, F0 b = some o → w0.heap[b]? = some o) (hG : Glob F0) (x0 : Int) (r : List UInt8) (h : strconv_Itoa N x0 = some r) :
  Calls Tryz.prog 151 ([(.int .i64 x0)] : List Value).toArray w0 (FRet w0 F0 fun _ v => v = (.string ⟨(r).toArray⟩)) := by
 unfold strconv_Itoa at h
 split at h
 ·rename_i ha
  cases h
  refine FRet.below hF ((Tryz.strconv_Itoa x0 ha.1 ha.2 w0 (hG w0 hF).1).mono ?_) rfl
  rintro e w' ⟨rfl, k, os, rfl⟩
  exact ⟨rfl, rfl, rfl, rfl, by simp [grow, World.drewN], fun j hj => by
   show ((w0.drewN k).heap ++ os)[j]? = _
   rw [Array.getElem?_append_left (show j < (w0.drewN k).heap.size from hj)]; rfl⟩
 ·cases h
def strconv_Atoi (_N : Nat) (s : List UInt8) : Option (Int × Bool) := if s.length ≤ 281474976710656 then (match Go.Lib.atoiAll s with
 | .ok v => some (v, false)
 | .range => some (Go.Lib.atoiSat s, true)
 | _ => none) else none
theorem co_strconv_Atoi : CallOk Tryz.prog 248 := fun _ _ => by kernel_rfl
theorem c_strconv_Atoi (N : Nat) (w0 : World) (F0 : Mem) (hF : ∀ b o, F0 b = some o → w0.heap[b]? = some o) (hG : Glob F0) (x0 : (List UInt8)) (r : Int × Bool) (h : strconv_Atoi N x0 = some r) :
  Calls Tryz.prog 248 ([(.string ⟨(x0).toArray⟩)] : List Value).toArray w0 (FRet w0 F0 fun _ v => ∃ (vq1_0 : Value), v = (.tuple #[(.int .i64 r.1), vq1_0]) ∧ ErrV r.2 vq1_0) := by
 unfold strconv_Atoi at h
 split at h
 ·rename_i ha
  have hsz : (⟨x0.toArray⟩ : ByteArray).size ≤ 281474976710656 := by simpa [ByteArray.size] using ha
  split at h
  ·rename_i v hv
   cases h
   refine FRet.below hF ((Tryz.strconv_Atoi_ok ⟨x0.toArray⟩ (by omega) v (by simpa using hv) w0).mono ?_) ⟨.nilIface, rfl, rfl⟩
   rintro e w' ⟨rfl, (rfl | ⟨t, rfl⟩)⟩
   ·exact ⟨rfl, Below.refl _ _⟩
   ·exact ⟨rfl, rfl, rfl, rfl, by rw [Go.Lib.bytesWorld_size]; omega, fun j hj => Go.Lib.bytesWorld_at_old w0 _ _ j hj⟩
  ·rename_i hv
   cases h
   obtain ⟨tp, p, hvar⟩ := (hG w0 hF).2
   refine (Tryz.strconv_Atoi_range_var ⟨x0.toArray⟩ hsz (by simpa using hv) tp p w0 hvar).mono ?_
   rintro e w' ⟨n, rfl, _, _, hb⟩
   exact ⟨_, F0, rfl, HS.below hF hb, _, rfl, _, _, rfl⟩
  ·cases h
 ·cases h
end Go.Proofs.YtaihlcdkcampbaaGreatDoor
namespace Go.Proofs.YtaihlcdkcampbaaGreatDoor
open Go.Proofs
def Self97 (sR97 : Expr → Int → Option (List UInt8)) : Prop := ∀ (w0 : World) (F0 : Mem) (hF : ∀ b o, F0 b = some o → w0.heap[b]? = some o) (hG : Glob F0) (x0 : Expr) (a0_2 : Option Addr) (n0_2 : Nat) (hb0_2 : LC x0.Kids.length n0_2) (hs0_2 : SlA tExpr F0 a0_2 x0.Kids) (x1 : Int) (r : (List UInt8)), sR97 x0 x1 = some r → Calls Tryz.prog 97 ([(.agg #[(.int .i64 x0.Op), (.int .i64 x0.Value), (.slice a0_2 x0.Kids.length n0_2)]), (.int .i64 x1)] : List Value).toArray w0 (FRet w0 F0 fun F' v => v = (.string ⟨(r).toArray⟩))
theorem co_rules_printed : CallOk Tryz.prog 97 := fun _ _ => by kernel_rfl
end Go.Proofs.YtaihlcdkcampbaaGreatDoor
namespace Go.Proofs.YtaihlcdkcampbaaGreatDoor
open Go.Proofs
def rules_printed_S (N : Nat) (sR97 : Expr → Int → Option (List UInt8)) (x0 : Expr) (x1 : Int) : Option (List UInt8) :=
 ((rules_signOf N x0.Op).bind fun r24 => ((bif r24.2 then (((idx x0.Kids 0).bind fun x62 => ((idx x0.Kids 1).bind fun x76 => ((sR97 x62 r24.1.left_).bind fun r82 => ((sadd r82 ([32] : List UInt8)).bind fun r90 => ((sadd r90 r24.1.text_).bind fun r93 => ((sadd r93 ([32] : List UInt8)).bind fun r96 => ((sR97 x76 r24.1.right_).bind fun r99 => ((sadd r96 r99).bind fun r107 => some r107)))))))).bind fun j55 => some (r24.1.rank_, j55)) else ((bif (x0.Op == 1) then ((strconv_Itoa N x0.Value).bind fun r123 => some (7, r123)) else ((bif (x0.Op == 2) then (((rules_names N ).bind fun r156 => ((idx r156 x0.Value).bind fun x164 => some x164)).bind fun j149 => some (7, j149)) else ((bif (x0.Op == 3) then ((idx x0.Kids 0).bind fun x191 => ((sR97 x191 3).bind fun r205 => ((sadd ([110, 111, 116, 32] : List UInt8) r205).bind fun r213 => some (3, r213)))) else (bif (x0.Op == 11) then none else some (7, ([] : List UInt8)))).bind fun j181 => some (j181.1, j181.2))).bind fun j134 => some (j134.1, j134.2))).bind fun j113 => some (j113.1, j113.2))).bind fun j40 => (bif (decide (j40.1 < x1)) then ((sadd ([40] : List UInt8) j40.2).bind fun r222 => ((sadd r222 ([41] : List UInt8)).bind fun r225 => some r225)) else some j40.2)))
theorem cS_rules_printed (N : Nat) (sR97 : Expr → Int → Option (List UInt8)) (hsR97 : Self97 sR97) (w0 : World) (F0 : Mem) (hF : ∀ b o, F0 b = some o → w0.heap[b]? = some o) (hG : Glob F0) (x0 : Expr) (a0_2 : Option Addr) (n0_2 : Nat) (hb0_2 : LC x0.Kids.length n0_2) (hs0_2 : SlA tExpr F0 a0_2 x0.Kids) (x1 : Int) (r : (List UInt8)) (h : rules_printed_S N sR97 x0 x1 = some r) :
  Calls Tryz.prog 97 ([(.agg (kExpr x0 a0_2 n0_2)), (vi x1)] : List Value).toArray w0 (FRet w0 F0 fun F' v => v = (.string ⟨(r).toArray⟩)) := by
 have hs0 := HS.start hF
 refine Go 97 Tryz.func97 ?_
 refine Sq (Rg [0, 1] ?_)
 refine Bx' 33 (kExpr x0 a0_2 n0_2) hs0 (fun b21 w22 hs23 => ?_)
 refine Vs 1 ?_
 refine Nss (Rg [0, 1] ?_)
 refine Vs 2 ?_
 refine Nss (Rg [0, 1, 2, 3, 4, 5, 6, 7, 8] ?_)
 refine Vs 1 ?_
 refine Ld hs23.at0 ?_
 obtain ⟨r24, hr25, h26⟩ := bind_some h
 refine Cl' co_rules_signOf hs23 (c_rules_signOf N w22 F0 hs23.pers (x0.Op) _ hr25) ?_
 rintro _ F1 w28 hs29 le30 rfl
 refine Vs 3 ?_
 refine Al' 173 #[(.string ⟨(([] : List UInt8)).toArray⟩), (vi 0), (vi 0), (vi 0)] hs29 (fun b32 w33 hs34 => ?_)
 refine St0 (krules_sign r24.1) hs34 (fun w35 hs36 => ?_)
 refine Vs 1 ?_
 refine Nss ?_
 refine Bk ?_
 refine Sq (Rg [0, 1] ?_)
 refine Vs 2 ?_
 refine Nt ?_
 obtain ⟨j40, hj45, h46⟩ := bind_some h26
 refine CWP.cut (fun f w => ∃ (F2 : Mem), HS w0 F0 w F2 [] ∧ Mem.le F1 F2 ∧ FI f [] [(1, (vi x1)), (5, (vi j40.1)), (6, (.string ⟨(j40.2).toArray⟩))]) ?_ ?_
 ·refine Cd hj45 (fun hb47 h48 => ?_) (fun hb47 h49 => ?_)
  ·obtain ⟨j55, hj60, h61⟩ := bind_some h48
   refine RD 24 24 [(sb b32 (krules_sign r24.1) 173), (sb b21 (kExpr x0 a0_2 n0_2) 33)] [] hs36 (fun f w => ∃ (F3 : Mem), HS w0 F0 w F3 [] ∧ Mem.le F1 F3 ∧ FI f [] [(1, (vi x1)), (5, (vi r24.1.rank_)), (6, (.string ⟨(j55).toArray⟩))]) (fun wd50 hw51 => ?_) ?_
   ·refine Dvl [0] [tt, ff, ff, ff, ff, ff, ff, ff, ff, ff, ff, ff, ff, ff, ff, ff, ff, ff, ff, ff, ff, ff, ff, ff] ?_
    refine Dl 1 (fun _ hq => (hq.1.2 0 _ _ rfl)) ?_
    refine Dvl [2] [tt, tt, tt, ff, ff, ff, ff, ff, ff, ff, ff, ff, ff, ff, ff, ff, ff, ff, ff, ff, ff, ff, ff, ff] ?_
    refine Dl 3 (fun _ hq => (hq.1.2 1 _ _ rfl)) ?_
    obtain ⟨x62, hx63, h65⟩ := bind_some hj60
    obtain ⟨hi64, hx63'⟩ := idx_spec hx63
    obtain ⟨b66, o67, C68, E69, fz70, rfl, hF72, hE73⟩ := SlA.open (SlA.mono hs0_2 le30) hx63'
    obtain ⟨ae74_2, ne74_2, hc75, hbe74_2, hse74_2⟩ := (tExpr_open (hE73 _ _ hx63'))
    refine Di 4 hi64 ?_
    refine Dx 5 0 (fun _ hq => hq.1.1 _ _ hF72) hc75 ?_
    refine Dvl [6] [tt, tt, tt, tt, tt, tt, tt, ff, ff, ff, ff, ff, ff, ff, ff, ff, ff, ff, ff, ff, ff, ff, ff, ff] ?_
    refine Dl 7 (fun _ hq => (hq.1.2 0 _ _ rfl)) ?_
    refine Dvl [10] [tt, tt, tt, tt, tt, tt, tt, tt, ff, ff, tt, ff, ff, ff, ff, ff, ff, ff, ff, ff, ff, ff, ff, ff] ?_
    refine Dl 11 (fun _ hq => (hq.1.2 0 _ _ rfl)) ?_
    refine Dvl [14] [tt, tt, tt, tt, tt, tt, tt, tt, ff, ff, tt, tt, ff, ff, tt, ff, ff, ff, ff, ff, ff, ff, ff, ff] ?_
    refine Dl 15 (fun _ hq => (hq.1.2 1 _ _ rfl)) ?_
    obtain ⟨x76, hx77, h79⟩ := bind_some h65
    obtain ⟨hi78, hx77'⟩ := idx_spec hx77
    obtain ⟨ae80_2, ne80_2, hc81, hbe80_2, hse80_2⟩ := (tExpr_open (hE73 _ _ hx77'))
    refine Di 16 hi78 ?_
    refine Dx 17 0 (fun _ hq => hq.1.1 _ _ hF72) hc81 ?_
    refine Dvl [18] [tt, tt, tt, tt, tt, tt, tt, tt, ff, ff, tt, tt, ff, ff, tt, tt, tt, tt, tt, ff, ff, ff, ff, ff] ?_
    refine Dl 19 (fun _ hq => (hq.1.2 0 _ _ rfl)) ?_
    refine D1 8 ?_
    obtain ⟨r82, hr83, h84⟩ := bind_some h79
    refine DCl co_rules_printed hw51 (hsR97 wd50 F1 hw51.pers (hG.mono le30) (x62) ae74_2 ne74_2 hbe74_2 hse74_2 (r24.1.left_) _ hr83) ?_
    rintro _ F4 w86 hs87 le88 rfl
    obtain ⟨r90, hr91, h92⟩ := bind_some h84
    refine Dtl 9 26 9 (.string ⟨(r90).toArray⟩) [tt, tt, tt, tt, tt, tt, tt, tt, tt, tt, tt, tt, ff, ff, tt, tt, tt, tt, tt, tt, ff, ff, ff, ff] (fun _ hq => run_sadd (t := 9) (t' := 9) (x := (.tmp 25)) (y := (.const (.string ⟨([32] : List UInt8).toArray⟩))) (a := r82) (b := ([32] : List UInt8)) (v := r90) rfl rfl hr91) ?_
    obtain ⟨r93, hr94, h95⟩ := bind_some h92
    refine Dtl 12 29 9 (.string ⟨(r93).toArray⟩) [tt, tt, tt, tt, tt, tt, tt, tt, tt, tt, tt, tt, tt, ff, tt, tt, tt, tt, tt, tt, ff, ff, ff, ff] (fun _ hq => run_sadd (t := 9) (t' := 9) (x := (.tmp 26)) (y := (.tmp 28)) (a := r90) (b := r24.1.text_) (v := r93) rfl rfl hr94) ?_
    obtain ⟨r96, hr97, h98⟩ := bind_some h95
    refine Dtl 13 30 9 (.string ⟨(r96).toArray⟩) [tt, tt, tt, tt, tt, tt, tt, tt, tt, tt, tt, tt, tt, tt, tt, tt, tt, tt, tt, tt, ff, ff, ff, ff] (fun _ hq => run_sadd (t := 9) (t' := 9) (x := (.tmp 29)) (y := (.const (.string ⟨([32] : List UInt8).toArray⟩))) (a := r93) (b := ([32] : List UInt8)) (v := r96) rfl rfl hr97) ?_
    refine D1 20 ?_
    obtain ⟨r99, hr100, h101⟩ := bind_some h98
    refine DCl co_rules_printed hs87 (hsR97 w86 F4 hs87.pers (hG.mono (le30.trans le88)) (x76) ae80_2 ne80_2 hbe80_2 (SlA.mono hse80_2 le88) (r24.1.right_) _ hr100) ?_
    rintro _ F5 w103 hs104 le105 rfl
    obtain ⟨r107, hr108, h109⟩ := bind_some h101
    refine Dtl 21 38 9 (.string ⟨(r107).toArray⟩) [tt, tt, tt, tt, tt, tt, tt, tt, tt, tt, tt, tt, tt, tt, tt, tt, tt, tt, tt, tt, tt, tt, ff, ff] (fun _ hq => run_sadd (t := 9) (t' := 9) (x := (.tmp 30)) (y := (.tmp 37)) (a := r96) (b := r99) (v := r107) rfl rfl hr108) ?_
    refine Dvl [22, 23] [tt, tt, tt, tt, tt, tt, tt, tt, tt, tt, tt, tt, tt, tt, tt, tt, tt, tt, tt, tt, tt, tt, tt, tt] ?_
    obtain rfl := some_inj h109
    exact DWP.done (by kernel_rfl) ⟨F5, hs104.dr0.dr0, (le88.trans le105), fI⟩
   ·rintro f w52 ⟨F3, hs53, le54, ⟨_, rfl⟩⟩
    obtain rfl := some_inj h61
    exact .inl ⟨rfl, F3, hs53, le54, fI⟩
  ·refine Sq (Rg [0, 1, 2, 3] ?_)
   refine Vs 1 ?_
   refine Ld hs36.at1 ?_
   refine Vs 2 ?_
   refine Nt ?_
   obtain ⟨j113, hj118, h119⟩ := bind_some h49
   refine CWP.cut (fun f w => ∃ (F6 : Mem), HS w0 F0 w F6 [] ∧ Mem.le F1 F6 ∧ FI f [] [(1, (vi x1)), (5, (vi j113.1)), (6, (.string ⟨(j113.2).toArray⟩))]) ?_ ?_
   ·refine Cd hj118 (fun hb120 h121 => ?_) (fun hb120 h122 => ?_)
    ·refine Rg [0, 1, 2, 3] ?_
     refine Vs 1 ?_
     refine Ld hs36.at1 ?_
     obtain ⟨r123, hr124, h125⟩ := bind_some h121
     refine Cl' co_strconv_Itoa hs36 (c_strconv_Itoa N w35 F1 hs36.pers (hG.mono le30) (x0.Value) _ hr124) ?_
     rintro _ F7 w127 hs128 le129 rfl
     refine Vs 1 ?_
     refine RWP.nil ?_
     obtain rfl := some_inj h125
     exact .inl ⟨rfl, F7, hs128.dr0.dr0, le129, fI⟩
    ·refine Sq (Rg [0, 1, 2, 3] ?_)
     refine Vs 1 ?_
     refine Ld hs36.at1 ?_
     refine Vs 2 ?_
     refine Nt ?_
     obtain ⟨j134, hj139, h140⟩ := bind_some h122
     refine CWP.cut (fun f w => ∃ (F8 : Mem), HS w0 F0 w F8 [] ∧ Mem.le F1 F8 ∧ FI f [] [(1, (vi x1)), (5, (vi j134.1)), (6, (.string ⟨(j134.2).toArray⟩))]) ?_ ?_
     ·refine Cd hj139 (fun hb141 h142 => ?_) (fun hb141 h143 => ?_)
      ·obtain ⟨j149, hj154, h155⟩ := bind_some h142
       refine RD 6 6 [(sb b32 (krules_sign r24.1) 173), (sb b21 (kExpr x0 a0_2 n0_2) 33)] [] hs36 (fun f w => ∃ (F9 : Mem), HS w0 F0 w F9 [] ∧ Mem.le F1 F9 ∧ FI f [] [(1, (vi x1)), (5, (vi 7)), (6, (.string ⟨(j149).toArray⟩))]) (fun wd144 hw145 => ?_) ?_
       ·refine Dv [1] ?_
        refine Dl 2 (fun _ hq => (hq.1.2 1 _ _ rfl)) ?_
        refine D1 0 ?_
        obtain ⟨r156, hr157, h158⟩ := bind_some hj154
        refine DCl co_rules_names hw145 (c_rules_names N wd144 F1 hw145.pers  _ hr157) ?_
        rintro _ F10 w160 hs161 le162 ⟨ar156_0_0, nr156_0_0, rfl, hbr156_0_0, hsr156_0_0⟩
        obtain ⟨x164, hx165, h167⟩ := bind_some h158
        obtain ⟨hi166, hx165'⟩ := idx_spec hx165
        obtain ⟨b168, o169, C170, E171, fz172, rfl, hF174, hE175⟩ := SlA.open hsr156_0_0 hx165'
        have hc177 := hE175 _ _ hx165'
        refine Di 3 hi166 ?_
        refine D1 4 ?_
        refine DStep.val (l' := [true, true, true, true, true, false]) (zd := true) (by kernel_rfl) (by kernel_rfl) (dst := (some 54)) (ty := 9) (g := none) (by kernel_rfl) rfl (run_loadE (t := 9) (x := (.tmp 53)) (b := b168) (o := (o169 + (x0.Value : Int).toNat * 1)) (j := 0) (C := C170) (kk := 1) (cs := [(.string ⟨(x164).toArray⟩)]) (gg := false) (s := 1) (v := (.string ⟨(x164).toArray⟩)) rfl (by kernel_rfl) (hs161.pers _ _ hF174) hc177 (by decide) (by exact ⟨rfl, trivial⟩) rfl rfl) (dz_of hs161 le162 (by simp) (fun e => by cases e)) ?_
        refine Dv [5] ?_
        obtain rfl := some_inj h167
        exact DWP.done (by kernel_rfl) ⟨F10, hs161.dr0.dr0, le162, fI⟩
       ·rintro f w146 ⟨F9, hs147, le148, ⟨_, rfl⟩⟩
        obtain rfl := some_inj h155
        exact .inl ⟨rfl, F9, hs147, le148, fI⟩
      ·refine Sq (Rg [0, 1, 2, 3] ?_)
       refine Vs 1 ?_
       refine Ld hs36.at1 ?_
       refine Vs 2 ?_
       refine Nt ?_
       obtain ⟨j181, hj186, h187⟩ := bind_some h143
       refine CWP.cut (fun f w => ∃ (F11 : Mem), HS w0 F0 w F11 [] ∧ Mem.le F1 F11 ∧ FI f [] [(1, (vi x1)), (5, (vi j181.1)), (6, (.string ⟨(j181.2).toArray⟩))]) ?_ ?_
       ·refine Cd hj186 (fun hb188 h189 => ?_) (fun hb188 h190 => ?_)
        ·refine Rg [0, 1, 2, 3, 4, 5, 6, 7] ?_
         refine Vs 1 ?_
         refine Ld hs36.at1 ?_
         obtain ⟨x191, hx192, h194⟩ := bind_some h189
         obtain ⟨hi193, hx192'⟩ := idx_spec hx192
         obtain ⟨b195, o196, C197, E198, fz199, rfl, hF201, hE202⟩ := SlA.open (SlA.mono hs0_2 le30) hx192'
         obtain ⟨ae203_2, ne203_2, hc204, hbe203_2, hse203_2⟩ := (tExpr_open (hE202 _ _ hx192'))
         refine Ix hi193 ?_
         refine Lx 0 (hs36.pers _ _ hF201) hc204 ?_
         obtain ⟨r205, hr206, h207⟩ := bind_some h194
         refine Cl' co_rules_printed hs36 (hsR97 w35 F1 hs36.pers (hG.mono le30) (x191) ae203_2 ne203_2 hbe203_2 hse203_2 (3) _ hr206) ?_
         rintro _ F12 w209 hs210 le211 rfl
         obtain ⟨r213, hr214, h215⟩ := bind_some h207
         refine V 64 9 (run_sadd (t := 9) (t' := 9) (x := (.const (.string ⟨([110, 111, 116, 32] : List UInt8).toArray⟩))) (y := (.tmp 63)) (a := ([110, 111, 116, 32] : List UInt8)) (b := r205) (v := r213) rfl rfl hr214) ?_
         refine Vs 2 ?_
         refine RWP.nil ?_
         obtain rfl := some_inj h215
         exact .inl ⟨rfl, F12, hs210.dr0.dr0, le211, fI⟩
        ·refine Sq (Rg [0, 1, 2, 3] ?_)
         refine Vs 1 ?_
         refine Ld hs36.at1 ?_
         refine Vs 2 ?_
         refine Nt ?_
         refine Cd h190 (fun hb216 h217 => ?_) (fun hb216 h218 => ?_)
         ·cases h217
         ·refine Sc ?_
          obtain rfl := some_inj h218
          exact .inl ⟨rfl, F1, hs36.dr0.dr0, (Mem.le.refl _), fI⟩
       ·rintro f w178 ⟨F11, hs179, le180, ⟨_, rfl⟩⟩
        obtain rfl := some_inj h187
        exact .inl ⟨rfl, F11, hs179, le180, fI⟩
     ·rintro f w131 ⟨F8, hs132, le133, ⟨_, rfl⟩⟩
      obtain rfl := some_inj h140
      exact .inl ⟨rfl, F8, hs132, le133, fI⟩
   ·rintro f w110 ⟨F6, hs111, le112, ⟨_, rfl⟩⟩
    obtain rfl := some_inj h119
    exact .inl ⟨rfl, F6, hs111, le112, fI⟩
 ·rintro f w37 ⟨F2, hs38, le39, ⟨_, rfl⟩⟩
  refine blockQ_nrm ?_
  refine thenQ_nrm ?_
  refine Sq ?_
  refine Sq (Rg [0, 1, 2] ?_)
  refine Vs 3 ?_
  refine Nt ?_
  refine Cd h46 (fun hb219 h220 => ?_) (fun hb219 h221 => ?_)
  ·refine Sq (Rg [0, 1, 2, 3] ?_)
   refine Vs 1 ?_
   obtain ⟨r222, hr223, h224⟩ := bind_some h220
   refine V 94 9 (run_sadd (t := 9) (t' := 9) (x := (.const (.string ⟨([40] : List UInt8).toArray⟩))) (y := (.tmp 93)) (a := ([40] : List UInt8)) (b := j40.2) (v := r222) rfl rfl hr223) ?_
   obtain ⟨r225, hr226, h227⟩ := bind_some h224
   refine V 95 9 (run_sadd (t := 9) (t' := 9) (x := (.tmp 94)) (y := (.const (.string ⟨([41] : List UInt8).toArray⟩))) (a := r222) (b := ([41] : List UInt8)) (v := r225) rfl rfl hr226) ?_
   refine Vs 1 ?_
   refine Nt ?_
   refine Rt ?_
   refine thenQ_ret ?_
   obtain rfl := some_inj h227
   exact Re [(.string ⟨(r225).toArray⟩)] hs38 rfl
  ·refine Sc ?_
   refine thenQ_nrm ?_
   refine Sq (Rg [0, 1] ?_)
   refine Vs 2 ?_
   refine Nt ?_
   refine Rt ?_
   obtain rfl := some_inj h221
   exact Re [(.string ⟨(j40.2).toArray⟩)] hs38 rfl
end Go.Proofs.YtaihlcdkcampbaaGreatDoor
namespace Go.Proofs.YtaihlcdkcampbaaGreatDoor
open Go.Proofs
structure Rec97 where
 q97 : Expr → Int → Option (List UInt8)
def rec97 (N : Nat) : Nat → Rec97
 | 0 => ⟨fun _ _ => none⟩
 | k + 1 => ⟨rules_printed_S N (rec97 N k).q97⟩
theorem rec97_ok (N : Nat) : ∀ k, Self97 (rec97 N k).q97
 | 0 => (by unfold Self97; intros; rename_i h; cases h)
 | k + 1 => by
  have ih := rec97_ok N k
  exact @cS_rules_printed N (rec97 N k).q97 ih
def rules_printed (N : Nat) (x0 : Expr) (x1 : Int) : Option (List UInt8) := (rec97 N N).q97 x0 x1
theorem c_rules_printed (N : Nat) (w0 : World) (F0 : Mem) (hF : ∀ b o, F0 b = some o → w0.heap[b]? = some o) (hG : Glob F0) (x0 : Expr) (a0_2 : Option Addr) (n0_2 : Nat) (hb0_2 : LC x0.Kids.length n0_2) (hs0_2 : SlA tExpr F0 a0_2 x0.Kids) (x1 : Int) (r : (List UInt8)) (h : rules_printed N x0 x1 = some r) :
  Calls Tryz.prog 97 ([(.agg #[(.int .i64 x0.Op), (.int .i64 x0.Value), (.slice a0_2 x0.Kids.length n0_2)]), (.int .i64 x1)] : List Value).toArray w0 (FRet w0 F0 fun F' v => v = (.string ⟨(r).toArray⟩)) := (rec97_ok N N) w0 F0 hF hG x0 a0_2 n0_2 hb0_2 hs0_2 x1 r h
end Go.Proofs.YtaihlcdkcampbaaGreatDoor
namespace Go.Proofs.YtaihlcdkcampbaaGreatDoor
open Go.Proofs
def rules_PrintExpr (N : Nat) (x0 : Expr) : Option ((List UInt8) × Int) :=
 ((rules_sound N x0).bind fun r24 => (bif (!r24) then some (([] : List UInt8), 61) else ((rules_printed N x0 1).bind fun r35 => some (r35, 0))))
theorem co_rules_PrintExpr : CallOk Tryz.prog 33 := fun _ _ => by kernel_rfl
theorem c_rules_PrintExpr (N : Nat) (w0 : World) (F0 : Mem) (hF : ∀ b o, F0 b = some o → w0.heap[b]? = some o) (hG : Glob F0) (x0 : Expr) (a0_2 : Option Addr) (n0_2 : Nat) (hb0_2 : LC x0.Kids.length n0_2) (hs0_2 : SlA tExpr F0 a0_2 x0.Kids) (r : ((List UInt8) × Int)) (h : rules_PrintExpr N x0 = some r) :
  Calls Tryz.prog 33 ([(.agg (kExpr x0 a0_2 n0_2))] : List Value).toArray w0 (FRet w0 F0 fun F' v => v = (.tuple #[(.string ⟨(r.1).toArray⟩), (vi r.2)])) := by
 have hs0 := HS.start hF
 refine Go 9 Tryz.func33 ?_
 refine Sq (Rg [0, 1, 2] ?_)
 refine Bx' 33 (kExpr x0 a0_2 n0_2) hs0 (fun b21 w22 hs23 => ?_)
 refine Vs 2 ?_
 refine Nss ?_
 refine Sq (Rg [0, 1, 2] ?_)
 refine Ld hs23.at0 ?_
 obtain ⟨r24, hr25, h26⟩ := bind_some h
 refine Cl' co_rules_sound hs23 (c_rules_sound N w22 F0 hs23.pers (x0) a0_2 n0_2 hb0_2 hs0_2 _ hr25) ?_
 rintro _ F1 w28 hs29 le30 rfl
 refine Vs 1 ?_
 refine Nt ?_
 refine Cd h26 (fun hb32 h33 => ?_) (fun hb32 h34 => ?_)
 ·refine Sq (Rg [0, 1] ?_)
  refine Vs 2 ?_
  refine Nt ?_
  refine Rt ?_
  refine thenQ_ret ?_
  obtain rfl := some_inj h33
  exact Re [(.string ⟨(([] : List UInt8)).toArray⟩), (vi 61)] hs29 rfl
 ·refine Sc ?_
  refine thenQ_nrm ?_
  refine Sq (Rg [0, 1, 2, 3] ?_)
  refine Ld hs29.at0 ?_
  obtain ⟨r35, hr36, h37⟩ := bind_some h34
  refine Cl' co_rules_printed hs29 (c_rules_printed N w28 F1 hs29.pers (hG.mono le30) (x0) a0_2 n0_2 hb0_2 (SlA.mono hs0_2 le30) (1) _ hr36) ?_
  rintro _ F2 w39 hs40 le41 rfl
  refine Vs 2 ?_
  refine Nt ?_
  refine Rt ?_
  obtain rfl := some_inj h37
  exact Re [(.string ⟨(r35).toArray⟩), (vi 0)] hs40 rfl
end Go.Proofs.YtaihlcdkcampbaaGreatDoor
namespace Go.Proofs.YtaihlcdkcampbaaGreatDoor
open Go.Proofs
def collectM (m : ∀ {σ : Type}, (σ → rules_token → Option (Bool × σ)) → σ → Option σ) : Option (List rules_token) := m (fun st x => (apnd st [x]).map fun t => (true, t)) ([] : List rules_token)
theorem co_slices_AppendSeq : CallOk Tryz.prog 179 := fun _ _ => by kernel_rfl
theorem c_slices_AppendSeq (w0 : World) (F0 : Mem) (hF : ∀ b o, F0 b = some o → w0.heap[b]? = some o) (gf : FuncId) (cap : List Value) (m : ∀ {σ : Type}, (σ → rules_token → Option (Bool × σ)) → σ → Option σ) (hgf : CallOk Tryz.prog gf) (hseq : SeqOk Tryz.prog gf cap F0 [] enc194 ok194 px194 m) (r : (List rules_token)) (h : collectM m = some r) :
  Calls Tryz.prog 179 ([.slice none 0 0, (.func (.func gf) #[] cap.toArray)] : List Value).toArray w0 (FRet w0 F0 fun F' v => ∃ (aq0_0 : Option Addr) (nq0_0 : Nat), v = (.slice aq0_0 r.length nq0_0) ∧ LC r.length nq0_0 ∧ SlA trules_token F' aq0_0 r) := by
 have hs0 := HS.start hF
 refine calls_ofM (n := 13) (c := bodyOf Tryz.f179) Tryz.func179 (by kernel_rfl) (by kernel_rfl) (by kernel_rfl) ?_
 refine Sq ?_
 refine Rg [0, 1] ?_
 refine RWP.box (dst := (some 2)) (ty := 0) (g := none) (by kernel_rfl) rfl (x := (.tmp 0)) (t := 98) (v := (.slice none ([] : List rules_token).length 0)) rfl (C := #[(.slice none ([] : List rules_token).length 0)]) rfl hs0 (fun b1 w2 (hs3 : HS w0 F0 w2 F0 [(some b1, (.cells #[(.slice none ([] : List rules_token).length 0)] 98 (0, 0)))]) => ?_)
 refine V 4 98 (run_assign (x := (.const (.slice none 0 0))) (v := (.slice none ([] : List rules_token).length 0)) rfl) ?_
 refine RWP.nil ?_
 refine thenQ_nrm ?_
 refine Sq ?_
 refine Sq ?_
 refine Rg [0] ?_
 refine V 6 162 (run_move (x := (.tmp 1)) (v := (.func (.func gf) #[] cap.toArray)) rfl) ?_
 refine RWP.nil ?_
 refine thenQ_nrm ?_
 refine CWP.block (by kernel_rfl) ?_
 have hs4 : HS w0 F0 w2 F0 [(none, .cells #[] 0 (0, 0)), (some b1, (.cells #[(.slice none ([] : List rules_token).length 0)] 98 (0, 0)))] := hs3.dummy _
 obtain ⟨r14, hr15, h16⟩ : ∃ r14, collectM m = some r14 ∧ some r14 = some r := ⟨r, h, rfl⟩
 refine CWP.rangeFunc (enc := enc194) (ok := ok194) (px := px194) (m := fun {_} y s => m y s) (L := [(none, .cells #[] 0 (0, 0)), (some b1, (.cells #[(.slice none ([] : List rules_token).length 0)] 98 (0, 0)))]) (B := []) (ps := [7]) (by kernel_rfl) (gf := gf) (cap := cap) rfl hgf rfl (by kernel_rfl) (by kernel_rfl) (fun _ => rfl) hs4 hseq (fun st x => (apnd st [x]).map fun t => (true, t)) (fun (s6 : (List rules_token)) (F1 : Mem) (Lq : Own) => ∃ (as6_0 : Option Addr) (ns6_0 : Nat) (es6_0 : Option Nat × Obj), Lq = [es6_0, (some b1, (.cells #[(.slice as6_0 s6.length ns6_0)] 98 (0, 0)))] ∧ RowR trules_token 97 F1 as6_0 ns6_0 s6 es6_0) ?_ (s := ([] : List rules_token)) (r := r14) ?_ hr15 (fun _ _ _ h => (map_true h).1) ?_ ?_
 ·
  rintro s F F' L ⟨as6_0, ns6_0, es6_0, rfl, hrs6_0⟩ hl
  exact ⟨as6_0, ns6_0, es6_0, rfl, (hrs6_0.mono hl)⟩
 ·
  exact ⟨none, 0, (none, .cells #[] 0 (0, 0)), rfl, (RowR.nil trules_token 97 F0 _)⟩
 ·
  rintro l17 s6 x19 w20 F1 _ Rf22 ⟨q0, q23⟩ le24 ok25 ⟨as6_0, ns6_0, es6_0, rfl, hrs6_0⟩ hs26 hy27
  have h28 := (map_true hy27).2
  have hs29 : HS w0 F0 w20 F1 (es6_0 :: (some b1, (.cells #[(.slice as6_0 s6.length ns6_0)] 98 (0, 0))) :: Rf22) := hs26
  refine Rg [0, 1] ?_
  refine RWP.alloc (dst := (some 5)) (ty := 0) (g := none) (by kernel_rfl) rfl (t := 97) (z := (.agg #[(.int .i64 0), (.int .i64 0), (.string ⟨(([] : List UInt8)).toArray⟩)])) (by kernel_rfl) (C := #[(.int .i64 0), (.int .i64 0), (.string ⟨(([] : List UInt8)).toArray⟩)]) rfl hs29 (fun b30 w31 (hs32 : HS w0 F0 w31 F1 ((some b30, (.cells #[(.int .i64 0), (.int .i64 0), (.string ⟨(([] : List UInt8)).toArray⟩)] 97 (0, 0))) :: es6_0 :: (some b1, (.cells #[(.slice as6_0 s6.length ns6_0)] 98 (0, 0))) :: Rf22)) => ?_)
  refine RWP.store (ty := 0) (g := none) (by kernel_rfl) rfl (x := (.tmp 5)) (y := (.tmp 7)) (t := 97) (gg := true) (s := 3) (v := (.agg #[(.int .i64 x19.kind_), (.int .i64 x19.at_), (.string ⟨(x19.text_).toArray⟩)])) (b := b30) (o := 0) (C := #[(.int .i64 0), (.int .i64 0), (.string ⟨(([] : List UInt8)).toArray⟩)]) rfl rfl (by kernel_rfl) hs32 (k := 0) rfl rfl rfl rfl (C' := #[(.int .i64 x19.kind_), (.int .i64 x19.at_), (.string ⟨(x19.text_).toArray⟩)]) rfl (fun w33 (hs34 : HS w0 F0 w33 F1 ((some b30, (.cells #[(.int .i64 x19.kind_), (.int .i64 x19.at_), (.string ⟨(x19.text_).toArray⟩)] 97 (0, 0))) :: es6_0 :: (some b1, (.cells #[(.slice as6_0 s6.length ns6_0)] 98 (0, 0))) :: Rf22)) => ?_)
  refine RWP.nil ?_
  refine ⟨rfl, F1, [(some b30, (.cells #[(.int .i64 x19.kind_), (.int .i64 x19.at_), (.string ⟨(x19.text_).toArray⟩)] 97 (0, 0))), es6_0, (some b1, (.cells #[(.slice as6_0 s6.length ns6_0)] 98 (0, 0)))], hs34, fun w35 Rf36 hs37 => ?_⟩
  have hs38 : HS w0 F0 w35 F1 ((some b30, (.cells #[(.int .i64 x19.kind_), (.int .i64 x19.at_), (.string ⟨(x19.text_).toArray⟩)] 97 (0, 0))) :: es6_0 :: (some b1, (.cells #[(.slice as6_0 s6.length ns6_0)] 98 (0, 0))) :: Rf36) := hs37
  refine CWP.block (by kernel_rfl) ?_
  refine Rg [0, 1, 2, 3, 4] ?_
  refine V 8 98 (run_load' (t := 98) (x := (.tmp 2)) (b := b1) (o := 0) (g := false) (s := 1) (C := #[(.slice as6_0 s6.length ns6_0)]) (v := (.slice as6_0 s6.length ns6_0)) rfl (by kernel_rfl) (hs38.ownAt (k := 2) rfl) rfl rfl rfl) ?_
  refine V 9 97 (run_load' (t := 97) (x := (.tmp 5)) (b := b30) (o := 0) (g := true) (s := 3) (C := #[(.int .i64 x19.kind_), (.int .i64 x19.at_), (.string ⟨(x19.text_).toArray⟩)]) (v := (.agg #[(.int .i64 x19.kind_), (.int .i64 x19.at_), (.string ⟨(x19.text_).toArray⟩)])) rfl (by kernel_rfl) (hs38.ownAt (k := 0) rfl) rfl rfl rfl) ?_
  refine RWP.buildSlice (dst := (some 10)) (ty := 98) (g := none) (by kernel_rfl) rfl (t := 98) (len := 1) (parts := #[(0, (.tmp 9))]) (vs := [(0, (.agg #[(.int .i64 x19.kind_), (.int .i64 x19.at_), (.string ⟨(x19.text_).toArray⟩)]))]) (rfl) (E := 97) (cs := [(.int .i64 x19.kind_), (.int .i64 x19.at_), (.string ⟨(x19.text_).toArray⟩)]) (by kernel_rfl) hs38 (fun b39 w40 (hs41 : HS w0 F0 w40 F1 ((some b39, .cells ([(.int .i64 x19.kind_), (.int .i64 x19.at_), (.string ⟨(x19.text_).toArray⟩)] : List Value).toArray 97 (0, 0)) :: (some b30, (.cells #[(.int .i64 x19.kind_), (.int .i64 x19.at_), (.string ⟨(x19.text_).toArray⟩)] 97 (0, 0))) :: es6_0 :: (some b1, (.cells #[(.slice as6_0 s6.length ns6_0)] 98 (0, 0))) :: Rf36)) => ?_)
  have hr43 : RowR trules_token 97 F1 (some ⟨b39, 0, none⟩) 1 [x19] (some b39, .cells ([(.int .i64 x19.kind_), (.int .i64 x19.at_), (.string ⟨(x19.text_).toArray⟩)] : List Value).toArray 97 (0, 0)) := RowR.lit ⟨rfl, rfl⟩ (by simp)
  obtain ⟨r44, hap45, h46⟩ : ∃ r44, apnd s6 [x19] = some r44 ∧ some r44 = some q23 := ⟨_, h28, rfl⟩
  refine RWP.append (dst := (some 11)) (ty := 98) (g := none) (by kernel_rfl) rfl (x := (.tmp 8)) (y := (.tmp 10)) (t := 98) (t2 := 98) (by_ := 32) (z := (.agg #[(.int .i64 0), (.int .i64 0), (.string ⟨(([] : List UInt8)).toArray⟩)])) (a2 := (some ⟨b39, 0, none⟩)) (c2 := 1) (m := [x19]) (T := trules_token) (E := 97) (a := as6_0) (cap := ns6_0) (l := s6) rfl rfl (by kernel_rfl) (by decide) (by kernel_rfl) (by kernel_rfl) rfl orules_token hs41 (k := 2) rfl hrs6_0 (RowR.rd hs41 (k := 0) rfl hr43) (r := r44) hap45 (fun a47 n48 e49 w50 (hs51 : HS w0 F0 w50 F1 ((some b39, .cells ([(.int .i64 x19.kind_), (.int .i64 x19.at_), (.string ⟨(x19.text_).toArray⟩)] : List Value).toArray 97 (0, 0)) :: (some b30, (.cells #[(.int .i64 x19.kind_), (.int .i64 x19.at_), (.string ⟨(x19.text_).toArray⟩)] 97 (0, 0))) :: e49 :: (some b1, (.cells #[(.slice as6_0 s6.length ns6_0)] 98 (0, 0))) :: Rf36)) hr52 => ?_)
  refine RWP.store (ty := 0) (g := none) (by kernel_rfl) rfl (x := (.tmp 2)) (y := (.tmp 11)) (t := 98) (gg := false) (s := 1) (v := (.slice a47 r44.length n48)) (b := b1) (o := 0) (C := #[(.slice as6_0 s6.length ns6_0)]) rfl rfl (by kernel_rfl) hs51 (k := 3) rfl rfl rfl rfl (C' := #[(.slice a47 r44.length n48)]) rfl (fun w53 (hs54 : HS w0 F0 w53 F1 ((some b39, .cells ([(.int .i64 x19.kind_), (.int .i64 x19.at_), (.string ⟨(x19.text_).toArray⟩)] : List Value).toArray 97 (0, 0)) :: (some b30, (.cells #[(.int .i64 x19.kind_), (.int .i64 x19.at_), (.string ⟨(x19.text_).toArray⟩)] 97 (0, 0))) :: e49 :: (some b1, (.cells #[(.slice a47 r44.length n48)] 98 (0, 0))) :: Rf36)) => ?_)
  refine RWP.nil ?_
  refine blockQ_nrm ?_
  have hs56 : HS w0 F0 w53 F1 (e49 :: (some b1, (.cells #[(.slice a47 r44.length n48)] 98 (0, 0))) :: Rf36) := (hs54.drop 0).drop 0
  obtain rfl := some_inj h46
  exact ⟨rfl, F1, [e49, (some b1, (.cells #[(.slice a47 r44.length n48)] 98 (0, 0)))], hs56, (Mem.le.refl _), ⟨a47, n48, e49, rfl, hr52⟩⟩
 ·
  rintro D58 w59 F2 _ hs60 le61 ⟨as10_0, ns10_0, es10_0, rfl, hrs10_0⟩
  have hs62 : HS w0 F0 w59 F2 [(some D58, (.deferred (some []))), es10_0, (some b1, (.cells #[(.slice as10_0 r14.length ns10_0)] 98 (0, 0)))] := hs60
  refine blockQ_nrm ?_
  refine thenQ_nrm ?_
  refine Sq ?_
  refine Rg [0, 1] ?_
  refine V 12 98 (run_load' (t := 98) (x := (.tmp 2)) (b := b1) (o := 0) (g := false) (s := 1) (C := #[(.slice as10_0 r14.length ns10_0)]) (v := (.slice as10_0 r14.length ns10_0)) rfl (by kernel_rfl) (hs62.ownAt (k := 2) rfl) rfl rfl rfl) ?_
  refine V 4 98 (run_assign (x := (.tmp 12)) (v := (.slice as10_0 r14.length ns10_0)) rfl) ?_
  refine RWP.nil ?_
  refine thenQ_nrm ?_
  refine CWP.ret (by kernel_rfl) ?_
  have hb66 := RowR.bound hrs10_0
  obtain ⟨F3, hs63, le64, hs65⟩ : ∃ Fq, HS w0 F0 w59 Fq [(some D58, (.deferred (some []))), (some b1, (.cells #[(.slice as10_0 r14.length ns10_0)] 98 (0, 0)))] ∧ Mem.le F2 Fq ∧ SlA trules_token Fq as10_0 r14 := HS.freezeRow hs62 (k := 1) rfl hrs10_0
  have hs67 := hs63.put (k := 0) rfl (.deferred none)
  have hs68 : HS w0 F0 (putB w59 D58 (.deferred none)) F3 [(some b1, (.cells #[(.slice as10_0 r14.length ns10_0)] 98 (0, 0)))] := hs67.drop 0
  have hfin := some_inj h16
  subst hfin
  exact .inr ⟨D58, rfl, hs63.ownAt (k := 0) rfl, (.slice as10_0 r14.length ns10_0), res_of (l := [.tmp 4]) (by kernel_rfl) (vs := [(.slice as10_0 r14.length ns10_0)]) ⟨rfl, trivial⟩, (.slice as10_0 r14.length ns10_0), F3, rfl, hs68.clear, ⟨as10_0, ns10_0, rfl, hb66, hs65⟩⟩
theorem co_slices_Collect : CallOk Tryz.prog 132 := fun _ _ => by kernel_rfl
set_option maxRecDepth 100000 in
theorem c_slices_Collect (w0 : World) (F0 : Mem) (hF : ∀ b o, F0 b = some o → w0.heap[b]? = some o) (gf : FuncId) (cap : List Value) (m : ∀ {σ : Type}, (σ → rules_token → Option (Bool × σ)) → σ → Option σ) (hgf : CallOk Tryz.prog gf) (hseq : SeqOk Tryz.prog gf cap F0 [] enc194 ok194 px194 m) (r : (List rules_token)) (h : collectM m = some r) :
  Calls Tryz.prog 132 ([(.func (.func gf) #[] cap.toArray)] : List Value).toArray w0 (FRet w0 F0 fun F' v => ∃ (aq0_0 : Option Addr) (nq0_0 : Nat), v = (.slice aq0_0 r.length nq0_0) ∧ LC r.length nq0_0 ∧ SlA trules_token F' aq0_0 r) := by
 have hs0 := HS.start hF
 refine calls_of (n := 5) (c := bodyOf Tryz.f132) Tryz.func132 (by kernel_rfl) (by kernel_rfl) (by kernel_rfl) ?_
 refine Sq ?_
 refine Rg [0] ?_
 refine V 2 98 (run_assign (x := (.const (.slice none 0 0))) (v := (.slice none 0 0)) rfl) ?_
 refine RWP.nil ?_
 refine thenQ_nrm ?_
 refine Sq ?_
 refine Rg [0, 1, 2] ?_
 refine V 3 162 (run_move (x := (.tmp 0)) (v := (.func (.func gf) #[] cap.toArray)) rfl) ?_
 refine RWP.call (dst := (some 4)) (ty := 98) (g := none) (by kernel_rfl) rfl (f0 := (.func 179)) (aos := #[(.const (.slice none 0 0)), (.tmp 3)]) (ats := #[98, 162]) (fid := 179) (first := #[]) (cap := #[]) (args := [.slice none 0 0, (.func (.func gf) #[] cap.toArray)]) rfl co_slices_AppendSeq rfl hs0 (c_slices_AppendSeq w0 F0 hs0.pers gf cap m hgf hseq r h) ?_
 intro v F1 w1 hs1 le1 hp
 obtain ⟨a, n, rfl, hb, hs⟩ := hp
 refine V 2 98 (run_assign (x := (.tmp 4)) (v := (.slice a r.length n)) rfl) ?_
 refine RWP.nil ?_
 refine thenQ_nrm ?_
 refine CWP.ret (by kernel_rfl) ?_
 exact ⟨rfl, (.slice a r.length n), res_of (l := [.tmp 2]) (by kernel_rfl) (vs := [(.slice a r.length n)]) ⟨rfl, trivial⟩, _, F1, rfl, hs1, a, n, rfl, hb, hs⟩
theorem co_rules_tokens : CallOk Tryz.prog 133 := fun _ _ => by kernel_rfl
set_option maxRecDepth 100000 in
theorem c_rules_tokens (w0 : World) (F0 : Mem) (hF : ∀ b o, F0 b = some o → w0.heap[b]? = some o) (x0 : List UInt8) :
  Calls Tryz.prog 133 ([(.string ⟨(x0).toArray⟩)] : List Value).toArray w0 (FRet w0 F0 fun F' v => ∃ (b1 b2 : Nat), v = .func (.func 181) #[] #[.pointer (some ⟨b1, 0, none⟩), .pointer (some ⟨b2, 0, none⟩)] ∧ F' b1 = some (.cells #[(.string ⟨(x0).toArray⟩)] 9 (0, 0)) ∧ F' b2 = some (.cells #[.func (.func 180) #[] #[.pointer (some ⟨b1, 0, none⟩)]] 193 (0, 0))) := by
 have hs0 := HS.start hF
 refine calls_of (n := 6) (c := bodyOf Tryz.f133) Tryz.func133 (by kernel_rfl) (by kernel_rfl) (by kernel_rfl) ?_
 refine Sq ?_
 refine Rg [0, 1] ?_
 refine RWP.box (dst := (some 1)) (ty := 0) (g := none) (by kernel_rfl) rfl (x := (.tmp 0)) (t := 9) (v := (.string ⟨(x0).toArray⟩)) rfl (C := #[(.string ⟨(x0).toArray⟩)]) rfl hs0 (fun b1 w1 hs1 => ?_)
 refine V 2 162 (run_assign (x := (.const .nilFunc)) (v := .nilFunc) rfl) ?_
 refine RWP.nil ?_
 refine thenQ_nrm ?_
 refine Sq ?_
 refine Rg [0, 1, 2] ?_
 refine V 4 193 (run_makeFunc (fn := .func 180) (first := #[]) (cap := #[.tmp 1]) (fl := []) (cl := [.pointer (some ⟨b1, 0, none⟩)]) rfl rfl) ?_
 refine RWP.alloc (dst := (some 3)) (ty := 0) (g := none) (by kernel_rfl) rfl (t := 193) (z := .nilFunc) (by kernel_rfl) (C := #[.nilFunc]) rfl hs1 (fun b2 w2 hs2 => ?_)
 refine RWP.store (ty := 0) (g := none) (by kernel_rfl) rfl (x := (.tmp 3)) (y := (.tmp 4)) (t := 193) (gg := false) (s := 1) (v := .func (.func 180) #[] #[.pointer (some ⟨b1, 0, none⟩)]) (b := b2) (o := 0) (C := #[.nilFunc]) rfl rfl (by kernel_rfl) hs2 (k := 0) rfl rfl rfl rfl (C' := #[.func (.func 180) #[] #[.pointer (some ⟨b1, 0, none⟩)]]) rfl (fun w3 (hs3 : HS w0 F0 w3 F0 [(some b2, .cells #[.func (.func 180) #[] #[.pointer (some ⟨b1, 0, none⟩)]] 193 (0, 0)), (some b1, .cells #[(.string ⟨(x0).toArray⟩)] 9 (0, 0))]) => ?_)
 refine RWP.nil ?_
 refine thenQ_nrm ?_
 refine Sq ?_
 refine Rg [0, 1] ?_
 refine V 5 161 (run_makeFunc (fn := .func 181) (first := #[]) (cap := #[.tmp 1, .tmp 3]) (fl := []) (cl := [.pointer (some ⟨b1, 0, none⟩), .pointer (some ⟨b2, 0, none⟩)]) rfl rfl) ?_
 refine V 2 162 (run_assign (x := (.tmp 5)) (v := .func (.func 181) #[] #[.pointer (some ⟨b1, 0, none⟩), .pointer (some ⟨b2, 0, none⟩)]) rfl) ?_
 refine RWP.nil ?_
 refine thenQ_nrm ?_
 refine CWP.ret (by kernel_rfl) ?_
 obtain ⟨F1, hs4, le1, hF1⟩ : ∃ Fq, HS w0 F0 w3 Fq [(some b1, .cells #[(.string ⟨(x0).toArray⟩)] 9 (0, 0))] ∧ Mem.le F0 Fq ∧ Fq b2 = some _ := HS.freezeC hs3 (k := 0) rfl
 obtain ⟨F2, hs5, le2, hF2⟩ : ∃ Fq, HS w0 F0 w3 Fq [] ∧ Mem.le F1 Fq ∧ Fq b1 = some _ := HS.freezeC hs4 (k := 0) rfl
 exact ⟨rfl, _, res_of (l := [.tmp 2]) (by kernel_rfl) (vs := [.func (.func 181) #[] #[.pointer (some ⟨b1, 0, none⟩), .pointer (some ⟨b2, 0, none⟩)]]) ⟨rfl, trivial⟩, _, F2, rfl, hs5, b1, b2, rfl, hF2, le2 _ _ hF1⟩
end Go.Proofs.YtaihlcdkcampbaaGreatDoor
namespace Go.Proofs.YtaihlcdkcampbaaGreatDoor
open Go.Proofs
def rules_tokens_1_L0 (N : Nat) (x0 : Int) (x1 : Int) (x2 : Int) (z0 : (List UInt8)) : Int → Option (Flow (List UInt8) Int) := fun s24 =>
 ((bif (decide (s24 < (z0.length : Int))) then ((sidx z0 s24).bind fun c64 => (bif (decide (x1 ≤ c64)) then ((sidx z0 s24).bind fun c70 => some (decide (c70 ≤ x2))) else some false)) else some false).bind fun j51 => (bif j51 then some (.next (W64 (s24 + 1))) else some (.done s24)))
def rules_tokens_1 (N : Nat) (x0 : Int) (x1 : Int) (x2 : Int) (z0 : (List UInt8)) : Option (List UInt8) :=
 ((iter (rules_tokens_1_L0 N x0 x1 x2 z0) N x0).bind fun o => o.k (fun r => some r) (fun s34 => ((ssub z0 x0 s34).bind fun r79 => some r79)))
theorem co_rules_tokens_1 : CallOk Tryz.prog 180 := fun _ _ => by kernel_rfl
theorem c_rules_tokens_1 (N : Nat) (w0 : World) (F0 : Mem) (hF : ∀ b o, F0 b = some o → w0.heap[b]? = some o) (x0 : Int) (x1 : Int) (x2 : Int) (bz0 : Nat) (z0 : (List UInt8)) (hz0 : F0 bz0 = some (oc #[(.string ⟨(z0).toArray⟩)] 9)) (r : (List UInt8)) (h : rules_tokens_1 N x0 x1 x2 z0 = some r) :
  Calls Tryz.prog 180 ([(vi x0), (.int .u8 x1), (.int .u8 x2), (pt bz0 0)] : List Value).toArray w0 (FRet w0 F0 fun F' v => v = (.string ⟨(r).toArray⟩)) := by
 have hs0 := HS.start hF
 refine Go 34 Tryz.func180 ?_
 refine Sq (Rg [0] ?_)
 refine Vs 1 ?_
 refine Nss (Rg [0, 1] ?_)
 refine Vs 2 ?_
 refine Nss ?_
 obtain ⟨o21, ho22, h23⟩ := bind_some h
 refine CWP.cut (fun f w => ∃ (s34 : Int) (F2 : Mem), o21 = .done s34 ∧ HS w0 F0 w F2 [] ∧ Mem.le F0 F2 ∧ FI f [] [(0, (vi x0)), (3, (pt bz0 0)), (8, (vi s34))]) ?_ ?_
 ·refine Bk ?_
  refine CWP.loop (by kernel_rfl) (fun m f w => ∃ (s24 : Int) (F1 : Mem), iter (rules_tokens_1_L0 N x0 x1 x2 z0) m s24 = some o21 ∧ HS w0 F0 w F1 [] ∧ Mem.le F0 F1 ∧ FI f [] [(0, (vi x0)), (1, (.int .u8 x1)), (2, (.int .u8 x2)), (3, (pt bz0 0)), (8, (vi s24))]) N ⟨x0, F0, ho22, hs0, (Mem.le.refl _), fI⟩ ?_
  rintro m42 f w25 ⟨s24, F1, hit43, hs26, le27, ⟨_, rfl⟩⟩
  obtain ⟨m44, fl45, rfl, hb46, hnx47⟩ := iter_step hit43
  refine Sq ?_
  refine Sq (Rg [0, 1, 2, 3, 4, 5, 6, 7, 8, 9, 10, 11, 12, 13, 14, 15, 16, 17] ?_)
  obtain ⟨j51, hj59, h60⟩ := bind_some hb46
  refine RWP.cut (fun f w => ∃ (F3 : Mem), HS w0 F0 w F3 [] ∧ Mem.le F1 F3 ∧ FI f [] [(0, (vi x0)), (1, (.int .u8 x1)), (2, (.int .u8 x2)), (3, (pt bz0 0)), (8, (vi s24)), (27, (.bool j51))]) ?_ ?_
  ·refine Vs 1 ?_
   refine Ld (hs26.pers _ _ (le27 _ _ hz0)) ?_
   refine Vs 3 ?_
   refine Sp hj59 (fun hb61 h62 => ?_) (fun hb61 h63 => ?_)
   ·refine Vgs hb61 1 ?_
    refine Lg hb61 (hs26.pers _ _ (le27 _ _ hz0)) ?_
    refine Vgs hb61 1 ?_
    obtain ⟨c64, hr65, h66⟩ := bind_some h62
    refine Vg 18 5 4 true 14 hb61 (run_sidx (t := 9) (x := (.tmp 16)) (y := (.tmp 17)) (a := z0) (k := .i64) (i := s24) (v := c64) rfl rfl (by kernel_rfl) hr65) ?_
    refine Vgs hb61 1 ?_
    refine Pk1 hb61 ?_
    refine Vs 1 ?_
    refine Sp h66 (fun hb67 h68 => ?_) (fun hb67 h69 => ?_)
    ·refine Lg hb67 (hs26.pers _ _ (le27 _ _ hz0)) ?_
     refine Vgs hb67 1 ?_
     obtain ⟨c70, hr71, h72⟩ := bind_some h68
     refine Vg 24 5 11 true 21 hb67 (run_sidx (t := 9) (x := (.tmp 22)) (y := (.tmp 23)) (a := z0) (k := .i64) (i := s24) (v := c70) rfl rfl (by kernel_rfl) hr71) ?_
     refine Vgs hb67 2 ?_
     refine Pk1 hb67 ?_
     obtain rfl := some_inj h72
     exact RWP.nil ⟨rfl, F1, hs26, (Mem.le.refl _), fI⟩
    ·refine Ss hb67 5 ?_
     refine Pk0 hb67 ?_
     obtain rfl := some_inj h69
     exact RWP.nil ⟨rfl, F1, hs26, (Mem.le.refl _), fI⟩
   ·refine Ss hb61 5 ?_
    refine Pk0 hb61 ?_
    refine Vs 1 ?_
    refine Ss (rfl : false = false) 5 ?_
    refine Pk0 (rfl : false = false) ?_
    obtain rfl := some_inj h63
    exact RWP.nil ⟨rfl, F1, hs26, (Mem.le.refl _), fI⟩
  ·rintro f w48 ⟨F3, hs49, le50, ⟨_, rfl⟩⟩
   refine thenQ_nrm ?_
   refine Cd h60 (fun hb73 h74 => ?_) (fun hb73 h75 => ?_)
   ·refine Sc ?_
    refine thenQ_nrm ?_
    refine Bk ?_
    refine Rg [0, 1, 2] ?_
    refine Vs 3 ?_
    refine RWP.nil ?_
    refine blockQ_nrm ?_
    have hn76 := iter_next h74 hnx47
    exact ⟨m44, Nat.lt_succ_self _, (W64 (s24 + 1)), F3, hn76, hs49, (le27.trans le50), fI⟩
   ·refine Ex ?_
    refine thenQ_ex ?_
    refine thenQ_ex ?_
    refine blockQ_hit rfl ?_
    have ho77 := iter_done h75 hnx47
    exact .inl ⟨rfl, s24, F3, ho77, hs49, (le27.trans le50), fI⟩
 ·rintro f w35 ⟨s34, F2, rfl, hs36, le37, ⟨_, rfl⟩⟩
  have h78 := k_done h23
  refine thenQ_nrm ?_
  refine Sq (Rg [0, 1, 2, 3, 4] ?_)
  refine Ld (hs36.pers _ _ (le37 _ _ hz0)) ?_
  refine Vs 2 ?_
  obtain ⟨r79, hr80, h81⟩ := bind_some h78
  refine V 33 9 (run_ssub (t := 9) (x := (.tmp 30)) (lo := (some (.tmp 31))) (hi := (some (.tmp 32))) (a := z0) (il := x0) (ih := s34) (v := r79) rfl (by kernel_rfl) rfl rfl hr80) ?_
  refine Vs 1 ?_
  refine Nt ?_
  refine Rt ?_
  obtain rfl := some_inj h81
  exact Re [(.string ⟨(r79).toArray⟩)] hs36 rfl
end Go.Proofs.YtaihlcdkcampbaaGreatDoor
namespace Go.Proofs.YtaihlcdkcampbaaGreatDoor
open Go.Proofs
def rules_tokens_2_L0 {σ : Type} (N : Nat) (y : (σ → rules_token → Option (Bool × σ))) (z0 : (List UInt8)) (z1 : (Int → Int → Int → Option (List UInt8))) (s : σ) : (Int × σ) → Option (Flow σ (Int × σ)) := fun s4 =>
 (bif (decide (s4.1 < (z0.length : Int))) then ((ssub z0 s4.1 (W64 (s4.1 + 1))).bind fun r33 => ((sidx z0 s4.1).bind fun c41 => (bif ((c41 == 32) || (c41 == 9)) then some (.next ((W64 (s4.1 + 1)), s4.2)) else ((bif ((decide (c41 ≥ 48)) && (decide (c41 ≤ 57))) then ((z1 s4.1 48 57).bind fun r87 => some (1, r87)) else ((bif ((decide (c41 ≥ 97)) && (decide (c41 ≤ 122))) then ((z1 s4.1 97 122).bind fun r126 => some (2, r126)) else ((ssub z0 s4.1 (z0.length : Int)).bind fun r138 => ((strings_HasPrefix N r138 ([61, 62] : List UInt8)).bind fun r141 => ((bif r141 then some (3, ([61, 62] : List UInt8)) else ((strings_IndexByte N ([40, 41, 44, 58, 61, 60, 43, 45, 42, 10] : List UInt8) c41).bind fun r168 => ((bif (decide (r168 ≥ 0)) then some 3 else some 4).bind fun j179 => some (j179, r33)))).bind fun j152 => some (j152.1, j152.2))))).bind fun j114 => some (j114.1, j114.2))).bind fun j75 => ((y s4.2 ({ kind_ := j75.1, at_ := s4.1, text_ := j75.2 } : rules_token)).bind fun q193 => (bif (!q193.1) then some (.ret q193.2) else some (.next ((W64 (s4.1 + (j75.2.length : Int))), q193.2)))))))) else some (.done (s4.1, s4.2)))
def rules_tokens_2 {σ : Type} (N : Nat) (y : σ → rules_token → Option (Bool × σ)) (z0 : (List UInt8)) (z1 : (Int → Int → Int → Option (List UInt8))) (s : σ) : Option σ :=
 ((iter (rules_tokens_2_L0 N y z0 z1 s) N (0, s)).bind fun o => o.k (fun r => some r) (fun s15 => ((y s15.2 ({ kind_ := 0, at_ := (z0.length : Int), text_ := ([] : List UInt8) } : rules_token)).bind fun q208 => some q208.2)))
theorem co_rules_tokens_2 : CallOk Tryz.prog 181 := fun _ _ => by kernel_rfl
theorem c_rules_tokens_2 (N : Nat) (F0 : Mem) (z0 : (List UInt8)) (bz0 : Nat) (hz0 : F0 bz0 = some (oc #[(.string ⟨(z0).toArray⟩)] 9)) (z1 : (Int → Int → Int → Option (List UInt8))) (gz1_0 : FuncId) (fz1_0 : List Value) (kz1_0 : List Value) (hoz1_0 : CallOk Tryz.prog gz1_0) (hpz1_0 : Fn193 F0 gz1_0 fz1_0 kz1_0 z1) (bz1 : Nat) (hz1 : F0 bz1 = some (oc #[(.func (.func gz1_0) fz1_0.toArray kz1_0.toArray)] 193)) :
  SeqOk Tryz.prog 181 [(pt bz0 0), (pt bz1 0)] F0 [] enc194 ok194 px194 (fun {_} y s => rules_tokens_2 N y z0 z1 s) := by
 intro σ wb w0 Fb F1 l y J s r Lf le01 hJm hs0 hJ hY h
 have hs0 : HS wb Fb w0 F1 Lf := hs0
 refine calls_of (n := 80) (c := bodyOf Tryz.f181) Tryz.func181 (by kernel_rfl) (by kernel_rfl) (by kernel_rfl) ?_
 refine Sq ?_
 refine Sq (Rg [0] ?_)
 refine Vs 1 ?_
 refine Nt ?_
 obtain ⟨o1, ho2, h3⟩ := bind_some h
 refine CWP.cut (fun f w => ∃ (s15 : (Int × σ)) (F3 : Mem) (Lf19 : Own), o1 = .done s15 ∧ HS wb Fb w F3 Lf19 ∧ Mem.le F1 F3 ∧ FI f [] [(0, (.func (.yield l) #[] #[])), (1, (pt bz0 0))] ∧ J s15.2 F3 Lf19) ?_ ?_
 ·refine Bk ?_
  refine CWP.loop (by kernel_rfl) (fun m f w => ∃ (s4 : (Int × σ)) (F2 : Mem) (Lf8 : Own), iter (rules_tokens_2_L0 N y z0 z1 s) m s4 = some o1 ∧ HS wb Fb w F2 Lf8 ∧ Mem.le F1 F2 ∧ FI f [] [(0, (.func (.yield l) #[] #[])), (1, (pt bz0 0)), (2, (pt bz1 0)), (4, (vi s4.1))] ∧ J s4.2 F2 Lf8) N ⟨(0, s), F1, Lf, ho2, hs0, (Mem.le.refl _), fI, hJ⟩ ?_
  rintro m24 f w5 ⟨s4, F2, Lf8, hit25, hs6, le7, ⟨_, rfl⟩, hJ9⟩
  obtain ⟨m26, fl27, rfl, hb28, hnx29⟩ := iter_step hit25
  refine Sq ?_
  refine Sq (Rg [0, 1, 2, 3] ?_)
  refine Vs 1 ?_
  refine Ld (hs6.pers _ _ ((le01.trans le7) _ _ hz0)) ?_
  refine Vs 1 ?_
  refine Vs 1 ?_
  refine Nt ?_
  refine Cd hb28 (fun hb30 h31 => ?_) (fun hb30 h32 => ?_)
  ·refine Sc ?_
   refine thenQ_nrm ?_
   refine Bk ?_
   refine Sq (Rg [0, 1, 2, 3, 4, 5, 6, 7, 8] ?_)
   refine Vs 1 ?_
   refine Ld (hs6.pers _ _ ((le01.trans le7) _ _ hz0)) ?_
   refine Vs 1 ?_
   refine Vs 1 ?_
   refine Vs 1 ?_
   obtain ⟨r33, hr34, h35⟩ := bind_some h31
   refine V 16 9 (run_ssub (t := 9) (x := (.tmp 12)) (lo := (some (.tmp 13))) (hi := (some (.tmp 15))) (a := z0) (il := s4.1) (ih := (W64 (s4.1 + 1))) (v := r33) rfl (by kernel_rfl) rfl rfl hr34) ?_
   refine Vs 1 ?_
   refine Al' 97 #[(vi 0), (vi 0), (.string ⟨(([] : List UInt8)).toArray⟩)] hs6 (fun b36 w37 hs38 => ?_)
   refine St0 #[(vi 4), (vi s4.1), (.string ⟨(r33).toArray⟩)] hs38 (fun w39 hs40 => ?_)
   refine Nss ?_
   refine Sq (Rg [0, 1, 2, 3] ?_)
   refine Ld (hs40.pers _ _ ((le01.trans le7) _ _ hz0)) ?_
   refine Vs 1 ?_
   obtain ⟨c41, hr42, h43⟩ := bind_some h35
   refine V 20 5 (run_sidx (t := 9) (x := (.tmp 18)) (y := (.tmp 19)) (a := z0) (k := .i64) (i := s4.1) (v := c41) rfl rfl (by kernel_rfl) hr42) ?_
   refine Vs 1 ?_
   refine Nt ?_
   refine Bk ?_
   refine Sq (Rg [0, 1, 2, 3, 4, 5, 6] ?_)
   refine RWP.cut (fun f w => ∃ (F4 : Mem), HS wb Fb w F4 ((sb b36 #[(vi 4), (vi s4.1), (.string ⟨(r33).toArray⟩)] 97) :: Lf8) ∧ Mem.le F2 F4 ∧ FI f [] [(0, (.func (.yield l) #[] #[])), (1, (pt bz0 0)), (2, (pt bz1 0)), (4, (vi s4.1)), (5, (pt b36 0)), (6, (.int .u8 c41)), (21, (.bool ((c41 == 32) || (c41 == 9))))]) ?_ ?_
   ·refine Vs 1 ?_
    refine Vs 1 ?_
    refine Vs 1 ?_
    refine RWP.split (c41 == 32) (fun hb55 => ?_) (fun hb55 => ?_)
    ·refine Ss hb55 1 ?_--2
     refine Ss hb55 1 ?_--2
     refine Pk1 hb55 ?_
     refine Vs 1 ?_
     exact RWP.nil ⟨rfl, F2, hs40, (Mem.le.refl _), (fJ ⟨rfl, rfl, rfl, rfl, rfl, rfl, (congrArg Value.bool (or_t hb55 (rfl))), trivial⟩)⟩
    ·refine Vgs hb55 1 ?_--2
     refine Vgs hb55 1 ?_--2
     refine Pk0 hb55 ?_
     refine Vs 1 ?_
     exact RWP.nil ⟨rfl, F2, hs40, (Mem.le.refl _), (fJ ⟨rfl, rfl, rfl, rfl, rfl, rfl, (congrArg Value.bool (or_f hb55 (rfl))), trivial⟩)⟩
   ·rintro f w44 ⟨F4, hs45, le46, ⟨_, rfl⟩⟩
    refine thenQ_nrm ?_
    refine Cd h43 (fun hb56 h57 => ?_) (fun hb56 h58 => ?_)
    ·refine Sq (Rg [0, 1, 2] ?_)
     refine Vs 1 ?_
     refine Vs 1 ?_
     refine Vs 1 ?_
     refine Nt ?_
     refine Ex ?_
     refine blockQ_miss (by decide) ?_
     refine thenQ_ex ?_
     refine blockQ_hit rfl ?_
     have hn59 := iter_next h57 hnx29
     exact ⟨m26, Nat.lt_succ_self _, ((W64 (s4.1 + 1)), s4.2), F4, Lf8, hn59, hs45.dr0, (le7.trans le46), fI, (hJm _ _ _ _ hJ9 le46)⟩
    ·refine Sq (Rg [0, 1, 2, 3, 4, 5, 6] ?_)
     refine RWP.cut (fun f w => ∃ (F5 : Mem), HS wb Fb w F5 ((sb b36 #[(vi 4), (vi s4.1), (.string ⟨(r33).toArray⟩)] 97) :: Lf8) ∧ Mem.le F4 F5 ∧ FI f [] [(0, (.func (.yield l) #[] #[])), (1, (pt bz0 0)), (2, (pt bz1 0)), (4, (vi s4.1)), (5, (pt b36 0)), (6, (.int .u8 c41)), (30, (.bool ((decide (c41 ≥ 48)) && (decide (c41 ≤ 57)))))]) ?_ ?_
     ·refine Vs 1 ?_
      refine Vs 1 ?_
      refine Vs 1 ?_
      refine RWP.split (decide (c41 ≥ 48)) (fun hb71 => ?_) (fun hb71 => ?_)
      ·refine Vgs hb71 1 ?_--2
       refine Vgs hb71 1 ?_--2
       refine Pk1 hb71 ?_
       refine Vs 1 ?_
       exact RWP.nil ⟨rfl, F4, hs45, (Mem.le.refl _), (fJ ⟨rfl, rfl, rfl, rfl, rfl, rfl, (congrArg Value.bool (and_t hb71 (rfl))), trivial⟩)⟩
      ·refine Ss hb71 1 ?_--2
       refine Ss hb71 1 ?_--2
       refine Pk0 hb71 ?_
       refine Vs 1 ?_
       exact RWP.nil ⟨rfl, F4, hs45, (Mem.le.refl _), (fJ ⟨rfl, rfl, rfl, rfl, rfl, rfl, (congrArg Value.bool (and_f hb71 (rfl))), trivial⟩)⟩
     ·rintro f w60 ⟨F5, hs61, le62, ⟨_, rfl⟩⟩
      refine thenQ_nrm ?_
      obtain ⟨j75, hj82, h83⟩ := bind_some h58
      refine CWP.cut (fun f w => ∃ (F6 : Mem), HS wb Fb w F6 ((sb b36 #[(vi j75.1), (vi s4.1), (.string ⟨(j75.2).toArray⟩)] 97) :: Lf8) ∧ Mem.le F5 F6 ∧ FI f [] [(0, (.func (.yield l) #[] #[])), (1, (pt bz0 0)), (2, (pt bz1 0)), (4, (vi s4.1)), (5, (pt b36 0))]) ?_ ?_
      ·refine Cd hj82 (fun hb84 h85 => ?_) (fun hb84 h86 => ?_)
       ·refine Rg [0, 1, 2, 3, 4, 5, 6] ?_
        refine Ld (hs61.pers _ _ ((((le01.trans le7).trans le46).trans le62) _ _ hz1)) ?_
        refine Vs 1 ?_
        obtain ⟨r87, hr88, h89⟩ := bind_some h85
        refine Cq hoz1_0 hs61 (hpz1_0 w60 F5 (s4.1) (48) (57) _ (((le01.trans le7).trans le46).trans le62) hs61.pers hr88) ?_
        rintro _ F7 w91 hs92 le93 rfl
        refine Vs 1 ?_
        refine St0 #[(vi 1), (vi s4.1), (.string ⟨(r33).toArray⟩)] hs92 (fun w95 hs96 => ?_)
        refine Vs 1 ?_
        refine St0 #[(vi 1), (vi s4.1), (.string ⟨(r87).toArray⟩)] hs96 (fun w97 hs98 => ?_)
        refine RWP.nil ?_
        obtain rfl := some_inj h89
        exact .inl ⟨rfl, F7, hs98, le93, fI⟩
       ·refine Sq (Rg [0, 1, 2, 3, 4, 5, 6] ?_)
        refine RWP.cut (fun f w => ∃ (F8 : Mem), HS wb Fb w F8 ((sb b36 #[(vi 4), (vi s4.1), (.string ⟨(r33).toArray⟩)] 97) :: Lf8) ∧ Mem.le F5 F8 ∧ FI f [] [(0, (.func (.yield l) #[] #[])), (1, (pt bz0 0)), (2, (pt bz1 0)), (4, (vi s4.1)), (5, (pt b36 0)), (6, (.int .u8 c41)), (42, (.bool ((decide (c41 ≥ 97)) && (decide (c41 ≤ 122)))))]) ?_ ?_
        ·refine Vs 1 ?_
         refine Vs 1 ?_
         refine Vs 1 ?_
         refine RWP.split (decide (c41 ≥ 97)) (fun hb110 => ?_) (fun hb110 => ?_)
         ·refine Vgs hb110 1 ?_--2
          refine Vgs hb110 1 ?_--2
          refine Pk1 hb110 ?_
          refine Vs 1 ?_
          exact RWP.nil ⟨rfl, F5, hs61, (Mem.le.refl _), (fJ ⟨rfl, rfl, rfl, rfl, rfl, rfl, (congrArg Value.bool (and_t hb110 (rfl))), trivial⟩)⟩
         ·refine Ss hb110 1 ?_--2
          refine Ss hb110 1 ?_--2
          refine Pk0 hb110 ?_
          refine Vs 1 ?_
          exact RWP.nil ⟨rfl, F5, hs61, (Mem.le.refl _), (fJ ⟨rfl, rfl, rfl, rfl, rfl, rfl, (congrArg Value.bool (and_f hb110 (rfl))), trivial⟩)⟩
        ·rintro f w99 ⟨F8, hs100, le101, ⟨_, rfl⟩⟩
         refine thenQ_nrm ?_
         obtain ⟨j114, hj121, h122⟩ := bind_some h86
         refine CWP.cut (fun f w => ∃ (F9 : Mem), HS wb Fb w F9 ((sb b36 #[(vi j114.1), (vi s4.1), (.string ⟨(j114.2).toArray⟩)] 97) :: Lf8) ∧ Mem.le F8 F9 ∧ FI f [] [(0, (.func (.yield l) #[] #[])), (1, (pt bz0 0)), (2, (pt bz1 0)), (4, (vi s4.1)), (5, (pt b36 0))]) ?_ ?_
         ·refine Cd hj121 (fun hb123 h124 => ?_) (fun hb123 h125 => ?_)
          ·refine Rg [0, 1, 2, 3, 4, 5, 6] ?_
           refine Ld (hs100.pers _ _ (((((le01.trans le7).trans le46).trans le62).trans le101) _ _ hz1)) ?_
           refine Vs 1 ?_
           obtain ⟨r126, hr127, h128⟩ := bind_some h124
           refine Cq hoz1_0 hs100 (hpz1_0 w99 F8 (s4.1) (97) (122) _ ((((le01.trans le7).trans le46).trans le62).trans le101) hs100.pers hr127) ?_
           rintro _ F10 w130 hs131 le132 rfl
           refine Vs 1 ?_
           refine St0 #[(vi 2), (vi s4.1), (.string ⟨(r33).toArray⟩)] hs131 (fun w134 hs135 => ?_)
           refine Vs 1 ?_
           refine St0 #[(vi 2), (vi s4.1), (.string ⟨(r126).toArray⟩)] hs135 (fun w136 hs137 => ?_)
           refine RWP.nil ?_
           obtain rfl := some_inj h128
           exact .inl ⟨rfl, F10, hs137, le132, fI⟩
          ·refine Sq (Rg [0, 1, 2, 3, 4] ?_)
           refine Ld (hs100.pers _ _ (((((le01.trans le7).trans le46).trans le62).trans le101) _ _ hz0)) ?_
           refine Vs 1 ?_
           obtain ⟨r138, hr139, h140⟩ := bind_some h125
           refine V 57 9 (run_ssub (t := 9) (x := (.tmp 55)) (lo := (some (.tmp 56))) (hi := none) (a := z0) (il := s4.1) (ih := (z0.length : Int)) (v := r138) rfl (by kernel_rfl) rfl rfl hr139) ?_
           obtain ⟨r141, hr142, h143⟩ := bind_some h140
           refine Cl' co_strings_HasPrefix hs100 (c_strings_HasPrefix N w99 F8 hs100.pers (r138) (([61, 62] : List UInt8)) _ hr142) ?_
           rintro _ F11 w145 hs146 le147 rfl
           refine Vs 1 ?_
           refine Nt ?_
           obtain ⟨j152, hj159, h160⟩ := bind_some h143
           refine CWP.cut (fun f w => ∃ (F12 : Mem), HS wb Fb w F12 ((sb b36 #[(vi j152.1), (vi s4.1), (.string ⟨(j152.2).toArray⟩)] 97) :: Lf8) ∧ Mem.le F11 F12 ∧ FI f [] [(0, (.func (.yield l) #[] #[])), (1, (pt bz0 0)), (2, (pt bz1 0)), (4, (vi s4.1)), (5, (pt b36 0))]) ?_ ?_
           ·refine Cd hj159 (fun hb161 h162 => ?_) (fun hb161 h163 => ?_)
            ·refine Rg [0, 1, 2, 3] ?_
             refine Vs 1 ?_
             refine St0 #[(vi 3), (vi s4.1), (.string ⟨(r33).toArray⟩)] hs146 (fun w164 hs165 => ?_)
             refine Vs 1 ?_
             refine St0 #[(vi 3), (vi s4.1), (.string ⟨(([61, 62] : List UInt8)).toArray⟩)] hs165 (fun w166 hs167 => ?_)
             refine RWP.nil ?_
             obtain rfl := some_inj h162
             exact .inl ⟨rfl, F11, hs167, (Mem.le.refl _), fI⟩
            ·refine Sq (Rg [0, 1, 2, 3] ?_)
             refine Vs 1 ?_
             obtain ⟨r168, hr169, h170⟩ := bind_some h163
             refine Cl' co_strings_IndexByte hs146 (c_strings_IndexByte N w145 F11 hs146.pers (([40, 41, 44, 58, 61, 60, 43, 45, 42, 10] : List UInt8)) (c41) _ hr169) ?_
             rintro _ F13 w172 hs173 le174 rfl
             refine Vs 1 ?_
             refine Vs 1 ?_
             refine Nt ?_
             obtain ⟨j179, hj186, h187⟩ := bind_some h170
             refine CWP.cut (fun f w => ∃ (F14 : Mem), HS wb Fb w F14 ((sb b36 #[(vi j179), (vi s4.1), (.string ⟨(r33).toArray⟩)] 97) :: Lf8) ∧ Mem.le F13 F14 ∧ FI f [] [(0, (.func (.yield l) #[] #[])), (1, (pt bz0 0)), (2, (pt bz1 0)), (4, (vi s4.1)), (5, (pt b36 0))]) ?_ ?_
             ·refine Cd hj186 (fun hb188 h189 => ?_) (fun hb188 h190 => ?_)
              ·refine Rg [0, 1] ?_
               refine Vs 1 ?_
               refine St0 #[(vi 3), (vi s4.1), (.string ⟨(r33).toArray⟩)] hs173 (fun w191 hs192 => ?_)
               refine RWP.nil ?_
               obtain rfl := some_inj h189
               exact .inl ⟨rfl, F13, hs192, (Mem.le.refl _), fI⟩
              ·refine Sc ?_
               obtain rfl := some_inj h190
               exact .inl ⟨rfl, F13, hs173, (Mem.le.refl _), fI⟩
             ·rintro f w176 ⟨F14, hs177, le178, ⟨_, rfl⟩⟩
              obtain rfl := some_inj h187
              exact .inl ⟨rfl, F14, hs177, (le174.trans le178), fI⟩
           ·rintro f w149 ⟨F12, hs150, le151, ⟨_, rfl⟩⟩
            obtain rfl := some_inj h160
            exact .inl ⟨rfl, F12, hs150, (le147.trans le151), fI⟩
         ·rintro f w111 ⟨F9, hs112, le113, ⟨_, rfl⟩⟩
          obtain rfl := some_inj h122
          exact .inl ⟨rfl, F9, hs112, (le101.trans le113), fI⟩
      ·rintro f w72 ⟨F6, hs73, le74, ⟨_, rfl⟩⟩
       refine blockQ_nrm ?_
       refine thenQ_nrm ?_
       refine Sq (Rg [0, 1, 2, 3, 4, 5] ?_)
       refine Vs 1 ?_
       refine Vs 1 ?_
       refine Ld hs73.at0 ?_
       refine Vs 1 ?_
       refine Vs 1 ?_
       refine Vs 1 ?_
       refine Nss (Rg [0, 1, 2, 3] ?_)
       refine Vs 1 ?_
       refine Ld hs73.at0 ?_
       obtain ⟨q193, hq194, h195⟩ := bind_some h83
       refine RWP.yield (dst := (some 73)) (ty := 4) (g := none) (by kernel_rfl) rfl (f0 := (.tmp 71)) (aos := #[(.tmp 72)]) (ats := #[97]) (l := l) (args := [(.agg #[(vi j75.1), (vi s4.1), (.string ⟨(j75.2).toArray⟩)])]) rfl (rfl) (hY s4.2 ({ kind_ := j75.1, at_ := s4.1, text_ := j75.2 } : rules_token) w72 F6 [(sb b36 #[(vi j75.1), (vi s4.1), (.string ⟨(j75.2).toArray⟩)] 97)] Lf8 q193 (((le7.trans le46).trans le62).trans le74) trivial (hJm _ _ _ _ hJ9 ((le46.trans le62).trans le74)) hs73 hq194) ?_
       rintro _ w196 ⟨F15, Lf200, rfl, hs197, le198, hJ199⟩
       have hs201 : HS wb Fb w196 F15 ((sb b36 #[(vi j75.1), (vi s4.1), (.string ⟨(j75.2).toArray⟩)] 97) :: Lf200) := hs197
       refine ⟨_, rfl, ?_⟩
       refine Vs 1 ?_
       refine Nt ?_
       refine Cd h195 (fun hb202 h203 => ?_) (fun hb202 h204 => ?_)
       ·refine Rt ?_
        refine blockQ_ret ?_
        refine thenQ_ret ?_
        refine blockQ_ret ?_
        have hret := iter_ret h203 hnx29
        subst hret
        refine .inr ?_
        refine thenQ_ret ?_
        have hfin := some_inj h3
        subst hfin
        exact ⟨rfl, .tuple #[], res_of (l := []) (by kernel_rfl) (vs := []) trivial, F15, Lf200, rfl, hs201.dr0, ((((le7.trans le46).trans le62).trans le74).trans le198), hJ199⟩
       ·refine Sc ?_
        refine blockQ_nrm ?_
        have hn205 := iter_next h204 hnx29
        exact ⟨m26, Nat.lt_succ_self _, ((W64 (s4.1 + (j75.2.length : Int))), q193.2), F15, Lf200, hn205, hs201.dr0, ((((le7.trans le46).trans le62).trans le74).trans le198), fI, hJ199⟩
  ·refine Ex ?_
   refine thenQ_ex ?_
   refine thenQ_ex ?_
   refine blockQ_hit rfl ?_
   have ho206 := iter_done h32 hnx29
   exact .inl ⟨rfl, (s4.1, s4.2), F2, Lf8, ho206, hs6, le7, fI, hJ9⟩
 ·rintro f w16 ⟨s15, F3, Lf19, rfl, hs17, le18, ⟨_, rfl⟩, hJ20⟩
  have h207 := k_done h3
  refine thenQ_nrm ?_
  refine Rg [0, 1, 2, 3, 4] ?_
  refine Vs 1 ?_
  refine Ld (hs17.pers _ _ ((le01.trans le18) _ _ hz0)) ?_
  refine Vs 1 ?_
  refine Vs 1 ?_
  obtain ⟨q208, hq209, h210⟩ := bind_some h207
  refine RWP.yield (dst := (some 79)) (ty := 4) (g := none) (by kernel_rfl) rfl (f0 := (.tmp 75)) (aos := #[(.tmp 78)]) (ats := #[97]) (l := l) (args := [(.agg #[(vi 0), (vi (z0.length : Int)), (.string ⟨(([] : List UInt8)).toArray⟩)])]) rfl (rfl) (hY s15.2 ({ kind_ := 0, at_ := (z0.length : Int), text_ := ([] : List UInt8) } : rules_token) w16 F3 [] Lf19 q208 le18 trivial hJ20 hs17 hq209) ?_
  rintro _ w211 ⟨F16, Lf215, rfl, hs212, le213, hJ214⟩
  have hs216 : HS wb Fb w211 F16 Lf215 := hs212
  refine ⟨_, rfl, ?_⟩
  refine RWP.nil ?_
  have hfin := some_inj h210
  subst hfin
  exact ⟨rfl, .tuple #[], res_of (l := []) (by kernel_rfl) (vs := []) trivial, F16, Lf215, rfl, hs216, (le18.trans le213), hJ214⟩
end Go.Proofs.YtaihlcdkcampbaaGreatDoor
