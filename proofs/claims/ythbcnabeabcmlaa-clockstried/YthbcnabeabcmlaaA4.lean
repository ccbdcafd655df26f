/- Lemmas of the claim ClocksTried, printed by a program of the claimant and by hand. No statement of the seat is proved here. -/
import Derived.Test.YthbcnabeabcmlaaA3
set_option linter.unusedVariables false
set_option linter.unusedSimpArgs false
set_option linter.unusedSectionVars false
namespace Go.Proofs.Ythbcnabeabcmlaa
open BF
open Classical in
noncomputable def dd (s : System) (a b : Ref) : Int := if h : ∃ n, Dst s a b n then Classical.choose h else 0
theorem dd_eq {s : System} {a b : Ref} {n : Int} (h : Dst s a b n) : dd s a b = n := by
 have hex : ∃ n, Dst s a b n := ⟨n, h⟩
 unfold dd
 rw [dif_pos hex]
 exact (Classical.choose_spec hex).unique h
theorem dd_spec {s : System} (h : vCheck s = 0) (hc : Cls s) {a b : Ref} (ha : Nd s a) (hb : Nd s b) : Dst s a b (dd s a b) := by
 obtain ⟨r, _, hf⟩ := relax_ok (N := 1000000) (Nat.le_refl _) h hc a false
 obtain ⟨n, hn⟩ := walk_any h ha hb
 have hcl := hf.2
 obtain ⟨⟨k, pre, ts, rd, now, hI⟩, _⟩ := hf
 have h0 := hI.frm_zero hcl
 obtain ⟨m, hm, _⟩ := walk_closed hcl hn h0
 have hd : Dst s a b m := (hI.dist hcl).1 hm
 rw [dd_eq hd]; exact hd
theorem dd_self {s : System} (hc : Cls s) (a : Ref) : dd s a a = 0 := dd_eq ⟨.nil _, fun m hm => hc _ _ hm⟩
theorem dd_tri {s : System} (h : vCheck s = 0) (hc : Cls s) {a b c : Ref} (ha : Nd s a) (hb : Nd s b) (hcc : Nd s c) : dd s a c ≤ dd s a b + dd s b c :=
 (dd_spec h hc ha hcc).2 _ ((dd_spec h hc ha hb).1.trans (dd_spec h hc hb hcc).1)
theorem dd_bound {s : System} (h : vCheck s = 0) (hc : Cls s) {b : Bound} (hb : b ∈ bnds s) : dd s b.From b.To ≤ b.Most :=
 (dd_spec h hc (bnd_ends h hb).1 (bnd_ends h hb).2).2 _ (Walk.one hb)
theorem dd_up {s : System} (h : vCheck s = 0) (hc : Cls s) {r : Ref} (hr : Nd s r) : dd s beg r ≤ 50000 := by
 rcases hr with rfl | hr
 ·rw [dd_self hc]; omega
 ·obtain ⟨i, t, j, rfl, ht, hj⟩ := li_has hr
  have hb := (mem_bnds h).2 (.up ht hj)
  have h1 := dd_bound h hc hb
  have h2 := bnd_most h _ hb
  simp only at h1 h2
  omega
theorem dd_down {s : System} (h : vCheck s = 0) (hc : Cls s) {r : Ref} (hr : Nd s r) : dd s r beg ≤ 50000 := by
 rcases hr with rfl | hr
 ·rw [dd_self hc]; omega
 ·obtain ⟨i, t, j, rfl, ht, hj⟩ := li_has hr
  have hb := (mem_bnds h).2 (.down ht hj)
  have h1 := dd_bound h hc hb
  have h2 := bnd_most h _ hb
  simp only at h1 h2
  omega
theorem nd_beg (s : System) : Nd s beg := .inl rfl
theorem dd_in {s : System} (h : vCheck s = 0) (hc : Cls s) {a b : Ref} (ha : Nd s a) (hb : Nd s b) : -100000 ≤ dd s a b ∧ dd s a b ≤ 100000 := by
 have h1 := dd_tri h hc ha (nd_beg s) hb
 have h2 := dd_tri h hc hb (nd_beg s) ha
 have h3 := dd_tri h hc ha hb ha
 rw [dd_self hc] at h3
 have := dd_up h hc ha
 have := dd_up h hc hb
 have := dd_down h hc ha
 have := dd_down h hc hb
 omega
open Classical in
noncomputable def ask (s : System) (l : List Ref) : Int := if vCheck s ≠ 0 then vCheck s else if l.all (vHas s) = false then 3 else if Cls s then 0 else 31
theorem ask_zero {s : System} {l : List Ref} (h : ask s l = 0) : vCheck s = 0 ∧ (∀ r, r ∈ l → vHas s r = true) ∧ Cls s := by
 unfold ask at h
 split at h
 ·contradiction
 ·rename_i h0
  split at h
  ·cases h
  ·rename_i h1
   split at h
   ·rename_i h2
    refine ⟨by omega, fun r hr => ?_, h2⟩
    have : l.all (vHas s) = true := by simpa using h1
    exact List.all_eq_true.1 this r hr
   ·cases h
theorem ask_of {s : System} {l : List Ref} (h : vCheck s = 0) (hl : ∀ r, r ∈ l → vHas s r = true) (hc : Cls s) : ask s l = 0 := by
 unfold ask
 rw [if_neg (by omega), if_neg (by rw [List.all_eq_true.2 hl]; simp), if_pos hc]
section
variable {N : Nat} {s : System}
theorem asked_c (hN : 1000000 ≤ N) (hf : FitS N s) {l : List Ref} (hl : Fit N l.length) : clocks_asked N s l = some (ask s l) := by
 unfold clocks_asked ask
 rw [check_c hf]
 simp only [Option.bind_some]
 by_cases h : vCheck s = 0
 ·rw [if_neg (by omega)]
  have e : (vCheck s != 0) = false := by simp [h]
  rw [e, cond_false]
  have h1 : slices_ContainsFunc_api_Ref_api_Ref N l (fun y0 => clocks_asked_1 N y0 s) = some (l.any fun r => !vHas s r) :=
   contains_aux hl (fun r _ => by unfold clocks_asked_1; rw [has_c hf]; rfl) rfl
  rw [h1, any_not]
  simp only [Option.bind_some]
  cases l.all (vHas s) with
  | false => rfl
  | true =>
   simp only [Bool.not_true, cond_false]
   rcases loopOf_eq hN hf h with ⟨h2, h3⟩ | ⟨h2, c, h3, h4, _⟩
   ·rw [h3, if_pos h2]; rfl
   ·rw [h3, if_neg h2]
    have : c.isEmpty = false := by
     cases c with
     | nil => exact absurd rfl h4.1
     | cons _ _ => rfl
    simp [this]
 ·rw [if_pos h]
  have e : (vCheck s != 0) = true := by simpa using h
  rw [e]; rfl
def eachL {α : Type} (s : System) (f : Ref → α) : List (List α) := (List.range s.Tracks.length).map fun i => match s.Tracks[i]? with
 | none => []
 | some t => (List.range t.Times.length).map fun j => f (li i j)
def eachG1 {α : Type} (N : Nat) (x1 : Ref → Option α) (log : Int) (t : Track) : (Int × List α) → Option (Flow (List (List α)) (Int × List α)) := fun s =>
 bif decide (s.1 < (t.Times.length : Int)) then ((x1 ({ Log := log, Line := s.1 } : Ref)).bind fun r => (apnd s.2 [r]).bind fun row => some (.next (W64 (s.1 + 1), row))) else some (.done s)
def eachG0 {α : Type} (N : Nat) (x0 : System) (x1 : Ref → Option α) : List (List α) → Option (Flow (List (List α)) (List (List α))) := fun done =>
 bif decide ((done.length : Int) < (x0.Tracks.length : Int)) then ((idx x0.Tracks (done.length : Int)).bind fun t => (iter (eachG1 N x1 (done.length : Int) t) N (0, [])).bind fun o => o.k (fun r => some (.ret r)) (fun s => some (.next (done ++ [s.2])))) else some (.done done)
theorem eachG_eq {α : Type} (hN : 1000000 ≤ N) (h : vCheck s = 0) {x1 : Ref → Option α} {f : Ref → α} (hx : ∀ r, x1 r = some (f r)) : ((iter (eachG0 N s x1) N []).bind fun o => o.k (fun r => some r) (fun done => some done)) = some (eachL s f) := by
 have hn := (check_ok h).1
 obtain ⟨o, ho, rfl⟩ := iter_ex (body := eachG0 N s x1) s.Tracks.length
  (fun i q => q = (List.range i).map fun i => match s.Tracks[i]? with
   | none => []
   | some t => (List.range t.Times.length).map fun j => f (li i j)) (fun o => o = .done (eachL s f)) (by
  rintro i q hi rfl
  unfold eachG0
  simp only [List.length_map, List.length_range]
  by_cases hlt : i < s.Tracks.length
  ·left
   rw [lt_t hlt, cond_true, idx_nat hlt, Option.bind_some]
   have ht := List.getElem?_eq_getElem hlt
   have hl := (track_facts (track_at h ht)).2.2
   obtain ⟨o, ho, rfl⟩ := iter_ex (body := eachG1 N x1 (i : Int) s.Tracks[i]) s.Tracks[i].Times.length
    (fun j q => q = ((j : Int), (List.range j).map fun j => f (li i j))) (fun o => o = .done ((s.Tracks[i].Times.length : Int), (List.range s.Tracks[i].Times.length).map fun j => f (li i j))) (by
    rintro j q hj rfl
    unfold eachG1
    simp only
    by_cases hjl : j < s.Tracks[i].Times.length
    ·left
     rw [lt_t hjl, cond_true, hx, Option.bind_some, apnd_ok (by simp; omega), Option.bind_some, W64_succ (by omega)]
     exact ⟨_, rfl, by simp [List.range_succ], hjl⟩
    ·have : j = s.Tracks[i].Times.length := by omega
     subst this
     right
     rw [lt_f, cond_false]
     exact ⟨_, rfl, (fun _ h => by cases h), rfl⟩) s.Tracks[i].Times.length N 0 (0, []) (by omega) rfl (by omega)
   rw [ho]
   refine ⟨_, rfl, ?_, hlt⟩
   simp only [List.range_succ, List.map_append, List.map_cons, List.map_nil, ht]
  ·have : i = s.Tracks.length := by omega
   subst this
   right
   rw [lt_f, cond_false]
   exact ⟨_, rfl, (fun _ h => by cases h), rfl⟩) s.Tracks.length N 0 [] (by omega) rfl (by omega)
 rw [ho]; rfl
theorem mk0_ok {α : Type} (z : α) {n : Nat} (h : n < 4294967296) : ∃ l, mk0 z (n : Int) = some l := by
 unfold mk0
 rw [if_pos (by omega)]
 exact ⟨_, rfl⟩
theorem eachS_eq (hN : 1000000 ≤ N) (h : vCheck s = 0) {x1 : Ref → Option Span} {f : Ref → Span} (hx : ∀ r, x1 r = some (f r)) : clocks_each_api_Span N s x1 = some (eachL s f) := by
 have hn := (check_ok h).1
 obtain ⟨l, hl⟩ := mk0_ok (GC.raw nilv : GC Span) (n := s.Tracks.length) (by omega)
 unfold clocks_each_api_Span
 rw [hl, Option.bind_some]
 exact eachG_eq hN h hx
theorem eachL_congr {α : Type} {f g : Ref → α} (h : ∀ r, vHas s r = true → f r = g r) : eachL s f = eachL s g := by
 unfold eachL
 apply List.map_congr_left
 intro i _
 cases ht : s.Tracks[i]? with
 | none => rfl
 | some t =>
  simp only
  apply List.map_congr_left
  intro j hj
  exact h _ (has_li ht (by simpa using hj))
theorem solved_c (hN : 1000000 ≤ N) (hf : FitS N s) : (vCheck s ≠ 0 ∧ ∃ x y, clocks_solved N s = some (x, y, vCheck s)) ∨ (vCheck s = 0 ∧ ¬ Cls s ∧ ∃ x y, clocks_solved N s = some (x, y, 31)) ∨
  (vCheck s = 0 ∧ Cls s ∧ ∃ x y, clocks_solved N s = some (x, y, 0) ∧ Fin false (bnds s) beg x ∧ Fin true (bnds s) beg y) := by
 unfold clocks_solved
 rw [check_c hf]
 simp only [Option.bind_some]
 by_cases h : vCheck s = 0
 ·right
  have e : (vCheck s != 0) = false := by simp [h]
  rw [e, cond_false]
  simp only [clocks_bounds, Option.bind_some, collect_c hf h, clocks_solved_1, clocks_beginning]
  rw [show ({ Log := -1, Line := 0 } : Ref) = beg from rfl]
  rcases relax_s hN h beg false with ⟨c, h1, h2, h3⟩ | ⟨x, h1, h2⟩
  ·left
   refine ⟨h, h2.not, ?_⟩
   rw [h1]
   have : c.isEmpty = false := by
    cases c with
    | nil => exact absurd rfl h2.1
    | cons _ _ => rfl
   simp only [sk, Option.bind_some, this, Bool.not_false, cond_true]
   exact ⟨_, _, rfl⟩
  ·right
   have hc := h2.closes h
   obtain ⟨y, h3, h4⟩ := relax_ok hN h hc beg true
   refine ⟨h, hc, x, y, ?_, h2, h4⟩
   rw [h1]
   simp only [sk, Option.bind_some, h3]
 ·left
  have e : (vCheck s != 0) = true := by simpa using h
  rw [e]
  exact ⟨h, _, _, rfl⟩
theorem Fin.val (h : vCheck s = 0) (hc : Cls s) {tu : Bool} {frm : Ref} {r : Reached} (hf : Fin tu (bnds s) frm r) (hn : Nd s frm) {x : Ref} (hx : Nd s x) : mgetD r.at_ x 0 = bif tu then dd s x frm else dd s frm x := by
 have : mget r.at_ x = some (bif tu then dd s x frm else dd s frm x) := by
  rw [hf.at]
  cases tu with
  | false => exact dd_spec h hc hn hx
  | true => exact dd_spec h hc hx hn
 unfold mgetD
 rw [this]; rfl
noncomputable def spanAt (s : System) (r : Ref) : Span := { Lo := -dd s r beg, Hi := dd s beg r }
noncomputable def relAt (s : System) (a b : Ref) : Span := { Lo := -dd s b a, Hi := dd s a b }
theorem W64_neg (h : vCheck s = 0) (hc : Cls s) {a b : Ref} (ha : Nd s a) (hb : Nd s b) : W64 (0 - dd s a b) = -dd s a b := by
 have := dd_in h hc ha hb
 rw [W64_id (by omega) (by omega)]; omega
open Classical in
noncomputable def vTimes (s : System) : List (List Span) × Int := if vCheck s ≠ 0 then ([], vCheck s) else if Cls s then (eachL s (spanAt s), 0) else ([], 31)
theorem Times_each (h : vCheck s = 0) (hc : Cls s) (hN : 1000000 ≤ N) {x y : Reached} (h2 : Fin false (bnds s) beg x) (h3 : Fin true (bnds s) beg y) : clocks_each_api_Span N s (fun y0 => clocks_Times_1 N y0 y x) = some (eachL s (spanAt s)) := by
 have hx : ∀ r, (fun y0 => clocks_Times_1 N y0 y x) r = some ({ Lo := W64 (0 - mgetD y.at_ r 0), Hi := mgetD x.at_ r 0 } : Span) := fun r => by unfold clocks_Times_1; rfl
 rw [eachS_eq hN h hx]
 refine congrArg some (eachL_congr fun r hr => ?_)
 have e1 := h2.val h hc (nd_beg s) (x := r) (.inr hr)
 have e2 := h3.val h hc (nd_beg s) (x := r) (.inr hr)
 simp only [cond_false, cond_true] at e1 e2
 have e3 := W64_neg h hc (a := r) (b := beg) (.inr hr) (nd_beg s)
 unfold spanAt
 rw [e1, e2, e3]
theorem solved_aux {α : Type} {q : Option (Reached × Reached × Int)} {each : Reached → Reached → Option (List (List α))} {x y : Reached} {l : List (List α)} (hq : q = some (x, y, 0)) (he : each x y = some l) :
  (q.bind fun r4 => (bif (r4.2.2 != 0) then some (([] : List (List α)), r4.2.2) else ((each r4.1 r4.2.1).bind fun r31 => some (r31, 0)))) = some (l, 0) := by
 subst hq; simp [he]
theorem solved_aux' {α : Type} {q : Option (Reached × Reached × Int)} {each : Reached → Reached → Option (List (List α))} {x y : Reached} {e : Int} (hq : q = some (x, y, e)) (he : e ≠ 0) :
  (q.bind fun r4 => (bif (r4.2.2 != 0) then some (([] : List (List α)), r4.2.2) else ((each r4.1 r4.2.1).bind fun r31 => some (r31, 0)))) = some ([], e) := by
 subst hq
 have e1 : (e != 0) = true := by simpa using he
 simp [e1]
theorem Times_c (hN : 1000000 ≤ N) (hf : FitS N s) : clocks_Times N s = some (vTimes s) := by
 unfold clocks_Times vTimes
 rcases solved_c hN hf with ⟨h, x, y, h1⟩ | ⟨h, hc, x, y, h1⟩ | ⟨h, hc, x, y, h1, h2, h3⟩
 ·rw [if_pos h]
  exact solved_aux' (each := fun a b => clocks_each_api_Span N s (fun y0 => clocks_Times_1 N y0 b a)) h1 h
 ·rw [if_neg (by omega), if_neg hc]
  exact solved_aux' (each := fun a b => clocks_each_api_Span N s (fun y0 => clocks_Times_1 N y0 b a)) h1 (by decide)
 ·rw [if_neg (by omega), if_pos hc]
  exact solved_aux (each := fun a b => clocks_each_api_Span N s (fun y0 => clocks_Times_1 N y0 b a)) h1 (Times_each h hc hN h2 h3)
noncomputable def vRelation (s : System) (a b : Ref) : Span × Int := if ask s [a, b] ≠ 0 then ({ Lo := 0, Hi := 0 }, ask s [a, b]) else (relAt s a b, 0)
theorem Relation_c (hN : 1000000 ≤ N) (hf : FitS N s) (a b : Ref) : clocks_Relation N s a b = some (vRelation s a b) := by
 unfold clocks_Relation vRelation
 rw [asked_c hN hf (l := [a, b]) ⟨by simp, by simp; omega⟩]
 simp only [Option.bind_some]
 by_cases h : ask s [a, b] = 0
 ·obtain ⟨h0, hr, hc⟩ := ask_zero h
  have ha : Nd s a := .inr (hr a (by simp))
  have hb : Nd s b := .inr (hr b (by simp))
  rw [h, if_neg (by omega)]
  simp only [bne_self_eq_false, cond_false, clocks_bounds, Option.bind_some, collect_c hf h0]
  obtain ⟨x, h1, h2⟩ := relax_ok hN h0 hc a true
  obtain ⟨y, h3, h4⟩ := relax_ok hN h0 hc a false
  unfold clocks_relax_ok
  rw [h1, h3]
  simp only [Option.bind_some]
  have e1 := h2.val h0 hc ha hb
  have e2 := h4.val h0 hc ha hb
  simp only [cond_false, cond_true] at e1 e2
  rw [e1, e2, W64_neg h0 hc hb ha]
  rfl
 ·have e : (ask s [a, b] != 0) = true := by simpa using h
  rw [e, if_pos h]; rfl
noncomputable def vMust (s : System) (a b : Ref) : Bool × Int := ((vRelation s a b).2 == 0 && (decide ((vRelation s a b).1.Lo ≥ W64 (0 - s.Window)) && decide ((vRelation s a b).1.Hi ≤ s.Window)), (vRelation s a b).2)
theorem Must_c (hN : 1000000 ≤ N) (hf : FitS N s) (a b : Ref) : clocks_Must N s a b = some (vMust s a b) := by
 unfold clocks_Must; rw [Relation_c hN hf]; rfl
end
end Go.Proofs.Ythbcnabeabcmlaa
namespace Go.Proofs.Ythbcnabeabcmlaa
open BF
theorem rel_val {s : System} {a b : Ref} (h : ask s [a, b] = 0) : vRelation s a b = (relAt s a b, 0) := by unfold vRelation; rw [if_neg (by omega)]
structure more (s m : System) : Prop where
 tr : m.Tracks = s.Tracks
 ti : ∃ l, m.Ties = s.Ties ++ l
 wi : m.Window = s.Window
section
variable {s m : System}
theorem more.has (h : more s m) (r : Ref) : vHas m r = vHas s r := by unfold vHas; rw [h.tr]
theorem more.valid (h : more s m) (hv : vCheck m = 0) : vCheck s = 0 := by
 obtain ⟨k1, k2, k3, k4, k5, k6⟩ := check_ok hv
 obtain ⟨l, hl⟩ := h.ti
 rw [h.tr] at k1 k3
 rw [h.wi] at k4 k5
 rw [hl] at k2 k6
 rw [List.length_append] at k2
 unfold vCheck
 have e1 : (decide ((s.Tracks.length : Int) > 64) || decide ((s.Ties.length : Int) > 400)) = false := by simp; omega
 have e2 : s.Tracks.all vTrack = true := List.all_eq_true.2 k3
 have e3 : inr s.Window 0 120 = true := by unfold inr; simp; omega
 have e4 : s.Ties.all (vTie s) = true := List.all_eq_true.2 fun t ht => by
  have := k6 t (List.mem_append_left _ ht)
  unfold vTie at this ⊢
  rw [h.has, h.has] at this
  exact this
 rw [e1, e2, e3, e4]; rfl
theorem more.bnds (h : more s m) (hv : vCheck m = 0) {b : Bound} (hb : b ∈ bnds s) : b ∈ Go.Proofs.Ythbcnabeabcmlaa.bnds m := by
 have hs := h.valid hv
 obtain ⟨l, hl⟩ := h.ti
 have hi := (mem_bnds hs).1 hb
 rw [mem_bnds hv]
 have htie : ∀ {j : Nat} {t : Tie}, s.Ties[j]? = some t → m.Ties[j]? = some t := fun {j t} ht => by
  rw [hl]
  have hlt : j < s.Ties.length := by
   rcases Nat.lt_or_ge j s.Ties.length with h | h
   ·exact h
   ·rw [List.getElem?_eq_none h] at ht; cases ht
  rw [List.getElem?_append_left hlt]; exact ht
 cases hi with
 | up ht hj => exact .up (by rw [h.tr]; exact ht) hj
 | down ht hj => exact .down (by rw [h.tr]; exact ht) hj
 | ord ht hj => exact .ord (by rw [h.tr]; exact ht) hj
 | fwd ht hj hn => exact .fwd (by rw [h.tr]; exact ht) hj hn
 | bwd ht hj hn => exact .bwd (by rw [h.tr]; exact ht) hj hn
 | tab ht => rw [← h.wi]; exact .tab (htie ht)
 | tba ht => rw [← h.wi]; exact .tba (htie ht)
theorem more.closes (h : more s m) (hv : vCheck m = 0) (hc : Cls m) : Cls s := fun x n hw => hc x n (hw.mono fun _ he => h.bnds hv he)
theorem more.nd (h : more s m) {r : Ref} (hr : Nd s r) : Nd m r := by
 rcases hr with rfl | hr
 ·exact .inl rfl
 ·exact .inr (by rw [h.has]; exact hr)
theorem more.dd_le (h : more s m) (hv : vCheck m = 0) (hc : Cls m) {a b : Ref} (ha : Nd s a) (hb : Nd s b) : dd m a b ≤ dd s a b :=
 (dd_spec hv hc (h.nd ha) (h.nd hb)).2 _ ((dd_spec (h.valid hv) (h.closes hv hc) ha hb).1.mono fun _ he => h.bnds hv he)
end
end Go.Proofs.Ythbcnabeabcmlaa
namespace Go.Proofs.Ythbcnabeabcmlaa
open Go.Proofs
def clocks_chained_L0 (N : Nat) (x0 : System) (x1 : (List Bound)) (r15 : System) : (List (Bound × Bool)) → Bound → Option (List (Bound × Bool)) := fun s24 x37 =>
 some (mput s24 x37 true)
def clocks_chained_L1 (N : Nat) (x0 : System) (x1 : (List Bound)) (r15 : System) (r32 : (List (Bound × Bool))) : Int → Option (Flow Bool Int) := fun s71 =>
 (bif (decide (s71 < (x1.length : Int))) then ((idx x1 s71).bind fun x95 => ((bif (!(mgetD r32 x95 false)) then some true else (bif (decide (s71 > 0)) then ((idx x1 (W64 (s71 - 1))).bind fun x135 => some (!((x95.From.Log == x135.To.Log) && ((x95.From.Line == x135.To.Line) && true)))) else some false)).bind fun j119 => (bif j119 then some (.ret false) else some (.next (W64 (s71 + 1)))))) else some (.done s71))
def clocks_chained (N : Nat) (x0 : System) (x1 : (List Bound)) : Option Bool :=
 ((clocks_bounds N x0).bind fun r15 => ((clocks_bounds_1 N (fun st x => ((clocks_chained_L0 N x0 x1 r15) st x).map fun t => (true, t)) r15 ([] : List (Bound × Bool))).bind fun r32 => ((iter (clocks_chained_L1 N x0 x1 r15 r32) N 0).bind fun o => o.k (fun r => some r) (fun s81 => ((clocks_within N (x1.length : Int) 1 30000).bind fun r155 => some r155)))))
theorem co_clocks_chained : CallOk Try.prog 98 := fun _ _ => by kernel_rfl
set_option maxHeartbeats 4000000 in
set_option maxRecDepth 100000 in
theorem c_clocks_chained (N : Nat) (w0 : World) (F0 : Mem) (hF : ∀ b o, F0 b = some o → w0.heap[b]? = some o) (x0 : System) (a0_0 : Option Addr) (n0_0 : Nat) (hb0_0 : LC x0.Tracks.length n0_0) (hs0_0 : SlA tTrack F0 a0_0 x0.Tracks) (a0_1 : Option Addr) (n0_1 : Nat) (hb0_1 : LC x0.Ties.length n0_1) (hs0_1 : SlA tTie F0 a0_1 x0.Ties) (x1 : (List Bound)) (a1_0 : Option Addr) (n1_0 : Nat) (hb1_0 : LC x1.length n1_0) (hs1_0 : SlA tBound F0 a1_0 x1) (r : Bool) (h : clocks_chained N x0 x1 = some r) :
  Calls Try.prog 98 ([(.agg (kSystem x0 a0_0 n0_0 a0_1 n0_1)), (.slice a1_0 x1.length n1_0)] : List Value).toArray w0 (FRet w0 F0 fun F' v => v = (.bool r)) := by
 have hs0 := HS.start hF
 refine calls_ofM (n := 45) (c := bodyOf Try.f98) Try.func98 (by kernel_rfl) (by kernel_rfl) (by kernel_rfl) ?_
 refine Sq (Rg [0, 1] ?_)
 refine Bx 2 0 0 25 (kSystem x0 a0_0 n0_0 a0_1 n0_1) hs0 (fun b1 w2 (hs3 : HS w0 F0 w2 F0 [(sb b1 (kSystem x0 a0_0 n0_0 a0_1 n0_1) 25)]) => ?_)
 refine V 4 4 (mc (.bool false) (.bool false)) ?_
 refine Nss (Rg [0, 1, 2] ?_)
 refine RWP.makeMap (t := 157) (K := tBound) (T := tBool) (dst := (some 9)) (ty := 157) (g := none) (by kernel_rfl) rfl hs3 (fun b5 e6 w7 (hs8 : HS w0 F0 w7 F0 [e6, (sb b1 (kSystem x0 a0_0 n0_0 a0_1 n0_1) 25)]) hr9 => ?_)
 refine RWP.alloc (dst := (some 5)) (ty := 0) (g := none) (by kernel_rfl) rfl (t := 157) (z := (.map none)) (by kernel_rfl) (C := #[(.map none)]) rfl hs8 (fun b10 w11 (hs12 : HS w0 F0 w11 F0 [(sb b10 #[(.map none)] 157), e6, (sb b1 (kSystem x0 a0_0 n0_0 a0_1 n0_1) 25)]) => ?_)
 refine RWP.store (ty := 0) (g := none) (by kernel_rfl) rfl (x := (.tmp 5)) (y := (.tmp 9)) (t := 157) (gg := false) (s := 1) (v := (.map (some b5))) (b := b10) (o := 0) (C := #[(.map none)]) rfl rfl (by kernel_rfl) hs12 (k := 0) rfl rfl rfl rfl (C' := #[(.map (some b5))]) rfl (fun w13 (hs14 : HS w0 F0 w13 F0 [(sb b10 #[(.map (some b5))] 157), e6, (sb b1 (kSystem x0 a0_0 n0_0 a0_1 n0_1) 25)]) => ?_)
 refine Nss ?_
 refine Sq (Rg [0, 1] ?_)
 refine V 10 25 (ld 25 2 b1 0 true 3 (.agg (kSystem x0 a0_0 n0_0 a0_1 n0_1)) (hs14.ownAt (k := 2) rfl)) ?_
 obtain ⟨r15, hr16, h17⟩ := bind_some h
 refine Cl 11 105 76 #[(.tmp 10)] #[25] co_clocks_bounds hs14 (c_clocks_bounds N w13 F0 hs14.pers (x0) a0_0 n0_0 hb0_0 hs0_0 a0_1 n0_1 hb0_1 hs0_1 _ hr16) ?_
 intro v18 F1 w19 hs20 le21 hp22
 obtain ⟨ar15_0_0_0, nr15_0_0_0, ar15_0_0_1, nr15_0_0_1, br15_0_0, rfl, hbr15_0_0_0, hsr15_0_0_0, hbr15_0_0_1, hsr15_0_0_1, hFr15_0_0⟩ := hp22
 refine Nt ?_
 refine Bk ?_
 have hs23 : HS w0 F0 w19 F1 [(sb b10 #[(.map (some b5))] 157), e6] := hs20.drop 2
 obtain ⟨r32, hr33, h34⟩ := bind_some h17
 refine CWP.rangeFunc (enc := enc134) (ok := ok134) (px := px134) (m := fun {_} y s => clocks_bounds_1 N y r15 s) (L := [(sb b10 #[(.map (some b5))] 157), e6]) (B := []) (ps := [12]) (by kernel_rfl) (gf := 120) (cap := [(.pointer (some ⟨br15_0_0, 0, none⟩))]) rfl co_clocks_bounds_1 rfl (by kernel_rfl) (by kernel_rfl) (fun _ => rfl) hs23 (c_clocks_bounds_1 N F1 r15 ar15_0_0_0 nr15_0_0_0 hbr15_0_0_0 hsr15_0_0_0 ar15_0_0_1 nr15_0_0_1 hbr15_0_0_1 hsr15_0_0_1 br15_0_0 hFr15_0_0) (fun st x => ((clocks_chained_L0 N x0 x1 r15) st x).map fun t => (true, t)) (fun (s24 : (List (Bound × Bool))) (F2 : Mem) (Lq : Own) => ∃ (es24_0 : Option Nat × Obj), Lq = [(sb b10 #[(.map (some b5))] 157), es24_0] ∧ MapR tBound tBool F2 b5 s24 es24_0) ?_ (s := ([] : List (Bound × Bool))) (r := r32) ?_ hr33 (fun _ _ _ h => (map_true h).1) ?_ ?_
 ·rintro s F F' L ⟨es24_0, rfl, hrs24_0⟩ hl
  exact ⟨es24_0, rfl, (hrs24_0.mono hl)⟩
 ·exact ⟨e6, rfl, (hr9.mono le21)⟩
 ·rintro l35 s24 x37 w38 F2 _ Rf40 ⟨_, q41⟩ le42 ok43 ⟨es24_0, rfl, hrs24_0⟩ hs44 hy45
  have h46 := (map_true hy45).2
  have hs47 : HS w0 F0 w38 F2 ((sb b10 #[(.map (some b5))] 157) :: es24_0 :: Rf40) := hs44
  refine Rg [0, 1] ?_
  refine Al 6 0 103 #[(vi 0), (vi 0), (vi 0), (vi 0), (vi 0), (vi 0), (vi 0)] hs47 (fun b48 w49 (hs50 : HS w0 F0 w49 F2 ((sb b48 #[(vi 0), (vi 0), (vi 0), (vi 0), (vi 0), (vi 0), (vi 0)] 103) :: (sb b10 #[(.map (some b5))] 157) :: es24_0 :: Rf40)) => ?_)
  refine RWP.store (ty := 0) (g := none) (by kernel_rfl) rfl (x := (.tmp 6)) (y := (.tmp 12)) (t := 103) (gg := true) (s := 7) (v := (.agg (kBound x37))) (b := b48) (o := 0) (C := #[(vi 0), (vi 0), (vi 0), (vi 0), (vi 0), (vi 0), (vi 0)]) rfl rfl (by kernel_rfl) hs50 (k := 0) rfl rfl rfl rfl (C' := (kBound x37)) rfl (fun w51 (hs52 : HS w0 F0 w51 F2 ((sb b48 (kBound x37) 103) :: (sb b10 #[(.map (some b5))] 157) :: es24_0 :: Rf40)) => ?_)
  refine RWP.nil ?_
  refine ⟨rfl, F2, [(sb b48 (kBound x37) 103), (sb b10 #[(.map (some b5))] 157), es24_0], hs52, fun w53 Rf54 hs55 => ?_⟩
  have hs56 : HS w0 F0 w53 F2 ((sb b48 (kBound x37) 103) :: (sb b10 #[(.map (some b5))] 157) :: es24_0 :: Rf54) := hs55
  refine Bk ?_
  refine Rg [0, 1, 2] ?_
  refine V 13 157 (ld 157 5 b10 0 false 1 (.map (some b5)) (hs56.ownAt (k := 1) rfl)) ?_
  refine V 14 103 (ld 103 6 b48 0 true 7 (.agg (kBound x37)) (hs56.ownAt (k := 0) rfl)) ?_
  refine RWP.mapPut kl103 (ty := 0) (g := none) (mt := 157) (k := 103) (vt := 4) (m := (.tmp 13)) (x := (.tmp 14)) (y := (.const (.bool true))) (b := b5) (kx := x37) (u := true) (kv := (.agg (kBound x37))) (v := (.bool true)) (K := tBound) (T := tBool) (by kernel_rfl) rfl rfl rfl rfl ⟨_, rfl, rfl⟩ ⟨_, rfl, rfl⟩ (by kernel_rfl) hs56 (q := 2) rfl hrs24_0 (fun e57 w58 (hs59 : HS w0 F0 w58 F2 ((sb b48 (kBound x37) 103) :: (sb b10 #[(.map (some b5))] 157) :: e57 :: Rf54)) hr60 => ?_)
  refine RWP.nil ?_
  refine blockQ_nrm ?_
  have hs61 : HS w0 F0 w58 F2 ((sb b10 #[(.map (some b5))] 157) :: e57 :: Rf54) := hs59.drop 0
  obtain rfl := some_inj h46
  exact ⟨rfl, F2, [(sb b10 #[(.map (some b5))] 157), e57], hs61, (Mem.le.refl _), ⟨e57, rfl, hr60⟩⟩
 ·rintro D63 w64 F3 _ hs65 le66 ⟨es28_0, rfl, hrs28_0⟩
  have hs67 : HS w0 F0 w64 F3 [(some D63, (.deferred (some []))), (sb b10 #[(.map (some b5))] 157), es28_0] := hs65
  refine blockQ_nrm ?_
  refine thenQ_nrm ?_
  refine Sq ?_
  refine Sq (Rg [0, 1, 2] ?_)
  refine V 15 57 (mv 1 (.slice a1_0 x1.length n1_0)) ?_
  refine V 16 3 (ln 15 57 a1_0 x1.length n1_0 103 7 56) ?_
  refine V 17 3 (run_move (x := (.const (vi 0))) (v := (vi 0)) rfl) ?_
  refine Nt ?_
  obtain ⟨o68, ho69, h70⟩ := bind_some h34
  refine CWP.cut (fun f w => ∃ (s81 : Int) (F5 : Mem), o68 = .done s81 ∧ HS w0 F0 w F5 [(some D63, (.deferred (some [])))] ∧ Mem.le F3 F5 ∧ f.d = [{ target := .collected D63, args := #[] }] ∧ f 1 = (.slice a1_0 x1.length n1_0)) ?_ ?_
  ·refine Bk ?_
   refine CWP.loop (by kernel_rfl) (fun m f w => ∃ (s71 : Int) (F4 : Mem), iter (clocks_chained_L1 N x0 x1 r15 r32) m s71 = some o68 ∧ HS w0 F0 w F4 [(some D63, (.deferred (some []))), (sb b10 #[(.map (some b5))] 157), es28_0] ∧ Mem.le F3 F4 ∧ f.d = [{ target := .collected D63, args := #[] }] ∧ f 1 = (.slice a1_0 x1.length n1_0) ∧ f 5 = (.pointer (some ⟨b10, 0, none⟩)) ∧ f 15 = (.slice a1_0 x1.length n1_0) ∧ f 16 = (vi (x1.length : Int)) ∧ f 17 = (vi s71)) N ⟨0, F3, ho69, hs67, (Mem.le.refl _), rfl, rfl, rfl, rfl, rfl, rfl⟩ ?_
   rintro m87 f w72 ⟨s71, F4, hit88, hs73, le74, e75, e76, e77, e78, e79, e80⟩
   obtain ⟨m89, fl90, rfl, hb91, hnx92⟩ := iter_step hit88
   refine Sq (Rg [0] ?_)
   refine V 18 0 (run_lss (t := 3) (t' := 3) (x := (.tmp 17)) (y := (.tmp 16)) (k := .i64) (a := s71) (b := (x1.length : Int)) e80 e79) ?_
   refine Nss ?_
   refine CWP.cond (t := (decide (s71 < (x1.length : Int)))) (by kernel_rfl) rfl (fun hb93 => ?_) (fun hb93 => ?_)
   ·have h94 := cond_t hb91 hb93
    refine Sc ?_
    refine thenQ_nrm ?_
    refine Sq ?_
    refine Bk ?_
    refine Sq (Rg [0, 1, 2, 3, 4, 5] ?_)
    refine V 19 3 (mv 17 (vi s71) e80) ?_
    obtain ⟨x95, hx96, h98⟩ := bind_some h94
    obtain ⟨hi97, hx96'⟩ := idx_spec hx96
    obtain ⟨b99, o100, C101, E102, fz103, rfl, hF105, hE106⟩ := SlA.open (SlA.mono hs1_0 ((le21.trans le66).trans le74)) hx96'
    have hc108 := hE106 _ _ hx96'
    refine V 20 0 (run_index (t := 57) (x := (.tmp 15)) (y := (.tmp 17)) (b := b99) (o := o100) (E := 103) (s := 7) (by_ := 56) e78 e80 (by kernel_rfl) hi97) ?_
    refine V 21 103 (lx 103 20 0 7 true 7 (.agg (kBound x95)) (hs73.pers _ _ hF105) hc108) ?_
    refine Al 8 0 103 #[(vi 0), (vi 0), (vi 0), (vi 0), (vi 0), (vi 0), (vi 0)] hs73 (fun b109 w110 (hs111 : HS w0 F0 w110 F4 [(sb b109 #[(vi 0), (vi 0), (vi 0), (vi 0), (vi 0), (vi 0), (vi 0)] 103), (some D63, (.deferred (some []))), (sb b10 #[(.map (some b5))] 157), es28_0]) => ?_)
    refine V 7 3 (ma 19 (vi s71)) ?_
    refine RWP.store (ty := 0) (g := none) (by kernel_rfl) rfl (x := (.tmp 8)) (y := (.tmp 21)) (t := 103) (gg := true) (s := 7) (v := (.agg (kBound x95))) (b := b109) (o := 0) (C := #[(vi 0), (vi 0), (vi 0), (vi 0), (vi 0), (vi 0), (vi 0)]) rfl rfl (by kernel_rfl) hs111 (k := 0) rfl rfl rfl rfl (C' := (kBound x95)) rfl (fun w112 (hs113 : HS w0 F0 w112 F4 [(sb b109 (kBound x95) 103), (some D63, (.deferred (some []))), (sb b10 #[(.map (some b5))] 157), es28_0]) => ?_)
    refine Nss ?_
    obtain ⟨j119, hj127, h128⟩ := bind_some h98
    refine CWP.regionD (by kernel_rfl) (by kernel_rfl) (by kernel_rfl) (by kernel_rfl) (z := 19) (F := F4) (Lc := [(sb b109 (kBound x95) 103), (some D63, (.deferred (some []))), (sb b10 #[(.map (some b5))] 157), es28_0]) (Lz := []) (l := [false, false, false, false, false, false, false, false, false, false, false, false, false, false, false, false, false, false, false]) (fuel := 19) (by kernel_rfl) (by kernel_rfl) hs113 (by simp) (by simp) (fun f w => ∃ (F6 : Mem), HS w0 F0 w F6 [(some D63, (.deferred (some []))), (sb b10 #[(.map (some b5))] 157), es28_0] ∧ Mem.le F4 F6 ∧ f.d = [{ target := .collected D63, args := #[] }] ∧ f 1 = (.slice (some ⟨b99, o100, none⟩) x1.length n1_0) ∧ f 5 = (.pointer (some ⟨b10, 0, none⟩)) ∧ f 15 = (.slice (some ⟨b99, o100, none⟩) x1.length n1_0) ∧ f 16 = (vi (x1.length : Int)) ∧ f 17 = (vi s71) ∧ f 40 = (.bool j119)) (fun wd114 hw115 => ?_) ?_
    ·refine Dtl 0 22 157 _ [tt, ff, ff, ff, ff, ff, ff, ff, ff, ff, ff, ff, ff, ff, ff, ff, ff, ff, ff] (fun _ hq => ld 157 5 b10 0 false 1 (.map (some b5)) (hq.1.2 2 _ _ rfl) e77) ?_
     refine Dtl 1 23 103 _ [tt, tt, ff, ff, ff, ff, ff, ff, ff, ff, ff, ff, ff, ff, ff, ff, ff, ff, ff] (fun _ hq => ld 103 8 b109 0 true 7 (.agg (kBound x95)) (hq.1.2 0 _ _ rfl)) ?_
     refine Dtl 2 24 4 (.bool (mgetD r32 x95 false)) [tt, tt, tt, ff, ff, ff, ff, ff, ff, ff, ff, ff, ff, ff, ff, ff, ff, ff, ff] (fun _ hq => run_lookV1 (mt := 157) (k := 103) (vt := 4) (m := (.tmp 22)) (x := (.tmp 23)) (kv := (.agg (kBound x95))) (kx := x95) (z := (.bool false)) (zx := false) (K := tBound) (T := tBool) kl103 rfl rfl ⟨_, rfl, rfl⟩ (by kernel_rfl) (by kernel_rfl) ⟨_, rfl, rfl⟩ (MapR.mpwD (i := 3) hq.1 rfl (hrs28_0.mono le74)) (fun h => by obtain ⟨_, rfl, rfl⟩ := h; rfl)) ?_
     refine Dtl 3 25 4 (.bool (!(mgetD r32 x95 false))) [tt, tt, tt, tt, ff, ff, ff, ff, ff, ff, ff, ff, ff, ff, ff, ff, ff, ff, ff] (fun _ hq => run_not (t := 4) (x := (.tmp 24)) (a := (mgetD r32 x95 false)) rfl) ?_
     refine Dtl 4 26 4 _ [tt, tt, tt, tt, tt, ff, ff, ff, ff, ff, ff, ff, ff, ff, ff, ff, ff, ff, ff] (fun _ hq => mv 25 (.bool (!(mgetD r32 x95 false)))) ?_
     refine DWP.split (!(mgetD r32 x95 false)) (fun hb129 => ?_) (fun hb129 => ?_)
     ·have h130 := cond_t hj127 hb129
      refine Dkl [(5, 27), (6, 28), (7, 29)] 4 false 26 hb129 [tt, tt, tt, tt, tt, tt, tt, tt, ff, ff, ff, ff, ff, ff, ff, ff, ff, ff, ff] ?_
      refine Dul [(8, 30), (9, 31), (10, 32), (11, 33), (12, 34), (13, 35)] 7 true 29 [tt, tt, tt, tt, tt, tt, tt, tt, tt, tt, tt, tt, tt, tt, ff, ff, ff, ff, ff] ?_
      refine Dul [(14, 36), (15, 37), (16, 38)] 7 true 29 [tt, tt, tt, tt, tt, tt, tt, tt, tt, tt, tt, tt, tt, tt, tt, tt, tt, ff, ff] ?_
      refine Dkl [(17, 39)] 4 false 26 hb129 [tt, tt, tt, tt, tt, tt, tt, tt, tt, tt, tt, tt, tt, tt, tt, tt, tt, tt, ff] ?_
      refine Dtl 18 40 4 _ [tt, tt, tt, tt, tt, tt, tt, tt, tt, tt, tt, tt, tt, tt, tt, tt, tt, tt, tt] (fun _ hq => p1 26 (.const (.bool true)) (.tmp 39) (.bool true) hb129) ?_
      obtain rfl := some_inj h130
      have hs131 : HS w0 F0 wd114 F4 [(some D63, (.deferred (some []))), (sb b10 #[(.map (some b5))] 157), es28_0] := hw115.drop 0
      exact DWP.done (by kernel_rfl) ⟨F4, hs131, (Mem.le.refl _), e75, e76, e77, e78, e79, e80, rfl⟩
     ·have h132 := cond_f hj127 hb129
      refine Dgl 5 27 3 _ [tt, tt, tt, tt, tt, tt, ff, ff, ff, ff, ff, ff, ff, ff, ff, ff, ff, ff, ff] 4 false 26 hb129 (fun _ hq => mv 7 (vi s71)) ?_
      refine Dgl 6 28 4 (.bool (decide (s71 > 0))) [tt, tt, tt, tt, tt, tt, tt, ff, ff, ff, ff, ff, ff, ff, ff, ff, ff, ff, ff] 4 false 26 hb129 (fun _ hq => run_gtr (t := 3) (t' := 3) (x := (.tmp 27)) (y := (.const (vi 0))) (k := .i64) (a := s71) (b := 0) rfl rfl) ?_
      refine Dgl 7 29 4 _ [tt, tt, tt, tt, tt, tt, tt, tt, ff, ff, ff, ff, ff, ff, ff, ff, ff, ff, ff] 4 false 26 hb129 (fun _ hq => mv 28 (.bool (decide (s71 > 0)))) ?_
      refine DWP.split (decide (s71 > 0)) (fun hb133 => ?_) (fun hb133 => ?_)
      ·have h134 := cond_t h132 hb133
       refine Dgl 8 30 0 (.pointer (some ⟨b109, 0, none⟩)) [tt, tt, tt, tt, tt, tt, tt, tt, tt, ff, ff, ff, ff, ff, ff, ff, ff, ff, ff] 7 true 29 hb133 (fun _ hq => fa 103 8 0 0 2 b109 0 0) ?_
       refine Dgl 9 31 27 _ [tt, tt, tt, tt, tt, tt, tt, tt, tt, tt, ff, ff, ff, ff, ff, ff, ff, ff, ff] 7 true 29 hb133 (fun _ hq => ld 27 30 b109 0 true 2 (.agg (kRef x95.From)) (hq.1.2 0 _ _ rfl)) ?_
       refine Dgl 10 32 57 _ [tt, tt, tt, tt, tt, tt, tt, tt, tt, tt, tt, ff, ff, ff, ff, ff, ff, ff, ff] 7 true 29 hb133 (fun _ hq => mv 1 (.slice (some ⟨b99, o100, none⟩) x1.length n1_0) e76) ?_
       refine Dgl 11 33 3 _ [tt, tt, tt, tt, tt, tt, tt, tt, tt, tt, tt, tt, ff, ff, ff, ff, ff, ff, ff] 7 true 29 hb133 (fun _ hq => mv 7 (vi s71)) ?_
       refine Dgl 12 34 3 (vi (W64 (s71 - 1))) [tt, tt, tt, tt, tt, tt, tt, tt, tt, tt, tt, tt, tt, ff, ff, ff, ff, ff, ff] 7 true 29 hb133 (fun _ hq => run_sub (t := 3) (t' := 3) (x := (.tmp 33)) (y := (.const (vi 1))) (k := .i64) (a := s71) (b := 1) rfl rfl) ?_
       obtain ⟨x135, hx136, h138⟩ := bind_some h134
       obtain ⟨hi137, hx136'⟩ := idx_spec hx136
       have hc140 := hE106 _ _ hx136'
       refine Dgl 13 35 0 (.pointer (some ⟨b99, (o100 + ((W64 (s71 - 1)) : Int).toNat * 7), none⟩)) [tt, tt, tt, tt, tt, tt, tt, tt, tt, tt, tt, tt, tt, tt, ff, ff, ff, ff, ff] 7 true 29 hb133 (fun _ hq => ix 57 32 34 b99 o100 103 7 56 hi137) ?_
       refine Dgl 14 36 0 (.pointer (some ⟨b99, ((o100 + ((W64 (s71 - 1)) : Int).toNat * 7) + 2), none⟩)) [tt, tt, tt, tt, tt, tt, tt, tt, tt, tt, tt, tt, tt, tt, tt, ff, ff, ff, ff] 7 true 29 hb133 (fun _ hq => fa 103 35 1 2 2 b99 (o100 + ((W64 (s71 - 1)) : Int).toNat * 7) ((o100 + ((W64 (s71 - 1)) : Int).toNat * 7) + 2)) ?_
       refine Dgl 15 37 27 _ [tt, tt, tt, tt, tt, tt, tt, tt, tt, tt, tt, tt, tt, tt, tt, tt, ff, ff, ff] 7 true 29 hb133 (fun _ hq => lx 27 36 2 7 true 2 (.agg (kRef x135.To)) (hq.1.1 _ _ hF105) hc140) ?_
       refine Dgl 16 38 4 (.bool (!((x95.From.Log == x135.To.Log) && ((x95.From.Line == x135.To.Line) && true)))) [tt, tt, tt, tt, tt, tt, tt, tt, tt, tt, tt, tt, tt, tt, tt, tt, tt, ff, ff] 7 true 29 hb133 (fun _ hq => run_nes (t := 27) (t' := 27) (x := (.tmp 31)) (y := (.tmp 37)) (xs := (kRef x95.From)) (ys := (kRef x135.To)) (b := ((x95.From.Log == x135.To.Log) && ((x95.From.Line == x135.To.Line) && true))) rfl rfl (by kernel_rfl) (by kernel_rfl)) ?_
       refine Dgl 17 39 4 _ [tt, tt, tt, tt, tt, tt, tt, tt, tt, tt, tt, tt, tt, tt, tt, tt, tt, tt, ff] 4 false 26 hb129 (fun _ hq => p1 29 (.tmp 38) (.const (.bool false)) (.bool (!((x95.From.Log == x135.To.Log) && ((x95.From.Line == x135.To.Line) && true)))) hb133) ?_
       refine Dtl 18 40 4 _ [tt, tt, tt, tt, tt, tt, tt, tt, tt, tt, tt, tt, tt, tt, tt, tt, tt, tt, tt] (fun _ hq => p0 26 (.const (.bool true)) (.tmp 39) (.bool (!((x95.From.Log == x135.To.Log) && ((x95.From.Line == x135.To.Line) && true)))) hb129) ?_
       obtain rfl := some_inj h138
       have hs141 : HS w0 F0 wd114 F4 [(some D63, (.deferred (some []))), (sb b10 #[(.map (some b5))] 157), es28_0] := hw115.drop 0
       exact DWP.done (by kernel_rfl) ⟨F4, hs141, (Mem.le.refl _), e75, e76, e77, e78, e79, e80, rfl⟩
      ·have h142 := cond_f h132 hb133
       refine Dkl [(8, 30), (9, 31), (10, 32), (11, 33), (12, 34), (13, 35)] 7 true 29 hb133 [tt, tt, tt, tt, tt, tt, tt, tt, tt, tt, tt, tt, tt, tt, ff, ff, ff, ff, ff] ?_
       refine Dkl [(14, 36), (15, 37), (16, 38)] 7 true 29 hb133 [tt, tt, tt, tt, tt, tt, tt, tt, tt, tt, tt, tt, tt, tt, tt, tt, tt, ff, ff] ?_
       refine Dgl 17 39 4 _ [tt, tt, tt, tt, tt, tt, tt, tt, tt, tt, tt, tt, tt, tt, tt, tt, tt, tt, ff] 4 false 26 hb129 (fun _ hq => p0 29 (.tmp 38) (.const (.bool false)) (.bool false) hb133) ?_
       refine Dtl 18 40 4 _ [tt, tt, tt, tt, tt, tt, tt, tt, tt, tt, tt, tt, tt, tt, tt, tt, tt, tt, tt] (fun _ hq => p0 26 (.const (.bool true)) (.tmp 39) (.bool false) hb129) ?_
       obtain rfl := some_inj h142
       have hs143 : HS w0 F0 wd114 F4 [(some D63, (.deferred (some []))), (sb b10 #[(.map (some b5))] 157), es28_0] := hw115.drop 0
       exact DWP.done (by kernel_rfl) ⟨F4, hs143, (Mem.le.refl _), e75, e76, e77, e78, e79, e80, rfl⟩
    ·rintro f w116 ⟨F6, hs117, le118, e120, e121, e122, e123, e124, e125, e126⟩
     refine thenQ_nrm ?_
     refine CWP.cond (t := j119) (by kernel_rfl) e126 (fun hb144 => ?_) (fun hb144 => ?_)
     ·have h145 := cond_t h128 hb144
      refine Sq (Rg [0] ?_)
      refine V 4 4 (mc (.bool false) (.bool false)) ?_
      refine Nt ?_
      refine CWP.ret (by kernel_rfl) ?_
      refine blockQ_ret ?_
      refine thenQ_ret ?_
      refine thenQ_ret ?_
      refine blockQ_ret ?_
      have hret := iter_ret h145 hnx92
      subst hret
      refine .inr ?_
      refine thenQ_ret ?_
      have hs146 := hs117.put (k := 0) rfl (.deferred none)
      have hs147 : HS w0 F0 (putB w116 D63 (.deferred none)) F6 [(sb b10 #[(.map (some b5))] 157), es28_0] := hs146.drop 0
      have hfin := some_inj h70
      subst hfin
      exact .inr ⟨D63, e120, hs117.ownAt (k := 0) rfl, (.bool false), res_of (l := [.tmp 4]) (by kernel_rfl) (vs := [(.bool false)]) ⟨rfl, trivial⟩, (.bool false), F6, rfl, hs147.clear, rfl⟩
     ·have h148 := cond_f h128 hb144
      refine Sc ?_
      refine blockQ_nrm ?_
      refine thenQ_nrm ?_
      refine Rg [0, 1] ?_
      refine V 41 3 (run_add (t := 3) (t' := 3) (x := (.tmp 17)) (y := (.const (vi 1))) (k := .i64) (a := s71) (b := 1) e125 rfl) ?_
      refine V 17 3 (mv 41 (vi (W64 (s71 + 1)))) ?_
      refine RWP.nil ?_
      have hn149 := iter_next h148 hnx92
      exact ⟨m89, Nat.lt_succ_self _, (W64 (s71 + 1)), F6, hn149, hs117, (le74.trans le118), e120, e121, e122, e123, e124, rfl⟩
   ·have h150 := cond_f hb91 hb93
    refine CWP.exit (by kernel_rfl) ?_
    refine thenQ_ex ?_
    refine thenQ_ex ?_
    refine blockQ_hit rfl ?_
    have hs151 : HS w0 F0 w72 F4 [(some D63, (.deferred (some []))), es28_0] := hs73.drop 1
    have hs152 : HS w0 F0 w72 F4 [(some D63, (.deferred (some [])))] := hs151.drop 1
    have ho153 := iter_done h150 hnx92
    exact .inl ⟨rfl, s71, F4, ho153, hs152, le74, e75, e76⟩
  ·rintro f w82 ⟨s81, F5, rfl, hs83, le84, e85, e86⟩
   have h154 := k_done h70
   refine thenQ_nrm ?_
   refine Sq (Rg [0, 1, 2, 3] ?_)
   refine V 42 57 (mv 1 (.slice a1_0 x1.length n1_0) e86) ?_
   refine V 43 3 (ln 42 57 a1_0 x1.length n1_0 103 7 56) ?_
   obtain ⟨r155, hr156, h157⟩ := bind_some h154
   refine Cl 44 4 67 #[(.tmp 43), (.const (vi 1)), (.const (vi 30000))] #[3, 3, 3] co_clocks_within hs83 (c_clocks_within N w82 F5 hs83.pers ((x1.length : Int)) (1) (30000) _ hr156) ?_
   intro v158 F7 w159 hs160 le161 hp162
   obtain rfl := hp162
   refine V 4 4 (ma 44 (.bool r155)) ?_
   refine Nt ?_
   refine CWP.ret (by kernel_rfl) ?_
   have hs163 := hs160.put (k := 0) rfl (.deferred none)
   have hs164 : HS w0 F0 (putB w159 D63 (.deferred none)) F7 [] := hs163.drop 0
   have hfin := some_inj h157
   subst hfin
   exact .inr ⟨D63, e85, hs160.ownAt (k := 0) rfl, (.bool r155), res_of (l := [.tmp 4]) (by kernel_rfl) (vs := [(.bool r155)]) ⟨rfl, trivial⟩, (.bool r155), F7, rfl, hs164.clear, rfl⟩
end Go.Proofs.Ythbcnabeabcmlaa
namespace Go.Proofs.Ythbcnabeabcmlaa
open Go.Proofs
def clocks_sum_L0 (N : Nat) (x0 : (List Bound)) : (Int × Int) → Option (Flow Int (Int × Int)) := fun s4 =>
 (bif (decide (s4.2 < (x0.length : Int))) then ((idx x0 s4.2).bind fun x27 => some (.next ((W64 (s4.1 + x27.Most)), (W64 (s4.2 + 1))))) else some (.done (s4.1, s4.2)))
def clocks_sum (N : Nat) (x0 : (List Bound)) : Option Int :=
 ((iter (clocks_sum_L0 N x0) N (0, 0)).bind fun o => o.k (fun r => some r) (fun s13 => some s13.1))
theorem co_clocks_sum : CallOk Try.prog 99 := fun _ _ => by kernel_rfl
set_option maxHeartbeats 4000000 in
set_option maxRecDepth 100000 in
theorem c_clocks_sum (N : Nat) (w0 : World) (F0 : Mem) (hF : ∀ b o, F0 b = some o → w0.heap[b]? = some o) (x0 : (List Bound)) (a0_0 : Option Addr) (n0_0 : Nat) (hb0_0 : LC x0.length n0_0) (hs0_0 : SlA tBound F0 a0_0 x0) (r : Int) (h : clocks_sum N x0 = some r) :
  Calls Try.prog 99 ([(.slice a0_0 x0.length n0_0)] : List Value).toArray w0 (FRet w0 F0 fun F' v => v = (vi r)) := by
 have hs0 := HS.start hF
 refine calls_of (n := 18) (c := bodyOf Try.f99) Try.func99 (by kernel_rfl) (by kernel_rfl) (by kernel_rfl) ?_
 refine Sq (Rg [0] ?_)
 refine V 2 3 (mc (vi 0) (vi 0)) ?_
 refine Nss (Rg [0] ?_)
 refine V 3 3 (mc (vi 0) (vi 0)) ?_
 refine Nss ?_
 refine Sq (Rg [0, 1, 2] ?_)
 refine V 6 57 (mv 0 (.slice a0_0 x0.length n0_0)) ?_
 refine V 7 3 (ln 6 57 a0_0 x0.length n0_0 103 7 56) ?_
 refine V 8 3 (run_move (x := (.const (vi 0))) (v := (vi 0)) rfl) ?_
 refine Nt ?_
 obtain ⟨o1, ho2, h3⟩ := bind_some h
 refine CWP.cut (fun f w => ∃ (s13 : (Int × Int)) (F2 : Mem), o1 = .done s13 ∧ HS w0 F0 w F2 [] ∧ Mem.le F0 F2 ∧ f.d = [] ∧ f 3 = (vi s13.1)) ?_ ?_
 ·refine Bk ?_
  refine CWP.loop (by kernel_rfl) (fun m f w => ∃ (s4 : (Int × Int)) (F1 : Mem), iter (clocks_sum_L0 N x0) m s4 = some o1 ∧ HS w0 F0 w F1 [] ∧ Mem.le F0 F1 ∧ f.d = [] ∧ f 3 = (vi s4.1) ∧ f 6 = (.slice a0_0 x0.length n0_0) ∧ f 7 = (vi (x0.length : Int)) ∧ f 8 = (vi s4.2)) N ⟨(0, 0), F0, ho2, hs0, (Mem.le.refl _), rfl, rfl, rfl, rfl, rfl⟩ ?_
  rintro m19 f w5 ⟨s4, F1, hit20, hs6, le7, e8, e9, e10, e11, e12⟩
  obtain ⟨m21, fl22, rfl, hb23, hnx24⟩ := iter_step hit20
  refine Sq (Rg [0] ?_)
  refine V 9 0 (run_lss (t := 3) (t' := 3) (x := (.tmp 8)) (y := (.tmp 7)) (k := .i64) (a := s4.2) (b := (x0.length : Int)) e12 e11) ?_
  refine Nss ?_
  refine CWP.cond (t := (decide (s4.2 < (x0.length : Int)))) (by kernel_rfl) rfl (fun hb25 => ?_) (fun hb25 => ?_)
  ·have h26 := cond_t hb23 hb25
   refine Sc ?_
   refine thenQ_nrm ?_
   refine Sq ?_
   refine Bk ?_
   refine Sq (Rg [0, 1, 2, 3] ?_)
   obtain ⟨x27, hx28, h30⟩ := bind_some h26
   obtain ⟨hi29, hx28'⟩ := idx_spec hx28
   obtain ⟨b31, o32, C33, E34, fz35, rfl, hF37, hE38⟩ := SlA.open (SlA.mono hs0_0 le7) hx28'
   have hc40 := hE38 _ _ hx28'
   refine V 10 0 (run_index (t := 57) (x := (.tmp 6)) (y := (.tmp 8)) (b := b31) (o := o32) (E := 103) (s := 7) (by_ := 56) e10 e12 (by kernel_rfl) hi29) ?_
   refine V 11 103 (lx 103 10 0 7 true 7 (.agg (kBound x27)) (hs6.pers _ _ hF37) hc40) ?_
   refine Al 5 0 103 #[(vi 0), (vi 0), (vi 0), (vi 0), (vi 0), (vi 0), (vi 0)] hs6 (fun b41 w42 (hs43 : HS w0 F0 w42 F1 [(sb b41 #[(vi 0), (vi 0), (vi 0), (vi 0), (vi 0), (vi 0), (vi 0)] 103)]) => ?_)
   refine RWP.store (ty := 0) (g := none) (by kernel_rfl) rfl (x := (.tmp 5)) (y := (.tmp 11)) (t := 103) (gg := true) (s := 7) (v := (.agg (kBound x27))) (b := b41) (o := 0) (C := #[(vi 0), (vi 0), (vi 0), (vi 0), (vi 0), (vi 0), (vi 0)]) rfl rfl (by kernel_rfl) hs43 (k := 0) rfl rfl rfl rfl (C' := (kBound x27)) rfl (fun w44 (hs45 : HS w0 F0 w44 F1 [(sb b41 (kBound x27) 103)]) => ?_)
   refine Nt ?_
   refine Rg [0, 1, 2, 3, 4] ?_
   refine V 12 3 (mv 3 (vi s4.1) e9) ?_
   refine V 13 0 (fa 103 5 2 4 1 b41 0 4) ?_
   refine V 14 3 (ld 3 13 b41 4 false 1 (vi x27.Most) (hs45.ownAt (k := 0) rfl)) ?_
   refine V 15 3 (run_add (t := 3) (t' := 3) (x := (.tmp 12)) (y := (.tmp 14)) (k := .i64) (a := s4.1) (b := x27.Most) rfl rfl) ?_
   refine V 3 3 (ma 15 (vi (W64 (s4.1 + x27.Most)))) ?_
   refine RWP.nil ?_
   refine blockQ_nrm ?_
   refine thenQ_nrm ?_
   refine Rg [0, 1] ?_
   refine V 16 3 (run_add (t := 3) (t' := 3) (x := (.tmp 8)) (y := (.const (vi 1))) (k := .i64) (a := s4.2) (b := 1) e12 rfl) ?_
   refine V 8 3 (mv 16 (vi (W64 (s4.2 + 1)))) ?_
   refine RWP.nil ?_
   have hs46 : HS w0 F0 w44 F1 [] := hs45.drop 0
   have hn47 := iter_next h30 hnx24
   exact ⟨m21, Nat.lt_succ_self _, ((W64 (s4.1 + x27.Most)), (W64 (s4.2 + 1))), F1, hn47, hs46, le7, e8, rfl, e10, e11, rfl⟩
  ·have h48 := cond_f hb23 hb25
   refine CWP.exit (by kernel_rfl) ?_
   refine thenQ_ex ?_
   refine thenQ_ex ?_
   refine blockQ_hit rfl ?_
   have ho49 := iter_done h48 hnx24
   exact .inl ⟨rfl, (s4.1, s4.2), F1, ho49, hs6, le7, e8, e9⟩
 ·rintro f w14 ⟨s13, F2, rfl, hs15, le16, e17, e18⟩
  have h50 := k_done h3
  refine thenQ_nrm ?_
  refine Sq (Rg [0, 1] ?_)
  refine V 17 3 (mv 3 (vi s13.1) e18) ?_
  refine V 2 3 (ma 17 (vi s13.1)) ?_
  refine Nt ?_
  refine CWP.ret (by kernel_rfl) ?_
  have hfin := some_inj h50
  subst hfin
  exact ⟨e17, (vi s13.1), res_of (l := [.tmp 2]) (by kernel_rfl) (vs := [(vi s13.1)]) ⟨rfl, trivial⟩, (vi s13.1), F2, rfl, hs15.clear, rfl⟩
end Go.Proofs.Ythbcnabeabcmlaa
namespace Go.Proofs.Ythbcnabeabcmlaa
open Go.Proofs
def clocks_ValidLoop (N : Nat) (x0 : System) (x1 : (List Bound)) : Option (Bool × Int) :=
 ((clocks_Check N x0).bind fun r4 => (bif (r4 != 0) then some (false, r4) else (((clocks_chained N x0 x1).bind fun r26 => (bif r26 then ((idx x1 0).bind fun x36 => ((idx x1 (W64 ((x1.length : Int) - 1))).bind fun x50 => (bif ((x36.From.Log == x50.To.Log) && ((x36.From.Line == x50.To.Line) && true)) then ((clocks_sum N x1).bind fun r58 => some (decide (r58 < 0))) else some false))) else some false)).bind fun j20 => some (j20, 0))))
theorem co_clocks_ValidLoop : CallOk Try.prog 54 := fun _ _ => by kernel_rfl
set_option maxHeartbeats 4000000 in
set_option maxRecDepth 100000 in
theorem c_clocks_ValidLoop (N : Nat) (w0 : World) (F0 : Mem) (hF : ∀ b o, F0 b = some o → w0.heap[b]? = some o) (x0 : System) (a0_0 : Option Addr) (n0_0 : Nat) (hb0_0 : LC x0.Tracks.length n0_0) (hs0_0 : SlA tTrack F0 a0_0 x0.Tracks) (a0_1 : Option Addr) (n0_1 : Nat) (hb0_1 : LC x0.Ties.length n0_1) (hs0_1 : SlA tTie F0 a0_1 x0.Ties) (x1 : (List Bound)) (a1_0 : Option Addr) (n1_0 : Nat) (hb1_0 : LC x1.length n1_0) (hs1_0 : SlA tBound F0 a1_0 x1) (r : (Bool × Int)) (h : clocks_ValidLoop N x0 x1 = some r) :
  Calls Try.prog 54 ([(.agg (kSystem x0 a0_0 n0_0 a0_1 n0_1)), (.slice a1_0 x1.length n1_0)] : List Value).toArray w0 (FRet w0 F0 fun F' v => v = (.tuple #[(.bool r.1), (vi r.2)])) := by
 have hs0 := HS.start hF
 refine calls_of (n := 34) (c := bodyOf Try.f54) Try.func54 (by kernel_rfl) (by kernel_rfl) (by kernel_rfl) ?_
 refine Sq (Rg [0, 1, 2] ?_)
 refine Bx 2 0 0 25 (kSystem x0 a0_0 n0_0 a0_1 n0_1) hs0 (fun b1 w2 (hs3 : HS w0 F0 w2 F0 [(sb b1 (kSystem x0 a0_0 n0_0 a0_1 n0_1) 25)]) => ?_)
 refine V 4 4 (mc (.bool false) (.bool false)) ?_
 refine V 5 30 (mc (vi 0) (vi 0)) ?_
 refine Nss ?_
 refine Sq (Rg [0, 1, 2] ?_)
 refine V 7 25 (ld 25 2 b1 0 true 3 (.agg (kSystem x0 a0_0 n0_0 a0_1 n0_1)) (hs3.ownAt (k := 0) rfl)) ?_
 obtain ⟨r4, hr5, h6⟩ := bind_some h
 refine Cl 8 30 17 #[(.tmp 7)] #[25] co_clocks_Check hs3 (c_clocks_Check N w2 F0 hs3.pers (x0) a0_0 n0_0 hb0_0 hs0_0 a0_1 n0_1 hb0_1 hs0_1 _ hr5) ?_
 intro v7 F1 w8 hs9 le10 hp11
 obtain rfl := hp11
 refine V 6 30 (ma 8 (vi r4)) ?_
 refine Nss (Rg [0, 1] ?_)
 refine V 9 30 (mv 6 (vi r4)) ?_
 refine V 10 4 (run_neq (t := 30) (t' := 30) (x := (.tmp 9)) (y := (.const (vi 0))) (k := .i64) (a := r4) (b := 0) rfl rfl) ?_
 refine Nt ?_
 refine CWP.cond (t := (r4 != 0)) (by kernel_rfl) rfl (fun hb12 => ?_) (fun hb12 => ?_)
 ·have h13 := cond_t h6 hb12
  refine Sq (Rg [0, 1, 2] ?_)
  refine V 11 30 (mv 6 (vi r4)) ?_
  refine V 4 4 (mc (.bool false) (.bool false)) ?_
  refine V 5 30 (ma 11 (vi r4)) ?_
  refine Nt ?_
  refine CWP.ret (by kernel_rfl) ?_
  refine thenQ_ret ?_
  have hfin := some_inj h13
  subst hfin
  exact ⟨rfl, (.tuple #[(.bool false), (vi r4)]), res_of (l := [.tmp 4, .tmp 5]) (by kernel_rfl) (vs := [(.bool false), (vi r4)]) ⟨rfl, ⟨rfl, trivial⟩⟩, (.tuple #[(.bool false), (vi r4)]), F1, rfl, hs9.clear, rfl⟩
 ·have h14 := cond_f h6 hb12
  refine Sc ?_
  refine thenQ_nrm ?_
  refine Sq ?_
  obtain ⟨j20, hj24, h25⟩ := bind_some h14
  refine CWP.regionD (by kernel_rfl) (by kernel_rfl) (by kernel_rfl) (by kernel_rfl) (z := 24) (F := F1) (Lc := [(sb b1 (kSystem x0 a0_0 n0_0 a0_1 n0_1) 25)]) (Lz := []) (l := [false, false, false, false, false, false, false, false, false, false, false, false, false, false, false, false, false, false, false, false, false, false, false, false]) (fuel := 24) (by kernel_rfl) (by kernel_rfl) hs9 (by simp) (by simp) (fun f w => ∃ (F2 : Mem), HS w0 F0 w F2 [] ∧ Mem.le F1 F2 ∧ f.d = [] ∧ f 4 = (.bool j20) ∧ f 5 = (vi 0)) (fun wd15 hw16 => ?_) ?_
  ·refine Dtl 0 12 25 _ [tt, ff, ff, ff, ff, ff, ff, ff, ff, ff, ff, ff, ff, ff, ff, ff, ff, ff, ff, ff, ff, ff, ff, ff] (fun _ hq => ld 25 2 b1 0 true 3 (.agg (kSystem x0 a0_0 n0_0 a0_1 n0_1)) (hq.1.2 0 _ _ rfl)) ?_
   refine Dtl 1 13 57 _ [tt, tt, ff, ff, ff, ff, ff, ff, ff, ff, ff, ff, ff, ff, ff, ff, ff, ff, ff, ff, ff, ff, ff, ff] (fun _ hq => mv 1 (.slice a1_0 x1.length n1_0)) ?_
   refine DWP.one (i := 2) (by kernel_rfl) ?_
   obtain ⟨r26, hr27, h28⟩ := bind_some hj24
   refine DStep.call (l' := [true, true, true, false, false, false, false, false, false, false, false, false, false, false, false, false, false, false, false, false, false, false, false, false]) (zd := true) (by kernel_rfl) (by kernel_rfl) (by kernel_rfl) (dst := (some 14)) (ty := 4) (g := none) (by kernel_rfl) rfl (f0 := (.func 98)) (aos := #[(.tmp 12), (.tmp 13)]) (ats := #[25, 57]) (fid := 98) (first := #[]) (cap := #[]) (args := [(.agg (kSystem x0 a0_0 n0_0 a0_1 n0_1)), (.slice a1_0 x1.length n1_0)]) rfl co_clocks_chained (rfl) hw16 (c_clocks_chained N wd15 F1 hw16.pers (x0) a0_0 n0_0 hb0_0 (SlA.mono hs0_0 le10) a0_1 n0_1 hb0_1 (SlA.mono hs0_1 le10) (x1) a1_0 n1_0 hb1_0 (SlA.mono hs1_0 le10) _ hr27) ?_
   intro v29 F3 w30 hs31 le32 hp33
   obtain rfl := hp33
   refine Dtl 3 15 4 _ [tt, tt, tt, tt, ff, ff, ff, ff, ff, ff, ff, ff, ff, ff, ff, ff, ff, ff, ff, ff, ff, ff, ff, ff] (fun _ hq => mv 14 (.bool r26)) ?_
   refine DWP.split r26 (fun hb34 => ?_) (fun hb34 => ?_)
   ·have h35 := cond_t h28 hb34
    refine Dgl 4 16 57 _ [tt, tt, tt, tt, tt, ff, ff, ff, ff, ff, ff, ff, ff, ff, ff, ff, ff, ff, ff, ff, ff, ff, ff, ff] 3 true 15 hb34 (fun _ hq => mv 1 (.slice a1_0 x1.length n1_0)) ?_
    obtain ⟨x36, hx37, h39⟩ := bind_some h35
    obtain ⟨hi38, hx37'⟩ := idx_spec hx37
    obtain ⟨b40, o41, C42, E43, fz44, rfl, hF46, hE47⟩ := SlA.open (SlA.mono hs1_0 le10) hx37'
    have hc49 := hE47 _ _ hx37'
    refine Dgl 5 17 0 (.pointer (some ⟨b40, (o41 + (0 : Int).toNat * 7), none⟩)) [tt, tt, tt, tt, tt, tt, ff, ff, ff, ff, ff, ff, ff, ff, ff, ff, ff, ff, ff, ff, ff, ff, ff, ff] 3 true 15 hb34 (fun _ hq => run_index (t := 57) (x := (.tmp 16)) (y := (.const (vi 0))) (b := b40) (o := o41) (E := 103) (s := 7) (by_ := 56) rfl rfl (by kernel_rfl) hi38) ?_
    refine Dgl 6 18 0 (.pointer (some ⟨b40, (o41 + (0 : Int).toNat * 7), none⟩)) [tt, tt, tt, tt, tt, tt, tt, ff, ff, ff, ff, ff, ff, ff, ff, ff, ff, ff, ff, ff, ff, ff, ff, ff] 3 true 15 hb34 (fun _ hq => fa 103 17 0 0 2 b40 (o41 + (0 : Int).toNat * 7) (o41 + (0 : Int).toNat * 7)) ?_
    refine Dgl 7 19 27 _ [tt, tt, tt, tt, tt, tt, tt, tt, ff, ff, ff, ff, ff, ff, ff, ff, ff, ff, ff, ff, ff, ff, ff, ff] 3 true 15 hb34 (fun _ hq => lx 27 18 0 7 true 2 (.agg (kRef x36.From)) (hq.1.1 _ _ hF46) hc49) ?_
    refine Dgl 8 20 57 _ [tt, tt, tt, tt, tt, tt, tt, tt, tt, ff, ff, ff, ff, ff, ff, ff, ff, ff, ff, ff, ff, ff, ff, ff] 3 true 15 hb34 (fun _ hq => mv 1 (.slice (some ⟨b40, o41, none⟩) x1.length n1_0)) ?_
    refine Dgl 9 21 57 _ [tt, tt, tt, tt, tt, tt, tt, tt, tt, tt, ff, ff, ff, ff, ff, ff, ff, ff, ff, ff, ff, ff, ff, ff] 3 true 15 hb34 (fun _ hq => mv 1 (.slice (some ⟨b40, o41, none⟩) x1.length n1_0)) ?_
    refine Dgl 10 22 3 (vi (x1.length : Int)) [tt, tt, tt, tt, tt, tt, tt, tt, tt, tt, tt, ff, ff, ff, ff, ff, ff, ff, ff, ff, ff, ff, ff, ff] 3 true 15 hb34 (fun _ hq => ln 21 57 (some ⟨b40, o41, none⟩) x1.length n1_0 103 7 56) ?_
    refine Dgl 11 23 3 (vi (W64 ((x1.length : Int) - 1))) [tt, tt, tt, tt, tt, tt, tt, tt, tt, tt, tt, tt, ff, ff, ff, ff, ff, ff, ff, ff, ff, ff, ff, ff] 3 true 15 hb34 (fun _ hq => run_sub (t := 3) (t' := 3) (x := (.tmp 22)) (y := (.const (vi 1))) (k := .i64) (a := (x1.length : Int)) (b := 1) rfl rfl) ?_
    obtain ⟨x50, hx51, h53⟩ := bind_some h39
    obtain ⟨hi52, hx51'⟩ := idx_spec hx51
    have hc55 := hE47 _ _ hx51'
    refine Dgl 12 24 0 (.pointer (some ⟨b40, (o41 + ((W64 ((x1.length : Int) - 1)) : Int).toNat * 7), none⟩)) [tt, tt, tt, tt, tt, tt, tt, tt, tt, tt, tt, tt, tt, ff, ff, ff, ff, ff, ff, ff, ff, ff, ff, ff] 3 true 15 hb34 (fun _ hq => ix 57 20 23 b40 o41 103 7 56 hi52) ?_
    refine Dgl 13 25 0 (.pointer (some ⟨b40, ((o41 + ((W64 ((x1.length : Int) - 1)) : Int).toNat * 7) + 2), none⟩)) [tt, tt, tt, tt, tt, tt, tt, tt, tt, tt, tt, tt, tt, tt, ff, ff, ff, ff, ff, ff, ff, ff, ff, ff] 3 true 15 hb34 (fun _ hq => fa 103 24 1 2 2 b40 (o41 + ((W64 ((x1.length : Int) - 1)) : Int).toNat * 7) ((o41 + ((W64 ((x1.length : Int) - 1)) : Int).toNat * 7) + 2)) ?_
    refine Dgl 14 26 27 _ [tt, tt, tt, tt, tt, tt, tt, tt, tt, tt, tt, tt, tt, tt, tt, ff, ff, ff, ff, ff, ff, ff, ff, ff] 3 true 15 hb34 (fun _ hq => lx 27 25 2 7 true 2 (.agg (kRef x50.To)) (hq.1.1 _ _ hF46) hc55) ?_
    refine Dgl 15 27 4 (.bool ((x36.From.Log == x50.To.Log) && ((x36.From.Line == x50.To.Line) && true))) [tt, tt, tt, tt, tt, tt, tt, tt, tt, tt, tt, tt, tt, tt, tt, tt, ff, ff, ff, ff, ff, ff, ff, ff] 3 true 15 hb34 (fun _ hq => run_eqs (t := 27) (t' := 27) (x := (.tmp 19)) (y := (.tmp 26)) (xs := (kRef x36.From)) (ys := (kRef x50.To)) (b := ((x36.From.Log == x50.To.Log) && ((x36.From.Line == x50.To.Line) && true))) rfl rfl (by kernel_rfl) (by kernel_rfl)) ?_
    refine Dtl 16 28 4 _ [tt, tt, tt, tt, tt, tt, tt, tt, tt, tt, tt, tt, tt, tt, tt, tt, tt, ff, ff, ff, ff, ff, ff, ff] (fun _ hq => p1 15 (.tmp 27) (.const (.bool false)) (.bool ((x36.From.Log == x50.To.Log) && ((x36.From.Line == x50.To.Line) && true))) hb34) ?_
    refine Dtl 17 29 4 _ [tt, tt, tt, tt, tt, tt, tt, tt, tt, tt, tt, tt, tt, tt, tt, tt, tt, tt, ff, ff, ff, ff, ff, ff] (fun _ hq => mv 28 (.bool ((x36.From.Log == x50.To.Log) && ((x36.From.Line == x50.To.Line) && true)))) ?_
    refine DWP.split ((x36.From.Log == x50.To.Log) && ((x36.From.Line == x50.To.Line) && true)) (fun hb56 => ?_) (fun hb56 => ?_)
    ·have h57 := cond_t h53 hb56
     refine Dgl 18 30 57 _ [tt, tt, tt, tt, tt, tt, tt, tt, tt, tt, tt, tt, tt, tt, tt, tt, tt, tt, tt, ff, ff, ff, ff, ff] 17 true 29 hb56 (fun _ hq => mv 1 (.slice (some ⟨b40, o41, none⟩) x1.length n1_0)) ?_
     refine DWP.one (i := 19) (by kernel_rfl) ?_
     obtain ⟨r58, hr59, h60⟩ := bind_some h57
     refine DStep.call (l' := [true, true, true, true, true, true, true, true, true, true, true, true, true, true, true, true, true, true, true, true, false, false, false, false]) (zd := true) (by kernel_rfl) (by kernel_rfl) (by kernel_rfl) (dst := (some 31)) (ty := 3) (g := (some (17, true))) (by kernel_rfl) (gd_y (d := 29) (by kernel_rfl) rfl hb56) (f0 := (.func 99)) (aos := #[(.tmp 30)]) (ats := #[57]) (fid := 99) (first := #[]) (cap := #[]) (args := [(.slice (some ⟨b40, o41, none⟩) x1.length n1_0)]) rfl co_clocks_sum (rfl) hs31 (c_clocks_sum N w30 F3 hs31.pers (x1) (some ⟨b40, o41, none⟩) n1_0 hb1_0 (SlA.mono hs1_0 (le10.trans le32)) _ hr59) ?_
     intro v61 F4 w62 hs63 le64 hp65
     obtain rfl := hp65
     refine Dgl 20 32 4 (.bool (decide (r58 < 0))) [tt, tt, tt, tt, tt, tt, tt, tt, tt, tt, tt, tt, tt, tt, tt, tt, tt, tt, tt, tt, tt, ff, ff, ff] 17 true 29 hb56 (fun _ hq => run_lss (t := 3) (t' := 3) (x := (.tmp 31)) (y := (.const (vi 0))) (k := .i64) (a := r58) (b := 0) rfl rfl) ?_
     refine Dtl 21 33 4 _ [tt, tt, tt, tt, tt, tt, tt, tt, tt, tt, tt, tt, tt, tt, tt, tt, tt, tt, tt, tt, tt, tt, ff, ff] (fun _ hq => p1 29 (.tmp 32) (.const (.bool false)) (.bool (decide (r58 < 0))) hb56) ?_
     refine Dtl 22 4 4 _ [tt, tt, tt, tt, tt, tt, tt, tt, tt, tt, tt, tt, tt, tt, tt, tt, tt, tt, tt, tt, tt, tt, tt, ff] (fun _ hq => ma 33 (.bool (decide (r58 < 0)))) ?_
     refine Dtl 23 5 30 _ [tt, tt, tt, tt, tt, tt, tt, tt, tt, tt, tt, tt, tt, tt, tt, tt, tt, tt, tt, tt, tt, tt, tt, tt] (fun _ hq => mc (vi 0) (vi 0)) ?_
     obtain rfl := some_inj h60
     have hs66 : HS w0 F0 w62 F4 [] := hs63.drop 0
     exact DWP.done (by kernel_rfl) ⟨F4, hs66, (le32.trans le64), rfl, rfl, rfl⟩
    ·have h67 := cond_f h53 hb56
     refine Dkl [(18, 30), (19, 31), (20, 32)] 17 true 29 hb56 [tt, tt, tt, tt, tt, tt, tt, tt, tt, tt, tt, tt, tt, tt, tt, tt, tt, tt, tt, tt, tt, ff, ff, ff] ?_
     refine Dtl 21 33 4 _ [tt, tt, tt, tt, tt, tt, tt, tt, tt, tt, tt, tt, tt, tt, tt, tt, tt, tt, tt, tt, tt, tt, ff, ff] (fun _ hq => p0 29 (.tmp 32) (.const (.bool false)) (.bool false) hb56) ?_
     refine Dtl 22 4 4 _ [tt, tt, tt, tt, tt, tt, tt, tt, tt, tt, tt, tt, tt, tt, tt, tt, tt, tt, tt, tt, tt, tt, tt, ff] (fun _ hq => ma 33 (.bool false)) ?_
     refine Dtl 23 5 30 _ [tt, tt, tt, tt, tt, tt, tt, tt, tt, tt, tt, tt, tt, tt, tt, tt, tt, tt, tt, tt, tt, tt, tt, tt] (fun _ hq => mc (vi 0) (vi 0)) ?_
     obtain rfl := some_inj h67
     have hs68 : HS w0 F0 w30 F3 [] := hs31.drop 0
     exact DWP.done (by kernel_rfl) ⟨F3, hs68, le32, rfl, rfl, rfl⟩
   ·have h69 := cond_f h28 hb34
    refine Dkl [(4, 16), (5, 17), (6, 18), (7, 19), (8, 20), (9, 21)] 3 true 15 hb34 [tt, tt, tt, tt, tt, tt, tt, tt, tt, tt, ff, ff, ff, ff, ff, ff, ff, ff, ff, ff, ff, ff, ff, ff] ?_
    refine Dkl [(10, 22), (11, 23), (12, 24), (13, 25), (14, 26), (15, 27)] 3 true 15 hb34 [tt, tt, tt, tt, tt, tt, tt, tt, tt, tt, tt, tt, tt, tt, tt, tt, ff, ff, ff, ff, ff, ff, ff, ff] ?_
    refine Dtl 16 28 4 _ [tt, tt, tt, tt, tt, tt, tt, tt, tt, tt, tt, tt, tt, tt, tt, tt, tt, ff, ff, ff, ff, ff, ff, ff] (fun _ hq => p0 15 (.tmp 27) (.const (.bool false)) (.bool false) hb34) ?_
    refine Dtl 17 29 4 _ [tt, tt, tt, tt, tt, tt, tt, tt, tt, tt, tt, tt, tt, tt, tt, tt, tt, tt, ff, ff, ff, ff, ff, ff] (fun _ hq => mv 28 (.bool false)) ?_
    refine Dkl [(18, 30), (19, 31), (20, 32)] 17 true 29 rfl [tt, tt, tt, tt, tt, tt, tt, tt, tt, tt, tt, tt, tt, tt, tt, tt, tt, tt, tt, tt, tt, ff, ff, ff] ?_
    refine Dtl 21 33 4 _ [tt, tt, tt, tt, tt, tt, tt, tt, tt, tt, tt, tt, tt, tt, tt, tt, tt, tt, tt, tt, tt, tt, ff, ff] (fun _ hq => p0 29 (.tmp 32) (.const (.bool false)) (.bool false) rfl) ?_
    refine Dtl 22 4 4 _ [tt, tt, tt, tt, tt, tt, tt, tt, tt, tt, tt, tt, tt, tt, tt, tt, tt, tt, tt, tt, tt, tt, tt, ff] (fun _ hq => ma 33 (.bool false)) ?_
    refine Dtl 23 5 30 _ [tt, tt, tt, tt, tt, tt, tt, tt, tt, tt, tt, tt, tt, tt, tt, tt, tt, tt, tt, tt, tt, tt, tt, tt] (fun _ hq => mc (vi 0) (vi 0)) ?_
    obtain rfl := some_inj h69
    have hs70 : HS w0 F0 w30 F3 [] := hs31.drop 0
    exact DWP.done (by kernel_rfl) ⟨F3, hs70, le32, rfl, rfl, rfl⟩
  ·rintro f w17 ⟨F2, hs18, le19, e21, e22, e23⟩
   refine thenQ_nrm ?_
   refine CWP.ret (by kernel_rfl) ?_
   have hfin := some_inj h25
   subst hfin
   exact ⟨e21, (.tuple #[(.bool j20), (vi 0)]), res_of (l := [.tmp 4, .tmp 5]) (by kernel_rfl) (vs := [(.bool j20), (vi 0)]) ⟨e22, ⟨e23, trivial⟩⟩, (.tuple #[(.bool j20), (vi 0)]), F2, rfl, hs18.clear, rfl⟩
end Go.Proofs.Ythbcnabeabcmlaa
namespace Go.Proofs.Ythbcnabeabcmlaa
open Go.Proofs
end Go.Proofs.Ythbcnabeabcmlaa
namespace Go.Proofs.Ythbcnabeabcmlaa
open Go.Proofs
end Go.Proofs.Ythbcnabeabcmlaa
namespace Go.Proofs.Ythbcnabeabcmlaa
open Go.Proofs
end Go.Proofs.Ythbcnabeabcmlaa
namespace Go.Proofs.Ythbcnabeabcmlaa
open Go.Proofs
end Go.Proofs.Ythbcnabeabcmlaa
namespace Go.Proofs.Ythbcnabeabcmlaa
open Go.Proofs
end Go.Proofs.Ythbcnabeabcmlaa
namespace Go.Proofs.Ythbcnabeabcmlaa
open Go.Proofs
end Go.Proofs.Ythbcnabeabcmlaa
namespace Go.Proofs.Ythbcnabeabcmlaa
open Go.Proofs
end Go.Proofs.Ythbcnabeabcmlaa
namespace Go.Proofs.Ythbcnabeabcmlaa
open Go.Proofs
end Go.Proofs.Ythbcnabeabcmlaa
namespace Go.Proofs.Ythbcnabeabcmlaa
open Go.Proofs
end Go.Proofs.Ythbcnabeabcmlaa
namespace Go.Proofs.Ythbcnabeabcmlaa
open Go.Proofs
end Go.Proofs.Ythbcnabeabcmlaa
namespace Go.Proofs.Ythbcnabeabcmlaa
theorem iter_catG {ρ σ α : Type} (g : List α → σ) {A0 : List α} {body : Int × σ → Option (Flow ρ (Int × σ))} {n : Nat} (K : Nat) (f : Nat → List α) (hf : ∀ i, i < n → (f i).length ≤ K)
  (hb : ∀ i st, i < n → st.length ≤ A0.length + i * K → body ((i : Int), g st) = some (.next (((i + 1 : Nat) : Int), g (st ++ f i)))) (he : ∀ st, body ((n : Int), g st) = some (.done ((n : Int), g st))) {N : Nat} (hN : n < N) :
  iter body N (0, g A0) = some (.done ((n : Int), g (A0 ++ cat n f))) := by
 obtain ⟨o, ho, rfl⟩ := iter_ex (body := body) n (fun i s => i ≤ n ∧ s = ((i : Int), g (A0 ++ cat i f))) (fun o => o = .done ((n : Int), g (A0 ++ cat n f))) (by
  rintro i s hi ⟨_, rfl⟩
  by_cases h : i < n
  ·left
   have := cat_le (n := i) (K := K) (f := f) (fun j hj => hf j (by omega))
   refine ⟨_, hb i _ h (by rw [List.length_append]; omega), ⟨by omega, ?_⟩, h⟩
   rw [cat_succ, List.append_assoc]
  ·have : i = n := by omega
   subst this
   exact .inr ⟨_, he _, fun _ h => (by cases h), rfl⟩) n N 0 (0, g A0) (by omega) ⟨by omega, by simp [cat]⟩ hN
 exact ho
section
variable {N : Nat} {s : System}
theorem bounds1_eq {σ : Type} {y : σ → Bound → Option (Bool × σ)} {g : List Bound → σ} (hy : ∀ A b, A.length + 1 < 4294967296 → y (g A) b = some (true, g (A ++ [b]))) (hf : FitS N s) (h : vCheck s = 0) : clocks_bounds_1 N y s (g []) = some (g (bnds s)) := by
 obtain ⟨k1, k2, k3, k4, k5, k6⟩ := check_ok h
 unfold clocks_bounds_1
 have hn := hf.n.2
 rw [iter_catG g (A0 := []) (body := clocks_bounds_1_L0 N y s (g [])) (n := s.Tracks.length) 800 (slips s) (fun i hi => slips_len h hi) (fun i st hi hst => by
  unfold clocks_bounds_1_L0
  have ht := hf.t _ (List.getElem_mem hi)
  have h400 := (track_facts (k3 _ (List.getElem_mem hi))).2.2
  simp only [lt_t hi, cond_true, idx_nat hi, Option.bind_some]
  rw [iter_catG g (A0 := st) (body := clocks_bounds_1_L1 N y s (g []) ((i : Int), g st) s.Tracks[i]) (n := s.Tracks[i].Times.length) 2 (slipB (i : Int) s.Tracks[i]) (fun _ _ => Nat.le_refl _) (fun j st2 hj hst2 => by
   unfold clocks_bounds_1_L1
   simp only [lt_t hj, cond_true, idx_nat hj, Option.bind_some, clocks_beginning]
   simp only [List.length_nil] at hst
   rw [hy _ _ (by omega)]
   simp only [Option.bind_some, Bool.not_true, cond_false]
   rw [hy _ _ (by simp; omega)]
   simp only [Option.bind_some, Bool.not_true, cond_false]
   rw [W64_succ (by omega)]
   simp [slipB, hj, beg]) (fun st2 => by unfold clocks_bounds_1_L1; simp only [lt_f]; rfl) ht.t.2]
  simp only [Option.bind_some, Flow.k]
  rw [W64_succ (by omega)]
  simp [slips, hi]) (fun st => by unfold clocks_bounds_1_L0; simp only [lt_f]; rfl) hn]
 simp only [Option.bind_some, Flow.k, List.nil_append]
 have hl1 := cat_le (n := s.Tracks.length) (K := 800) (f := slips s) (fun i hi => slips_len h hi)
 generalize hA : cat s.Tracks.length (slips s) = A at *
 rw [iter_catG g (A0 := A) (body := clocks_bounds_1_L2 N y s (g []) ((s.Tracks.length : Int), g A)) (n := s.Tracks.length) 1200 (ords s) (fun i hi => ords_len h hi) (fun i st hi hst => by
  unfold clocks_bounds_1_L2
  have ht := hf.t _ (List.getElem_mem hi)
  have hv := k3 _ (List.getElem_mem hi)
  have hvc := (track_facts hv).2.1
  have h400 := (track_facts hv).2.2
  simp only [lt_t hi, cond_true, idx_nat hi, Option.bind_some]
  have ht2 := ht.t.2
  rw [iter_catG g (A0 := st) (body := clocks_bounds_1_L3 N y s (g []) ((s.Tracks.length : Int), g A) ((i : Int), g st) s.Tracks[i]) (n := s.Tracks[i].Times.length - 1) 3 (ordB (i : Int) s.Tracks[i]) (fun j _ => ordB_len _ _ j) (fun j st2 hj hst2 => by
   unfold clocks_bounds_1_L3
   have hj1 : j + 1 < s.Tracks[i].Times.length := by omega
   have hj0 : j < s.Tracks[i].Times.length := by omega
   have hi0 := times_in hv hj0
   have hi1 := times_in hv hj1
   simp only
   rw [W64_succ (by omega)]
   simp only [lt_t hj1, cond_true, idx_nat hj1, idx_nat hj0, Option.bind_some, segment_c ht.j.2 hvc hi0.1 hi0.2, segment_c ht.j.2 hvc hi1.1 hi1.2, cnt_jmp _ (times_up hv hj1)]
   rw [hy _ _ (by omega)]
   simp only [Option.bind_some, Bool.not_true, cond_false]
   cases hjm : jmp s.Tracks[i].Clock.Jumps s.Tracks[i].Times[j] s.Tracks[i].Times[j + 1] with
   | true => simp [ordB, hj0, hj1, hjm]
   | false =>
    simp only [cond_false]
    rw [hy _ _ (by simp; omega)]
    simp only [Option.bind_some, Bool.not_true, cond_false]
    rw [hy _ _ (by simp; omega)]
    simp [ordB, hj0, hj1, hjm, gapB, widB]) (fun st2 => by
     unfold clocks_bounds_1_L3
     have e : decide (W64 (((s.Tracks[i].Times.length - 1 : Nat) : Int) + 1) < (s.Tracks[i].Times.length : Int)) = false := by
      rw [W64_succ (by omega)]; simp; omega
     simp only [e]; rfl) (by omega)]
  simp only [Option.bind_some, Flow.k]
  rw [W64_succ (by omega)]
  simp [ords, hi]) (fun st => by unfold clocks_bounds_1_L2; simp only [lt_f]; rfl) hn]
 simp only [Option.bind_some, Flow.k]
 have hl2 := cat_le (n := s.Tracks.length) (K := 1200) (f := ords s) (fun i hi => ords_len h hi)
 have he := hf.e.2
 rw [iter_catG g (A0 := A ++ cat s.Tracks.length (ords s)) (body := clocks_bounds_1_L4 N y s (g []) ((s.Tracks.length : Int), g A) ((s.Tracks.length : Int), g (A ++ cat s.Tracks.length (ords s)))) (n := s.Ties.length) 2 (tieB s) (fun j _ => tieB_len _ j) (fun j st hj hst => by
  unfold clocks_bounds_1_L4
  simp only [List.length_append] at hst
  simp only [lt_t hj, cond_true, idx_nat hj, Option.bind_some]
  rw [hy _ _ (by omega)]
  simp only [Option.bind_some, Bool.not_true, cond_false]
  rw [hy _ _ (by simp; omega)]
  simp only [Option.bind_some, Bool.not_true, cond_false]
  rw [W64_succ (by omega)]
  simp [tieB, hj]) (fun st => by unfold clocks_bounds_1_L4; simp only [lt_f]; rfl) he]
 simp only [Option.bind_some, Flow.k, bnds, hA, List.append_assoc]
def mapOf (A : List Bound) : List (Bound × Bool) := A.foldl (fun m b => mput m b true) []
theorem mapOf_snoc (A : List Bound) (b : Bound) : mapOf (A ++ [b]) = mput (mapOf A) b true := by unfold mapOf; rw [List.foldl_append]; rfl
theorem mapOf_get (A : List Bound) (b : Bound) : mgetD (mapOf A) b false = decide (b ∈ A) := by
 have : ∀ (A : List Bound) (m : List (Bound × Bool)), (∀ b v, mget m b = some v → v = true) → mgetD (A.foldl (fun m b => mput m b true) m) b false = (decide (b ∈ A) || mgetD m b false) := by
  intro A
  induction A with
  | nil => intro m _; simp
  | cons a A ih =>
   intro m hm
   rw [List.foldl_cons, ih _ (fun b v hv => by
    rw [mget_mput] at hv
    split at hv
    ·cases hv; rfl
    ·exact hm b v hv)]
   unfold mgetD
   rw [mget_mput]
   by_cases h : b = a
   ·simp [h]
   ·simp [h]
 unfold mapOf
 rw [this A [] (fun b v hv => by cases hv)]
 simp [mgetD, mget]
def refB (a b : Ref) : Bool := (a.Log == b.Log) && ((a.Line == b.Line) && true)
theorem refB_eq (a b : Ref) : refB a b = decide (a = b) := by
 obtain ⟨a1, a2⟩ := a
 obtain ⟨b1, b2⟩ := b
 unfold refB
 simp only [Bool.and_true, Ref.mk.injEq]
 rw [Bool.eq_iff_iff]
 simp
def prevOk (c : List Bound) (b : Bound) : Nat → Bool
 | 0 => true
 | j + 1 => match c[j]? with
  | none => true
  | some a => decide (b.From = a.To)
def okC (l c : List Bound) (i : Nat) : Bool := match c[i]? with
 | none => true
 | some b => decide (b ∈ l) && prevOk c b i
theorem okC_at {l c : List Bound} {i : Nat} (hi : i < c.length) : okC l c i = (decide (c[i] ∈ l) && prevOk c c[i] i) := by unfold okC; rw [List.getElem?_eq_getElem hi]
def vChain (l c : List Bound) : Bool := allB c.length (okC l c) && (decide ((c.length : Int) ≥ 1) && decide ((c.length : Int) ≤ 30000))
theorem chained_c (hf : FitS N s) (h : vCheck s = 0) {c : List Bound} (hc : Fit N c.length) : clocks_chained N s c = some (vChain (bnds s) c) := by
 unfold clocks_chained clocks_bounds
 rw [Option.bind_some]
 have h1 := hc.1
 have hb := bounds1_eq (N := N) (y := fun st x => ((clocks_chained_L0 N s c s) st x).map fun t => (true, t)) (g := mapOf) (fun A b _ => by rw [mapOf_snoc]; rfl) hf h
 rw [show mapOf [] = ([] : List (Bound × Bool)) from rfl] at hb
 rw [hb, Option.bind_some]
 rw [iter_check' (n := c.length) (okC (bnds s) c) false (fun i hi => by
  unfold clocks_chained_L1
  rw [lt_t hi, cond_true, idx_nat hi, Option.bind_some, mapOf_get, W64_succ (by omega)]
  unfold okC
  rw [List.getElem?_eq_getElem hi]
  simp only
  by_cases hm : c[i] ∈ bnds s
  ·simp only [hm, decide_true, Bool.not_true, cond_false, Bool.true_and]
   cases i with
   | zero => rfl
   | succ j =>
    have hp : decide (((j + 1 : Nat) : Int) > 0) = true := by simp
    have hj : j < c.length := by omega
    rw [hp, cond_true, pred_nat (by omega), idx_nat hj]
    simp only [prevOk, List.getElem?_eq_getElem hj, Option.bind_some]
    rw [show ((c[j + 1].From.Log == c[j].To.Log) && ((c[j + 1].From.Line == c[j].To.Line) && true)) = refB c[j + 1].From c[j].To from rfl, refB_eq]
    by_cases he : c[j + 1].From = c[j].To
    ·simp [he]
    ·simp [he]
  ·simp [hm]) (by unfold clocks_chained_L1; rw [lt_f]; rfl) hc.2]
 unfold vChain
 cases allB c.length (okC (bnds s) c) with
 | false => rfl
 | true => rfl
def wsum (l : List Bound) : Int := l.foldl (fun a b => W64 (a + b.Most)) 0
theorem sum_c {l : List Bound} (hl : Fit N l.length) : clocks_sum N l = some (wsum l) := by
 unfold clocks_sum
 have h1 := hl.1
 obtain ⟨o, ho, j, rfl⟩ := iter_ex (body := clocks_sum_L0 N l) l.length (fun i q => q = (wsum (l.take i), (i : Int))) (fun o => ∃ j, o = .done (wsum l, j)) (by
  rintro i q hi rfl
  unfold clocks_sum_L0
  simp only
  by_cases hlt : i < l.length
  ·left
   rw [lt_t hlt, cond_true, idx_nat hlt, Option.bind_some, W64_succ (by omega)]
   refine ⟨_, rfl, ?_, hlt⟩
   unfold wsum
   rw [List.take_succ_eq_append_getElem hlt, List.foldl_append]; rfl
  ·have : i = l.length := by omega
   subst this
   right
   rw [lt_f, cond_false]
   exact ⟨_, rfl, (fun _ h => by cases h), _, by simp; rfl⟩) l.length N 0 (0, 0) (by omega) rfl hl.2
 rw [ho]; rfl
theorem vChain_mem {l c : List Bound} (h : vChain l c = true) : (∀ b, b ∈ c → b ∈ l) ∧ 1 ≤ c.length ∧ c.length ≤ 30000 := by
 unfold vChain at h
 simp only [Bool.and_eq_true, decide_eq_true_eq] at h
 refine ⟨fun b hb => ?_, by omega, by omega⟩
 obtain ⟨i, hi, rfl⟩ := List.getElem_of_mem hb
 have := allB_t h.1 hi
 unfold okC at this
 rw [List.getElem?_eq_getElem hi] at this
 simp only [Bool.and_eq_true, decide_eq_true_eq] at this
 exact this.1
theorem wsum_eq {l c : List Bound} (hl : ∀ b, b ∈ l → -50000 ≤ b.Most ∧ b.Most ≤ 50000) (hc : ∀ b, b ∈ c → b ∈ l) (hn : c.length ≤ 30000) : wsum c = sumB c ∧ -(50000 * (c.length : Int)) ≤ sumB c ∧ sumB c ≤ 50000 * (c.length : Int) := by
 have : ∀ (c : List Bound) (a : Int), (∀ b, b ∈ c → b ∈ l) → -(50000 * (60000 - (c.length : Int))) ≤ a → a ≤ 50000 * (60000 - (c.length : Int)) → c.length ≤ 30000 → c.foldl (fun a b => W64 (a + b.Most)) a = a + sumB c ∧ -(50000 * (c.length : Int)) ≤ sumB c ∧ sumB c ≤ 50000 * (c.length : Int) := by
  intro c
  induction c with
  | nil => intro a _ _ _ _; simp [sumB]
  | cons b c ih =>
   intro a hc h1 h2 hn
   have hb := hl b (hc b (List.mem_cons_self ..))
   simp only [List.length_cons] at h1 h2 hn ⊢
   rw [List.foldl_cons, W64_id (by omega) (by omega)]
   have := ih (a + b.Most) (fun x hx => hc x (List.mem_cons_of_mem _ hx)) (by omega) (by omega) (by omega)
   rw [this.1, sumB_cons]
   omega
 have := this c 0 hc (by omega) (by omega) hn
 unfold wsum
 omega
def lastB (c : List Bound) : Bound := c.getD (c.length - 1) zb
def firstB (c : List Bound) : Bound := c.getD 0 zb
def vLoop (s : System) (c : List Bound) : Bool × Int := if vCheck s ≠ 0 then (false, vCheck s) else (vChain (bnds s) c && (decide ((firstB c).From = (lastB c).To) && decide (wsum c < 0)), 0)
theorem ends_at {c : List Bound} (h : 1 ≤ c.length) (h2 : c.length < 9223372036854775808) : idx c 0 = some (firstB c) ∧ idx c (W64 ((c.length : Int) - 1)) = some (lastB c) := by
 constructor
 ·rw [show (0 : Int) = ((0 : Nat) : Int) from rfl, idx_nat (show 0 < c.length by omega)]
  unfold firstB; rw [getD_at]
 ·rw [W64_id (by omega) (by omega), show (c.length : Int) - 1 = ((c.length - 1 : Nat) : Int) by omega, idx_nat (show c.length - 1 < c.length by omega)]
  unfold lastB; rw [getD_at]
theorem ValidLoop_c (hf : FitS N s) {c : List Bound} (hc : Fit N c.length) : clocks_ValidLoop N s c = some (vLoop s c) := by
 unfold clocks_ValidLoop vLoop
 rw [check_c hf, Option.bind_some]
 by_cases h : vCheck s = 0
 ·rw [if_neg (by omega)]
  have e : (vCheck s != 0) = false := by simp [h]
  rw [e, cond_false, chained_c hf h hc, Option.bind_some]
  cases hv : vChain (bnds s) c with
  | false => rfl
  | true =>
   obtain ⟨_, h1, h2⟩ := vChain_mem hv
   obtain ⟨e1, e2⟩ := ends_at h1 hc.1
   simp only [cond_true, e1, e2, Option.bind_some, sum_c hc]
   rw [show (((firstB c).From.Log == (lastB c).To.Log) && (((firstB c).From.Line == (lastB c).To.Line) && true)) = refB (firstB c).From (lastB c).To from rfl, refB_eq]
   by_cases he : (firstB c).From = (lastB c).To
   ·simp [he]
   ·simp [he]
 ·rw [if_pos h]
  have e : (vCheck s != 0) = true := by simpa using h
  rw [e]; rfl
end
end Go.Proofs.Ythbcnabeabcmlaa
namespace Go.Proofs.Ythbcnabeabcmlaa
open Go.Proofs
end Go.Proofs.Ythbcnabeabcmlaa
namespace Go.Proofs.Ythbcnabeabcmlaa
open BF
section
variable {N : Nat} {s : System}
theorem of_chainT : ∀ {c : List Bound} {x z : Ref}, c ≠ [] → chainT c x z → (firstB c).From = x ∧ (lastB c).To = z ∧ ∀ j (hj : j + 1 < c.length), c[j + 1].From = c[j].To
 | [], _, _, h, _ => absurd rfl h
 | [b], x, z, _, h => by
  obtain ⟨h1, h2⟩ := h
  exact ⟨h1, h2, fun j hj => by simp at hj⟩
 | b :: a :: c, x, z, _, h => by
  obtain ⟨h1, h2⟩ := h
  obtain ⟨e1, e2, e3⟩ := of_chainT (c := a :: c) (by simp) h2
  refine ⟨h1, ?_, fun j hj => ?_⟩
  ·have : lastB (b :: a :: c) = lastB (a :: c) := by unfold lastB; simp
   rw [this]; exact e2
  ·cases j with
   | zero => exact e1
   | succ j => exact e3 j (by simpa using hj)
theorem of_chain {l c : List Bound} {x z : Ref} {n : Int} (h : IsChain l c x z n) (hne : c ≠ []) (hlen : c.length ≤ 30000) : vChain l c = true ∧ (firstB c).From = x ∧ (lastB c).To = z := by
 obtain ⟨e1, e2, e3⟩ := of_chainT hne h.ch
 refine ⟨?_, e1, e2⟩
 have hp : 1 ≤ c.length := List.length_pos_iff.2 hne
 unfold vChain
 have : allB c.length (okC l c) = true := allB_of fun i hi => by
  rw [okC_at hi]
  have hm := h.sub _ (List.getElem_mem hi)
  cases i with
  | zero => simp [prevOk, hm]
  | succ j =>
   have hj : j < c.length := by omega
   have := e3 j hi
   simp [prevOk, hm, List.getElem?_eq_getElem hj, this]
 rw [this]
 simp; omega
theorem bad_loop {c : List Bound} (h : vCheck s = 0) (hb : BadLoop (bnds s) c) (hlen : c.length ≤ 30000) : vLoop s c = (true, 0) := by
 obtain ⟨hne, a, n, hc, hn⟩ := hb
 obtain ⟨e1, e2, e3⟩ := of_chain hc hne hlen
 have hs := wsum_eq (bnd_most h) hc.sub hlen
 unfold vLoop
 rw [if_neg (by omega), e1, e2, e3]
 have : wsum c < 0 := by rw [hs.1, hc.sum]; exact hn
 simp [this]
end
end Go.Proofs.Ythbcnabeabcmlaa
namespace Go.Proofs.Ythbcnabeabcmlaa
open Go.Proofs
def slices_Clone_api_Tie_api_Tie (N : Nat) (x0 : List Tie) : Option (List Tie) := apnd [] x0
theorem co_slices_Clone_api_Tie_api_Tie : CallOk Try.prog 128 := fun _ _ => by kernel_rfl
set_option maxRecDepth 100000 in
theorem c_slices_Clone_api_Tie_api_Tie (N : Nat) (w0 : World) (F0 : Mem) (hF : ∀ b o, F0 b = some o → w0.heap[b]? = some o) (x0 : List Tie) (a0_0 : Option Addr) (n0_0 : Nat) (hb0_0 : LC x0.length n0_0) (hs0_0 : SlA tTie F0 a0_0 x0) (r : List Tie) (h : slices_Clone_api_Tie_api_Tie N x0 = some r) :
  Calls Try.prog 128 ([.slice a0_0 x0.length n0_0] : List Value).toArray w0 (FRetO w0 F0 fun F' v L' => ∃ (a : Option Addr) (n : Nat) (e : Option Nat × Obj), v = .slice a r.length n ∧ L' = [e] ∧ RowR tTie 46 F' a n r e) := by
 have hs0 := HS.start hF
 obtain ⟨hlen, hr⟩ := apnd_spec h
 refine calls_of (n := 8) (c := bodyOf Try.f128) Try.func128 (by kernel_rfl) (by kernel_rfl) (by kernel_rfl) ?_
 refine CWP.seq (by kernel_rfl) ?_
 refine CWP.region (l := [0]) (by kernel_rfl) (by kernel_rfl) (by kernel_rfl) ?_
 refine RWP.val (dst := (some 2)) (ty := 23) (g := none) (by kernel_rfl) rfl (run_assign (x := (.const (.slice none 0 0))) (v := (.slice none 0 0)) rfl) ?_
 refine RWP.nil ?_
 refine thenQ_nrm ?_
 refine CWP.seq (by kernel_rfl) ?_
 refine CWP.seq (by kernel_rfl) ?_
 refine CWP.region (l := [0, 1]) (by kernel_rfl) (by kernel_rfl) (by kernel_rfl) ?_
 refine RWP.val (dst := (some 3)) (ty := 23) (g := none) (by kernel_rfl) rfl (run_move (x := (.tmp 0)) (v := (.slice a0_0 x0.length n0_0)) rfl) ?_
 refine RWP.val (dst := (some 4)) (ty := 4) (g := none) (by kernel_rfl) rfl (run_eqnil (e := 46) (t := 23) (t' := 23) (x := (.tmp 3)) (y := (.const (.slice none 0 0))) rfl rfl (by kernel_rfl)) ?_
 refine RWP.nil ?_
 refine thenQ_nrm ?_
 refine CWP.cond (t := a0_0.isNone) (by kernel_rfl) rfl (fun hc => ?_) (fun hc => ?_)
 ·have hn : a0_0 = none := by simpa using hc
  subst hn
  have hx : x0 = [] := by
   rcases hs0_0 with h | ⟨b, o, C, E, fz, ha, _⟩
   ·exact h
   ·cases ha
  subst hx
  simp at hr
  subst hr
  refine CWP.seq (by kernel_rfl) ?_
  refine CWP.region (l := [0]) (by kernel_rfl) (by kernel_rfl) (by kernel_rfl) ?_
  refine RWP.val (dst := (some 2)) (ty := 23) (g := none) (by kernel_rfl) rfl (run_assign (x := (.const (.slice none 0 0))) (v := (.slice none 0 0)) rfl) ?_
  refine RWP.nil ?_
  refine thenQ_nrm ?_
  refine CWP.ret (by kernel_rfl) ?_
  refine thenQ_ret ?_
  exact ⟨rfl, (.slice none 0 0), res_of (l := [.tmp 2]) (by kernel_rfl) (vs := [(.slice none 0 0)]) ⟨rfl, trivial⟩, (.slice none 0 0), F0, _, rfl, hs0.dummy (oc #[] 0), none, 0, _, rfl, rfl, RowR.nil _ _ _ _⟩
 ·refine CWP.skip (by kernel_rfl) ?_
  refine thenQ_nrm ?_
  refine CWP.seq (by kernel_rfl) ?_
  refine CWP.region (l := [0, 1, 2, 3]) (by kernel_rfl) (by kernel_rfl) (by kernel_rfl) ?_
  refine RWP.buildSlice (dst := (some 5)) (ty := 23) (g := none) (by kernel_rfl) rfl (t := 23) (len := 0) (parts := #[]) (vs := []) rfl (E := 46) (cs := []) (by kernel_rfl) hs0 (fun b w1 (hs1 : HS w0 F0 w1 F0 [(some b, .cells ([] : List Value).toArray 46 (0, 0))]) => ?_)
  have hr1 : RowR tTie 46 F0 (some ⟨b, 0, none⟩) 0 [] (some b, .cells ([] : List Value).toArray 46 (0, 0)) := RowR.lit rfl (by simp)
  refine RWP.val (dst := (some 6)) (ty := 23) (g := none) (by kernel_rfl) rfl (run_move (x := (.tmp 0)) (v := (.slice a0_0 x0.length n0_0)) rfl) ?_
  refine RWP.append (dst := (some 7)) (ty := 23) (g := none) (by kernel_rfl) rfl (x := (.tmp 5)) (y := (.tmp 6)) (t := 23) (t2 := 23) (by_ := 32) (z := (.agg #[(vi 0), (vi 0), (vi 0), (vi 0)])) (a2 := a0_0) (c2 := n0_0) (m := x0) (T := tTie) (E := 46) (a := (some ⟨b, 0, none⟩)) (cap := 0) (l := []) rfl rfl (by kernel_rfl) (by decide) (by kernel_rfl) (by kernel_rfl) rfl oTie hs1 (k := 0) rfl hr1 (SlA.rd hs1 hs0_0) (r := r) h (fun a2 n2 e2 w2 (hs2 : HS w0 F0 w2 F0 [e2]) hr2 => ?_)
  refine RWP.val (dst := (some 2)) (ty := 23) (g := none) (by kernel_rfl) rfl (run_assign (x := (.tmp 7)) (v := (.slice a2 r.length n2)) rfl) ?_
  refine RWP.nil ?_
  refine thenQ_nrm ?_
  refine CWP.ret (by kernel_rfl) ?_
  exact ⟨rfl, (.slice a2 r.length n2), res_of (l := [.tmp 2]) (by kernel_rfl) (vs := [(.slice a2 r.length n2)]) ⟨rfl, trivial⟩, (.slice a2 r.length n2), F0, _, rfl, hs2, a2, n2, e2, rfl, rfl, hr2⟩
end Go.Proofs.Ythbcnabeabcmlaa
namespace Go.Proofs.Ythbcnabeabcmlaa
open Go.Proofs
def clocks_added_1_L0 {σ : Type} (N : Nat) (y : (σ → (Bool × (List Bound)) → Option (Bool × σ))) (z0 : System) (z1 : (List Tie)) (s : σ) (r1 : (List Tie)) : (Int × List Tie × σ) → Option (Flow σ (Int × List Tie × σ)) := fun s20 =>
 (bif (decide (s20.1 < (z1.length : Int))) then ((idx z1 s20.1).bind fun x47 => ((apnd s20.2.1 [x47]).bind fun r71 => ((clocks_loopOf N ({ Tracks := z0.Tracks, Ties := r71, Window := z0.Window } : System)).bind fun r82 => ((y s20.2.2 ((r82.isEmpty), r82)).bind fun q93 => (bif (!q93.1) then some (.ret q93.2) else ((bif (!r82.isEmpty) then ((sub r71 0 (W64 ((r71.length : Int) - 1))).bind fun r123 => some r123) else some r71).bind fun j112 => some (.next ((W64 (s20.1 + 1)), j112, q93.2)))))))) else some (.done (s20.1, s20.2.1, s20.2.2)))
def clocks_added_1 {σ : Type} (N : Nat) (y : σ → (Bool × (List Bound)) → Option (Bool × σ)) (z0 : System) (z1 : (List Tie)) (s : σ) : Option σ :=
 ((slices_Clone_api_Tie_api_Tie N z0.Ties).bind fun r1 => ((iter (clocks_added_1_L0 N y z0 z1 s r1) N (0, r1, s)).bind fun o => o.k (fun r => some r) (fun s32 => some s32.2.2)))
theorem co_clocks_added_1 : CallOk Try.prog 127 := fun _ _ => by kernel_rfl
set_option maxHeartbeats 4000000 in
set_option maxRecDepth 100000 in
theorem c_clocks_added_1 (N : Nat) (F0 : Mem) (z0 : System) (az0_0 : Option Addr) (nz0_0 : Nat) (hbz0_0 : LC z0.Tracks.length nz0_0) (hsz0_0 : SlA tTrack F0 az0_0 z0.Tracks) (az0_1 : Option Addr) (nz0_1 : Nat) (hbz0_1 : LC z0.Ties.length nz0_1) (hsz0_1 : SlA tTie F0 az0_1 z0.Ties) (bz0 : Nat) (z1 : (List Tie)) (az1_0 : Option Addr) (nz1_0 : Nat) (hbz1_0 : LC z1.length nz1_0) (hsz1_0 : SlA tTie F0 az1_0 z1) (bz1 : Nat) (hz1 : F0 bz1 = some (oc #[(.slice az1_0 z1.length nz1_0)] 23)) :
  SeqOk Try.prog 127 [(.pointer (some ⟨bz0, 0, none⟩)), (.pointer (some ⟨bz1, 0, none⟩))] F0 [(sb bz0 (kSystem z0 az0_0 nz0_0 az0_1 nz0_1) 25)] enc155 ok155 px155 (fun {_} y s => clocks_added_1 N y z0 z1 s) := by
 intro σ wb w0 Fb F1 l y J s r Lf le01 hJm hs0 hJ hY h
 have hs0 : HS wb Fb w0 F1 ((sb bz0 (kSystem z0 az0_0 nz0_0 az0_1 nz0_1) 25) :: Lf) := hs0
 refine calls_of (n := 42) (c := bodyOf Try.f127) Try.func127 (by kernel_rfl) (by kernel_rfl) (by kernel_rfl) ?_
 refine Sq (Rg [0, 1, 2, 3, 4] ?_)
 refine V 7 0 (fa 25 1 1 1 1 bz0 0 1) ?_
 refine V 8 23 (ld 23 7 bz0 1 false 1 (.slice az0_1 z0.Ties.length nz0_1) (hs0.ownAt (k := 0) rfl)) ?_
 obtain ⟨r1, hr2, h3⟩ := bind_some h
 refine RWP.callO (dst := (some 9)) (ty := 23) (g := none) (by kernel_rfl) rfl (f0 := (.func 128)) (aos := #[(.tmp 8)]) (ats := #[23]) (fid := 128) (first := #[]) (cap := #[]) (args := [(.slice az0_1 z0.Ties.length nz0_1)]) rfl co_slices_Clone_api_Tie_api_Tie (rfl) hs0 (c_slices_Clone_api_Tie_api_Tie N w0 F1 hs0.pers (z0.Ties) az0_1 nz0_1 hbz0_1 (SlA.mono hsz0_1 le01) _ hr2) ?_
 rintro _ F2 w5 _ hs6 le7 ⟨a9, n10, e11, rfl, rfl, hr12⟩
 have hs14 : HS wb Fb w5 F2 (e11 :: (sb bz0 (kSystem z0 az0_0 nz0_0 az0_1 nz0_1) 25) :: Lf) := hs6
 refine V 10 0 (fa 25 1 1 1 1 bz0 0 1) ?_
 refine RWP.store (ty := 0) (g := none) (by kernel_rfl) rfl (x := (.tmp 10)) (y := (.tmp 9)) (t := 23) (gg := false) (s := 1) (v := (.slice a9 r1.length n10)) (b := bz0) (o := 1) (C := (kSystem z0 az0_0 nz0_0 az0_1 nz0_1)) rfl rfl (by kernel_rfl) hs14 (k := 1) rfl rfl rfl rfl (C' := #[(.slice az0_0 z0.Tracks.length nz0_0), (.slice a9 r1.length n10), (vi z0.Window)]) rfl (fun w15 (hs16 : HS wb Fb w15 F2 (e11 :: (sb bz0 #[(.slice az0_0 z0.Tracks.length nz0_0), (.slice a9 r1.length n10), (vi z0.Window)] 25) :: Lf)) => ?_)
 refine Nss (Rg [0, 1, 2] ?_)
 refine V 11 23 (ld 23 2 bz1 0 false 1 (.slice az1_0 z1.length nz1_0) (hs16.pers _ _ ((le01.trans le7) _ _ hz1))) ?_
 refine V 12 3 (ln 11 23 az1_0 z1.length nz1_0 46 4 32) ?_
 refine V 13 3 (run_move (x := (.const (vi 0))) (v := (vi 0)) rfl) ?_
 refine Nt ?_
 obtain ⟨o17, ho18, h19⟩ := bind_some h3
 refine CWP.cut (fun f w => ∃ (s32 : (Int × List Tie × σ)) (F4 : Mem) (Lf36 : Own), o17 = .done s32 ∧ HS wb Fb w F4 Lf36 ∧ Mem.le F2 F4 ∧ f.d = [] ∧ J s32.2.2 F4 Lf36) ?_ ?_
 ·refine Bk ?_
  refine CWP.loop (by kernel_rfl) (fun m f w => ∃ (s20 : (Int × List Tie × σ)) (F3 : Mem) (as20_1 : Option Addr) (ns20_1 : Nat) (es20_1 : Option Nat × Obj) (Lf24 : Own), iter (clocks_added_1_L0 N y z0 z1 s r1) m s20 = some o17 ∧ HS wb Fb w F3 (es20_1 :: (sb bz0 #[(.slice az0_0 z0.Tracks.length nz0_0), (.slice as20_1 s20.2.1.length ns20_1), (vi z0.Window)] 25) :: Lf24) ∧ Mem.le F2 F3 ∧ f.d = [] ∧ f 0 = (.func (.yield l) #[] #[]) ∧ f 1 = (.pointer (some ⟨bz0, 0, none⟩)) ∧ f 11 = (.slice az1_0 z1.length nz1_0) ∧ f 12 = (vi (z1.length : Int)) ∧ f 13 = (vi s20.1) ∧ RowR tTie 46 F3 as20_1 ns20_1 s20.2.1 es20_1 ∧ J s20.2.2 F3 Lf24) N ⟨(0, r1, s), F2, a9, n10, e11, Lf, ho18, hs16, (Mem.le.refl _), rfl, rfl, rfl, rfl, rfl, rfl, hr12, (hJm _ _ _ _ hJ le7)⟩ ?_
  rintro m39 f w21 ⟨s20, F3, as20_1, ns20_1, es20_1, Lf24, hit40, hs22, le23, e26, e27, e28, e29, e30, e31, hrs20_1, hJ25⟩
  obtain ⟨m41, fl42, rfl, hb43, hnx44⟩ := iter_step hit40
  refine Sq (Rg [0] ?_)
  refine V 14 0 (run_lss (t := 3) (t' := 3) (x := (.tmp 13)) (y := (.tmp 12)) (k := .i64) (a := s20.1) (b := (z1.length : Int)) e31 e30) ?_
  refine Nss ?_
  refine CWP.cond (t := (decide (s20.1 < (z1.length : Int)))) (by kernel_rfl) rfl (fun hb45 => ?_) (fun hb45 => ?_)
  ·have h46 := cond_t hb43 hb45
   refine Sc ?_
   refine thenQ_nrm ?_
   refine Sq ?_
   refine Bk ?_
   refine Sq (Rg [0, 1, 2, 3] ?_)
   obtain ⟨x47, hx48, h50⟩ := bind_some h46
   obtain ⟨hi49, hx48'⟩ := idx_spec hx48
   obtain ⟨b51, o52, C53, E54, fz55, rfl, hF57, hE58⟩ := SlA.open (SlA.mono hsz1_0 ((le01.trans le7).trans le23)) hx48'
   have hc60 := hE58 _ _ hx48'
   refine V 15 0 (run_index (t := 23) (x := (.tmp 11)) (y := (.tmp 13)) (b := b51) (o := o52) (E := 46) (s := 4) (by_ := 32) e29 e31 (by kernel_rfl) hi49) ?_
   refine V 16 46 (lx 46 15 0 4 true 4 (.agg (kTie x47)) (hs22.pers _ _ hF57) hc60) ?_
   refine Al 5 0 46 #[(vi 0), (vi 0), (vi 0), (vi 0)] hs22 (fun b61 w62 (hs63 : HS wb Fb w62 F3 ((sb b61 #[(vi 0), (vi 0), (vi 0), (vi 0)] 46) :: es20_1 :: (sb bz0 #[(.slice az0_0 z0.Tracks.length nz0_0), (.slice as20_1 s20.2.1.length ns20_1), (vi z0.Window)] 25) :: Lf24)) => ?_)
   refine RWP.store (ty := 0) (g := none) (by kernel_rfl) rfl (x := (.tmp 5)) (y := (.tmp 16)) (t := 46) (gg := true) (s := 4) (v := (.agg (kTie x47))) (b := b61) (o := 0) (C := #[(vi 0), (vi 0), (vi 0), (vi 0)]) rfl rfl (by kernel_rfl) hs63 (k := 0) rfl rfl rfl rfl (C' := (kTie x47)) rfl (fun w64 (hs65 : HS wb Fb w64 F3 ((sb b61 (kTie x47) 46) :: es20_1 :: (sb bz0 #[(.slice az0_0 z0.Tracks.length nz0_0), (.slice as20_1 s20.2.1.length ns20_1), (vi z0.Window)] 25) :: Lf24)) => ?_)
   refine Nss (Rg [0, 1, 2, 3, 4, 5, 6] ?_)
   refine V 17 0 (fa 25 1 1 1 1 bz0 0 1 e28) ?_
   refine V 18 23 (ld 23 17 bz0 1 false 1 (.slice as20_1 s20.2.1.length ns20_1) (hs65.ownAt (k := 2) rfl)) ?_
   refine V 19 46 (ld 46 5 b61 0 true 4 (.agg (kTie x47)) (hs65.ownAt (k := 0) rfl)) ?_
   refine RWP.buildSlice (dst := (some 20)) (ty := 23) (g := none) (by kernel_rfl) rfl (t := 23) (len := 1) (parts := #[(0, (.tmp 19))]) (vs := [(0, (.agg (kTie x47)))]) (rfl) (E := 46) (cs := [(vi x47.A.Log), (vi x47.A.Line), (vi x47.B.Log), (vi x47.B.Line)]) (by kernel_rfl) hs65 (fun b66 w67 (hs68 : HS wb Fb w67 F3 ((some b66, .cells ([(vi x47.A.Log), (vi x47.A.Line), (vi x47.B.Log), (vi x47.B.Line)] : List Value).toArray 46 (0, 0)) :: (sb b61 (kTie x47) 46) :: es20_1 :: (sb bz0 #[(.slice az0_0 z0.Tracks.length nz0_0), (.slice as20_1 s20.2.1.length ns20_1), (vi z0.Window)] 25) :: Lf24)) => ?_)
   have hr70 : RowR tTie 46 F3 (some ⟨b66, 0, none⟩) 1 [x47] (some b66, .cells ([(vi x47.A.Log), (vi x47.A.Line), (vi x47.B.Log), (vi x47.B.Line)] : List Value).toArray 46 (0, 0)) := RowR.lit ⟨rfl, rfl⟩ (by simp)
   obtain ⟨r71, hap72, h73⟩ := bind_some h50
   refine RWP.append (dst := (some 21)) (ty := 23) (g := none) (by kernel_rfl) rfl (x := (.tmp 18)) (y := (.tmp 20)) (t := 23) (t2 := 23) (by_ := 32) (z := (.agg #[(vi 0), (vi 0), (vi 0), (vi 0)])) (a2 := (some ⟨b66, 0, none⟩)) (c2 := 1) (m := [x47]) (T := tTie) (E := 46) (a := as20_1) (cap := ns20_1) (l := s20.2.1) rfl rfl (by kernel_rfl) (by decide) (by kernel_rfl) (by kernel_rfl) rfl oTie hs68 (k := 2) rfl hrs20_1 (RowR.rd hs68 (k := 0) rfl hr70) (r := r71) hap72 (fun a74 n75 e76 w77 (hs78 : HS wb Fb w77 F3 ((some b66, .cells ([(vi x47.A.Log), (vi x47.A.Line), (vi x47.B.Log), (vi x47.B.Line)] : List Value).toArray 46 (0, 0)) :: (sb b61 (kTie x47) 46) :: e76 :: (sb bz0 #[(.slice az0_0 z0.Tracks.length nz0_0), (.slice as20_1 s20.2.1.length ns20_1), (vi z0.Window)] 25) :: Lf24)) hr79 => ?_)
   refine V 22 0 (fa 25 1 1 1 1 bz0 0 1 e28) ?_
   refine RWP.store (ty := 0) (g := none) (by kernel_rfl) rfl (x := (.tmp 22)) (y := (.tmp 21)) (t := 23) (gg := false) (s := 1) (v := (.slice a74 r71.length n75)) (b := bz0) (o := 1) (C := #[(.slice az0_0 z0.Tracks.length nz0_0), (.slice as20_1 s20.2.1.length ns20_1), (vi z0.Window)]) rfl rfl (by kernel_rfl) hs78 (k := 3) rfl rfl rfl rfl (C' := #[(.slice az0_0 z0.Tracks.length nz0_0), (.slice a74 r71.length n75), (vi z0.Window)]) rfl (fun w80 (hs81 : HS wb Fb w80 F3 ((some b66, .cells ([(vi x47.A.Log), (vi x47.A.Line), (vi x47.B.Log), (vi x47.B.Line)] : List Value).toArray 46 (0, 0)) :: (sb b61 (kTie x47) 46) :: e76 :: (sb bz0 #[(.slice az0_0 z0.Tracks.length nz0_0), (.slice a74 r71.length n75), (vi z0.Window)] 25) :: Lf24)) => ?_)
   refine Nss (Rg [0, 1, 2] ?_)
   refine V 23 25 (ld 25 1 bz0 0 true 3 (.agg #[(.slice az0_0 z0.Tracks.length nz0_0), (.slice a74 r71.length n75), (vi z0.Window)]) (hs81.ownAt (k := 3) rfl) e28) ?_
   obtain ⟨r82, hr83, h84⟩ := bind_some h73
   refine RWP.callLent (q := 2) (T := tBound) (r := r82) (dst := (some 24)) (ty := 57) (g := none) (by kernel_rfl) rfl (f0 := (.func 103)) (aos := #[(.tmp 23)]) (ats := #[25]) (fid := 103) (first := #[]) (cap := #[]) (args := [(.agg #[(.slice az0_0 z0.Tracks.length nz0_0), (.slice a74 r71.length n75), (vi z0.Window)])]) rfl co_clocks_loopOf (rfl) hs81 rfl (fun _ _ _ _ h => h) (c_clocks_loopOf N w80 (addF F3 e76) (HS.lend hs81 (q := 2) rfl).2 ({ Tracks := z0.Tracks, Ties := r71, Window := z0.Window } : System) az0_0 nz0_0 hbz0_0 (SlA.mono (SlA.mono hsz0_0 ((le01.trans le7).trans le23)) (HS.lend hs81 (q := 2) rfl).1) a74 n75 (RowR.bound hr79) (RowR.freeze hr79 (HS.lend hs81 (q := 2) rfl).1) _ hr83) (fun a85 n86 F5 w87 (hs88 : HS wb Fb w87 F5 ((some b66, .cells ([(vi x47.A.Log), (vi x47.A.Line), (vi x47.B.Log), (vi x47.B.Line)] : List Value).toArray 46 (0, 0)) :: (sb b61 (kTie x47) 46) :: e76 :: (sb bz0 #[(.slice az0_0 z0.Tracks.length nz0_0), (.slice a74 r71.length n75), (vi z0.Window)] 25) :: Lf24)) le89 hb90 hl91 nf92 => ?_)
   refine V 6 57 (ma 24 (.slice a85 r82.length n86)) ?_
   refine Nss ?_
   refine Sq (Rg [0, 1, 2, 3, 4, 5] ?_)
   refine V 25 155 (mv 0 (.func (.yield l) #[] #[]) e27) ?_
   refine V 26 57 (mv 6 (.slice a85 r82.length n86)) ?_
   refine V 27 4 (run_eqnil' (e := 103) (t := 57) (t' := 57) (x := (.tmp 26)) (y := (.const (.slice none 0 0))) hl91 nf92 rfl rfl (by kernel_rfl)) ?_
   refine V 28 57 (mv 6 (.slice a85 r82.length n86)) ?_
   obtain ⟨q93, hq94, h95⟩ := bind_some h84
   refine RWP.yield (dst := (some 29)) (ty := 4) (g := none) (by kernel_rfl) rfl (f0 := (.tmp 25)) (aos := #[(.tmp 27), (.tmp 28)]) (ats := #[4, 57]) (l := l) (args := [(.bool (r82.isEmpty)), (.slice a85 r82.length n86)]) rfl (rfl) (hY s20.2.2 ((r82.isEmpty), r82, a85, n86) w87 F5 [(some b66, .cells ([(vi x47.A.Log), (vi x47.A.Line), (vi x47.B.Log), (vi x47.B.Line)] : List Value).toArray 46 (0, 0)), (sb b61 (kTie x47) 46), e76, (sb bz0 #[(.slice az0_0 z0.Tracks.length nz0_0), (.slice a74 r71.length n75), (vi z0.Window)] 25)] Lf24 q93 ((le7.trans le23).trans le89) ⟨hb90, hl91⟩ (hJm _ _ _ _ hJ25 le89) hs88 hq94) ?_
   rintro _ w96 ⟨F6, Lf100, rfl, hs97, le98, hJ99⟩
   have hs101 : HS wb Fb w96 F6 ((some b66, .cells ([(vi x47.A.Log), (vi x47.A.Line), (vi x47.B.Log), (vi x47.B.Line)] : List Value).toArray 46 (0, 0)) :: (sb b61 (kTie x47) 46) :: e76 :: (sb bz0 #[(.slice az0_0 z0.Tracks.length nz0_0), (.slice a74 r71.length n75), (vi z0.Window)] 25) :: Lf100) := hs97
   refine ⟨_, rfl, ?_⟩
   refine V 30 4 (run_not (t := 4) (x := (.tmp 29)) (a := q93.1) rfl) ?_
   refine Nt ?_
   refine CWP.cond (t := (!q93.1)) (by kernel_rfl) rfl (fun hb102 => ?_) (fun hb102 => ?_)
   ·have h103 := cond_t h95 hb102
    refine CWP.ret (by kernel_rfl) ?_
    refine thenQ_ret ?_
    refine blockQ_ret ?_
    refine thenQ_ret ?_
    refine thenQ_ret ?_
    refine blockQ_ret ?_
    have hret := iter_ret h103 hnx44
    subst hret
    refine .inr ?_
    have hs104 : HS wb Fb w96 F6 ((sb b61 (kTie x47) 46) :: e76 :: (sb bz0 #[(.slice az0_0 z0.Tracks.length nz0_0), (.slice a74 r71.length n75), (vi z0.Window)] 25) :: Lf100) := hs101.drop 0
    have hs105 : HS wb Fb w96 F6 (e76 :: (sb bz0 #[(.slice az0_0 z0.Tracks.length nz0_0), (.slice a74 r71.length n75), (vi z0.Window)] 25) :: Lf100) := hs104.drop 0
    have hs106 : HS wb Fb w96 F6 ((sb bz0 #[(.slice az0_0 z0.Tracks.length nz0_0), (.slice a74 r71.length n75), (vi z0.Window)] 25) :: Lf100) := hs105.drop 0
    have hs107 : HS wb Fb w96 F6 Lf100 := hs106.drop 0
    have hfin := some_inj h19
    subst hfin
    exact ⟨e26, .tuple #[], res_of (l := []) (by kernel_rfl) (vs := []) trivial, F6, Lf100, rfl, hs107, (((le7.trans le23).trans le89).trans le98), hJ99⟩
   ·have h108 := cond_f h95 hb102
    refine Sc ?_
    refine thenQ_nrm ?_
    refine Sq (Rg [0, 1] ?_)
    refine V 31 57 (mv 6 (.slice a85 r82.length n86)) ?_
    refine V 32 4 (run_nenil' (e := 103) (t := 57) (t' := 57) (x := (.tmp 31)) (y := (.const (.slice none 0 0))) (SlA.mono hl91 le98) nf92 rfl rfl (by kernel_rfl)) ?_
    refine Nt ?_
    obtain ⟨j112, hj119, h120⟩ := bind_some h108
    refine CWP.cut (fun f w => ∃ (F7 : Mem) (aj112_0 : Option Addr) (nj112_0 : Nat) (ej112_0 : Option Nat × Obj), HS wb Fb w F7 (ej112_0 :: (sb bz0 #[(.slice az0_0 z0.Tracks.length nz0_0), (.slice aj112_0 j112.length nj112_0), (vi z0.Window)] 25) :: Lf100) ∧ Mem.le F6 F7 ∧ f.d = [] ∧ f 0 = (.func (.yield l) #[] #[]) ∧ f 1 = (.pointer (some ⟨bz0, 0, none⟩)) ∧ f 11 = (.slice (some ⟨b51, o52, none⟩) z1.length nz1_0) ∧ f 12 = (vi (z1.length : Int)) ∧ f 13 = (vi s20.1) ∧ RowR tTie 46 F7 aj112_0 nj112_0 j112 ej112_0) ?_ ?_
    ·refine CWP.cond (t := (!r82.isEmpty)) (by kernel_rfl) rfl (fun hb121 => ?_) (fun hb121 => ?_)
     ·have h122 := cond_t hj119 hb121
      refine Rg [0, 1, 2, 3, 4, 5, 6, 7, 8] ?_
      refine V 33 0 (fa 25 1 1 1 1 bz0 0 1 e28) ?_
      refine V 34 23 (ld 23 33 bz0 1 false 1 (.slice a74 r71.length n75) (hs101.ownAt (k := 3) rfl)) ?_
      refine V 35 0 (fa 25 1 1 1 1 bz0 0 1 e28) ?_
      refine V 36 23 (ld 23 35 bz0 1 false 1 (.slice a74 r71.length n75) (hs101.ownAt (k := 3) rfl)) ?_
      refine V 37 3 (ln 36 23 a74 r71.length n75 46 4 32) ?_
      refine V 38 3 (run_sub (t := 3) (t' := 3) (x := (.tmp 37)) (y := (.const (vi 1))) (k := .i64) (a := (r71.length : Int)) (b := 1) rfl rfl) ?_
      obtain ⟨r123, hr124, h125⟩ := bind_some h122
      refine RWP.sliceRow (T := tTie) (x := (.tmp 34)) (y := (.tmp 38)) (t := 23) (E := 46) (by_ := 32) (c := n75) (a := a74) (l := r71) (r := r123) (ih := (W64 ((r71.length : Int) - 1))) (dst := (some 39)) (ty := 23) (g := none) (by kernel_rfl) rfl rfl (by kernel_rfl) (by kernel_rfl) (hr79.mono (le89.trans le98)) rfl hr124 (fun hr126 => ?_)
      refine V 40 0 (fa 25 1 1 1 1 bz0 0 1 e28) ?_
      refine RWP.store (ty := 0) (g := none) (by kernel_rfl) rfl (x := (.tmp 40)) (y := (.tmp 39)) (t := 23) (gg := false) (s := 1) (v := (.slice a74 r123.length n75)) (b := bz0) (o := 1) (C := #[(.slice az0_0 z0.Tracks.length nz0_0), (.slice a74 r71.length n75), (vi z0.Window)]) rfl rfl (by kernel_rfl) hs101 (k := 3) rfl rfl rfl rfl (C' := #[(.slice az0_0 z0.Tracks.length nz0_0), (.slice a74 r123.length n75), (vi z0.Window)]) rfl (fun w127 (hs128 : HS wb Fb w127 F6 ((some b66, .cells ([(vi x47.A.Log), (vi x47.A.Line), (vi x47.B.Log), (vi x47.B.Line)] : List Value).toArray 46 (0, 0)) :: (sb b61 (kTie x47) 46) :: e76 :: (sb bz0 #[(.slice az0_0 z0.Tracks.length nz0_0), (.slice a74 r123.length n75), (vi z0.Window)] 25) :: Lf100)) => ?_)
      refine RWP.nil ?_
      obtain rfl := some_inj h125
      have hs129 : HS wb Fb w127 F6 ((sb b61 (kTie x47) 46) :: e76 :: (sb bz0 #[(.slice az0_0 z0.Tracks.length nz0_0), (.slice a74 r123.length n75), (vi z0.Window)] 25) :: Lf100) := hs128.drop 0
      have hs130 : HS wb Fb w127 F6 (e76 :: (sb bz0 #[(.slice az0_0 z0.Tracks.length nz0_0), (.slice a74 r123.length n75), (vi z0.Window)] 25) :: Lf100) := hs129.drop 0
      exact .inl ⟨rfl, F6, a74, n75, e76, hs130, (Mem.le.refl _), e26, e27, e28, e29, e30, e31, hr126⟩
     ·have h131 := cond_f hj119 hb121
      refine Sc ?_
      obtain rfl := some_inj h131
      have hs132 : HS wb Fb w96 F6 ((sb b61 (kTie x47) 46) :: e76 :: (sb bz0 #[(.slice az0_0 z0.Tracks.length nz0_0), (.slice a74 r71.length n75), (vi z0.Window)] 25) :: Lf100) := hs101.drop 0
      have hs133 : HS wb Fb w96 F6 (e76 :: (sb bz0 #[(.slice az0_0 z0.Tracks.length nz0_0), (.slice a74 r71.length n75), (vi z0.Window)] 25) :: Lf100) := hs132.drop 0
      exact .inl ⟨rfl, F6, a74, n75, e76, hs133, (Mem.le.refl _), e26, e27, e28, e29, e30, e31, (hr79.mono (le89.trans le98))⟩
    ·rintro f w109 ⟨F7, aj112_0, nj112_0, ej112_0, hs110, le111, e113, e114, e115, e116, e117, e118, hrj112_0⟩
     refine blockQ_nrm ?_
     refine thenQ_nrm ?_
     refine Rg [0, 1] ?_
     refine V 41 3 (run_add (t := 3) (t' := 3) (x := (.tmp 13)) (y := (.const (vi 1))) (k := .i64) (a := s20.1) (b := 1) e118 rfl) ?_
     refine V 13 3 (mv 41 (vi (W64 (s20.1 + 1)))) ?_
     refine RWP.nil ?_
     have hn134 := iter_next h120 hnx44
     exact ⟨m41, Nat.lt_succ_self _, ((W64 (s20.1 + 1)), j112, q93.2), F7, aj112_0, nj112_0, ej112_0, Lf100, hn134, hs110, (((le23.trans le89).trans le98).trans le111), e113, e114, e115, e116, e117, rfl, hrj112_0, (hJm _ _ _ _ hJ99 le111)⟩
  ·have h135 := cond_f hb43 hb45
   refine CWP.exit (by kernel_rfl) ?_
   refine thenQ_ex ?_
   refine thenQ_ex ?_
   refine blockQ_hit rfl ?_
   have hs136 : HS wb Fb w21 F3 ((sb bz0 #[(.slice az0_0 z0.Tracks.length nz0_0), (.slice as20_1 s20.2.1.length ns20_1), (vi z0.Window)] 25) :: Lf24) := hs22.drop 0
   have hs137 : HS wb Fb w21 F3 Lf24 := hs136.drop 0
   have ho138 := iter_done h135 hnx44
   exact .inl ⟨rfl, (s20.1, s20.2.1, s20.2.2), F3, Lf24, ho138, hs137, le23, e26, hJ25⟩
 ·rintro f w33 ⟨s32, F4, Lf36, rfl, hs34, le35, e38, hJ37⟩
  have h139 := k_done h19
  have hfin := some_inj h139
  subst hfin
  exact ⟨e38, .tuple #[], res_of (l := []) (by kernel_rfl) (vs := []) trivial, F4, Lf36, rfl, hs34, (le7.trans le35), hJ37⟩
end Go.Proofs.Ythbcnabeabcmlaa
namespace Go.Proofs.Ythbcnabeabcmlaa
open Go.Proofs
def clocks_offered_1 (N : Nat) (x0 : Tie) (z0 : System) : Option Bool :=
 (((clocks_has N z0 x0.A).bind fun r12 => (bif (!r12) then some true else ((clocks_has N z0 x0.B).bind fun r24 => some (!r24)))).bind fun j7 => some j7)
theorem co_clocks_offered_1 : CallOk Try.prog 125 := fun _ _ => by kernel_rfl
set_option maxHeartbeats 4000000 in
set_option maxRecDepth 100000 in
theorem c_clocks_offered_1 (N : Nat) (w0 : World) (F0 : Mem) (hF : ∀ b o, F0 b = some o → w0.heap[b]? = some o) (x0 : Tie) (bz0 : Nat) (z0 : System) (az0_0 : Option Addr) (nz0_0 : Nat) (hbz0_0 : LC z0.Tracks.length nz0_0) (hsz0_0 : SlA tTrack F0 az0_0 z0.Tracks) (az0_1 : Option Addr) (nz0_1 : Nat) (hbz0_1 : LC z0.Ties.length nz0_1) (hsz0_1 : SlA tTie F0 az0_1 z0.Ties) (hz0 : F0 bz0 = some (oc (kSystem z0 az0_0 nz0_0 az0_1 nz0_1) 25)) (r : Bool) (h : clocks_offered_1 N x0 z0 = some r) :
  Calls Try.prog 125 ([(.agg (kTie x0)), (.pointer (some ⟨bz0, 0, none⟩))] : List Value).toArray w0 (FRet w0 F0 fun F' v => v = (.bool r)) := by
 have hs0 := HS.start hF
 refine calls_of (n := 16) (c := bodyOf Try.f125) Try.func125 (by kernel_rfl) (by kernel_rfl) (by kernel_rfl) ?_
 refine Sq (Rg [0, 1] ?_)
 refine Bx 2 0 0 46 (kTie x0) hs0 (fun b1 w2 (hs3 : HS w0 F0 w2 F0 [(sb b1 (kTie x0) 46)]) => ?_)
 refine V 3 4 (mc (.bool false) (.bool false)) ?_
 refine Nss (Rg [0, 1, 2, 3, 4, 5, 6, 7, 8, 9, 10, 11, 12] ?_)
 obtain ⟨j7, hj10, h11⟩ := bind_some h
 refine RWP.cut (fun f w => ∃ (F1 : Mem), HS w0 F0 w F1 [] ∧ Mem.le F0 F1 ∧ f.d = [] ∧ f 3 = (.bool j7)) ?_ ?_
 ·refine V 4 25 (ld 25 1 bz0 0 true 3 (.agg (kSystem z0 az0_0 nz0_0 az0_1 nz0_1)) (hs3.pers _ _ hz0)) ?_
  refine V 5 0 (fa 46 2 0 0 2 b1 0 0) ?_
  refine V 6 27 (ld 27 5 b1 0 true 2 (.agg (kRef x0.A)) (hs3.ownAt (k := 0) rfl)) ?_
  obtain ⟨r12, hr13, h14⟩ := bind_some hj10
  refine Cl 7 4 107 #[(.tmp 4), (.tmp 6)] #[25, 27] co_clocks_has hs3 (c_clocks_has N w2 F0 hs3.pers (z0) az0_0 nz0_0 hbz0_0 hsz0_0 az0_1 nz0_1 hbz0_1 hsz0_1 (x0.A) _ hr13) ?_
  intro v15 F2 w16 hs17 le18 hp19
  obtain rfl := hp19
  refine V 8 4 (run_not (t := 4) (x := (.tmp 7)) (a := r12) rfl) ?_
  refine V 9 4 (mv 8 (.bool (!r12))) ?_
  refine RWP.split (!r12) (fun hb20 => ?_) (fun hb20 => ?_)
  ·have h21 := cond_t h14 hb20
   refine Sk [10, 11, 12, 13, 14] 5 false 9 hb20 ?_
   refine V 15 4 (p1 9 (.const (.bool true)) (.tmp 14) (.bool true) hb20) ?_
   refine V 3 4 (ma 15 (.bool true)) ?_
   obtain rfl := some_inj h21
   have hs22 : HS w0 F0 w16 F2 [] := hs17.drop 0
   exact RWP.nil ⟨rfl, F2, hs22, le18, rfl, rfl⟩
  ·have h23 := cond_f h14 hb20
   refine Vg 10 25 5 false 9 hb20 (ld 25 1 bz0 0 true 3 (.agg (kSystem z0 az0_0 nz0_0 az0_1 nz0_1)) (hs17.pers _ _ (le18 _ _ hz0))) ?_
   refine Vg 11 0 5 false 9 hb20 (fa 46 2 1 2 2 b1 0 2) ?_
   refine Vg 12 27 5 false 9 hb20 (ld 27 11 b1 2 true 2 (.agg (kRef x0.B)) (hs17.ownAt (k := 0) rfl)) ?_
   obtain ⟨r24, hr25, h26⟩ := bind_some h23
   refine RWP.call (dst := (some 13)) (ty := 4) (g := (some (5, false))) (by kernel_rfl) (gd_y (d := 9) (by kernel_rfl) rfl hb20) (f0 := (.func 107)) (aos := #[(.tmp 10), (.tmp 12)]) (ats := #[25, 27]) (fid := 107) (first := #[]) (cap := #[]) (args := [(.agg (kSystem z0 az0_0 nz0_0 az0_1 nz0_1)), (.agg (kRef x0.B))]) rfl co_clocks_has (rfl) hs17 (c_clocks_has N w16 F2 hs17.pers (z0) az0_0 nz0_0 hbz0_0 (SlA.mono hsz0_0 le18) az0_1 nz0_1 hbz0_1 (SlA.mono hsz0_1 le18) (x0.B) _ hr25) ?_
   intro v27 F3 w28 hs29 le30 hp31
   obtain rfl := hp31
   refine Vg 14 4 5 false 9 hb20 (run_not (t := 4) (x := (.tmp 13)) (a := r24) rfl) ?_
   refine V 15 4 (p0 9 (.const (.bool true)) (.tmp 14) (.bool (!r24)) hb20) ?_
   refine V 3 4 (ma 15 (.bool (!r24))) ?_
   obtain rfl := some_inj h26
   have hs32 : HS w0 F0 w28 F3 [] := hs29.drop 0
   exact RWP.nil ⟨rfl, F3, hs32, (le18.trans le30), rfl, rfl⟩
 ·rintro f w4 ⟨F1, hs5, le6, e8, e9⟩
  refine thenQ_nrm ?_
  refine CWP.ret (by kernel_rfl) ?_
  have hfin := some_inj h11
  subst hfin
  exact ⟨e8, (.bool j7), res_of (l := [.tmp 3]) (by kernel_rfl) (vs := [(.bool j7)]) ⟨e9, trivial⟩, (.bool j7), F1, rfl, hs5.clear, rfl⟩
end Go.Proofs.Ythbcnabeabcmlaa
namespace Go.Proofs.Ythbcnabeabcmlaa
open Go.Proofs
def clocks_offered_2 (N : Nat) (x0 : Tie) (z0 : System) : Option Bool :=
 ((clocks_tied N z0 x0).bind fun r4 => some (!r4))
theorem co_clocks_offered_2 : CallOk Try.prog 126 := fun _ _ => by kernel_rfl
set_option maxHeartbeats 4000000 in
set_option maxRecDepth 100000 in
theorem c_clocks_offered_2 (N : Nat) (w0 : World) (F0 : Mem) (hF : ∀ b o, F0 b = some o → w0.heap[b]? = some o) (x0 : Tie) (bz0 : Nat) (z0 : System) (az0_0 : Option Addr) (nz0_0 : Nat) (hbz0_0 : LC z0.Tracks.length nz0_0) (hsz0_0 : SlA tTrack F0 az0_0 z0.Tracks) (az0_1 : Option Addr) (nz0_1 : Nat) (hbz0_1 : LC z0.Ties.length nz0_1) (hsz0_1 : SlA tTie F0 az0_1 z0.Ties) (hz0 : F0 bz0 = some (oc (kSystem z0 az0_0 nz0_0 az0_1 nz0_1) 25)) (r : Bool) (h : clocks_offered_2 N x0 z0 = some r) :
  Calls Try.prog 126 ([(.agg (kTie x0)), (.pointer (some ⟨bz0, 0, none⟩))] : List Value).toArray w0 (FRet w0 F0 fun F' v => v = (.bool r)) := by
 have hs0 := HS.start hF
 refine calls_of (n := 8) (c := bodyOf Try.f126) Try.func126 (by kernel_rfl) (by kernel_rfl) (by kernel_rfl) ?_
 refine Sq (Rg [0, 1] ?_)
 refine Bx 2 0 0 46 (kTie x0) hs0 (fun b1 w2 (hs3 : HS w0 F0 w2 F0 [(sb b1 (kTie x0) 46)]) => ?_)
 refine V 3 4 (mc (.bool false) (.bool false)) ?_
 refine Nss (Rg [0, 1, 2, 3, 4] ?_)
 refine V 4 25 (ld 25 1 bz0 0 true 3 (.agg (kSystem z0 az0_0 nz0_0 az0_1 nz0_1)) (hs3.pers _ _ hz0)) ?_
 refine V 5 46 (ld 46 2 b1 0 true 4 (.agg (kTie x0)) (hs3.ownAt (k := 0) rfl)) ?_
 obtain ⟨r4, hr5, h6⟩ := bind_some h
 refine Cl 6 4 70 #[(.tmp 4), (.tmp 5)] #[25, 46] co_clocks_tied hs3 (c_clocks_tied N w2 F0 hs3.pers (z0) az0_0 nz0_0 hbz0_0 hsz0_0 az0_1 nz0_1 hbz0_1 hsz0_1 (x0) _ hr5) ?_
 intro v7 F1 w8 hs9 le10 hp11
 obtain rfl := hp11
 refine V 7 4 (run_not (t := 4) (x := (.tmp 6)) (a := r4) rfl) ?_
 refine V 3 4 (ma 7 (.bool (!r4))) ?_
 refine Nt ?_
 refine CWP.ret (by kernel_rfl) ?_
 have hfin := some_inj h6
 subst hfin
 exact ⟨rfl, (.bool (!r4)), res_of (l := [.tmp 3]) (by kernel_rfl) (vs := [(.bool (!r4))]) ⟨rfl, trivial⟩, (.bool (!r4)), F1, rfl, hs9.clear, rfl⟩
end Go.Proofs.Ythbcnabeabcmlaa
namespace Go.Proofs.Ythbcnabeabcmlaa
open Go.Proofs
def clocks_offered (N : Nat) (x0 : System) (x1 : (List Tie)) (x2 : Bool) : Option Int :=
 ((clocks_Check N x0).bind fun r4 => (bif (r4 != 0) then some r4 else ((slices_ContainsFunc_api_Tie_api_Tie N x1 (fun y0 => clocks_offered_1 N y0 x0)).bind fun r18 => (bif r18 then some 3 else ((bif (!x2) then some true else ((slices_ContainsFunc_api_Tie_api_Tie N x1 (fun y0 => clocks_offered_2 N y0 x0)).bind fun r42 => some r42)).bind fun j32 => (bif j32 then some 1 else ((clocks_loopOf N x0).bind fun r53 => (bif (!r53.isEmpty) then some 31 else (bif (decide ((W64 ((x0.Ties.length : Int) + (x1.length : Int))) > 400)) then some 2 else some 0)))))))))
theorem co_clocks_offered : CallOk Try.prog 86 := fun _ _ => by kernel_rfl
set_option maxHeartbeats 4000000 in
set_option maxRecDepth 100000 in
theorem c_clocks_offered (N : Nat) (w0 : World) (F0 : Mem) (hF : ∀ b o, F0 b = some o → w0.heap[b]? = some o) (x0 : System) (a0_0 : Option Addr) (n0_0 : Nat) (hb0_0 : LC x0.Tracks.length n0_0) (hs0_0 : SlA tTrack F0 a0_0 x0.Tracks) (a0_1 : Option Addr) (n0_1 : Nat) (hb0_1 : LC x0.Ties.length n0_1) (hs0_1 : SlA tTie F0 a0_1 x0.Ties) (x1 : (List Tie)) (a1_0 : Option Addr) (n1_0 : Nat) (hb1_0 : LC x1.length n1_0) (hs1_0 : SlA tTie F0 a1_0 x1) (x2 : Bool) (r : Int) (h : clocks_offered N x0 x1 x2 = some r) :
  Calls Try.prog 86 ([(.agg (kSystem x0 a0_0 n0_0 a0_1 n0_1)), (.slice a1_0 x1.length n1_0), (.bool x2)] : List Value).toArray w0 (FRet w0 F0 fun F' v => v = (vi r)) := by
 have hs0 := HS.start hF
 refine calls_of (n := 36) (c := bodyOf Try.f86) Try.func86 (by kernel_rfl) (by kernel_rfl) (by kernel_rfl) ?_
 refine Sq (Rg [0, 1] ?_)
 refine Bx 3 0 0 25 (kSystem x0 a0_0 n0_0 a0_1 n0_1) hs0 (fun b1 w2 (hs3 : HS w0 F0 w2 F0 [(sb b1 (kSystem x0 a0_0 n0_0 a0_1 n0_1) 25)]) => ?_)
 refine V 6 30 (mc (vi 0) (vi 0)) ?_
 refine Nss ?_
 refine Sq (Rg [0, 1, 2] ?_)
 refine V 8 25 (ld 25 3 b1 0 true 3 (.agg (kSystem x0 a0_0 n0_0 a0_1 n0_1)) (hs3.ownAt (k := 0) rfl)) ?_
 obtain ⟨r4, hr5, h6⟩ := bind_some h
 refine Cl 9 30 17 #[(.tmp 8)] #[25] co_clocks_Check hs3 (c_clocks_Check N w2 F0 hs3.pers (x0) a0_0 n0_0 hb0_0 hs0_0 a0_1 n0_1 hb0_1 hs0_1 _ hr5) ?_
 intro v7 F1 w8 hs9 le10 hp11
 obtain rfl := hp11
 refine V 7 30 (ma 9 (vi r4)) ?_
 refine Nss (Rg [0, 1] ?_)
 refine V 10 30 (mv 7 (vi r4)) ?_
 refine V 11 4 (run_neq (t := 30) (t' := 30) (x := (.tmp 10)) (y := (.const (vi 0))) (k := .i64) (a := r4) (b := 0) rfl rfl) ?_
 refine Nt ?_
 refine CWP.cond (t := (r4 != 0)) (by kernel_rfl) rfl (fun hb12 => ?_) (fun hb12 => ?_)
 ·have h13 := cond_t h6 hb12
  refine Sq (Rg [0, 1] ?_)
  refine V 12 30 (mv 7 (vi r4)) ?_
  refine V 6 30 (ma 12 (vi r4)) ?_
  refine Nt ?_
  refine CWP.ret (by kernel_rfl) ?_
  refine thenQ_ret ?_
  have hfin := some_inj h13
  subst hfin
  exact ⟨rfl, (vi r4), res_of (l := [.tmp 6]) (by kernel_rfl) (vs := [(vi r4)]) ⟨rfl, trivial⟩, (vi r4), F1, rfl, hs9.clear, rfl⟩
 ·have h14 := cond_f h6 hb12
  refine Sc ?_
  refine thenQ_nrm ?_
  refine Sq ?_
  refine Sq (Rg [0, 1, 2] ?_)
  refine V 13 23 (mv 1 (.slice a1_0 x1.length n1_0)) ?_
  refine V 14 91 (run_makeFunc (fn := .func 125) (first := #[]) (cap := #[(.tmp 3)]) (fl := []) (cl := [(.pointer (some ⟨b1, 0, none⟩))]) rfl (rfl)) ?_
  obtain ⟨F2, hs15, le16, hF17⟩ : ∃ Fq, HS w0 F0 w8 Fq [] ∧ Mem.le F1 Fq ∧ Fq b1 = some (oc (kSystem x0 a0_0 n0_0 a0_1 n0_1) 25) := HS.freezeC hs9 (k := 0) rfl
  obtain ⟨r18, hr19, h20⟩ := bind_some h14
  refine Cl 15 4 68 #[(.tmp 13), (.tmp 14)] #[23, 91] co_slices_ContainsFunc_api_Tie_api_Tie hs15 (c_slices_ContainsFunc_api_Tie_api_Tie N w8 F2 hs15.pers (x1) a1_0 n1_0 hb1_0 (SlA.mono hs1_0 (le10.trans le16)) 125 [] [(.pointer (some ⟨b1, 0, none⟩))] (fun y0 => clocks_offered_1 N y0 x0) co_clocks_offered_1 (fun w1 F1 y0 r le1 pe1 hr1 => c_clocks_offered_1 N w1 F1 pe1  y0 b1 x0 a0_0 n0_0 hb0_0 (SlA.mono (SlA.mono hs0_0 (le10.trans le16)) le1) a0_1 n0_1 hb0_1 (SlA.mono (SlA.mono hs0_1 (le10.trans le16)) le1) (le1 _ _ hF17) r hr1) _ hr19) ?_
  intro v21 F3 w22 hs23 le24 hp25
  obtain rfl := hp25
  refine Nt ?_
  refine CWP.cond (t := r18) (by kernel_rfl) rfl (fun hb26 => ?_) (fun hb26 => ?_)
  ·have h27 := cond_t h20 hb26
   refine Sq (Rg [0] ?_)
   refine V 6 30 (mc (vi 3) (vi 3)) ?_
   refine Nt ?_
   refine CWP.ret (by kernel_rfl) ?_
   refine thenQ_ret ?_
   have hfin := some_inj h27
   subst hfin
   exact ⟨rfl, (vi 3), res_of (l := [.tmp 6]) (by kernel_rfl) (vs := [(vi 3)]) ⟨rfl, trivial⟩, (vi 3), F3, rfl, hs23.clear, rfl⟩
  ·have h28 := cond_f h20 hb26
   refine Sc ?_
   refine thenQ_nrm ?_
   refine Sq ?_
   refine Bk ?_
   refine Sq (Rg [0, 1, 2, 3, 4, 5, 6, 7] ?_)
   obtain ⟨j32, hj37, h38⟩ := bind_some h28
   refine RWP.cut (fun f w => ∃ (F4 : Mem), HS w0 F0 w F4 [] ∧ Mem.le F3 F4 ∧ f.d = [] ∧ f 1 = (.slice a1_0 x1.length n1_0) ∧ f 3 = (.pointer (some ⟨b1, 0, none⟩)) ∧ f 16 = (.bool j32)) ?_ ?_
   ·refine V 17 4 (mv 2 (.bool x2)) ?_
    refine V 18 4 (run_not (t := 4) (x := (.tmp 17)) (a := x2) rfl) ?_
    refine V 19 4 (mv 18 (.bool (!x2))) ?_
    refine RWP.split (!x2) (fun hb39 => ?_) (fun hb39 => ?_)
    ·have h40 := cond_t hj37 hb39
     refine Sk [20, 21, 22] 2 false 19 hb39 ?_
     refine V 23 4 (p1 19 (.const (.bool true)) (.tmp 22) (.bool true) hb39) ?_
     refine V 16 4 (ma 23 (.bool true)) ?_
     obtain rfl := some_inj h40
     exact RWP.nil ⟨rfl, F3, hs23, (Mem.le.refl _), rfl, rfl, rfl, rfl⟩
    ·have h41 := cond_f hj37 hb39
     refine Vg 20 23 2 false 19 hb39 (mv 1 (.slice a1_0 x1.length n1_0)) ?_
     refine Vg 21 91 2 false 19 hb39 (run_makeFunc (fn := .func 126) (first := #[]) (cap := #[(.tmp 3)]) (fl := []) (cl := [(.pointer (some ⟨b1, 0, none⟩))]) rfl (rfl)) ?_
     obtain ⟨r42, hr43, h44⟩ := bind_some h41
     refine RWP.call (dst := (some 22)) (ty := 4) (g := (some (2, false))) (by kernel_rfl) (gd_y (d := 19) (by kernel_rfl) rfl hb39) (f0 := (.func 68)) (aos := #[(.tmp 20), (.tmp 21)]) (ats := #[23, 91]) (fid := 68) (first := #[]) (cap := #[]) (args := [(.slice a1_0 x1.length n1_0), (.func (.func 126) #[] #[(.pointer (some ⟨b1, 0, none⟩))])]) rfl co_slices_ContainsFunc_api_Tie_api_Tie (rfl) hs23 (c_slices_ContainsFunc_api_Tie_api_Tie N w22 F3 hs23.pers (x1) a1_0 n1_0 hb1_0 (SlA.mono hs1_0 ((le10.trans le16).trans le24)) 126 [] [(.pointer (some ⟨b1, 0, none⟩))] (fun y0 => clocks_offered_2 N y0 x0) co_clocks_offered_2 (fun w1 F1 y0 r le1 pe1 hr1 => c_clocks_offered_2 N w1 F1 pe1  y0 b1 x0 a0_0 n0_0 hb0_0 (SlA.mono (SlA.mono hs0_0 ((le10.trans le16).trans le24)) le1) a0_1 n0_1 hb0_1 (SlA.mono (SlA.mono hs0_1 ((le10.trans le16).trans le24)) le1) (le1 _ _ (le24 _ _ hF17)) r hr1) _ hr43) ?_
     intro v45 F5 w46 hs47 le48 hp49
     obtain rfl := hp49
     refine V 23 4 (p0 19 (.const (.bool true)) (.tmp 22) (.bool r42) hb39) ?_
     refine V 16 4 (ma 23 (.bool r42)) ?_
     obtain rfl := some_inj h44
     exact RWP.nil ⟨rfl, F5, hs47, le48, rfl, rfl, rfl, rfl⟩
   ·rintro f w29 ⟨F4, hs30, le31, e33, e34, e35, e36⟩
    refine thenQ_nrm ?_
    refine CWP.cond (t := j32) (by kernel_rfl) e36 (fun hb50 => ?_) (fun hb50 => ?_)
    ·have h51 := cond_t h38 hb50
     refine Sq (Rg [0] ?_)
     refine V 6 30 (mc (vi 1) (vi 1)) ?_
     refine Nt ?_
     refine CWP.ret (by kernel_rfl) ?_
     refine blockQ_ret ?_
     refine thenQ_ret ?_
     have hfin := some_inj h51
     subst hfin
     exact ⟨e33, (vi 1), res_of (l := [.tmp 6]) (by kernel_rfl) (vs := [(vi 1)]) ⟨rfl, trivial⟩, (vi 1), F4, rfl, hs30.clear, rfl⟩
    ·have h52 := cond_f h38 hb50
     refine Sq (Rg [0, 1, 2, 3] ?_)
     refine V 25 25 (ld 25 3 b1 0 true 3 (.agg (kSystem x0 a0_0 n0_0 a0_1 n0_1)) (hs30.pers _ _ ((le24.trans le31) _ _ hF17)) e35) ?_
     obtain ⟨r53, hr54, h55⟩ := bind_some h52
     refine Cl 26 57 103 #[(.tmp 25)] #[25] co_clocks_loopOf hs30 (c_clocks_loopOf N w29 F4 hs30.pers (x0) a0_0 n0_0 hb0_0 (SlA.mono hs0_0 (((le10.trans le16).trans le24).trans le31)) a0_1 n0_1 hb0_1 (SlA.mono hs0_1 (((le10.trans le16).trans le24).trans le31)) _ hr54) ?_
     intro v56 F6 w57 hs58 le59 hp60
     obtain ⟨ar53_0_0, nr53_0_0, rfl, hbr53_0_0, hsr53_0_0, nf61, fr62⟩ := hp60
     refine V 27 4 (run_nenil' (e := 103) (t := 57) (t' := 57) (x := (.tmp 26)) (y := (.const (.slice none 0 0))) hsr53_0_0 nf61 rfl rfl (by kernel_rfl)) ?_
     refine V 24 4 (ma 27 (.bool (!r53.isEmpty))) ?_
     refine Nt ?_
     refine CWP.cond (t := (!r53.isEmpty)) (by kernel_rfl) rfl (fun hb63 => ?_) (fun hb63 => ?_)
     ·have h64 := cond_t h55 hb63
      refine Sq (Rg [0] ?_)
      refine V 6 30 (mc (vi 31) (vi 31)) ?_
      refine Nt ?_
      refine CWP.ret (by kernel_rfl) ?_
      refine blockQ_ret ?_
      refine thenQ_ret ?_
      have hfin := some_inj h64
      subst hfin
      exact ⟨e33, (vi 31), res_of (l := [.tmp 6]) (by kernel_rfl) (vs := [(vi 31)]) ⟨rfl, trivial⟩, (vi 31), F6, rfl, hs58.clear, rfl⟩
     ·have h65 := cond_f h55 hb63
      refine Sq (Rg [0, 1, 2, 3, 4, 5, 6, 7] ?_)
      refine V 29 0 (fa 25 3 1 1 1 b1 0 1 e35) ?_
      refine V 30 23 (ld 23 29 b1 1 false 1 (.slice a0_1 x0.Ties.length n0_1) (hs58.pers _ _ (((le24.trans le31).trans le59) _ _ hF17))) ?_
      refine V 31 3 (ln 30 23 a0_1 x0.Ties.length n0_1 46 4 32) ?_
      refine V 32 23 (mv 1 (.slice a1_0 x1.length n1_0) e34) ?_
      refine V 33 3 (ln 32 23 a1_0 x1.length n1_0 46 4 32) ?_
      refine V 34 3 (run_add (t := 3) (t' := 3) (x := (.tmp 31)) (y := (.tmp 33)) (k := .i64) (a := (x0.Ties.length : Int)) (b := (x1.length : Int)) rfl rfl) ?_
      refine V 35 4 (run_gtr (t := 3) (t' := 3) (x := (.tmp 34)) (y := (.const (vi 400))) (k := .i64) (a := (W64 ((x0.Ties.length : Int) + (x1.length : Int)))) (b := 400) rfl rfl) ?_
      refine V 28 4 (ma 35 (.bool (decide ((W64 ((x0.Ties.length : Int) + (x1.length : Int))) > 400)))) ?_
      refine Nt ?_
      refine CWP.cond (t := (decide ((W64 ((x0.Ties.length : Int) + (x1.length : Int))) > 400))) (by kernel_rfl) rfl (fun hb66 => ?_) (fun hb66 => ?_)
      ·have h67 := cond_t h65 hb66
       refine Sq (Rg [0] ?_)
       refine V 6 30 (mc (vi 2) (vi 2)) ?_
       refine Nt ?_
       refine CWP.ret (by kernel_rfl) ?_
       refine blockQ_ret ?_
       refine thenQ_ret ?_
       have hfin := some_inj h67
       subst hfin
       exact ⟨e33, (vi 2), res_of (l := [.tmp 6]) (by kernel_rfl) (vs := [(vi 2)]) ⟨rfl, trivial⟩, (vi 2), F6, rfl, hs58.clear, rfl⟩
      ·have h68 := cond_f h65 hb66
       refine Sc ?_
       refine blockQ_nrm ?_
       refine thenQ_nrm ?_
       refine Sq (Rg [0] ?_)
       refine V 6 30 (mc (vi 0) (vi 0)) ?_
       refine Nt ?_
       refine CWP.ret (by kernel_rfl) ?_
       have hfin := some_inj h68
       subst hfin
       exact ⟨e33, (vi 0), res_of (l := [.tmp 6]) (by kernel_rfl) (vs := [(vi 0)]) ⟨rfl, trivial⟩, (vi 0), F6, rfl, hs58.clear, rfl⟩
end Go.Proofs.Ythbcnabeabcmlaa
namespace Go.Proofs.Ythbcnabeabcmlaa
open Go.Proofs
theorem co_clocks_added : CallOk Try.prog 87 := fun _ _ => by kernel_rfl
set_option maxRecDepth 100000 in
theorem c_clocks_added (w0 : World) (F0 : Mem) (hF : ∀ b o, F0 b = some o → w0.heap[b]? = some o) (x0 : System) (a0_0 : Option Addr) (n0_0 : Nat) (_ : LC x0.Tracks.length n0_0) (_ : SlA tTrack F0 a0_0 x0.Tracks) (a0_1 : Option Addr) (n0_1 : Nat) (_ : LC x0.Ties.length n0_1) (_ : SlA tTie F0 a0_1 x0.Ties) (x1 : List Tie) (a1_0 : Option Addr) (n1_0 : Nat) (_ : LC x1.length n1_0) (_ : SlA tTie F0 a1_0 x1) :
  Calls Try.prog 87 ([(.agg (kSystem x0 a0_0 n0_0 a0_1 n0_1)), (.slice a1_0 x1.length n1_0)] : List Value).toArray w0 (FRetO w0 F0 fun _ v L' => ∃ (b0 b1 : Nat), v = .func (.func 127) #[] #[.pointer (some ⟨b0, 0, none⟩), .pointer (some ⟨b1, 0, none⟩)] ∧ L' = [(some b1, .cells #[(.slice a1_0 x1.length n1_0)] 23 (0, 0)), (some b0, .cells (kSystem x0 a0_0 n0_0 a0_1 n0_1) 25 (0, 0))]) := by
 have hs0 := HS.start hF
 refine calls_of (n := 6) (c := bodyOf Try.f87) Try.func87 (by kernel_rfl) (by kernel_rfl) (by kernel_rfl) ?_
 refine CWP.seq (by kernel_rfl) ?_
 refine CWP.region (l := [0, 1, 2]) (by kernel_rfl) (by kernel_rfl) (by kernel_rfl) ?_
 refine RWP.box (dst := (some 2)) (ty := 0) (g := none) (by kernel_rfl) rfl (x := (.tmp 0)) (t := 25) (v := (.agg (kSystem x0 a0_0 n0_0 a0_1 n0_1))) rfl (C := (kSystem x0 a0_0 n0_0 a0_1 n0_1)) rfl hs0 (fun b0 w1 hs1 => ?_)
 refine RWP.box (dst := (some 3)) (ty := 0) (g := none) (by kernel_rfl) rfl (x := (.tmp 1)) (t := 23) (v := (.slice a1_0 x1.length n1_0)) rfl (C := #[(.slice a1_0 x1.length n1_0)]) rfl hs1 (fun b1 w2 hs2 => ?_)
 refine RWP.val (dst := (some 4)) (ty := 120) (g := none) (by kernel_rfl) rfl (run_assign (x := (.const .nilFunc)) (v := .nilFunc) rfl) ?_
 refine RWP.nil ?_
 refine thenQ_nrm ?_
 refine CWP.seq (by kernel_rfl) ?_
 refine CWP.region (l := [0, 1]) (by kernel_rfl) (by kernel_rfl) (by kernel_rfl) ?_
 refine RWP.val (dst := some 5) (ty := 119) (g := none) (by kernel_rfl) rfl (run_makeFunc (fn := .func 127) (first := #[]) (cap := #[.tmp 2, .tmp 3]) (fl := []) (cl := [.pointer (some ⟨b0, 0, none⟩), .pointer (some ⟨b1, 0, none⟩)]) rfl rfl) ?_
 refine RWP.val (dst := (some 4)) (ty := 120) (g := none) (by kernel_rfl) rfl (run_assign (x := (.tmp 5)) (v := .func (.func 127) #[] #[.pointer (some ⟨b0, 0, none⟩), .pointer (some ⟨b1, 0, none⟩)]) rfl) ?_
 refine RWP.nil ?_
 refine thenQ_nrm ?_
 refine CWP.ret (by kernel_rfl) ?_
 exact ⟨rfl, _, res_of (l := [.tmp 4]) (by kernel_rfl) (vs := [.func (.func 127) #[] #[.pointer (some ⟨b0, 0, none⟩), .pointer (some ⟨b1, 0, none⟩)]]) ⟨rfl, trivial⟩, _, F0, _, rfl, hs2, b0, b1, rfl, rfl⟩
end Go.Proofs.Ythbcnabeabcmlaa
namespace Go.Proofs.Ythbcnabeabcmlaa
open Go.Proofs
def clocks_Accept_L0 (N : Nat) (x0 : System) (x1 : (List Tie)) (r4 : Int) : (List Bool) → (Bool × (List Bound)) → Option (List Bool) := fun s33 ⟨y55, y56⟩ =>
 ((apnd s33 [y55]).bind fun r68 => some r68)
def clocks_Accept (N : Nat) (x0 : System) (x1 : (List Tie)) : Option ((List Bool) × Int) :=
 ((clocks_offered N x0 x1 true).bind fun r4 => (bif (r4 != 0) then some (([] : List Bool), r4) else ((clocks_added_1 N (fun st x => ((clocks_Accept_L0 N x0 x1 r4) st x).map fun t => (true, t)) x0 x1 ([] : List Bool)).bind fun r41 => some (r41, 0))))
theorem co_clocks_Accept : CallOk Try.prog 42 := fun _ _ => by kernel_rfl
set_option maxHeartbeats 4000000 in
set_option maxRecDepth 100000 in
theorem c_clocks_Accept (N : Nat) (w0 : World) (F0 : Mem) (hF : ∀ b o, F0 b = some o → w0.heap[b]? = some o) (x0 : System) (a0_0 : Option Addr) (n0_0 : Nat) (hb0_0 : LC x0.Tracks.length n0_0) (hs0_0 : SlA tTrack F0 a0_0 x0.Tracks) (a0_1 : Option Addr) (n0_1 : Nat) (hb0_1 : LC x0.Ties.length n0_1) (hs0_1 : SlA tTie F0 a0_1 x0.Ties) (x1 : (List Tie)) (a1_0 : Option Addr) (n1_0 : Nat) (hb1_0 : LC x1.length n1_0) (hs1_0 : SlA tTie F0 a1_0 x1) (r : ((List Bool) × Int)) (h : clocks_Accept N x0 x1 = some r) :
  Calls Try.prog 42 ([(.agg (kSystem x0 a0_0 n0_0 a0_1 n0_1)), (.slice a1_0 x1.length n1_0)] : List Value).toArray w0 (FRet w0 F0 fun F' v => ∃ (aq0_0 : Option Addr) (nq0_0 : Nat), v = (.tuple #[(.slice aq0_0 r.1.length nq0_0), (vi r.2)]) ∧ LC r.1.length nq0_0 ∧ SlA tBool F' aq0_0 r.1) := by
 have hs0 := HS.start hF
 refine calls_ofM (n := 25) (c := bodyOf Try.f42) Try.func42 (by kernel_rfl) (by kernel_rfl) (by kernel_rfl) ?_
 refine Sq (Rg [0, 1, 2] ?_)
 refine Bx 2 0 0 25 (kSystem x0 a0_0 n0_0 a0_1 n0_1) hs0 (fun b1 w2 (hs3 : HS w0 F0 w2 F0 [(sb b1 (kSystem x0 a0_0 n0_0 a0_1 n0_1) 25)]) => ?_)
 refine V 4 64 (mc (.slice none 0 0) (.slice none ([] : List Bool).length 0)) ?_
 refine V 5 30 (mc (vi 0) (vi 0)) ?_
 refine Nss ?_
 refine Sq (Rg [0, 1, 2, 3] ?_)
 refine V 9 25 (ld 25 2 b1 0 true 3 (.agg (kSystem x0 a0_0 n0_0 a0_1 n0_1)) (hs3.ownAt (k := 0) rfl)) ?_
 refine V 10 23 (mv 1 (.slice a1_0 x1.length n1_0)) ?_
 obtain ⟨r4, hr5, h6⟩ := bind_some h
 refine Cl 11 30 86 #[(.tmp 9), (.tmp 10), (.const (.bool true))] #[25, 23, 4] co_clocks_offered hs3 (c_clocks_offered N w2 F0 hs3.pers (x0) a0_0 n0_0 hb0_0 hs0_0 a0_1 n0_1 hb0_1 hs0_1 (x1) a1_0 n1_0 hb1_0 hs1_0 (true) _ hr5) ?_
 intro v7 F1 w8 hs9 le10 hp11
 obtain rfl := hp11
 refine V 6 30 (ma 11 (vi r4)) ?_
 refine Nss (Rg [0, 1] ?_)
 refine V 12 30 (mv 6 (vi r4)) ?_
 refine V 13 4 (run_neq (t := 30) (t' := 30) (x := (.tmp 12)) (y := (.const (vi 0))) (k := .i64) (a := r4) (b := 0) rfl rfl) ?_
 refine Nt ?_
 refine CWP.cond (t := (r4 != 0)) (by kernel_rfl) rfl (fun hb12 => ?_) (fun hb12 => ?_)
 ·have h13 := cond_t h6 hb12
  refine Sq (Rg [0, 1, 2] ?_)
  refine V 14 30 (mv 6 (vi r4)) ?_
  refine V 4 64 (mc (.slice none 0 0) (.slice none ([] : List Bool).length 0)) ?_
  refine V 5 30 (ma 14 (vi r4)) ?_
  refine Nt ?_
  refine CWP.ret (by kernel_rfl) ?_
  refine thenQ_ret ?_
  have hfin := some_inj h13
  subst hfin
  exact .inl ⟨rfl, (.tuple #[(.slice none ([] : List Bool).length 0), (vi r4)]), res_of (l := [.tmp 4, .tmp 5]) (by kernel_rfl) (vs := [(.slice none ([] : List Bool).length 0), (vi r4)]) ⟨rfl, ⟨rfl, trivial⟩⟩, (.tuple #[(.slice none ([] : List Bool).length 0), (vi r4)]), F1, rfl, hs9.clear, ⟨none, 0, rfl, LC.nil, (.inl rfl)⟩⟩
 ·have h14 := cond_f h6 hb12
  refine Sc ?_
  refine thenQ_nrm ?_
  refine Sq (Rg [0] ?_)
  refine RWP.alloc (dst := (some 7)) (ty := 0) (g := none) (by kernel_rfl) rfl (t := 64) (z := (.slice none ([] : List Bool).length 0)) (by kernel_rfl) (C := #[(.slice none ([] : List Bool).length 0)]) rfl hs9 (fun b15 w16 (hs17 : HS w0 F0 w16 F1 [(sb b15 #[(.slice none ([] : List Bool).length 0)] 64), (sb b1 (kSystem x0 a0_0 n0_0 a0_1 n0_1) 25)]) => ?_)
  refine Nss ?_
  refine Sq (Rg [0, 1, 2] ?_)
  refine V 15 25 (ld 25 2 b1 0 true 3 (.agg (kSystem x0 a0_0 n0_0 a0_1 n0_1)) (hs17.ownAt (k := 1) rfl)) ?_
  refine V 16 23 (mv 1 (.slice a1_0 x1.length n1_0)) ?_
  refine RWP.callO (dst := (some 17)) (ty := 120) (g := none) (by kernel_rfl) rfl (f0 := (.func 87)) (aos := #[(.tmp 15), (.tmp 16)]) (ats := #[25, 23]) (fid := 87) (first := #[]) (cap := #[]) (args := [(.agg (kSystem x0 a0_0 n0_0 a0_1 n0_1)), (.slice a1_0 x1.length n1_0)]) rfl co_clocks_added (rfl) hs17 (c_clocks_added w16 F1 hs17.pers (x0) a0_0 n0_0 hb0_0 (SlA.mono hs0_0 le10) a0_1 n0_1 hb0_1 (SlA.mono hs0_1 le10) (x1) a1_0 n1_0 hb1_0 (SlA.mono hs1_0 le10)) ?_
  rintro _ F2 w20 _ hs21 le22 ⟨b18, b19, rfl, rfl⟩
  have hs23 : HS w0 F0 w20 F2 [(sb b19 #[(.slice a1_0 x1.length n1_0)] 23), (sb b18 (kSystem x0 a0_0 n0_0 a0_1 n0_1) 25), (sb b15 #[(.slice none ([] : List Bool).length 0)] 64), (sb b1 (kSystem x0 a0_0 n0_0 a0_1 n0_1) 25)] := hs21
  refine Nt ?_
  refine Bk ?_
  obtain ⟨F3, hs24, le25, hF26⟩ : ∃ Fq, HS w0 F0 w20 Fq [(sb b18 (kSystem x0 a0_0 n0_0 a0_1 n0_1) 25), (sb b15 #[(.slice none ([] : List Bool).length 0)] 64), (sb b1 (kSystem x0 a0_0 n0_0 a0_1 n0_1) 25)] ∧ Mem.le F2 Fq ∧ Fq b19 = some (oc #[(.slice a1_0 x1.length n1_0)] 23) := HS.freezeC hs23 (k := 0) rfl
  have hs27 : HS w0 F0 w20 F3 [(sb b18 (kSystem x0 a0_0 n0_0 a0_1 n0_1) 25), (sb b15 #[(.slice none ([] : List Bool).length 0)] 64)] := hs24.drop 2
  have hs28 : HS w0 F0 w20 F3 [(none, .cells #[] 0 (0, 0)), (sb b18 (kSystem x0 a0_0 n0_0 a0_1 n0_1) 25), (sb b15 #[(.slice none ([] : List Bool).length 0)] 64)] := hs27.dummy _
  have hs30 : HS w0 F0 w20 F3 [(sb b15 #[(.slice none ([] : List Bool).length 0)] 64), (none, .cells #[] 0 (0, 0)), (sb b18 (kSystem x0 a0_0 n0_0 a0_1 n0_1) 25)] := hs28.pick (k := 2) rfl
  have hs31 : HS w0 F0 w20 F3 [(none, .cells #[] 0 (0, 0)), (sb b15 #[(.slice none ([] : List Bool).length 0)] 64), (sb b18 (kSystem x0 a0_0 n0_0 a0_1 n0_1) 25)] := hs30.pick (k := 1) rfl
  have hs32 : HS w0 F0 w20 F3 [(sb b18 (kSystem x0 a0_0 n0_0 a0_1 n0_1) 25), (none, .cells #[] 0 (0, 0)), (sb b15 #[(.slice none ([] : List Bool).length 0)] 64)] := hs31.pick (k := 2) rfl
  obtain ⟨r41, hr42, h43⟩ := bind_some h14
  refine CWP.rangeFunc (enc := enc155) (ok := ok155) (px := px155) (m := fun {_} y s => clocks_added_1 N y x0 x1 s) (L := [(none, .cells #[] 0 (0, 0)), (sb b15 #[(.slice none ([] : List Bool).length 0)] 64)]) (B := [(sb b18 (kSystem x0 a0_0 n0_0 a0_1 n0_1) 25)]) (ps := [18, 19]) (by kernel_rfl) (gf := 127) (cap := [(.pointer (some ⟨b18, 0, none⟩)), (.pointer (some ⟨b19, 0, none⟩))]) rfl co_clocks_added_1 rfl (by kernel_rfl) (by kernel_rfl) (by rintro ⟨_, _, _, _⟩; rfl) hs32 (c_clocks_added_1 N F3 x0 a0_0 n0_0 hb0_0 (SlA.mono hs0_0 ((le10.trans le22).trans le25)) a0_1 n0_1 hb0_1 (SlA.mono hs0_1 ((le10.trans le22).trans le25)) b18 x1 a1_0 n1_0 hb1_0 (SlA.mono hs1_0 ((le10.trans le22).trans le25)) b19 hF26) (fun st x => ((clocks_Accept_L0 N x0 x1 r4) st x).map fun t => (true, t)) (fun (s33 : (List Bool)) (F4 : Mem) (Lq : Own) => ∃ (as33_0 : Option Addr) (ns33_0 : Nat) (es33_0 : Option Nat × Obj), Lq = [es33_0, (sb b15 #[(.slice as33_0 s33.length ns33_0)] 64)] ∧ RowR tBool 4 F4 as33_0 ns33_0 s33 es33_0) ?_ (s := ([] : List Bool)) (r := r41) ?_ hr42 (fun _ _ _ h => (map_true h).1) ?_ ?_
  ·rintro s F F' L ⟨as33_0, ns33_0, es33_0, rfl, hrs33_0⟩ hl
   exact ⟨as33_0, ns33_0, es33_0, rfl, (hrs33_0.mono hl)⟩
  ·exact ⟨none, 0, (none, .cells #[] 0 (0, 0)), rfl, (RowR.nil tBool 4 F3 _)⟩
  ·rintro l44 s33 ⟨y55, y56, ay56_0, ny56_0⟩ w47 F4 _ Rf49 ⟨_, q50⟩ le51 ⟨hby56_0, hsy56_0⟩ ⟨as33_0, ns33_0, es33_0, rfl, hrs33_0⟩ hs53 hy54
   have h57 := (map_true hy54).2
   have hs58 : HS w0 F0 w47 F4 (es33_0 :: (sb b15 #[(.slice as33_0 s33.length ns33_0)] 64) :: Rf49) := hs53
   refine Rg [0] ?_
   refine V 8 4 (ma 18 (.bool y55)) ?_
   refine RWP.nil ?_
   refine ⟨rfl, F4, [es33_0, (sb b15 #[(.slice as33_0 s33.length ns33_0)] 64)], hs58, fun w59 Rf60 hs61 => ?_⟩
   have hs62 : HS w0 F0 w59 F4 (es33_0 :: (sb b15 #[(.slice as33_0 s33.length ns33_0)] 64) :: Rf60) := hs61
   refine Bk ?_
   refine Rg [0, 1, 2, 3, 4] ?_
   refine V 20 64 (ld 64 7 b15 0 false 1 (.slice as33_0 s33.length ns33_0) (hs62.ownAt (k := 1) rfl)) ?_
   refine V 21 4 (mv 8 (.bool y55)) ?_
   refine RWP.buildSlice (dst := (some 22)) (ty := 64) (g := none) (by kernel_rfl) rfl (t := 64) (len := 1) (parts := #[(0, (.tmp 21))]) (vs := [(0, (.bool y55))]) (rfl) (E := 4) (cs := [(.bool y55)]) (by kernel_rfl) hs62 (fun b63 w64 (hs65 : HS w0 F0 w64 F4 ((some b63, .cells ([(.bool y55)] : List Value).toArray 4 (0, 0)) :: es33_0 :: (sb b15 #[(.slice as33_0 s33.length ns33_0)] 64) :: Rf60)) => ?_)
   have hr67 : RowR tBool 4 F4 (some ⟨b63, 0, none⟩) 1 [y55] (some b63, .cells ([(.bool y55)] : List Value).toArray 4 (0, 0)) := RowR.lit ⟨rfl, rfl⟩ (by simp)
   obtain ⟨r68, hap69, h70⟩ := bind_some h57
   refine RWP.append (dst := (some 23)) (ty := 64) (g := none) (by kernel_rfl) rfl (x := (.tmp 20)) (y := (.tmp 22)) (t := 64) (t2 := 64) (by_ := 1) (z := (.bool false)) (a2 := (some ⟨b63, 0, none⟩)) (c2 := 1) (m := [y55]) (T := tBool) (E := 4) (a := as33_0) (cap := ns33_0) (l := s33) rfl rfl (by kernel_rfl) (by decide) (by kernel_rfl) (by kernel_rfl) rfl oBool hs65 (k := 1) rfl hrs33_0 (RowR.rd hs65 (k := 0) rfl hr67) (r := r68) hap69 (fun a71 n72 e73 w74 (hs75 : HS w0 F0 w74 F4 ((some b63, .cells ([(.bool y55)] : List Value).toArray 4 (0, 0)) :: e73 :: (sb b15 #[(.slice as33_0 s33.length ns33_0)] 64) :: Rf60)) hr76 => ?_)
   refine RWP.store (ty := 0) (g := none) (by kernel_rfl) rfl (x := (.tmp 7)) (y := (.tmp 23)) (t := 64) (gg := false) (s := 1) (v := (.slice a71 r68.length n72)) (b := b15) (o := 0) (C := #[(.slice as33_0 s33.length ns33_0)]) rfl rfl (by kernel_rfl) hs75 (k := 2) rfl rfl rfl rfl (C' := #[(.slice a71 r68.length n72)]) rfl (fun w77 (hs78 : HS w0 F0 w77 F4 ((some b63, .cells ([(.bool y55)] : List Value).toArray 4 (0, 0)) :: e73 :: (sb b15 #[(.slice a71 r68.length n72)] 64) :: Rf60)) => ?_)
   refine RWP.nil ?_
   refine blockQ_nrm ?_
   have hs79 : HS w0 F0 w77 F4 (e73 :: (sb b15 #[(.slice a71 r68.length n72)] 64) :: Rf60) := hs78.drop 0
   obtain rfl := some_inj h70
   exact ⟨rfl, F4, [e73, (sb b15 #[(.slice a71 r68.length n72)] 64)], hs79, (Mem.le.refl _), ⟨a71, n72, e73, rfl, hr76⟩⟩
  ·rintro D81 w82 F5 _ hs83 le84 ⟨as37_0, ns37_0, es37_0, rfl, hrs37_0⟩
   have hs85 : HS w0 F0 w82 F5 [(some D81, (.deferred (some []))), es37_0, (sb b15 #[(.slice as37_0 r41.length ns37_0)] 64)] := hs83
   refine blockQ_nrm ?_
   refine thenQ_nrm ?_
   refine Sq (Rg [0, 1, 2] ?_)
   refine V 24 64 (ld 64 7 b15 0 false 1 (.slice as37_0 r41.length ns37_0) (hs85.ownAt (k := 2) rfl)) ?_
   refine V 4 64 (ma 24 (.slice as37_0 r41.length ns37_0)) ?_
   refine V 5 30 (mc (vi 0) (vi 0)) ?_
   refine Nt ?_
   refine CWP.ret (by kernel_rfl) ?_
   have hb89 := RowR.bound hrs37_0
   obtain ⟨F6, hs86, le87, hs88⟩ : ∃ Fq, HS w0 F0 w82 Fq [(some D81, (.deferred (some []))), (sb b15 #[(.slice as37_0 r41.length ns37_0)] 64)] ∧ Mem.le F5 Fq ∧ SlA tBool Fq as37_0 r41 := HS.freezeRow hs85 (k := 1) rfl hrs37_0
   have hs90 := hs86.put (k := 0) rfl (.deferred none)
   have hs91 : HS w0 F0 (putB w82 D81 (.deferred none)) F6 [(sb b15 #[(.slice as37_0 r41.length ns37_0)] 64)] := hs90.drop 0
   have hfin := some_inj h43
   subst hfin
   exact .inr ⟨D81, rfl, hs86.ownAt (k := 0) rfl, (.tuple #[(.slice as37_0 r41.length ns37_0), (vi 0)]), res_of (l := [.tmp 4, .tmp 5]) (by kernel_rfl) (vs := [(.slice as37_0 r41.length ns37_0), (vi 0)]) ⟨rfl, ⟨rfl, trivial⟩⟩, (.tuple #[(.slice as37_0 r41.length ns37_0), (vi 0)]), F6, rfl, hs91.clear, ⟨as37_0, ns37_0, rfl, hb89, hs88⟩⟩
end Go.Proofs.Ythbcnabeabcmlaa
namespace Go.Proofs.Ythbcnabeabcmlaa
open Go.Proofs
def refY (i : Int) : Int × Option (List Bound) → Bool × List Bound → Option (Bool × (Int × Option (List Bound))) := fun s x =>
 bif s.2.isSome then none else bif (s.1 == i) && !x.1 then some (false, (s.1, some x.2)) else some (true, (W64 (s.1 + 1), none))
def refRes (q : Int × Option (List Bound)) : List Bound × Int := match q.2 with
 | some l => (l, 0)
 | none => ([], 3)
def clocks_Refusal (N : Nat) (x0 : System) (x1 : List Tie) (x2 : Int) : Option (List Bound × Int) :=
 ((clocks_within N x2 0 (W64 ((x1.length : Int) - 1))).bind fun r28 => ((clocks_offered N x0 x1 r28).bind fun r36 => some r36)).bind fun j18 => (bif (j18 != 0) then some (([] : List Bound), j18) else
  ((sub x1 0 (W64 (x2 + 1))).bind fun r58 => ((clocks_added_1 N (refY x2) x0 r58 ((0 : Int), (none : Option (List Bound)))).bind fun q => some (refRes q))))
section
variable {P : Program} {n : Nat} {R : Array Oper} {f : Fr} {w : World} {PQ : List PanicEntry → List Deferred → World → Prop} {Post : Fr → World → Prop} {z : Nat} {fuel : Nat} {l l' : List Bool} {zd : Bool} {i : Nat} {dst : Option Nat} {ty : TypeId} {g : Option (Nat × Bool)}
theorem DStep.callO {w0 : World} {F0 F Fs : Mem} {L Lc Lz : List (Option Nat × Obj)} {f0 : Operand} {aos : Array Operand} {ats : Array TypeId} {fid : FuncId} {first cap : Array Value} {args : List Value} {post : Mem → Value → Own → Prop}
  (hl : l.set i true = l') (hzd : l'.toArray.getD z true = zd) (hzd0 : l.toArray.getD z true = zd)
  (ho : opq R i = some (dst, .call { callee := .value f0, args := aos, argTypes := ats }, ty, g)) (hg : gd R f g = true) (hf : fev f f0 = .func (.func fid) first cap) (hok : CallOk P fid)
  (ha : first.toList ++ aos.toList.map (fev f) ++ cap.toList = args) (hs : HS w0 F0 w F L) (hc : Calls P fid args.toArray w (FRetO w F post))
  (k : ∀ v F1 w1 L', HS w0 F0 w1 F1 (L' ++ L) → Mem.le F F1 → post F1 v L' → DWP P n R PQ Post z (DZ Fs Lc Lz) fuel l' (updo f dst v) w1) : DStep P n R PQ Post z (DZ Fs Lc Lz) fuel l i f w := by
 intro hokR hns hS a haf
 obtain ⟨o, hR, hd, hop, hty, hgd⟩ := opq_spec ho
 unfold wpOpW wpOpIn
 simp only [hR]
 rw [haf.wanted R o, hgd, hg]
 simp only [if_true]
 refine ⟨about_wide, ?_⟩
 show o.uponIn (FW none) 0 P a _ _ ((execOp a.eval o).run P w)
 rw [execOp_eq, haf.evalF, hop, hty, run_call hf hok ha]
 simp only [Oper.uponIn]
 refine ⟨(fun h => by cases h), (calls_wide hc).mono ?_⟩
 rintro e w' ⟨r, F', L', rfl, h1, h2⟩
 simp only
 rw [hzd0] at hS
 have hS' : DZ Fs Lc Lz zd w' := hS.keep h1.keep
 rw [hl, hd, hzd]
 exact ⟨hS', k r F' w' L' (hs.callO h1) h1.le h2 hokR hns (by rw [hzd]; exact hS') _ (haf.put (by rw [← hd]; exact okR_dst hokR hR) r)⟩
end
theorem co_clocks_Refusal : CallOk Try.prog 44 := fun _ _ => by kernel_rfl
set_option maxHeartbeats 4000000 in
set_option maxRecDepth 100000 in
theorem c_clocks_Refusal (N : Nat) (w0 : World) (F0 : Mem) (hF : ∀ b o, F0 b = some o → w0.heap[b]? = some o) (x0 : System) (a0_0 : Option Addr) (n0_0 : Nat) (hb0_0 : LC x0.Tracks.length n0_0) (hs0_0 : SlA tTrack F0 a0_0 x0.Tracks) (a0_1 : Option Addr) (n0_1 : Nat) (hb0_1 : LC x0.Ties.length n0_1) (hs0_1 : SlA tTie F0 a0_1 x0.Ties) (x1 : List Tie) (a1_0 : Option Addr) (n1_0 : Nat) (hb1_0 : LC x1.length n1_0) (hs1_0 : SlA tTie F0 a1_0 x1) (x2 : Int) (r : List Bound × Int) (h : clocks_Refusal N x0 x1 x2 = some r) :
  Calls Try.prog 44 ([(.agg (kSystem x0 a0_0 n0_0 a0_1 n0_1)), (.slice a1_0 x1.length n1_0), (vi x2)] : List Value).toArray w0 (FRet w0 F0 fun F' v => ∃ (aq0_0 : Option Addr) (nq0_0 : Nat), v = (.tuple #[(.slice aq0_0 r.1.length nq0_0), (vi r.2)]) ∧ LC r.1.length nq0_0 ∧ SlA tBound F' aq0_0 r.1) := by
 have hs0 := HS.start hF
 refine calls_ofM (n := 41) (c := bodyOf Try.f44) Try.func44 (by kernel_rfl) (by kernel_rfl) (by kernel_rfl) ?_
 refine CWP.seq (by kernel_rfl) ?_
 refine CWP.region (l := [0, 1, 2, 3]) (by kernel_rfl) (by kernel_rfl) (by kernel_rfl) ?_
 refine RWP.box (dst := (some 3)) (ty := 0) (g := none) (by kernel_rfl) rfl (x := (.tmp 0)) (t := 25) (v := (.agg (kSystem x0 a0_0 n0_0 a0_1 n0_1))) rfl (C := (kSystem x0 a0_0 n0_0 a0_1 n0_1)) rfl hs0 (fun b1 w2 (hs3 : HS w0 F0 w2 F0 [(sb b1 (kSystem x0 a0_0 n0_0 a0_1 n0_1) 25)]) => ?_)
 refine RWP.box (dst := (some 5)) (ty := 0) (g := none) (by kernel_rfl) rfl (x := (.tmp 2)) (t := 3) (v := (vi x2)) rfl (C := #[(vi x2)]) rfl hs3 (fun b4 w5 (hs6 : HS w0 F0 w5 F0 [(sb b4 #[(vi x2)] 3), (sb b1 (kSystem x0 a0_0 n0_0 a0_1 n0_1) 25)]) => ?_)
 refine RWP.alloc (dst := (some 6)) (ty := 0) (g := none) (by kernel_rfl) rfl (t := 57) (z := (.slice none ([] : List Bound).length 0)) (by kernel_rfl) (C := #[(.slice none ([] : List Bound).length 0)]) rfl hs6 (fun b7 w8 (hs9 : HS w0 F0 w8 F0 [(sb b7 #[(.slice none ([] : List Bound).length 0)] 57), (sb b4 #[(vi x2)] 3), (sb b1 (kSystem x0 a0_0 n0_0 a0_1 n0_1) 25)]) => ?_)
 refine RWP.alloc (dst := (some 7)) (ty := 0) (g := none) (by kernel_rfl) rfl (t := 30) (z := (vi 0)) (by kernel_rfl) (C := #[(vi 0)]) rfl hs9 (fun b10 w11 (hs12 : HS w0 F0 w11 F0 [(sb b10 #[(vi 0)] 30), (sb b7 #[(.slice none ([] : List Bound).length 0)] 57), (sb b4 #[(vi x2)] 3), (sb b1 (kSystem x0 a0_0 n0_0 a0_1 n0_1) 25)]) => ?_)
 refine RWP.nil ?_
 refine thenQ_nrm ?_
 refine CWP.seq (by kernel_rfl) ?_
 refine CWP.seq (by kernel_rfl) ?_
 obtain ⟨j18, hj26, h27⟩ := bind_some h
 refine CWP.regionD (by kernel_rfl) (by kernel_rfl) (by kernel_rfl) (by kernel_rfl) (z := 9) (F := F0) (Lc := [(sb b10 #[(vi 0)] 30), (sb b7 #[(.slice none ([] : List Bound).length 0)] 57), (sb b4 #[(vi x2)] 3), (sb b1 (kSystem x0 a0_0 n0_0 a0_1 n0_1) 25)]) (Lz := []) (l := [false, false, false, false, false, false, false, false, false]) (fuel := 9) (by kernel_rfl) (by kernel_rfl) hs12 (by simp) (by simp) (fun f w => ∃ (F1 : Mem), HS w0 F0 w F1 [(sb b10 #[(vi 0)] 30), (sb b7 #[(.slice none ([] : List Bound).length 0)] 57), (sb b4 #[(vi x2)] 3), (sb b1 (kSystem x0 a0_0 n0_0 a0_1 n0_1) 25)] ∧ Mem.le F0 F1 ∧ f.d = [] ∧ f 1 = (.slice a1_0 x1.length n1_0) ∧ f 3 = (.pointer (some ⟨b1, 0, none⟩)) ∧ f 5 = (.pointer (some ⟨b4, 0, none⟩)) ∧ f 6 = (.pointer (some ⟨b7, 0, none⟩)) ∧ f 7 = (.pointer (some ⟨b10, 0, none⟩)) ∧ f 8 = (vi j18)) (fun wd13 hw14 => ?_) ?_
 ·
  refine DWP.take (i := 0) (v := (.agg (kSystem x0 a0_0 n0_0 a0_1 n0_1))) (zd := true) (dst := (some 12)) (ty := 25) (g := none) (by kernel_rfl) (by kernel_rfl) (by kernel_rfl) (by kernel_rfl) (by kernel_rfl) rfl (fun wq hq => (run_load' (t := 25) (x := (.tmp 3)) (b := b1) (o := 0) (g := true) (s := 3) (C := (kSystem x0 a0_0 n0_0 a0_1 n0_1)) (v := (.agg (kSystem x0 a0_0 n0_0 a0_1 n0_1))) rfl (by kernel_rfl) (hq.1.2 3 _ _ rfl) rfl rfl rfl)) (l' := [true, false, false, false, false, false, false, false, false]) (by kernel_rfl) ?_
  refine DWP.take (i := 1) (v := (.slice a1_0 x1.length n1_0)) (zd := true) (dst := (some 13)) (ty := 23) (g := none) (by kernel_rfl) (by kernel_rfl) (by kernel_rfl) (by kernel_rfl) (by kernel_rfl) rfl (fun wq hq => (run_move (x := (.tmp 1)) (v := (.slice a1_0 x1.length n1_0)) rfl)) (l' := [true, true, false, false, false, false, false, false, false]) (by kernel_rfl) ?_
  refine DWP.take (i := 2) (v := (vi x2)) (zd := true) (dst := (some 14)) (ty := 3) (g := none) (by kernel_rfl) (by kernel_rfl) (by kernel_rfl) (by kernel_rfl) (by kernel_rfl) rfl (fun wq hq => (run_load' (t := 3) (x := (.tmp 5)) (b := b4) (o := 0) (g := false) (s := 1) (C := #[(vi x2)]) (v := (vi x2)) rfl (by kernel_rfl) (hq.1.2 2 _ _ rfl) rfl rfl rfl)) (l' := [true, true, true, false, false, false, false, false, false]) (by kernel_rfl) ?_
  refine DWP.take (i := 3) (v := (.slice a1_0 x1.length n1_0)) (zd := true) (dst := (some 15)) (ty := 23) (g := none) (by kernel_rfl) (by kernel_rfl) (by kernel_rfl) (by kernel_rfl) (by kernel_rfl) rfl (fun wq hq => (run_move (x := (.tmp 1)) (v := (.slice a1_0 x1.length n1_0)) rfl)) (l' := [true, true, true, true, false, false, false, false, false]) (by kernel_rfl) ?_
  refine DWP.take (i := 4) (v := (vi (x1.length : Int))) (zd := true) (dst := (some 16)) (ty := 3) (g := none) (by kernel_rfl) (by kernel_rfl) (by kernel_rfl) (by kernel_rfl) (by kernel_rfl) rfl (fun wq hq => (run_len_slice' (x := (.tmp 15)) (ats := #[23]) (a := a1_0) (n := x1.length) (c := n1_0) (E := 46) (s := 4) (by_ := 32) rfl rfl (by kernel_rfl))) (l' := [true, true, true, true, true, false, false, false, false]) (by kernel_rfl) ?_
  refine DWP.take (i := 5) (v := (vi (W64 ((x1.length : Int) - 1)))) (zd := true) (dst := (some 17)) (ty := 3) (g := none) (by kernel_rfl) (by kernel_rfl) (by kernel_rfl) (by kernel_rfl) (by kernel_rfl) rfl (fun wq hq => (run_sub (t := 3) (t' := 3) (x := (.tmp 16)) (y := (.const (vi 1))) (k := .i64) (a := (x1.length : Int)) (b := 1) rfl rfl)) (l' := [true, true, true, true, true, true, false, false, false]) (by kernel_rfl) ?_
  refine DWP.one (i := 6) (by kernel_rfl) ?_
  obtain ⟨r28, hr29, h30⟩ := bind_some hj26
  refine DStep.call (l' := [true, true, true, true, true, true, true, false, false]) (zd := true) (by kernel_rfl) (by kernel_rfl) (by kernel_rfl) (dst := (some 18)) (ty := 4) (g := none) (by kernel_rfl) rfl (f0 := (.func 67)) (aos := #[(.tmp 14), (.const (vi 0)), (.tmp 17)]) (ats := #[3, 3, 3]) (fid := 67) (first := #[]) (cap := #[]) (args := [(vi x2), (vi 0), (vi (W64 ((x1.length : Int) - 1)))]) rfl co_clocks_within (rfl) hw14 (c_clocks_within N wd13 F0 hw14.pers (x2) (0) ((W64 ((x1.length : Int) - 1))) _ hr29) ?_
  intro v31 F2 w32 hs33 le34 hp35
  obtain rfl := hp35
  refine DWP.one (i := 7) (by kernel_rfl) ?_
  obtain ⟨r36, hr37, h38⟩ := bind_some h30
  refine DStep.call (l' := [true, true, true, true, true, true, true, true, false]) (zd := true) (by kernel_rfl) (by kernel_rfl) (by kernel_rfl) (dst := (some 19)) (ty := 30) (g := none) (by kernel_rfl) rfl (f0 := (.func 86)) (aos := #[(.tmp 12), (.tmp 13), (.tmp 18)]) (ats := #[25, 23, 4]) (fid := 86) (first := #[]) (cap := #[]) (args := [(.agg (kSystem x0 a0_0 n0_0 a0_1 n0_1)), (.slice a1_0 x1.length n1_0), (.bool r28)]) rfl co_clocks_offered (rfl) hs33 (c_clocks_offered N w32 F2 hs33.pers (x0) a0_0 n0_0 hb0_0 (SlA.mono hs0_0 le34) a0_1 n0_1 hb0_1 (SlA.mono hs0_1 le34) (x1) a1_0 n1_0 hb1_0 (SlA.mono hs1_0 le34) (r28) _ hr37) ?_
  intro v39 F3 w40 hs41 le42 hp43
  obtain rfl := hp43
  refine DWP.take (i := 8) (v := (vi r36)) (zd := true) (dst := (some 8)) (ty := 30) (g := none) (by kernel_rfl) (by kernel_rfl) (by kernel_rfl) (by kernel_rfl) (by kernel_rfl) rfl (fun wq hq => (run_assign (x := (.tmp 19)) (v := (vi r36)) rfl)) (l' := [true, true, true, true, true, true, true, true, true]) (by kernel_rfl) ?_
  obtain rfl := some_inj h38
  exact DWP.done (by kernel_rfl) ⟨F3, hs41, (le34.trans le42), rfl, rfl, rfl, rfl, rfl, rfl, rfl⟩
 ·
  rintro f w15 ⟨F1, hs16, le17, e19, e20, e21, e22, e23, e24, e25⟩
  refine thenQ_nrm ?_
  refine CWP.seq (by kernel_rfl) ?_
  refine CWP.region (l := [0, 1]) (by kernel_rfl) (by kernel_rfl) (by kernel_rfl) ?_
  refine RWP.val (dst := (some 20)) (ty := 30) (g := none) (by kernel_rfl) rfl (run_move (x := (.tmp 8)) (v := (vi j18)) e25) ?_
  refine RWP.val (dst := (some 21)) (ty := 4) (g := none) (by kernel_rfl) rfl (run_neq (t := 30) (t' := 30) (x := (.tmp 20)) (y := (.const (vi 0))) (k := .i64) (a := j18) (b := 0) rfl rfl) ?_
  refine RWP.nil ?_
  refine thenQ_nrm ?_
  refine CWP.cond (t := (j18 != 0)) (by kernel_rfl) rfl (fun hb44 => ?_) (fun hb44 => ?_)
  ·
   have h45 := cond_t h27 hb44
   refine CWP.seq (by kernel_rfl) ?_
   refine CWP.region (l := [0, 1, 2]) (by kernel_rfl) (by kernel_rfl) (by kernel_rfl) ?_
   refine RWP.val (dst := (some 22)) (ty := 30) (g := none) (by kernel_rfl) rfl (run_move (x := (.tmp 8)) (v := (vi j18)) e25) ?_
   refine RWP.store (ty := 0) (g := none) (by kernel_rfl) rfl (x := (.tmp 6)) (y := (.const (.slice none 0 0))) (t := 57) (gg := false) (s := 1) (v := (.slice none ([] : List Bound).length 0)) (b := b7) (o := 0) (C := #[(.slice none ([] : List Bound).length 0)]) e23 rfl (by kernel_rfl) hs16 (k := 1) rfl rfl rfl rfl (C' := #[(.slice none ([] : List Bound).length 0)]) rfl (fun w46 (hs47 : HS w0 F0 w46 F1 [(sb b10 #[(vi 0)] 30), (sb b7 #[(.slice none ([] : List Bound).length 0)] 57), (sb b4 #[(vi x2)] 3), (sb b1 (kSystem x0 a0_0 n0_0 a0_1 n0_1) 25)]) => ?_)
   refine RWP.store (ty := 0) (g := none) (by kernel_rfl) rfl (x := (.tmp 7)) (y := (.tmp 22)) (t := 30) (gg := false) (s := 1) (v := (vi j18)) (b := b10) (o := 0) (C := #[(vi 0)]) e24 rfl (by kernel_rfl) hs47 (k := 0) rfl rfl rfl rfl (C' := #[(vi j18)]) rfl (fun w48 (hs49 : HS w0 F0 w48 F1 [(sb b10 #[(vi j18)] 30), (sb b7 #[(.slice none ([] : List Bound).length 0)] 57), (sb b4 #[(vi x2)] 3), (sb b1 (kSystem x0 a0_0 n0_0 a0_1 n0_1) 25)]) => ?_)
   refine RWP.nil ?_
   refine thenQ_nrm ?_
   refine CWP.ret (by kernel_rfl) ?_
   refine thenQ_ret ?_
   have hfin := some_inj h45
   subst hfin
   exact .inl ⟨e19, (.tuple #[(.slice none ([] : List Bound).length 0), (vi j18)]), res_of (l := [.cell 6 57, .cell 7 30]) (by kernel_rfl) (vs := [(.slice none ([] : List Bound).length 0), (vi j18)]) ⟨b7, 0, e23, run_loadVar' (t := 57) (g := false) (s := 1) (by kernel_rfl) (hs49.ownAt (k := 1) rfl) rfl (by decide), ⟨b10, 0, e24, run_loadVar' (t := 30) (g := false) (s := 1) (by kernel_rfl) (hs49.ownAt (k := 0) rfl) rfl (by decide), trivial⟩⟩, (.tuple #[(.slice none ([] : List Bound).length 0), (vi j18)]), F1, rfl, hs49.clear, ⟨none, 0, rfl, LC.nil, (.inl rfl)⟩⟩
  ·
   have h50 := cond_f h27 hb44
   refine CWP.skip (by kernel_rfl) ?_
   refine thenQ_nrm ?_
   refine CWP.seq (by kernel_rfl) ?_
   refine CWP.region (l := [0, 1]) (by kernel_rfl) (by kernel_rfl) (by kernel_rfl) ?_
   refine RWP.alloc (dst := (some 9)) (ty := 0) (g := none) (by kernel_rfl) rfl (t := 3) (z := (vi 0)) (by kernel_rfl) (C := #[(vi 0)]) rfl hs16 (fun b51 w52 (hs53 : HS w0 F0 w52 F1 [(sb b51 #[(vi 0)] 3), (sb b10 #[(vi 0)] 30), (sb b7 #[(.slice none ([] : List Bound).length 0)] 57), (sb b4 #[(vi x2)] 3), (sb b1 (kSystem x0 a0_0 n0_0 a0_1 n0_1) 25)]) => ?_)
   refine RWP.store (ty := 0) (g := none) (by kernel_rfl) rfl (x := (.tmp 9)) (y := (.const (vi 0))) (t := 3) (gg := false) (s := 1) (v := (vi 0)) (b := b51) (o := 0) (C := #[(vi 0)]) rfl rfl (by kernel_rfl) hs53 (k := 0) rfl rfl rfl rfl (C' := #[(vi 0)]) rfl (fun w54 (hs55 : HS w0 F0 w54 F1 [(sb b51 #[(vi 0)] 3), (sb b10 #[(vi 0)] 30), (sb b7 #[(.slice none ([] : List Bound).length 0)] 57), (sb b4 #[(vi x2)] 3), (sb b1 (kSystem x0 a0_0 n0_0 a0_1 n0_1) 25)]) => ?_)
   refine RWP.nil ?_
   refine thenQ_nrm ?_
   refine CWP.seq (by kernel_rfl) ?_
   refine CWP.seq (by kernel_rfl) ?_
   obtain ⟨r58, hr59, h60⟩ := bind_some h50
   obtain ⟨a61, n62, hb63, hs64, hrun65⟩ := part_val (P := Try.prog) (T := tTie) (lo := none) (hi := (some (.tmp 26))) (mx := none) (t := 23) (E := 46) (by_ := 32) (c := n1_0) (a := a1_0) (l := x1) (r := r58) (il := 0) (ih := (W64 (x2 + 1))) (im := 0) (by kernel_rfl) (by kernel_rfl) hb1_0 (SlA.mono hs1_0 le17) (fun h => by first | rfl | cases h) hr59
   obtain ⟨r41, hr42, h43⟩ := bind_some h60
   refine CWP.regionD (by kernel_rfl) (by kernel_rfl) (by kernel_rfl) (by kernel_rfl) (z := 6) (F := F1) (Lc := [(sb b51 #[(vi 0)] 3), (sb b10 #[(vi 0)] 30), (sb b7 #[(.slice none ([] : List Bound).length 0)] 57), (sb b4 #[(vi x2)] 3), (sb b1 (kSystem x0 a0_0 n0_0 a0_1 n0_1) 25)]) (Lz := []) (l := [false, false, false, false, false, false]) (fuel := 6) (by kernel_rfl) (by kernel_rfl) hs55 (by simp) (by simp) (fun f w => ∃ (b66 b67 : Nat) (F4 : Mem), HS w0 F0 w F4 [(sb b67 #[(.slice a61 r58.length n62)] 23), (sb b66 (kSystem x0 a0_0 n0_0 a0_1 n0_1) 25), (sb b51 #[(vi 0)] 3), (sb b10 #[(vi 0)] 30), (sb b7 #[(.slice none ([] : List Bound).length 0)] 57), (sb b4 #[(vi x2)] 3), (sb b1 (kSystem x0 a0_0 n0_0 a0_1 n0_1) 25)] ∧ Mem.le F1 F4 ∧ f.d = [] ∧ f 5 = (.pointer (some ⟨b4, 0, none⟩)) ∧ f 6 = (.pointer (some ⟨b7, 0, none⟩)) ∧ f 7 = (.pointer (some ⟨b10, 0, none⟩)) ∧ f 9 = (.pointer (some ⟨b51, 0, none⟩)) ∧ f 28 = .func (.func 127) #[] #[.pointer (some ⟨b66, 0, none⟩), .pointer (some ⟨b67, 0, none⟩)]) ?_ ?_
   ·
    intro wd56 hw57
    refine Dt 0 23 25 (.agg (kSystem x0 a0_0 n0_0 a0_1 n0_1)) (fun _ hq => ld 25 3 b1 0 true 3 (.agg (kSystem x0 a0_0 n0_0 a0_1 n0_1)) (hq.1.2 4 _ _ rfl) e21) ?_
    refine Dt 1 24 23 (.slice a1_0 x1.length n1_0) (fun _ hq => mv 1 (.slice a1_0 x1.length n1_0) e20) ?_
    refine Dt 2 25 3 (vi x2) (fun _ hq => ld 3 5 b4 0 false 1 (vi x2) (hq.1.2 3 _ _ rfl) e22) ?_
    refine Dt 3 26 3 (vi (W64 (x2 + 1))) (fun _ hq => run_add (t := 3) (t' := 3) (x := (.tmp 25)) (y := (.const (vi 1))) (k := .i64) (a := x2) (b := 1) rfl rfl) ?_
    refine Dt 4 27 23 (.slice a61 r58.length n62) (fun _ hq => hrun65 (x := (.tmp 24)) rfl rfl rfl trivial) ?_
    refine DWP.one (i := 5) (by kernel_rfl) ?_
    refine DStep.callO (l' := [true, true, true, true, true, true]) (zd := true) (by kernel_rfl) (by kernel_rfl) (by kernel_rfl) (dst := (some 28)) (ty := 120) (g := none) (by kernel_rfl) rfl (f0 := (.func 87)) (aos := #[(.tmp 23), (.tmp 27)]) (ats := #[25, 23]) (fid := 87) (first := #[]) (cap := #[]) (args := [(.agg (kSystem x0 a0_0 n0_0 a0_1 n0_1)), (.slice a61 r58.length n62)]) rfl co_clocks_added (rfl) hw57 (c_clocks_added wd56 F1 hw57.pers (x0) a0_0 n0_0 hb0_0 (SlA.mono hs0_0 le17) a0_1 n0_1 hb0_1 (SlA.mono hs0_1 le17) (r58) a61 n62 hb63 hs64) ?_
    rintro _ F4 w68 _ hs69 le70 ⟨b66, b67, rfl, rfl⟩
    exact DWP.done (by kernel_rfl) ⟨b66, b67, F4, hs69, le70, e19, e22, e23, e24, rfl, rfl⟩
   ·
    rintro f w70 ⟨b66, b67, F4, hs71, le72, g1, g2, g3, g4, g5, g6⟩
    refine thenQ_nrm ?_
    refine CWP.block (by kernel_rfl) ?_
    obtain ⟨F5, hs73, le74, hF75⟩ : ∃ Fq, HS w0 F0 w70 Fq [(sb b66 (kSystem x0 a0_0 n0_0 a0_1 n0_1) 25), (sb b51 #[(vi 0)] 3), (sb b10 #[(vi 0)] 30), (sb b7 #[(.slice none ([] : List Bound).length 0)] 57), (sb b4 #[(vi x2)] 3), (sb b1 (kSystem x0 a0_0 n0_0 a0_1 n0_1) 25)] ∧ Mem.le F4 Fq ∧ Fq b67 = some (oc #[(.slice a61 r58.length n62)] 23) := HS.freezeC hs71 (k := 0) rfl
    have hs76 : HS w0 F0 w70 F5 [(sb b66 (kSystem x0 a0_0 n0_0 a0_1 n0_1) 25), (sb b51 #[(vi 0)] 3), (sb b10 #[(vi 0)] 30), (sb b7 #[(.slice none ([] : List Bound).length 0)] 57), (sb b4 #[(vi x2)] 3)] := hs73.drop 5
    have le77 := (le17.trans le72).trans le74
    refine CWP.rangeFunc2 (enc := enc155) (ok := ok155) (px := px155) (m := fun {_} y s => clocks_added_1 N y x0 r58 s) (L := [(sb b51 #[(vi 0)] 3), (sb b10 #[(vi 0)] 30), (sb b7 #[(.slice none ([] : List Bound).length 0)] 57), (sb b4 #[(vi x2)] 3)]) (B := [(sb b66 (kSystem x0 a0_0 n0_0 a0_1 n0_1) 25)]) (ps := [29, 30]) (by kernel_rfl) (gf := 127) (cap := [(.pointer (some ⟨b66, 0, none⟩)), (.pointer (some ⟨b67, 0, none⟩))]) g6 co_clocks_added_1 g1 (by kernel_rfl) (by kernel_rfl) (by rintro ⟨_, _, _, _⟩; rfl) hs76 (c_clocks_added_1 N F5 x0 a0_0 n0_0 hb0_0 (SlA.mono hs0_0 le77) a0_1 n0_1 hb0_1 (SlA.mono hs0_1 le77) b66 r58 a61 n62 hb63 (SlA.mono hs64 (le72.trans le74)) b67 hF75) (refY x2) (fun s => !s.2.isSome) (fun (s : Int × Option (List Bound)) (Fq : Mem) (Lq : Own) => ∃ (aa : Option Addr) (nn : Nat), Lq = [(sb b51 #[(vi s.1)] 3), (sb b10 #[(vi 0)] 30), (sb b7 #[(.slice aa (s.2.getD []).length nn)] 57), (sb b4 #[(vi x2)] 3)] ∧ LC (s.2.getD []).length nn ∧ SlA tBound Fq aa (s.2.getD [])) ?_ (s := ((0 : Int), (none : Option (List Bound)))) (r := r41) ?_ rfl hr42 ?_ ?_ ?_ ?_
    ·
     rintro s F F' L ⟨aa, nn, rfl, k1, k2⟩ hl
     exact ⟨aa, nn, rfl, k1, k2.mono hl⟩
    ·
     exact ⟨none, 0, rfl, LC.nil, .inl rfl⟩
    ·
     rintro ⟨s1, s2⟩ x q hq
     unfold refY at hq
     cases s2 with
     | some l => simp at hq
     | none =>
      refine ⟨rfl, ?_⟩
      simp only [Option.isSome_none, cond_false] at hq
      cases hc : ((s1 == x2) && !x.1) with
      | true => rw [hc] at hq; simp only [cond_true, Option.some.injEq] at hq; subst hq; rfl
      | false => rw [hc] at hq; simp only [cond_false, Option.some.injEq] at hq; subst hq; rfl
    ·
     rintro l44 ⟨s1, s2⟩ ⟨y55, y56, ay56_0, ny56_0⟩ w47 F6 _ Rf49 q le51 ⟨hby56_0, hsy56_0⟩ ⟨aa, nn, rfl, k1, k2⟩ hs53 hy54
     have hs2 : s2 = none := by
      cases s2 with
      | none => rfl
      | some l => unfold refY at hy54; simp at hy54
     subst hs2
     have hq : (bif (s1 == x2) && !y55 then some (false, (s1, some y56)) else some (true, (W64 (s1 + 1), none))) = some q := hy54
     have hs58 : HS w0 F0 w47 F6 ((sb b51 #[(vi s1)] 3) :: (sb b10 #[(vi 0)] 30) :: (sb b7 #[(.slice aa ([] : List Bound).length nn)] 57) :: (sb b4 #[(vi x2)] 3) :: Rf49) := hs53
     refine Sq (Rg [0] ?_)
     refine V 10 4 (ma 29 (.bool y55)) ?_
     refine Nt ?_
     refine Rg [0] ?_
     refine V 11 57 (ma 30 (.slice ay56_0 y56.length ny56_0)) ?_
     refine RWP.nil ?_
     refine ⟨rfl, F6, [(sb b51 #[(vi s1)] 3), (sb b10 #[(vi 0)] 30), (sb b7 #[(.slice aa ([] : List Bound).length nn)] 57), (sb b4 #[(vi x2)] 3)], hs58, fun w59 Rf60 hs61 => ?_⟩
     have hs62 : HS w0 F0 w59 F6 ((sb b51 #[(vi s1)] 3) :: (sb b10 #[(vi 0)] 30) :: (sb b7 #[(.slice aa ([] : List Bound).length nn)] 57) :: (sb b4 #[(vi x2)] 3) :: Rf60) := hs61
     refine Bk ?_
     refine Sq (Sq (Rg [0, 1, 2, 3, 4, 5, 6] ?_))
     refine V 31 3 (ld 3 9 b51 0 false 1 (vi s1) (hs62.ownAt (k := 0) rfl) g5) ?_
     refine V 32 3 (ld 3 5 b4 0 false 1 (vi x2) (hs62.ownAt (k := 3) rfl) g2) ?_
     refine V 33 4 (run_eql (t := 3) (t' := 3) (x := (.tmp 31)) (y := (.tmp 32)) (k := .i64) (a := s1) (b := x2) rfl rfl) ?_
     refine V 34 4 (mv 33 (.bool (s1 == x2))) ?_
     refine RWP.split (s1 == x2) (fun hb1 => ?_) (fun hb1 => ?_)
     ·
      refine Vg 35 4 3 true 34 hb1 (mv 10 (.bool y55)) ?_
      refine Vg 36 4 3 true 34 hb1 (run_not (t := 4) (x := (.tmp 35)) (a := y55) rfl) ?_
      refine V 37 4 (p1 34 (.tmp 36) (.const (.bool false)) (.bool (!y55)) hb1) ?_
      refine Nt ?_
      refine CWP.cond (t := !y55) (by kernel_rfl) rfl (fun hb2 => ?_) (fun hb2 => ?_)
      ·
       rw [hb1, hb2] at hq
       simp only [Bool.and_self, cond_true, Option.some.injEq] at hq
       subst hq
       refine Sq (Rg [0, 1, 2] ?_)
       refine V 38 57 (mv 11 (.slice ay56_0 y56.length ny56_0)) ?_
       refine RWP.store (ty := 0) (g := none) (by kernel_rfl) rfl (x := (.tmp 6)) (y := (.tmp 38)) (t := 57) (gg := false) (s := 1) (v := (.slice ay56_0 y56.length ny56_0)) (b := b7) (o := 0) (C := #[(.slice aa ([] : List Bound).length nn)]) g3 rfl (by kernel_rfl) hs62 (k := 2) rfl rfl rfl rfl (C' := #[(.slice ay56_0 y56.length ny56_0)]) rfl (fun w77 (hs78 : HS w0 F0 w77 F6 ((sb b51 #[(vi s1)] 3) :: (sb b10 #[(vi 0)] 30) :: (sb b7 #[(.slice ay56_0 y56.length ny56_0)] 57) :: (sb b4 #[(vi x2)] 3) :: Rf60)) => ?_)
       refine RWP.store (ty := 0) (g := none) (by kernel_rfl) rfl (x := (.tmp 7)) (y := (.const (vi 0))) (t := 30) (gg := false) (s := 1) (v := (vi 0)) (b := b10) (o := 0) (C := #[(vi 0)]) g4 rfl (by kernel_rfl) hs78 (k := 1) rfl rfl rfl rfl (C' := #[(vi 0)]) rfl (fun w79 (hs80 : HS w0 F0 w79 F6 ((sb b51 #[(vi s1)] 3) :: (sb b10 #[(vi 0)] 30) :: (sb b7 #[(.slice ay56_0 y56.length ny56_0)] 57) :: (sb b4 #[(vi x2)] 3) :: Rf60)) => ?_)
       refine Nt ?_
       refine CWP.ret (by kernel_rfl) ?_
       refine thenQ_ret ?_
       refine blockQ_ret ?_
       exact ⟨.inr ⟨rfl, rfl⟩, F6, [(sb b51 #[(vi s1)] 3), (sb b10 #[(vi 0)] 30), (sb b7 #[(.slice ay56_0 y56.length ny56_0)] 57), (sb b4 #[(vi x2)] 3)], hs80, (Mem.le.refl _), ay56_0, ny56_0, rfl, hby56_0, hsy56_0⟩
      ·
       rw [hb1, hb2] at hq
       simp only [Bool.and_false, cond_false, Option.some.injEq] at hq
       subst hq
       refine Sc ?_
       refine thenQ_nrm ?_
       refine Rg [0, 1, 2] ?_
       refine V 39 3 (ld 3 9 b51 0 false 1 (vi s1) (hs62.ownAt (k := 0) rfl) g5) ?_
       refine V 40 3 (run_add (t := 3) (t' := 3) (x := (.tmp 39)) (y := (.const (vi 1))) (k := .i64) (a := s1) (b := 1) rfl rfl) ?_
       refine RWP.store (ty := 0) (g := none) (by kernel_rfl) rfl (x := (.tmp 9)) (y := (.tmp 40)) (t := 3) (gg := false) (s := 1) (v := (vi (W64 (s1 + 1)))) (b := b51) (o := 0) (C := #[(vi s1)]) g5 rfl (by kernel_rfl) hs62 (k := 0) rfl rfl rfl rfl (C' := #[(vi (W64 (s1 + 1)))]) rfl (fun w79 (hs80 : HS w0 F0 w79 F6 ((sb b51 #[(vi (W64 (s1 + 1)))] 3) :: (sb b10 #[(vi 0)] 30) :: (sb b7 #[(.slice aa ([] : List Bound).length nn)] 57) :: (sb b4 #[(vi x2)] 3) :: Rf60)) => ?_)
       refine RWP.nil ?_
       refine blockQ_nrm ?_
       exact ⟨.inl ⟨rfl, rfl⟩, F6, [(sb b51 #[(vi (W64 (s1 + 1)))] 3), (sb b10 #[(vi 0)] 30), (sb b7 #[(.slice aa ([] : List Bound).length nn)] 57), (sb b4 #[(vi x2)] 3)], hs80, (Mem.le.refl _), aa, nn, rfl, k1, k2⟩
     ·
      refine Sk [35, 36] 3 true 34 hb1 ?_
      refine V 37 4 (p0 34 (.tmp 36) (.const (.bool false)) (.bool false) hb1) ?_
      refine Nt ?_
      rw [hb1] at hq
      simp only [Bool.false_and, cond_false, Option.some.injEq] at hq
      subst hq
      refine CWP.cond0 (t := false) (by kernel_rfl) rfl rfl ?_
      refine Sc ?_
      refine thenQ_nrm ?_
      refine Rg [0, 1, 2] ?_
      refine V 39 3 (ld 3 9 b51 0 false 1 (vi s1) (hs62.ownAt (k := 0) rfl) g5) ?_
      refine V 40 3 (run_add (t := 3) (t' := 3) (x := (.tmp 39)) (y := (.const (vi 1))) (k := .i64) (a := s1) (b := 1) rfl rfl) ?_
      refine RWP.store (ty := 0) (g := none) (by kernel_rfl) rfl (x := (.tmp 9)) (y := (.tmp 40)) (t := 3) (gg := false) (s := 1) (v := (vi (W64 (s1 + 1)))) (b := b51) (o := 0) (C := #[(vi s1)]) g5 rfl (by kernel_rfl) hs62 (k := 0) rfl rfl rfl rfl (C' := #[(vi (W64 (s1 + 1)))]) rfl (fun w79 (hs80 : HS w0 F0 w79 F6 ((sb b51 #[(vi (W64 (s1 + 1)))] 3) :: (sb b10 #[(vi 0)] 30) :: (sb b7 #[(.slice aa ([] : List Bound).length nn)] 57) :: (sb b4 #[(vi x2)] 3) :: Rf60)) => ?_)
      refine RWP.nil ?_
      refine blockQ_nrm ?_
      exact ⟨.inl ⟨rfl, rfl⟩, F6, [(sb b51 #[(vi (W64 (s1 + 1)))] 3), (sb b10 #[(vi 0)] 30), (sb b7 #[(.slice aa ([] : List Bound).length nn)] 57), (sb b4 #[(vi x2)] 3)], hs80, (Mem.le.refl _), aa, nn, rfl, k1, k2⟩
    ·
     rintro D81 w82 F7 _ hgo hs83 le84 ⟨aa, nn, rfl, k1, k2⟩
     obtain ⟨r1, r2⟩ := r41
     have hr2 : r2 = none := by cases r2 with | none => rfl | some l => cases hgo
     subst hr2
     have hs85 : HS w0 F0 w82 F7 [(some D81, (.deferred (some []))), (sb b51 #[(vi r1)] 3), (sb b10 #[(vi 0)] 30), (sb b7 #[(.slice aa ([] : List Bound).length nn)] 57), (sb b4 #[(vi x2)] 3)] := hs83
     refine blockQ_nrm ?_
     refine thenQ_nrm ?_
     refine Sq (Rg [0, 1] ?_)
     refine RWP.store (ty := 0) (g := none) (by kernel_rfl) rfl (x := (.tmp 6)) (y := (.const (.slice none 0 0))) (t := 57) (gg := false) (s := 1) (v := (.slice none ([] : List Bound).length 0)) (b := b7) (o := 0) (C := #[(.slice aa ([] : List Bound).length nn)]) g3 rfl (by kernel_rfl) hs85 (k := 3) rfl rfl rfl rfl (C' := #[(.slice none ([] : List Bound).length 0)]) rfl (fun w86 (hs87 : HS w0 F0 w86 F7 [(some D81, (.deferred (some []))), (sb b51 #[(vi r1)] 3), (sb b10 #[(vi 0)] 30), (sb b7 #[(.slice none ([] : List Bound).length 0)] 57), (sb b4 #[(vi x2)] 3)]) => ?_)
     refine RWP.store (ty := 0) (g := none) (by kernel_rfl) rfl (x := (.tmp 7)) (y := (.const (vi 3))) (t := 30) (gg := false) (s := 1) (v := (vi 3)) (b := b10) (o := 0) (C := #[(vi 0)]) g4 rfl (by kernel_rfl) hs87 (k := 2) rfl rfl rfl rfl (C' := #[(vi 3)]) rfl (fun w88 (hs89 : HS w0 F0 w88 F7 [(some D81, (.deferred (some []))), (sb b51 #[(vi r1)] 3), (sb b10 #[(vi 3)] 30), (sb b7 #[(.slice none ([] : List Bound).length 0)] 57), (sb b4 #[(vi x2)] 3)]) => ?_)
     refine Nt ?_
     refine CWP.ret (by kernel_rfl) ?_
     have hs90 := hs89.put (k := 0) rfl (.deferred none)
     have hs91 : HS w0 F0 (putB w88 D81 (.deferred none)) F7 [(sb b51 #[(vi r1)] 3), (sb b10 #[(vi 3)] 30), (sb b7 #[(.slice none ([] : List Bound).length 0)] 57), (sb b4 #[(vi x2)] 3)] := hs90.drop 0
     have hfin := some_inj h43
     subst hfin
     exact .inr ⟨D81, rfl, hs89.ownAt (k := 0) rfl, (.tuple #[(.slice none ([] : List Bound).length 0), (vi 3)]), res_of (l := [.cell 6 57, .cell 7 30]) (by kernel_rfl) (vs := [(.slice none ([] : List Bound).length 0), (vi 3)]) ⟨b7, 0, g3, run_loadVar' (t := 57) (g := false) (s := 1) (by kernel_rfl) (hs91.ownAt (k := 2) rfl) rfl (by decide), ⟨b10, 0, g4, run_loadVar' (t := 30) (g := false) (s := 1) (by kernel_rfl) (hs91.ownAt (k := 1) rfl) rfl (by decide), trivial⟩⟩, (.tuple #[(.slice none ([] : List Bound).length 0), (vi 3)]), F7, rfl, hs91.clear, ⟨none, 0, rfl, LC.nil, (.inl rfl)⟩⟩
    ·
     rintro D81 w82 F7 _ hgo hs83 le84 ⟨aa, nn, rfl, k1, k2⟩
     obtain ⟨r1, r2⟩ := r41
     obtain ⟨rl, rfl⟩ : ∃ rl, r2 = some rl := by cases r2 with | none => cases hgo | some l => exact ⟨l, rfl⟩
     have hs85 : HS w0 F0 w82 F7 [(some D81, (.deferred (some []))), (sb b51 #[(vi r1)] 3), (sb b10 #[(vi 0)] 30), (sb b7 #[(.slice aa rl.length nn)] 57), (sb b4 #[(vi x2)] 3)] := hs83
     have hs90 := hs85.put (k := 0) rfl (.deferred none)
     have hs91 : HS w0 F0 (putB w82 D81 (.deferred none)) F7 [(sb b51 #[(vi r1)] 3), (sb b10 #[(vi 0)] 30), (sb b7 #[(.slice aa rl.length nn)] 57), (sb b4 #[(vi x2)] 3)] := hs90.drop 0
     have hfin := some_inj h43
     subst hfin
     exact .inr ⟨D81, rfl, hs85.ownAt (k := 0) rfl, (.tuple #[(.slice aa rl.length nn), (vi 0)]), res_of (l := [.cell 6 57, .cell 7 30]) (by kernel_rfl) (vs := [(.slice aa rl.length nn), (vi 0)]) ⟨b7, 0, g3, run_loadVar' (t := 57) (g := false) (s := 1) (by kernel_rfl) (hs91.ownAt (k := 2) rfl) rfl (by decide), ⟨b10, 0, g4, run_loadVar' (t := 30) (g := false) (s := 1) (by kernel_rfl) (hs91.ownAt (k := 1) rfl) rfl (by decide), trivial⟩⟩, (.tuple #[(.slice aa rl.length nn), (vi 0)]), F7, rfl, hs91.clear, ⟨aa, nn, rfl, k1, k2⟩⟩
end Go.Proofs.Ythbcnabeabcmlaa
namespace Go.Proofs.Ythbcnabeabcmlaa
open BF
def sysT (s : System) (T : List Tie) : System := { Tracks := s.Tracks, Ties := T, Window := s.Window }
theorem sub_take {α : Type} {l : List α} {k : Nat} (h : k ≤ l.length) : sub l 0 (k : Int) = some (l.take k) := by
 unfold sub
 rw [if_pos (by omega)]
 simp
open Classical in
noncomputable def vOff (s : System) (l : List Tie) (right : Bool) : Int :=
 if vCheck s ≠ 0 then vCheck s else if l.all (fun t => vHas s t.A && vHas s t.B) = false then 3 else if (right && l.all (vTie s)) = false then 1 else if Cls s then (if s.Ties.length + l.length > 400 then 2 else 0) else 31
theorem off_zero {s : System} {l : List Tie} {right : Bool} (h : vOff s l right = 0) : vCheck s = 0 ∧ right = true ∧ (∀ t, t ∈ l → vTie s t = true) ∧ Cls s ∧ s.Ties.length + l.length ≤ 400 := by
 unfold vOff at h
 split at h
 ·contradiction
 ·rename_i h0
  split at h
  ·cases h
  ·split at h
   ·cases h
   ·rename_i h1
    split at h
    ·rename_i h2
     split at h
     ·cases h
     ·have h1 : (right && l.all (vTie s)) = true := by simpa using h1
      rw [Bool.and_eq_true, List.all_eq_true] at h1
      exact ⟨by omega, h1.1, h1.2, h2, by omega⟩
    ·cases h
theorem off_of {s : System} {l : List Tie} (h : vCheck s = 0) (ht : ∀ t, t ∈ l → vTie s t = true) (hc : Cls s) (hl : s.Ties.length + l.length ≤ 400) : vOff s l true = 0 := by
 unfold vOff
 have e1 : l.all (fun t => vHas s t.A && vHas s t.B) = true := List.all_eq_true.2 fun t hm => by
  have := ht t hm
  unfold vTie at this
  simp only [Bool.and_eq_true] at this ⊢
  exact ⟨this.1, this.2.1⟩
 rw [if_neg (by omega), if_neg (by rw [e1]; simp), if_neg (by rw [List.all_eq_true.2 ht]; simp), if_pos hc, if_neg (by omega)]
section
variable {N : Nat} {s : System}
theorem offered_c (hN : 1000000 ≤ N) (hf : FitS N s) {l : List Tie} (hl : Fit N l.length) (hsm : l.length ≤ 1000000) (right : Bool) : clocks_offered N s l right = some (vOff s l right) := by
 unfold clocks_offered vOff
 rw [check_c hf, Option.bind_some]
 by_cases h : vCheck s = 0
 ·have e : (vCheck s != 0) = false := by simp [h]
  rw [if_neg (by omega), e, cond_false]
  have h1 : slices_ContainsFunc_api_Tie_api_Tie N l (fun y0 => clocks_offered_1 N y0 s) = some (l.any fun t => !(vHas s t.A && vHas s t.B)) :=
   contains_aux hl (fun t _ => by unfold clocks_offered_1; rw [has_c hf, has_c hf]; cases vHas s t.A <;> cases vHas s t.B <;> rfl) rfl
  have h2 : slices_ContainsFunc_api_Tie_api_Tie N l (fun y0 => clocks_offered_2 N y0 s) = some (l.any fun t => !vTie s t) :=
   contains_aux hl (fun t _ => by unfold clocks_offered_2; rw [tied_c hf]; rfl) rfl
  rw [h1, any_not, Option.bind_some]
  cases l.all (fun t => vHas s t.A && vHas s t.B) with
  | false => rfl
  | true =>
   simp only [Bool.not_true, cond_false, h2, any_not, Option.bind_some]
   have hT := (check_ok h).2.1
   have hlim : decide (W64 ((s.Ties.length : Int) + (l.length : Int)) > 400) = decide (s.Ties.length + l.length > 400) := by
    rw [W64_id (by omega) (by omega), decide_eq_decide]; omega
   have hfin : (bif !right then some true else some (!l.all (vTie s))) = some (!(right && l.all (vTie s))) := by cases right <;> rfl
   rw [hfin, Option.bind_some]
   cases right && l.all (vTie s) with
   | false => rfl
   | true =>
    simp only [Bool.not_true, cond_false]
    rcases loopOf_eq hN hf h with ⟨h2, h3⟩ | ⟨h2, c, h3, h4, _⟩
    ·rw [h3, if_neg (by simp), if_neg (by simp), if_pos h2, Option.bind_some, hlim]
     by_cases h5 : s.Ties.length + l.length > 400
     ·simp [h5]
     ·simp [h5]
    ·rw [h3, if_neg (by simp), if_neg (by simp), if_neg h2, Option.bind_some]
     have : c.isEmpty = false := by
      cases c with
      | nil => exact absurd rfl h4.1
      | cons _ _ => rfl
     simp [this]
 ·have e : (vCheck s != 0) = true := by simpa using h
  rw [if_pos h, e]; rfl
open Classical in
noncomputable def accStep (s : System) (q : List Tie × List Bool) (t : Tie) : List Tie × List Bool := if Cls (sysT s (q.1 ++ [t])) then (q.1 ++ [t], q.2 ++ [true]) else (q.1, q.2 ++ [false])
noncomputable def accF (s : System) (l : List Tie) : List Tie × List Bool := l.foldl (accStep s) (s.Ties, [])
theorem accF_take (s : System) {l : List Tie} {i : Nat} (hi : i < l.length) : accF s (l.take (i + 1)) = accStep s (accF s (l.take i)) l[i] := by
 unfold accF
 rw [List.take_succ_eq_append_getElem hi, List.foldl_append]; rfl
theorem accF_len (s : System) (l : List Tie) : (accF s l).2.length = l.length := by
 have : ∀ i, i ≤ l.length → (accF s (l.take i)).2.length = i := by
  intro i
  induction i with
  | zero => intro _; rfl
  | succ i ih =>
   intro hi
   rw [accF_take s (show i < l.length by omega)]
   unfold accStep
   split <;> simp [ih (by omega)]
 have h := this l.length (Nat.le_refl _)
 rwa [List.take_length] at h
theorem accF_bools (s : System) (l : List Tie) (i : Nat) (hi : i ≤ l.length) : (accF s (l.take i)).2 = (accF s l).2.take i := by
 have : ∀ d i, i + d = l.length → (accF s (l.take i)).2 = (accF s l).2.take i := by
  intro d
  induction d with
  | zero =>
   intro i hi
   have : i = l.length := by omega
   subst this
   rw [List.take_length, List.take_of_length_le (by rw [accF_len]; exact Nat.le_refl _)]
  | succ d ih =>
   intro i hi
   have hlt : i < l.length := by omega
   have h1 := ih (i + 1) (by omega)
   rw [accF_take s hlt] at h1
   have hlen : (accF s (l.take i)).2.length = i := by rw [accF_len]; simp; omega
   have h2 : ∃ b, (accStep s (accF s (l.take i)) l[i]).2 = (accF s (l.take i)).2 ++ [b] := by unfold accStep; split <;> exact ⟨_, rfl⟩
   obtain ⟨b, hb⟩ := h2
   rw [hb] at h1
   have h3 := congrArg (fun z => z.take i) h1
   simp only [List.take_take, Nat.min_eq_left (Nat.le_succ i)] at h3
   rw [List.take_left' hlen] at h3
   exact h3
 exact this (l.length - i) i (by omega)
open Classical in
theorem accF_at (s : System) {l : List Tie} {i : Nat} (hi : i < l.length) : (accF s l).2[i]? = some (decide (Cls (sysT s ((accF s (l.take i)).1 ++ [l[i]])))) := by
 have h1 := accF_bools s l (i + 1) (by omega)
 have hlen : (accF s (l.take i)).2.length = i := by rw [accF_len]; simp; omega
 rw [accF_take s hi] at h1
 have h2 : (accF s l).2[i]? = ((accF s l).2.take (i + 1))[i]? := by rw [List.getElem?_take, if_pos (by omega)]
 rw [h2, ← h1]
 unfold accStep
 by_cases hc : Cls (sysT s ((accF s (l.take i)).1 ++ [l[i]]))
 ·rw [if_pos hc, List.getElem?_append_right (by omega), hlen]; simp [hc]
 ·rw [if_neg hc, List.getElem?_append_right (by omega), hlen]; simp [hc]
structure Good (s : System) (T : List Tie) (i : Nat) : Prop where
 len : T.length ≤ s.Ties.length + i
 tie : ∀ t, t ∈ T → vTie s t = true
 cls : Cls (sysT s T)
theorem sysT_valid (h : vCheck s = 0) {T : List Tie} (hT : T.length ≤ 400) (ht : ∀ t, t ∈ T → vTie s t = true) : vCheck (sysT s T) = 0 := by
 obtain ⟨k1, k2, k3, k4, k5, k6⟩ := check_ok h
 unfold vCheck
 have e1 : (decide (((sysT s T).Tracks.length : Int) > 64) || decide (((sysT s T).Ties.length : Int) > 400)) = false := by simp [sysT]; omega
 have e2 : (sysT s T).Tracks.all vTrack = true := List.all_eq_true.2 k3
 have e3 : inr (sysT s T).Window 0 120 = true := by unfold inr sysT; simp; omega
 have e4 : (sysT s T).Ties.all (vTie (sysT s T)) = true := List.all_eq_true.2 fun t hm => ht t hm
 rw [e1, e2, e3, e4]; rfl
theorem sysT_fit (hf : FitS N s) {T : List Tie} (hT : T.length ≤ 400) (hN : 1000000 ≤ N) : FitS N (sysT s T) := ⟨hf.n, hf.t, by simp [sysT]; omega, by simp [sysT]; omega⟩
theorem good_start (h : vCheck s = 0) (hc : Cls s) : Good s s.Ties 0 := ⟨by omega, (check_ok h).2.2.2.2.2, hc⟩
theorem good_acc (h : vCheck s = 0) (hc : Cls s) {l : List Tie} (hl : ∀ t, t ∈ l → vTie s t = true) : ∀ i, i ≤ l.length → Good s (accF s (l.take i)).1 i := by
 intro i
 induction i with
 | zero => intro _; exact good_start h hc
 | succ i ih =>
  intro hi
  have g := ih (by omega)
  rw [accF_take s (show i < l.length by omega)]
  unfold accStep
  split
  ·rename_i hcl
   refine ⟨by simp; have := g.len; omega, fun t ht => ?_, hcl⟩
   rw [List.mem_append, List.mem_singleton] at ht
   rcases ht with ht | rfl
   ·exact g.tie t ht
   ·exact hl _ (List.getElem_mem _)
  ·exact ⟨by have := g.len; simp only; omega, g.tie, g.cls⟩
theorem Good.snoc {T : List Tie} {i : Nat} (g : Good s T i) (h : vCheck s = 0) {t : Tie} (ht : vTie s t = true) (hl : s.Ties.length + i < 400) : vCheck (sysT s (T ++ [t])) = 0 :=
 sysT_valid h (by have := g.len; simp; omega) fun x hx => by
  rw [List.mem_append, List.mem_singleton] at hx
  rcases hx with hx | rfl
  ·exact g.tie x hx
  ·exact ht
theorem added_round {σ : Type} (hN : 1000000 ≤ N) (hf : FitS N s) (h : vCheck s = 0) {l : List Tie} {i : Nat} (hi : i < l.length) (hl1 : l.length ≤ 400) {T : List Tie} (g : Good s T i) (ht : vTie s l[i] = true) (hl : s.Ties.length + i < 400) (y : σ → Bool × List Bound → Option (Bool × σ)) (st s0 : σ) (r1 : List Tie) :
  (Cls (sysT s (T ++ [l[i]])) ∧ clocks_added_1_L0 N y s l s0 r1 ((i : Int), T, st) = (y st (true, [])).bind fun q => bif !q.1 then some (.ret q.2) else some (.next (((i + 1 : Nat) : Int), T ++ [l[i]], q.2))) ∨
  (¬ Cls (sysT s (T ++ [l[i]])) ∧ ∃ c, BadLoop (bnds (sysT s (T ++ [l[i]]))) c ∧ c.length ≤ 25601 ∧ clocks_added_1_L0 N y s l s0 r1 ((i : Int), T, st) = (y st (false, c)).bind fun q => bif !q.1 then some (.ret q.2) else some (.next (((i + 1 : Nat) : Int), T, q.2))) := by
 have hv := g.snoc h ht hl
 have hlen := g.len
 have hfT : FitS N (sysT s (T ++ [l[i]])) := sysT_fit hf (by simp; omega) hN
 unfold clocks_added_1_L0
 simp only
 rw [lt_t hi, cond_true, idx_nat hi, Option.bind_some, apnd_ok (by simp; omega), Option.bind_some, W64_succ (by omega)]
 rw [show ({ Tracks := s.Tracks, Ties := T ++ [l[i]], Window := s.Window } : System) = sysT s (T ++ [l[i]]) from rfl]
 rcases loopOf_eq hN hfT hv with ⟨h1, h2⟩ | ⟨h1, c, h2, h3, h4⟩
 ·refine .inl ⟨h1, ?_⟩
  rw [h2]
  simp only [Option.bind_some, List.isEmpty_nil, Bool.not_true, cond_false]
 ·refine .inr ⟨h1, c, h3, Nat.le_trans h4 (nodes_len hv), ?_⟩
  have he : c.isEmpty = false := by
   cases c with
   | nil => exact absurd rfl h3.1
   | cons _ _ => rfl
  have hsub : sub (T ++ [l[i]]) 0 (W64 (((T ++ [l[i]]).length : Int) - 1)) = some T := by
   rw [W64_id (by rw [List.length_append, List.length_singleton]; omega) (by rw [List.length_append, List.length_singleton]; omega)]
   have : (((T ++ [l[i]]).length : Int) - 1) = ((T.length : Nat) : Int) := by simp
   rw [this, sub_take (by simp)]
   simp
  rw [h2]
  simp only [Option.bind_some, he, Bool.not_false, cond_true, hsub]
theorem Accept_c (hN : 1000000 ≤ N) (hf : FitS N s) {l : List Tie} (hl : Fit N l.length) (hsm : l.length ≤ 1000000) : clocks_Accept N s l = some (if vOff s l true ≠ 0 then ([], vOff s l true) else ((accF s l).2, 0)) := by
 unfold clocks_Accept
 rw [offered_c hN hf hl hsm, Option.bind_some]
 by_cases h0 : vOff s l true = 0
 ·obtain ⟨h, _, ht, hc, hlen⟩ := off_zero h0
  have e : (vOff s l true != 0) = false := by simp [h0]
  rw [e, cond_false, if_neg (by omega)]
  unfold clocks_added_1 slices_Clone_api_Tie_api_Tie
  rw [apnd_ok (by simp; omega), Option.bind_some, List.nil_append]
  obtain ⟨o, ho, j, T, rfl⟩ := iter_ex (body := clocks_added_1_L0 N (fun st x => ((clocks_Accept_L0 N s l (vOff s l true)) st x).map fun t => (true, t)) s l ([] : List Bool) s.Ties) l.length
   (fun i q => q = ((i : Int), (accF s (l.take i)).1, (accF s (l.take i)).2)) (fun o => ∃ j T, o = .done (j, T, (accF s l).2)) (by
   rintro i q hi rfl
   by_cases hlt : i < l.length
   ·left
    have g := good_acc h hc ht i (by omega)
    have hal : (accF s (l.take i)).2.length = i := by rw [accF_len]; simp; omega
    rcases added_round hN hf h hlt (by omega) g (ht _ (List.getElem_mem hlt)) (by omega) (fun st x => ((clocks_Accept_L0 N s l (vOff s l true)) st x).map fun t => (true, t)) (accF s (l.take i)).2 [] s.Ties with ⟨h1, h2⟩ | ⟨h1, c, _, _, h2⟩
    ·rw [h2]
     unfold clocks_Accept_L0
     simp only
     rw [apnd_ok (by rw [hal]; simp; omega)]
     refine ⟨_, rfl, ?_, hlt⟩
     rw [accF_take s hlt]
     unfold accStep
     rw [if_pos h1]
    ·rw [h2]
     unfold clocks_Accept_L0
     simp only
     rw [apnd_ok (by rw [hal]; simp; omega)]
     refine ⟨_, rfl, ?_, hlt⟩
     rw [accF_take s hlt]
     unfold accStep
     rw [if_neg h1]
   ·have : i = l.length := by omega
    subst this
    right
    unfold clocks_added_1_L0
    simp only
    rw [lt_f, cond_false]
    refine ⟨_, rfl, (fun _ h => by cases h), (l.length : Int), (accF s l).1, ?_⟩
    rw [List.take_length]) l.length N 0 (0, s.Ties, []) (by omega) rfl hl.2
  rw [ho]; rfl
 ·have e : (vOff s l true != 0) = true := by simpa using h0
  rw [e, if_pos h0]; rfl
theorem inr_of {i : Int} {n : Nat} (h : n ≤ 1000000) (hi : inr i 0 (W64 ((n : Int) - 1)) = true) : ∃ k : Nat, i = (k : Int) ∧ k < n := by
 rw [W64_id (by omega) (by omega)] at hi
 unfold inr at hi
 simp only [Bool.and_eq_true, decide_eq_true_eq] at hi
 exact ⟨i.toNat, by omega, by omega⟩
theorem Refusal_c (hN : 1000000 ≤ N) (hf : FitS N s) {l : List Tie} (hl : Fit N l.length) (hsm : l.length ≤ 1000000) (i : Int) :
  (vOff s l (inr i 0 (W64 ((l.length : Int) - 1))) ≠ 0 ∧ clocks_Refusal N s l i = some ([], vOff s l (inr i 0 (W64 ((l.length : Int) - 1))))) ∨
  (vOff s l (inr i 0 (W64 ((l.length : Int) - 1))) = 0 ∧ ∃ k : Nat, i = (k : Int) ∧ ∃ hk : k < l.length,
   (Cls (sysT s ((accF s (l.take k)).1 ++ [l[k]])) ∧ clocks_Refusal N s l i = some ([], 3)) ∨
   (¬ Cls (sysT s ((accF s (l.take k)).1 ++ [l[k]])) ∧ ∃ c, clocks_Refusal N s l i = some (c, 0) ∧ BadLoop (bnds (sysT s ((accF s (l.take k)).1 ++ [l[k]]))) c ∧ c.length ≤ 25601)) := by
 unfold clocks_Refusal
 rw [within_c, Option.bind_some, offered_c hN hf hl hsm, Option.bind_some, Option.bind_some]
 by_cases h0 : vOff s l (inr i 0 (W64 ((l.length : Int) - 1))) = 0
 ·right
  refine ⟨h0, ?_⟩
  obtain ⟨h, hr, ht, hc, hlen⟩ := off_zero h0
  obtain ⟨k, rfl, hk⟩ := inr_of hsm hr
  refine ⟨k, rfl, hk, ?_⟩
  have e : (vOff s l (inr (k : Int) 0 (W64 ((l.length : Int) - 1))) != 0) = false := by simp [h0]
  rw [e, cond_false, W64_succ (by omega), sub_take (by omega), Option.bind_some]
  generalize hp : l.take (k + 1) = p
  have hpl : p.length = k + 1 := by subst hp; simp; omega
  have hpt : ∀ j, j ≤ k → p.take j = l.take j := fun j hj => by subst hp; rw [List.take_take, Nat.min_eq_left (by omega)]
  have hpa : ∀ j (hj : j < p.length), p[j] = l[j]'(by omega) := fun j hj => by subst hp; simp
  have htp : ∀ t, t ∈ p → vTie s t = true := fun t hm => ht t (by subst hp; exact List.mem_of_mem_take hm)
  unfold clocks_added_1 slices_Clone_api_Tie_api_Tie
  rw [apnd_ok (by simp; omega), Option.bind_some, List.nil_append]
  have hkp : k < p.length := by omega
  obtain ⟨o, ho, hR⟩ := iter_ex (body := clocks_added_1_L0 N (refY (k : Int)) s p ((0 : Int), (none : Option (List Bound))) s.Ties) p.length
   (fun j q => q = ((j : Int), (accF s (p.take j)).1, ((j : Int), (none : Option (List Bound)))) ∧ (j = k + 1 → Cls (sysT s ((accF s (l.take k)).1 ++ [l[k]]))))
   (fun o => (Cls (sysT s ((accF s (l.take k)).1 ++ [l[k]])) ∧ ∃ a b c, o = .done (a, b, (c, none))) ∨ (¬ Cls (sysT s ((accF s (l.take k)).1 ++ [l[k]])) ∧ ∃ a c, o = .ret (a, some c) ∧ BadLoop (bnds (sysT s ((accF s (l.take k)).1 ++ [l[k]]))) c ∧ c.length ≤ 25601)) (by
   rintro j q hj ⟨rfl, hjk⟩
   by_cases hlt : j < p.length
   ·have g := good_acc h hc htp j (by omega)
    have hmem := htp _ (List.getElem_mem hlt)
    have hTj : (accF s (p.take j)).1 = (accF s (l.take j)).1 := by rw [hpt j (by omega)]
    by_cases hjeq : j = k
    ·subst hjeq
     have hlj : p[j] = l[j] := hpa j hlt
     rcases added_round hN hf h hlt (by omega) g hmem (by omega) (refY (j : Int)) ((j : Int), (none : Option (List Bound))) ((0 : Int), (none : Option (List Bound))) s.Ties with ⟨h1, h2⟩ | ⟨h1, c, h3, h4, h2⟩
     ·left
      rw [h2]
      rw [hTj, hlj] at h1
      unfold refY
      simp only [Option.isSome_none, cond_false, beq_self_eq_true, Bool.not_true, Bool.and_false, Option.bind_some]
      refine ⟨_, rfl, ⟨?_, fun _ => h1⟩, hlt⟩
      rw [W64_succ (by omega), accF_take s hlt]
      unfold accStep
      rw [hTj, hlj, if_pos h1]
     ·right
      rw [h2]
      rw [hTj, hlj] at h1 h3
      unfold refY
      simp only [Option.isSome_none, cond_false, beq_self_eq_true, Bool.not_false, Bool.and_self, cond_true, Option.bind_some]
      exact ⟨_, rfl, (fun _ h => by cases h), .inr ⟨h1, _, c, rfl, h3, h4⟩⟩
    ·have hne : ((j : Int) == (k : Int)) = false := by simp; omega
     left
     rcases added_round hN hf h hlt (by omega) g hmem (by omega) (refY (k : Int)) ((j : Int), (none : Option (List Bound))) ((0 : Int), (none : Option (List Bound))) s.Ties with ⟨h1, h2⟩ | ⟨h1, c, _, _, h2⟩
     ·rw [h2]
      unfold refY
      simp only [Option.isSome_none, cond_false, hne, Bool.false_and, Option.bind_some, Bool.not_true]
      refine ⟨_, rfl, ⟨?_, fun hh => by omega⟩, hlt⟩
      rw [W64_succ (by omega), accF_take s hlt]
      unfold accStep
      rw [if_pos h1]
     ·rw [h2]
      unfold refY
      simp only [Option.isSome_none, cond_false, hne, Bool.false_and, Option.bind_some, Bool.not_true]
      refine ⟨_, rfl, ⟨?_, fun hh => by omega⟩, hlt⟩
      rw [W64_succ (by omega), accF_take s hlt]
      unfold accStep
      rw [if_neg h1]
   ·have hje : j = p.length := by omega
    subst hje
    right
    unfold clocks_added_1_L0
    simp only
    rw [lt_f, cond_false]
    exact ⟨_, rfl, (fun _ h => by cases h), .inl ⟨hjk hpl, _, _, _, rfl⟩⟩) p.length N 0 (0, s.Ties, ((0 : Int), (none : Option (List Bound)))) (by omega) ⟨rfl, fun hh => by omega⟩ (by omega)
  rw [ho]
  rcases hR with ⟨h1, a, b, c, rfl⟩ | ⟨h1, a, c, rfl, h3, h4⟩
  ·exact .inl ⟨h1, rfl⟩
  ·exact .inr ⟨h1, c, rfl, h3, h4⟩
 ·left
  have e : (vOff s l (inr i 0 (W64 ((l.length : Int) - 1))) != 0) = true := by simpa using h0
  rw [e]; exact ⟨h0, rfl⟩
end
end Go.Proofs.Ythbcnabeabcmlaa
namespace Go.Proofs.Ythbcnabeabcmlaa
open Go.Proofs
def ref03_SameBools_L0 (N : Nat) (x0 : (List Bool)) (x1 : (List Bool)) : Int → Option (Flow Bool Int) := fun s7 =>
 (bif (decide (s7 < (x0.length : Int))) then (((idx x0 s7).bind fun x41 => ((idx x1 s7).bind fun x55 => some (!(x41 == x55)))).bind fun j33 => (bif j33 then some (.ret false) else some (.next (W64 (s7 + 1))))) else some (.done s7))
def ref03_SameBools (N : Nat) (x0 : (List Bool)) (x1 : (List Bool)) : Option Bool :=
 (bif ((x0.length : Int) != (x1.length : Int)) then some false else ((iter (ref03_SameBools_L0 N x0 x1) N 0).bind fun o => o.k (fun r => some r) (fun s15 => some true)))
theorem co_ref03_SameBools : CallOk Try.prog 45 := fun _ _ => by kernel_rfl
set_option maxHeartbeats 4000000 in
set_option maxRecDepth 100000 in
theorem c_ref03_SameBools (N : Nat) (w0 : World) (F0 : Mem) (hF : ∀ b o, F0 b = some o → w0.heap[b]? = some o) (x0 : (List Bool)) (a0_0 : Option Addr) (n0_0 : Nat) (hb0_0 : LC x0.length n0_0) (hs0_0 : SlA tBool F0 a0_0 x0) (x1 : (List Bool)) (a1_0 : Option Addr) (n1_0 : Nat) (hb1_0 : LC x1.length n1_0) (hs1_0 : SlA tBool F0 a1_0 x1) (r : Bool) (h : ref03_SameBools N x0 x1 = some r) :
  Calls Try.prog 45 ([(.slice a0_0 x0.length n0_0), (.slice a1_0 x1.length n1_0)] : List Value).toArray w0 (FRet w0 F0 fun F' v => v = (.bool r)) := by
 have hs0 := HS.start hF
 refine calls_of (n := 26) (c := bodyOf Try.f45) Try.func45 (by kernel_rfl) (by kernel_rfl) (by kernel_rfl) ?_
 refine Sq (Rg [0] ?_)
 refine V 4 4 (mc (.bool false) (.bool false)) ?_
 refine Nss ?_
 refine Sq (Rg [0, 1, 2, 3, 4] ?_)
 refine V 6 64 (mv 0 (.slice a0_0 x0.length n0_0)) ?_
 refine V 7 3 (ln 6 64 a0_0 x0.length n0_0 4 1 1) ?_
 refine V 8 64 (mv 1 (.slice a1_0 x1.length n1_0)) ?_
 refine V 9 3 (ln 8 64 a1_0 x1.length n1_0 4 1 1) ?_
 refine V 10 4 (run_neq (t := 3) (t' := 3) (x := (.tmp 7)) (y := (.tmp 9)) (k := .i64) (a := (x0.length : Int)) (b := (x1.length : Int)) rfl rfl) ?_
 refine Nt ?_
 refine CWP.cond (t := ((x0.length : Int) != (x1.length : Int))) (by kernel_rfl) rfl (fun hb1 => ?_) (fun hb1 => ?_)
 ·have h2 := cond_t h hb1
  refine Sq (Rg [0] ?_)
  refine V 4 4 (mc (.bool false) (.bool false)) ?_
  refine Nt ?_
  refine CWP.ret (by kernel_rfl) ?_
  refine thenQ_ret ?_
  have hfin := some_inj h2
  subst hfin
  exact ⟨rfl, (.bool false), res_of (l := [.tmp 4]) (by kernel_rfl) (vs := [(.bool false)]) ⟨rfl, trivial⟩, (.bool false), F0, rfl, hs0.clear, rfl⟩
 ·have h3 := cond_f h hb1
  refine Sc ?_
  refine thenQ_nrm ?_
  refine Sq ?_
  refine Sq (Rg [0] ?_)
  refine V 5 3 (mc (vi 0) (vi 0)) ?_
  refine Nt ?_
  obtain ⟨o4, ho5, h6⟩ := bind_some h3
  refine CWP.cut (fun f w => ∃ (s15 : Int) (F2 : Mem), o4 = .done s15 ∧ HS w0 F0 w F2 [] ∧ Mem.le F0 F2 ∧ f.d = []) ?_ ?_
  ·refine Bk ?_
   refine CWP.loop (by kernel_rfl) (fun m f w => ∃ (s7 : Int) (F1 : Mem), iter (ref03_SameBools_L0 N x0 x1) m s7 = some o4 ∧ HS w0 F0 w F1 [] ∧ Mem.le F0 F1 ∧ f.d = [] ∧ f 0 = (.slice a0_0 x0.length n0_0) ∧ f 1 = (.slice a1_0 x1.length n1_0) ∧ f 5 = (vi s7)) N ⟨0, F0, ho5, hs0, (Mem.le.refl _), rfl, rfl, rfl, rfl⟩ ?_
   rintro m20 f w8 ⟨s7, F1, hit21, hs9, le10, e11, e12, e13, e14⟩
   obtain ⟨m22, fl23, rfl, hb24, hnx25⟩ := iter_step hit21
   refine Sq ?_
   refine Sq (Rg [0, 1, 2, 3] ?_)
   refine V 11 3 (mv 5 (vi s7) e14) ?_
   refine V 12 64 (mv 0 (.slice a0_0 x0.length n0_0) e12) ?_
   refine V 13 3 (ln 12 64 a0_0 x0.length n0_0 4 1 1) ?_
   refine V 14 4 (run_lss (t := 3) (t' := 3) (x := (.tmp 11)) (y := (.tmp 13)) (k := .i64) (a := s7) (b := (x0.length : Int)) rfl rfl) ?_
   refine Nt ?_
   refine CWP.cond (t := (decide (s7 < (x0.length : Int)))) (by kernel_rfl) rfl (fun hb26 => ?_) (fun hb26 => ?_)
   ·have h27 := cond_t hb24 hb26
    refine Sc ?_
    refine thenQ_nrm ?_
    refine Sq ?_
    refine Bk ?_
    refine Sq ?_
    obtain ⟨j33, hj39, h40⟩ := bind_some h27
    refine CWP.regionD (by kernel_rfl) (by kernel_rfl) (by kernel_rfl) (by kernel_rfl) (z := 9) (F := F1) (Lc := []) (Lz := []) (l := [false, false, false, false, false, false, false, false, false]) (fuel := 9) (by kernel_rfl) (by kernel_rfl) hs9 (by simp) (by simp) (fun f w => ∃ (F3 : Mem), HS w0 F0 w F3 [] ∧ Mem.le F1 F3 ∧ f.d = [] ∧ f 0 = (.slice a0_0 x0.length n0_0) ∧ f 1 = (.slice a1_0 x1.length n1_0) ∧ f 5 = (vi s7) ∧ f 25 = (.bool j33)) (fun wd28 hw29 => ?_) ?_
    ·refine Dt 0 17 64 _ (fun _ hq => mv 0 (.slice a0_0 x0.length n0_0) e12) ?_
     refine Dt 1 18 3 _ (fun _ hq => mv 5 (vi s7) e14) ?_
     obtain ⟨x41, hx42, h44⟩ := bind_some hj39
     obtain ⟨hi43, hx42'⟩ := idx_spec hx42
     obtain ⟨b45, o46, C47, E48, fz49, rfl, hF51, hE52⟩ := SlA.open (SlA.mono hs0_0 le10) hx42'
     have hc54 := hE52 _ _ hx42'
     refine Dt 2 19 0 (.pointer (some ⟨b45, (o46 + (s7 : Int).toNat * 1), none⟩)) (fun _ hq => ix 64 17 18 b45 o46 4 1 1 hi43) ?_
     refine Dt 3 20 4 _ (fun _ hq => lx 4 19 0 1 false 1 (.bool x41) (hq.1.1 _ _ hF51) hc54) ?_
     refine Dt 4 21 64 _ (fun _ hq => mv 1 (.slice a1_0 x1.length n1_0) e13) ?_
     refine Dt 5 22 3 _ (fun _ hq => mv 5 (vi s7) e14) ?_
     obtain ⟨x55, hx56, h58⟩ := bind_some h44
     obtain ⟨hi57, hx56'⟩ := idx_spec hx56
     obtain ⟨b59, o60, C61, E62, fz63, rfl, hF65, hE66⟩ := SlA.open (SlA.mono hs1_0 le10) hx56'
     have hc68 := hE66 _ _ hx56'
     refine Dt 6 23 0 (.pointer (some ⟨b59, (o60 + (s7 : Int).toNat * 1), none⟩)) (fun _ hq => ix 64 21 22 b59 o60 4 1 1 hi57) ?_
     refine Dt 7 24 4 _ (fun _ hq => lx 4 23 0 1 false 1 (.bool x55) (hq.1.1 _ _ hF65) hc68) ?_
     refine Dt 8 25 4 (.bool (!(x41 == x55))) (fun _ hq => run_neb (t := 4) (t' := 4) (x := (.tmp 20)) (y := (.tmp 24)) (a := x41) (b := x55) rfl rfl (by kernel_rfl)) ?_
     obtain rfl := some_inj h58
     exact DWP.done (by kernel_rfl) ⟨F1, hw29, (Mem.le.refl _), e11, e12, e13, e14, rfl⟩
    ·rintro f w30 ⟨F3, hs31, le32, e34, e35, e36, e37, e38⟩
     refine thenQ_nrm ?_
     refine CWP.cond (t := j33) (by kernel_rfl) e38 (fun hb69 => ?_) (fun hb69 => ?_)
     ·have h70 := cond_t h40 hb69
      refine Sq (Rg [0] ?_)
      refine V 4 4 (mc (.bool false) (.bool false)) ?_
      refine Nt ?_
      refine CWP.ret (by kernel_rfl) ?_
      refine blockQ_ret ?_
      refine thenQ_ret ?_
      refine thenQ_ret ?_
      refine blockQ_ret ?_
      have hret := iter_ret h70 hnx25
      subst hret
      refine .inr ?_
      refine thenQ_ret ?_
      have hfin := some_inj h6
      subst hfin
      exact ⟨e34, (.bool false), res_of (l := [.tmp 4]) (by kernel_rfl) (vs := [(.bool false)]) ⟨rfl, trivial⟩, (.bool false), F3, rfl, hs31.clear, rfl⟩
     ·have h71 := cond_f h40 hb69
      refine Sc ?_
      refine blockQ_nrm ?_
      refine thenQ_nrm ?_
      refine Rg [0, 1, 2] ?_
      refine V 15 3 (mv 5 (vi s7) e37) ?_
      refine V 16 3 (run_add (t := 3) (t' := 3) (x := (.tmp 15)) (y := (.const (vi 1))) (k := .i64) (a := s7) (b := 1) rfl rfl) ?_
      refine V 5 3 (ma 16 (vi (W64 (s7 + 1)))) ?_
      refine RWP.nil ?_
      have hn72 := iter_next h71 hnx25
      exact ⟨m22, Nat.lt_succ_self _, (W64 (s7 + 1)), F3, hn72, hs31, (le10.trans le32), e34, e35, e36, rfl⟩
   ·have h73 := cond_f hb24 hb26
    refine CWP.exit (by kernel_rfl) ?_
    refine thenQ_ex ?_
    refine thenQ_ex ?_
    refine blockQ_hit rfl ?_
    have ho74 := iter_done h73 hnx25
    exact .inl ⟨rfl, s7, F1, ho74, hs9, le10, e11⟩
  ·rintro f w16 ⟨s15, F2, rfl, hs17, le18, e19⟩
   have h75 := k_done h6
   refine thenQ_nrm ?_
   refine Sq (Rg [0] ?_)
   refine V 4 4 (mc (.bool true) (.bool true)) ?_
   refine Nt ?_
   refine CWP.ret (by kernel_rfl) ?_
   have hfin := some_inj h75
   subst hfin
   exact ⟨e19, (.bool true), res_of (l := [.tmp 4]) (by kernel_rfl) (vs := [(.bool true)]) ⟨rfl, trivial⟩, (.bool true), F2, rfl, hs17.clear, rfl⟩
end Go.Proofs.Ythbcnabeabcmlaa
namespace Go.Proofs.Ythbcnabeabcmlaa
open Go.Proofs
def ref03_SameSpans_L1 (N : Nat) (x0 : (List (List Span))) (x1 : (List (List Span))) (s7 : Int) (j33 : (Bool)) : Int → Option (Flow Bool Int) := fun s75 =>
 ((idx x0 s7).bind fun x98 => (bif (decide (s75 < (x98.length : Int))) then (((idx x0 s7).bind fun x128 => ((idx x128 s75).bind fun x134 => ((idx x1 s7).bind fun x148 => ((idx x148 s75).bind fun x162 => some (!((x134.Lo == x162.Lo) && ((x134.Hi == x162.Hi) && true))))))).bind fun j119 => (bif j119 then some (.ret false) else some (.next (W64 (s75 + 1))))) else some (.done s75)))
def ref03_SameSpans_L0 (N : Nat) (x0 : (List (List Span))) (x1 : (List (List Span))) : Int → Option (Flow Bool Int) := fun s7 =>
 (bif (decide (s7 < (x0.length : Int))) then (((idx x0 s7).bind fun x41 => ((idx x1 s7).bind fun x55 => some ((x41.length : Int) != (x55.length : Int)))).bind fun j33 => (bif j33 then some (.ret false) else ((iter (ref03_SameSpans_L1 N x0 x1 s7 j33) N 0).bind fun o => o.k (fun r => some (.ret r)) (fun s84 => some (.next (W64 (s7 + 1))))))) else some (.done s7))
def ref03_SameSpans (N : Nat) (x0 : (List (List Span))) (x1 : (List (List Span))) : Option Bool :=
 (bif ((x0.length : Int) != (x1.length : Int)) then some false else ((iter (ref03_SameSpans_L0 N x0 x1) N 0).bind fun o => o.k (fun r => some r) (fun s15 => some true)))
theorem co_ref03_SameSpans : CallOk Try.prog 52 := fun _ _ => by kernel_rfl
set_option maxHeartbeats 4000000 in
set_option maxRecDepth 100000 in
theorem c_ref03_SameSpans (N : Nat) (w0 : World) (F0 : Mem) (hF : ∀ b o, F0 b = some o → w0.heap[b]? = some o) (x0 : (List (List Span))) (a0_0 : Option Addr) (n0_0 : Nat) (hb0_0 : LC x0.length n0_0) (hs0_0 : SlA (tSl tSpan) F0 a0_0 x0) (x1 : (List (List Span))) (a1_0 : Option Addr) (n1_0 : Nat) (hb1_0 : LC x1.length n1_0) (hs1_0 : SlA (tSl tSpan) F0 a1_0 x1) (r : Bool) (h : ref03_SameSpans N x0 x1 = some r) :
  Calls Try.prog 52 ([(.slice a0_0 x0.length n0_0), (.slice a1_0 x1.length n1_0)] : List Value).toArray w0 (FRet w0 F0 fun F' v => v = (.bool r)) := by
 have hs0 := HS.start hF
 refine calls_of (n := 53) (c := bodyOf Try.f52) Try.func52 (by kernel_rfl) (by kernel_rfl) (by kernel_rfl) ?_
 refine Sq (Rg [0] ?_)
 refine V 4 4 (mc (.bool false) (.bool false)) ?_
 refine Nss ?_
 refine Sq (Rg [0, 1, 2, 3, 4] ?_)
 refine V 7 33 (mv 0 (.slice a0_0 x0.length n0_0)) ?_
 refine V 8 3 (ln 7 33 a0_0 x0.length n0_0 36 1 24) ?_
 refine V 9 33 (mv 1 (.slice a1_0 x1.length n1_0)) ?_
 refine V 10 3 (ln 9 33 a1_0 x1.length n1_0 36 1 24) ?_
 refine V 11 4 (run_neq (t := 3) (t' := 3) (x := (.tmp 8)) (y := (.tmp 10)) (k := .i64) (a := (x0.length : Int)) (b := (x1.length : Int)) rfl rfl) ?_
 refine Nt ?_
 refine CWP.cond (t := ((x0.length : Int) != (x1.length : Int))) (by kernel_rfl) rfl (fun hb1 => ?_) (fun hb1 => ?_)
 ·have h2 := cond_t h hb1
  refine Sq (Rg [0] ?_)
  refine V 4 4 (mc (.bool false) (.bool false)) ?_
  refine Nt ?_
  refine CWP.ret (by kernel_rfl) ?_
  refine thenQ_ret ?_
  have hfin := some_inj h2
  subst hfin
  exact ⟨rfl, (.bool false), res_of (l := [.tmp 4]) (by kernel_rfl) (vs := [(.bool false)]) ⟨rfl, trivial⟩, (.bool false), F0, rfl, hs0.clear, rfl⟩
 ·have h3 := cond_f h hb1
  refine Sc ?_
  refine thenQ_nrm ?_
  refine Sq ?_
  refine Sq (Rg [0] ?_)
  refine V 5 3 (mc (vi 0) (vi 0)) ?_
  refine Nt ?_
  obtain ⟨o4, ho5, h6⟩ := bind_some h3
  refine CWP.cut (fun f w => ∃ (s15 : Int) (F2 : Mem), o4 = .done s15 ∧ HS w0 F0 w F2 [] ∧ Mem.le F0 F2 ∧ f.d = []) ?_ ?_
  ·refine Bk ?_
   refine CWP.loop (by kernel_rfl) (fun m f w => ∃ (s7 : Int) (F1 : Mem), iter (ref03_SameSpans_L0 N x0 x1) m s7 = some o4 ∧ HS w0 F0 w F1 [] ∧ Mem.le F0 F1 ∧ f.d = [] ∧ f 0 = (.slice a0_0 x0.length n0_0) ∧ f 1 = (.slice a1_0 x1.length n1_0) ∧ f 5 = (vi s7)) N ⟨0, F0, ho5, hs0, (Mem.le.refl _), rfl, rfl, rfl, rfl⟩ ?_
   rintro m20 f w8 ⟨s7, F1, hit21, hs9, le10, e11, e12, e13, e14⟩
   obtain ⟨m22, fl23, rfl, hb24, hnx25⟩ := iter_step hit21
   refine Sq ?_
   refine Sq (Rg [0, 1, 2, 3] ?_)
   refine V 12 3 (mv 5 (vi s7) e14) ?_
   refine V 13 33 (mv 0 (.slice a0_0 x0.length n0_0) e12) ?_
   refine V 14 3 (ln 13 33 a0_0 x0.length n0_0 36 1 24) ?_
   refine V 15 4 (run_lss (t := 3) (t' := 3) (x := (.tmp 12)) (y := (.tmp 14)) (k := .i64) (a := s7) (b := (x0.length : Int)) rfl rfl) ?_
   refine Nt ?_
   refine CWP.cond (t := (decide (s7 < (x0.length : Int)))) (by kernel_rfl) rfl (fun hb26 => ?_) (fun hb26 => ?_)
   ·have h27 := cond_t hb24 hb26
    refine Sc ?_
    refine thenQ_nrm ?_
    refine Sq ?_
    refine Bk ?_
    refine Sq ?_
    refine Sq ?_
    obtain ⟨j33, hj39, h40⟩ := bind_some h27
    refine CWP.regionD (by kernel_rfl) (by kernel_rfl) (by kernel_rfl) (by kernel_rfl) (z := 11) (F := F1) (Lc := []) (Lz := []) (l := [false, false, false, false, false, false, false, false, false, false, false]) (fuel := 11) (by kernel_rfl) (by kernel_rfl) hs9 (by simp) (by simp) (fun f w => ∃ (F3 : Mem), HS w0 F0 w F3 [] ∧ Mem.le F1 F3 ∧ f.d = [] ∧ f 0 = (.slice a0_0 x0.length n0_0) ∧ f 1 = (.slice a1_0 x1.length n1_0) ∧ f 5 = (vi s7) ∧ f 28 = (.bool j33)) (fun wd28 hw29 => ?_) ?_
    ·refine Dt 0 18 33 _ (fun _ hq => mv 0 (.slice a0_0 x0.length n0_0) e12) ?_
     refine Dt 1 19 3 _ (fun _ hq => mv 5 (vi s7) e14) ?_
     obtain ⟨x41, hx42, h44⟩ := bind_some hj39
     obtain ⟨hi43, hx42'⟩ := idx_spec hx42
     obtain ⟨b45, o46, C47, E48, fz49, rfl, hF51, hE52⟩ := SlA.open (SlA.mono hs0_0 le10) hx42'
     obtain ⟨ae53_0, ne53_0, hc54, hbe53_0, hse53_0⟩ := hE52 _ _ hx42'
     refine Dt 2 20 0 (.pointer (some ⟨b45, (o46 + (s7 : Int).toNat * 1), none⟩)) (fun _ hq => ix 33 18 19 b45 o46 36 1 24 hi43) ?_
     refine Dt 3 21 36 _ (fun _ hq => lx 36 20 0 1 false 1 (.slice ae53_0 x41.length ne53_0) (hq.1.1 _ _ hF51) hc54) ?_
     refine Dt 4 22 3 (vi (x41.length : Int)) (fun _ hq => ln 21 36 ae53_0 x41.length ne53_0 38 2 16) ?_
     refine Dt 5 23 33 _ (fun _ hq => mv 1 (.slice a1_0 x1.length n1_0) e13) ?_
     refine Dt 6 24 3 _ (fun _ hq => mv 5 (vi s7) e14) ?_
     obtain ⟨x55, hx56, h58⟩ := bind_some h44
     obtain ⟨hi57, hx56'⟩ := idx_spec hx56
     obtain ⟨b59, o60, C61, E62, fz63, rfl, hF65, hE66⟩ := SlA.open (SlA.mono hs1_0 le10) hx56'
     obtain ⟨ae67_0, ne67_0, hc68, hbe67_0, hse67_0⟩ := hE66 _ _ hx56'
     refine Dt 7 25 0 (.pointer (some ⟨b59, (o60 + (s7 : Int).toNat * 1), none⟩)) (fun _ hq => ix 33 23 24 b59 o60 36 1 24 hi57) ?_
     refine Dt 8 26 36 _ (fun _ hq => lx 36 25 0 1 false 1 (.slice ae67_0 x55.length ne67_0) (hq.1.1 _ _ hF65) hc68) ?_
     refine Dt 9 27 3 (vi (x55.length : Int)) (fun _ hq => ln 26 36 ae67_0 x55.length ne67_0 38 2 16) ?_
     refine Dt 10 28 4 (.bool ((x41.length : Int) != (x55.length : Int))) (fun _ hq => run_neq (t := 3) (t' := 3) (x := (.tmp 22)) (y := (.tmp 27)) (k := .i64) (a := (x41.length : Int)) (b := (x55.length : Int)) rfl rfl) ?_
     obtain rfl := some_inj h58
     exact DWP.done (by kernel_rfl) ⟨F1, hw29, (Mem.le.refl _), e11, e12, e13, e14, rfl⟩
    ·rintro f w30 ⟨F3, hs31, le32, e34, e35, e36, e37, e38⟩
     refine thenQ_nrm ?_
     refine CWP.cond (t := j33) (by kernel_rfl) e38 (fun hb69 => ?_) (fun hb69 => ?_)
     ·have h70 := cond_t h40 hb69
      refine Sq (Rg [0] ?_)
      refine V 4 4 (mc (.bool false) (.bool false)) ?_
      refine Nt ?_
      refine CWP.ret (by kernel_rfl) ?_
      refine thenQ_ret ?_
      refine blockQ_ret ?_
      refine thenQ_ret ?_
      refine thenQ_ret ?_
      refine blockQ_ret ?_
      have hret := iter_ret h70 hnx25
      subst hret
      refine .inr ?_
      refine thenQ_ret ?_
      have hfin := some_inj h6
      subst hfin
      exact ⟨e34, (.bool false), res_of (l := [.tmp 4]) (by kernel_rfl) (vs := [(.bool false)]) ⟨rfl, trivial⟩, (.bool false), F3, rfl, hs31.clear, rfl⟩
     ·have h71 := cond_f h40 hb69
      refine Sc ?_
      refine thenQ_nrm ?_
      refine Sq (Rg [0] ?_)
      refine V 6 3 (mc (vi 0) (vi 0)) ?_
      refine Nt ?_
      obtain ⟨o72, ho73, h74⟩ := bind_some h71
      refine CWP.cut (fun f w => ∃ (s84 : Int) (F5 : Mem), o72 = .done s84 ∧ HS w0 F0 w F5 [] ∧ Mem.le F3 F5 ∧ f.d = [] ∧ f 0 = (.slice a0_0 x0.length n0_0) ∧ f 1 = (.slice a1_0 x1.length n1_0) ∧ f 5 = (vi s7)) ?_ ?_
      ·refine Bk ?_
       refine CWP.loop (by kernel_rfl) (fun m f w => ∃ (s75 : Int) (F4 : Mem), iter (ref03_SameSpans_L1 N x0 x1 s7 j33) m s75 = some o72 ∧ HS w0 F0 w F4 [] ∧ Mem.le F3 F4 ∧ f.d = [] ∧ f 0 = (.slice a0_0 x0.length n0_0) ∧ f 1 = (.slice a1_0 x1.length n1_0) ∧ f 5 = (vi s7) ∧ f 6 = (vi s75)) N ⟨0, F3, ho73, hs31, (Mem.le.refl _), e34, e35, e36, e37, rfl⟩ ?_
       rintro m92 f w76 ⟨s75, F4, hit93, hs77, le78, e79, e80, e81, e82, e83⟩
       obtain ⟨m94, fl95, rfl, hb96, hnx97⟩ := iter_step hit93
       refine Sq ?_
       refine Sq (Rg [0, 1, 2, 3, 4, 5, 6] ?_)
       refine V 29 3 (mv 6 (vi s75) e83) ?_
       refine V 30 33 (mv 0 (.slice a0_0 x0.length n0_0) e80) ?_
       refine V 31 3 (mv 5 (vi s7) e82) ?_
       obtain ⟨x98, hx99, h101⟩ := bind_some hb96
       obtain ⟨hi100, hx99'⟩ := idx_spec hx99
       obtain ⟨b102, o103, C104, E105, fz106, rfl, hF108, hE109⟩ := SlA.open (SlA.mono hs0_0 ((le10.trans le32).trans le78)) hx99'
       obtain ⟨ae110_0, ne110_0, hc111, hbe110_0, hse110_0⟩ := hE109 _ _ hx99'
       refine V 32 0 (ix 33 30 31 b102 o103 36 1 24 hi100) ?_
       refine V 33 36 (lx 36 32 0 1 false 1 (.slice ae110_0 x98.length ne110_0) (hs77.pers _ _ hF108) hc111) ?_
       refine V 34 3 (ln 33 36 ae110_0 x98.length ne110_0 38 2 16) ?_
       refine V 35 4 (run_lss (t := 3) (t' := 3) (x := (.tmp 29)) (y := (.tmp 34)) (k := .i64) (a := s75) (b := (x98.length : Int)) rfl rfl) ?_
       refine Nt ?_
       refine CWP.cond (t := (decide (s75 < (x98.length : Int)))) (by kernel_rfl) rfl (fun hb112 => ?_) (fun hb112 => ?_)
       ·have h113 := cond_t h101 hb112
        refine Sc ?_
        refine thenQ_nrm ?_
        refine Sq ?_
        refine Bk ?_
        refine Sq ?_
        obtain ⟨j119, hj126, h127⟩ := bind_some h113
        refine CWP.regionD (by kernel_rfl) (by kernel_rfl) (by kernel_rfl) (by kernel_rfl) (z := 15) (F := F4) (Lc := []) (Lz := []) (l := [false, false, false, false, false, false, false, false, false, false, false, false, false, false, false]) (fuel := 15) (by kernel_rfl) (by kernel_rfl) hs77 (by simp) (by simp) (fun f w => ∃ (F6 : Mem), HS w0 F0 w F6 [] ∧ Mem.le F4 F6 ∧ f.d = [] ∧ f 0 = (.slice (some ⟨b102, o103, none⟩) x0.length n0_0) ∧ f 1 = (.slice a1_0 x1.length n1_0) ∧ f 5 = (vi s7) ∧ f 6 = (vi s75) ∧ f 52 = (.bool j119)) (fun wd114 hw115 => ?_) ?_
        ·refine Dt 0 38 33 _ (fun _ hq => mv 0 (.slice (some ⟨b102, o103, none⟩) x0.length n0_0) e80) ?_
         refine Dt 1 39 3 _ (fun _ hq => mv 5 (vi s7) e82) ?_
         obtain ⟨x128, hx129, h131⟩ := bind_some hj126
         obtain ⟨hi130, hx129'⟩ := idx_spec hx129
         obtain ⟨ae132_0, ne132_0, hc133, hbe132_0, hse132_0⟩ := hE109 _ _ hx129'
         refine Dt 2 40 0 (.pointer (some ⟨b102, (o103 + (s7 : Int).toNat * 1), none⟩)) (fun _ hq => ix 33 38 39 b102 o103 36 1 24 hi130) ?_
         refine Dt 3 41 36 _ (fun _ hq => lx 36 40 0 1 false 1 (.slice ae132_0 x128.length ne132_0) (hq.1.1 _ _ hF108) hc133) ?_
         refine Dt 4 42 3 _ (fun _ hq => mv 6 (vi s75) e83) ?_
         obtain ⟨x134, hx135, h137⟩ := bind_some h131
         obtain ⟨hi136, hx135'⟩ := idx_spec hx135
         obtain ⟨b138, o139, C140, E141, fz142, rfl, hF144, hE145⟩ := SlA.open hse132_0 hx135'
         have hc147 := hE145 _ _ hx135'
         refine Dt 5 43 0 (.pointer (some ⟨b138, (o139 + (s75 : Int).toNat * 2), none⟩)) (fun _ hq => ix 36 41 42 b138 o139 38 2 16 hi136) ?_
         refine Dt 6 44 38 _ (fun _ hq => lx 38 43 0 2 true 2 (.agg (kSpan x134)) (hq.1.1 _ _ hF144) hc147) ?_
         refine Dt 7 45 33 _ (fun _ hq => mv 1 (.slice a1_0 x1.length n1_0) e81) ?_
         refine Dt 8 46 3 _ (fun _ hq => mv 5 (vi s7) e82) ?_
         obtain ⟨x148, hx149, h151⟩ := bind_some h137
         obtain ⟨hi150, hx149'⟩ := idx_spec hx149
         obtain ⟨b152, o153, C154, E155, fz156, rfl, hF158, hE159⟩ := SlA.open (SlA.mono hs1_0 ((le10.trans le32).trans le78)) hx149'
         obtain ⟨ae160_0, ne160_0, hc161, hbe160_0, hse160_0⟩ := hE159 _ _ hx149'
         refine Dt 9 47 0 (.pointer (some ⟨b152, (o153 + (s7 : Int).toNat * 1), none⟩)) (fun _ hq => ix 33 45 46 b152 o153 36 1 24 hi150) ?_
         refine Dt 10 48 36 _ (fun _ hq => lx 36 47 0 1 false 1 (.slice ae160_0 x148.length ne160_0) (hq.1.1 _ _ hF158) hc161) ?_
         refine Dt 11 49 3 _ (fun _ hq => mv 6 (vi s75) e83) ?_
         obtain ⟨x162, hx163, h165⟩ := bind_some h151
         obtain ⟨hi164, hx163'⟩ := idx_spec hx163
         obtain ⟨b166, o167, C168, E169, fz170, rfl, hF172, hE173⟩ := SlA.open hse160_0 hx163'
         have hc175 := hE173 _ _ hx163'
         refine Dt 12 50 0 (.pointer (some ⟨b166, (o167 + (s75 : Int).toNat * 2), none⟩)) (fun _ hq => ix 36 48 49 b166 o167 38 2 16 hi164) ?_
         refine Dt 13 51 38 _ (fun _ hq => lx 38 50 0 2 true 2 (.agg (kSpan x162)) (hq.1.1 _ _ hF172) hc175) ?_
         refine Dt 14 52 4 (.bool (!((x134.Lo == x162.Lo) && ((x134.Hi == x162.Hi) && true)))) (fun _ hq => run_nes (t := 38) (t' := 38) (x := (.tmp 44)) (y := (.tmp 51)) (xs := (kSpan x134)) (ys := (kSpan x162)) (b := ((x134.Lo == x162.Lo) && ((x134.Hi == x162.Hi) && true))) rfl rfl (by kernel_rfl) (by kernel_rfl)) ?_
         obtain rfl := some_inj h165
         exact DWP.done (by kernel_rfl) ⟨F4, hw115, (Mem.le.refl _), e79, e80, e81, e82, e83, rfl⟩
        ·rintro f w116 ⟨F6, hs117, le118, e120, e121, e122, e123, e124, e125⟩
         refine thenQ_nrm ?_
         refine CWP.cond (t := j119) (by kernel_rfl) e125 (fun hb176 => ?_) (fun hb176 => ?_)
         ·have h177 := cond_t h127 hb176
          refine Sq (Rg [0] ?_)
          refine V 4 4 (mc (.bool false) (.bool false)) ?_
          refine Nt ?_
          refine CWP.ret (by kernel_rfl) ?_
          refine blockQ_ret ?_
          refine thenQ_ret ?_
          refine thenQ_ret ?_
          refine blockQ_ret ?_
          have hret := iter_ret h177 hnx97
          subst hret
          refine .inr ?_
          refine blockQ_ret ?_
          refine thenQ_ret ?_
          refine thenQ_ret ?_
          refine blockQ_ret ?_
          have hret := iter_ret h74 hnx25
          subst hret
          refine .inr ?_
          refine thenQ_ret ?_
          have hfin := some_inj h6
          subst hfin
          exact ⟨e120, (.bool false), res_of (l := [.tmp 4]) (by kernel_rfl) (vs := [(.bool false)]) ⟨rfl, trivial⟩, (.bool false), F6, rfl, hs117.clear, rfl⟩
         ·have h178 := cond_f h127 hb176
          refine Sc ?_
          refine blockQ_nrm ?_
          refine thenQ_nrm ?_
          refine Rg [0, 1, 2] ?_
          refine V 36 3 (mv 6 (vi s75) e124) ?_
          refine V 37 3 (run_add (t := 3) (t' := 3) (x := (.tmp 36)) (y := (.const (vi 1))) (k := .i64) (a := s75) (b := 1) rfl rfl) ?_
          refine V 6 3 (ma 37 (vi (W64 (s75 + 1)))) ?_
          refine RWP.nil ?_
          have hn179 := iter_next h178 hnx97
          exact ⟨m94, Nat.lt_succ_self _, (W64 (s75 + 1)), F6, hn179, hs117, (le78.trans le118), e120, e121, e122, e123, rfl⟩
       ·have h180 := cond_f h101 hb112
        refine CWP.exit (by kernel_rfl) ?_
        refine thenQ_ex ?_
        refine thenQ_ex ?_
        refine blockQ_hit rfl ?_
        have ho181 := iter_done h180 hnx97
        exact .inl ⟨rfl, s75, F4, ho181, hs77, le78, e79, e80, e81, e82⟩
      ·rintro f w85 ⟨s84, F5, rfl, hs86, le87, e88, e89, e90, e91⟩
       have h182 := k_done h74
       refine blockQ_nrm ?_
       refine thenQ_nrm ?_
       refine Rg [0, 1, 2] ?_
       refine V 16 3 (mv 5 (vi s7) e91) ?_
       refine V 17 3 (run_add (t := 3) (t' := 3) (x := (.tmp 16)) (y := (.const (vi 1))) (k := .i64) (a := s7) (b := 1) rfl rfl) ?_
       refine V 5 3 (ma 17 (vi (W64 (s7 + 1)))) ?_
       refine RWP.nil ?_
       have hn183 := iter_next h182 hnx25
       exact ⟨m22, Nat.lt_succ_self _, (W64 (s7 + 1)), F5, hn183, hs86, ((le10.trans le32).trans le87), e88, e89, e90, rfl⟩
   ·have h184 := cond_f hb24 hb26
    refine CWP.exit (by kernel_rfl) ?_
    refine thenQ_ex ?_
    refine thenQ_ex ?_
    refine blockQ_hit rfl ?_
    have ho185 := iter_done h184 hnx25
    exact .inl ⟨rfl, s7, F1, ho185, hs9, le10, e11⟩
  ·rintro f w16 ⟨s15, F2, rfl, hs17, le18, e19⟩
   have h186 := k_done h6
   refine thenQ_nrm ?_
   refine Sq (Rg [0] ?_)
   refine V 4 4 (mc (.bool true) (.bool true)) ?_
   refine Nt ?_
   refine CWP.ret (by kernel_rfl) ?_
   have hfin := some_inj h186
   subst hfin
   exact ⟨e19, (.bool true), res_of (l := [.tmp 4]) (by kernel_rfl) (vs := [(.bool true)]) ⟨rfl, trivial⟩, (.bool true), F2, rfl, hs17.clear, rfl⟩
end Go.Proofs.Ythbcnabeabcmlaa
namespace Go.Proofs.Ythbcnabeabcmlaa
section
variable {N : Nat} {s : System}
def small {α : Type} (l : List (List α)) : Prop := l.length ≤ 1000 ∧ ∀ r, r ∈ l → r.length ≤ 1000
theorem small_nil {α : Type} : small ([] : List (List α)) := ⟨by simp, fun r h => by cases h⟩
theorem sameSpans_self (hN : 1000000 ≤ N) {l : List (List Span)} (hl : small l) : ref03_SameSpans N l l = some true := by
 unfold ref03_SameSpans
 simp only [bne_self_eq_false, cond_false]
 have h1 := hl.1
 rw [iter_check' (n := l.length) (fun _ => true) false (fun i hi => by
  unfold ref03_SameSpans_L0
  have h2 := hl.2 _ (List.getElem_mem hi)
  rw [lt_t hi, cond_true, idx_nat hi]
  simp only [Option.bind_some, bne_self_eq_false, cond_false]
  rw [iter_check' (n := l[i].length) (fun _ => true) false (fun j hj => by
   unfold ref03_SameSpans_L1
   simp only [idx_nat hi, Option.bind_some, lt_t hj, cond_true, idx_nat hj]
   rw [W64_succ (by omega)]
   simp) (by unfold ref03_SameSpans_L1; simp only [idx_nat hi, Option.bind_some, lt_f, cond_false]) (by omega)]
  rw [allB_of (fun _ _ => rfl), W64_succ (by omega)]
  rfl) (by unfold ref03_SameSpans_L0; rw [lt_f]; rfl) (by omega)]
 rw [allB_of (fun _ _ => rfl)]; rfl
theorem small_each {α : Type} (h : vCheck s = 0) (f : Ref → α) : small (eachL s f) := by
 refine ⟨?_, fun r hr => ?_⟩
 ·unfold eachL; have := (check_ok h).1; simp; omega
 ·unfold eachL at hr
  rw [List.mem_map] at hr
  obtain ⟨i, hi, rfl⟩ := hr
  cases ht : s.Tracks[i]? with
  | none => simp
  | some t => have := (track_facts (track_at h ht)).2.2; simp; omega
theorem small_times (s : System) : small (vTimes s).1 := by
 unfold vTimes
 by_cases h : vCheck s = 0
 ·rw [if_neg (by omega)]
  by_cases hc : Cls s
  ·rw [if_pos hc]; exact small_each h _
  ·rw [if_neg hc]; exact small_nil
 ·rw [if_pos h]; exact small_nil
theorem sameBools_self (hN : 1000000 ≤ N) {l : List Bool} (hl : l.length ≤ 900000) : ref03_SameBools N l l = some true := by
 unfold ref03_SameBools
 simp only [bne_self_eq_false, cond_false]
 rw [iter_check' (n := l.length) (fun _ => true) false (fun i hi => by
  unfold ref03_SameBools_L0
  rw [lt_t hi, cond_true, idx_nat hi, W64_succ (by omega)]
  simp) (by unfold ref03_SameBools_L0; rw [lt_f]; rfl) (by omega)]
 rw [allB_of (fun _ _ => rfl)]; rfl
theorem times_ok' (h : vCheck s = 0) (hc : Cls s) : vTimes s = (eachL s (spanAt s), 0) := by unfold vTimes; rw [if_neg (by omega), if_pos hc]
end
end Go.Proofs.Ythbcnabeabcmlaa
namespace Go.Proofs.Ythbcnabeabcmlaa
open Go.Proofs
def clocks_Offset (N : Nat) (x0 : System) (x1 : Ref) : Option (Span × Int) :=
 ((clocks_Interval N x0 x1).bind fun r10 => (bif (r10.2 != 0) then some (({ Lo := 0, Hi := 0 } : Span), r10.2) else (((idx x0.Tracks x1.Log).bind fun x40 => ((idx x40.Times x1.Line).bind fun x54 => some x54)).bind fun j33 => some (({ Lo := (W64 (j33 - r10.1.Hi)), Hi := (W64 (j33 - r10.1.Lo)) } : Span), 0))))
theorem co_clocks_Offset : CallOk Try.prog 24 := fun _ _ => by kernel_rfl
set_option maxHeartbeats 4000000 in
set_option maxRecDepth 100000 in
theorem c_clocks_Offset (N : Nat) (w0 : World) (F0 : Mem) (hF : ∀ b o, F0 b = some o → w0.heap[b]? = some o) (x0 : System) (a0_0 : Option Addr) (n0_0 : Nat) (hb0_0 : LC x0.Tracks.length n0_0) (hs0_0 : SlA tTrack F0 a0_0 x0.Tracks) (a0_1 : Option Addr) (n0_1 : Nat) (hb0_1 : LC x0.Ties.length n0_1) (hs0_1 : SlA tTie F0 a0_1 x0.Ties) (x1 : Ref) (r : (Span × Int)) (h : clocks_Offset N x0 x1 = some r) :
  Calls Try.prog 24 ([(.agg (kSystem x0 a0_0 n0_0 a0_1 n0_1)), (.agg (kRef x1))] : List Value).toArray w0 (FRet w0 F0 fun F' v => v = (.tuple #[(.agg (kSpan r.1)), (vi r.2)])) := by
 have hs0 := HS.start hF
 refine calls_of (n := 39) (c := bodyOf Try.f24) Try.func24 (by kernel_rfl) (by kernel_rfl) (by kernel_rfl) ?_
 refine Sq (Rg [0, 1, 2, 3] ?_)
 refine Bx 2 0 0 25 (kSystem x0 a0_0 n0_0 a0_1 n0_1) hs0 (fun b1 w2 (hs3 : HS w0 F0 w2 F0 [(sb b1 (kSystem x0 a0_0 n0_0 a0_1 n0_1) 25)]) => ?_)
 refine Bx 3 0 1 27 (kRef x1) hs3 (fun b4 w5 (hs6 : HS w0 F0 w5 F0 [(sb b4 (kRef x1) 27), (sb b1 (kSystem x0 a0_0 n0_0 a0_1 n0_1) 25)]) => ?_)
 refine Al 4 0 38 #[(vi 0), (vi 0)] hs6 (fun b7 w8 (hs9 : HS w0 F0 w8 F0 [(sb b7 #[(vi 0), (vi 0)] 38), (sb b4 (kRef x1) 27), (sb b1 (kSystem x0 a0_0 n0_0 a0_1 n0_1) 25)]) => ?_)
 refine V 5 30 (mc (vi 0) (vi 0)) ?_
 refine Nss (Rg [0, 1, 2, 3, 4, 5, 6, 7, 8] ?_)
 refine V 10 25 (ld 25 2 b1 0 true 3 (.agg (kSystem x0 a0_0 n0_0 a0_1 n0_1)) (hs9.ownAt (k := 2) rfl)) ?_
 refine V 11 27 (ld 27 3 b4 0 true 2 (.agg (kRef x1)) (hs9.ownAt (k := 1) rfl)) ?_
 obtain ⟨r10, hr11, h12⟩ := bind_some h
 refine Cl 12 39 21 #[(.tmp 10), (.tmp 11)] #[25, 27] co_clocks_Interval hs9 (c_clocks_Interval N w8 F0 hs9.pers (x0) a0_0 n0_0 hb0_0 hs0_0 a0_1 n0_1 hb0_1 hs0_1 (x1) _ hr11) ?_
 intro v13 F1 w14 hs15 le16 hp17
 obtain rfl := hp17
 refine V 9 39 (mv 12 (.tuple #[(.agg (kSpan r10.1)), (vi r10.2)])) ?_
 refine V 13 38 (ex 9 0 (.agg (kSpan r10.1)) (vs := #[(.agg (kSpan r10.1)), (vi r10.2)])) ?_
 refine V 14 30 (ex 9 1 (vi r10.2) (vs := #[(.agg (kSpan r10.1)), (vi r10.2)])) ?_
 refine Al 6 0 38 #[(vi 0), (vi 0)] hs15 (fun b18 w19 (hs20 : HS w0 F0 w19 F1 [(sb b18 #[(vi 0), (vi 0)] 38), (sb b7 #[(vi 0), (vi 0)] 38), (sb b4 (kRef x1) 27), (sb b1 (kSystem x0 a0_0 n0_0 a0_1 n0_1) 25)]) => ?_)
 refine RWP.store (ty := 0) (g := none) (by kernel_rfl) rfl (x := (.tmp 6)) (y := (.tmp 13)) (t := 38) (gg := true) (s := 2) (v := (.agg (kSpan r10.1))) (b := b18) (o := 0) (C := #[(vi 0), (vi 0)]) rfl rfl (by kernel_rfl) hs20 (k := 0) rfl rfl rfl rfl (C' := (kSpan r10.1)) rfl (fun w21 (hs22 : HS w0 F0 w21 F1 [(sb b18 (kSpan r10.1) 38), (sb b7 #[(vi 0), (vi 0)] 38), (sb b4 (kRef x1) 27), (sb b1 (kSystem x0 a0_0 n0_0 a0_1 n0_1) 25)]) => ?_)
 refine V 7 30 (ma 14 (vi r10.2)) ?_
 refine Nss ?_
 refine Sq (Rg [0, 1] ?_)
 refine V 15 30 (mv 7 (vi r10.2)) ?_
 refine V 16 4 (run_neq (t := 30) (t' := 30) (x := (.tmp 15)) (y := (.const (vi 0))) (k := .i64) (a := r10.2) (b := 0) rfl rfl) ?_
 refine Nt ?_
 refine CWP.cond (t := (r10.2 != 0)) (by kernel_rfl) rfl (fun hb23 => ?_) (fun hb23 => ?_)
 ·have h24 := cond_t h12 hb23
  refine Sq (Rg [0, 1, 2, 3] ?_)
  refine V 17 38 (run_build2 (t := 38) (parts := #[]) (vs := []) (rfl) (cs := [(vi 0), (vi 0)]) (by kernel_rfl)) ?_
  refine V 18 30 (mv 7 (vi r10.2)) ?_
  refine RWP.store (ty := 0) (g := none) (by kernel_rfl) rfl (x := (.tmp 4)) (y := (.tmp 17)) (t := 38) (gg := true) (s := 2) (v := (.agg #[(vi 0), (vi 0)])) (b := b7) (o := 0) (C := #[(vi 0), (vi 0)]) rfl rfl (by kernel_rfl) hs22 (k := 1) rfl rfl rfl rfl (C' := #[(vi 0), (vi 0)]) rfl (fun w25 (hs26 : HS w0 F0 w25 F1 [(sb b18 (kSpan r10.1) 38), (sb b7 #[(vi 0), (vi 0)] 38), (sb b4 (kRef x1) 27), (sb b1 (kSystem x0 a0_0 n0_0 a0_1 n0_1) 25)]) => ?_)
  refine V 5 30 (ma 18 (vi r10.2)) ?_
  refine Nt ?_
  refine CWP.ret (by kernel_rfl) ?_
  refine thenQ_ret ?_
  have hfin := some_inj h24
  subst hfin
  exact ⟨rfl, (.tuple #[(.agg #[(vi 0), (vi 0)]), (vi r10.2)]), res_of (l := [.cell 4 38, .tmp 5]) (by kernel_rfl) (vs := [(.agg #[(vi 0), (vi 0)]), (vi r10.2)]) ⟨b7, 0, rfl, run_loadVar' (t := 38) (g := true) (s := 2) (by kernel_rfl) (hs26.ownAt (k := 1) rfl) rfl (by decide), ⟨rfl, trivial⟩⟩, (.tuple #[(.agg #[(vi 0), (vi 0)]), (vi r10.2)]), F1, rfl, hs26.clear, rfl⟩
 ·have h27 := cond_f h12 hb23
  refine Sc ?_
  refine thenQ_nrm ?_
  refine Sq ?_
  obtain ⟨j33, hj38, h39⟩ := bind_some h27
  refine CWP.regionD (by kernel_rfl) (by kernel_rfl) (by kernel_rfl) (by kernel_rfl) (z := 12) (F := F1) (Lc := [(sb b18 (kSpan r10.1) 38), (sb b7 #[(vi 0), (vi 0)] 38), (sb b4 (kRef x1) 27), (sb b1 (kSystem x0 a0_0 n0_0 a0_1 n0_1) 25)]) (Lz := []) (l := [false, false, false, false, false, false, false, false, false, false, false, false]) (fuel := 12) (by kernel_rfl) (by kernel_rfl) hs22 (by simp) (by simp) (fun f w => ∃ (F2 : Mem), HS w0 F0 w F2 [(sb b18 (kSpan r10.1) 38), (sb b7 #[(vi 0), (vi 0)] 38)] ∧ Mem.le F1 F2 ∧ f.d = [] ∧ f 4 = (.pointer (some ⟨b7, 0, none⟩)) ∧ f 6 = (.pointer (some ⟨b18, 0, none⟩)) ∧ f 8 = (vi j33)) (fun wd28 hw29 => ?_) ?_
  ·refine Dt 0 19 0 (.pointer (some ⟨b1, 0, none⟩)) (fun _ hq => fa 25 2 0 0 1 b1 0 0) ?_
   refine Dt 1 20 22 _ (fun _ hq => ld 22 19 b1 0 false 1 (.slice a0_0 x0.Tracks.length n0_0) (hq.1.2 3 _ _ rfl)) ?_
   refine Dt 2 21 0 (.pointer (some ⟨b4, 0, none⟩)) (fun _ hq => fa 27 3 0 0 1 b4 0 0) ?_
   refine Dt 3 22 3 _ (fun _ hq => ld 3 21 b4 0 false 1 (vi x1.Log) (hq.1.2 2 _ _ rfl)) ?_
   obtain ⟨x40, hx41, h43⟩ := bind_some hj38
   obtain ⟨hi42, hx41'⟩ := idx_spec hx41
   obtain ⟨b44, o45, C46, E47, fz48, rfl, hF50, hE51⟩ := SlA.open (SlA.mono hs0_0 le16) hx41'
   obtain ⟨ae52_2, ne52_2, ae52_3, ne52_3, hc53, hbe52_2, hse52_2, hbe52_3, hse52_3⟩ := hE51 _ _ hx41'
   refine Dt 4 23 0 (.pointer (some ⟨b44, (o45 + (x1.Log : Int).toNat * 4), none⟩)) (fun _ hq => ix 22 20 22 b44 o45 54 4 64 hi42) ?_
   refine Dt 5 24 0 (.pointer (some ⟨b44, ((o45 + (x1.Log : Int).toNat * 4) + 3), none⟩)) (fun _ hq => fa 54 23 1 3 1 b44 (o45 + (x1.Log : Int).toNat * 4) ((o45 + (x1.Log : Int).toNat * 4) + 3)) ?_
   refine Dt 6 25 50 _ (fun _ hq => lx 50 24 3 4 false 1 (.slice ae52_3 x40.Times.length ne52_3) (hq.1.1 _ _ hF50) hc53) ?_
   refine Dt 7 26 0 (.pointer (some ⟨b4, 1, none⟩)) (fun _ hq => fa 27 3 1 1 1 b4 0 1) ?_
   refine Dt 8 27 3 _ (fun _ hq => ld 3 26 b4 1 false 1 (vi x1.Line) (hq.1.2 2 _ _ rfl)) ?_
   obtain ⟨x54, hx55, h57⟩ := bind_some h43
   obtain ⟨hi56, hx55'⟩ := idx_spec hx55
   obtain ⟨b58, o59, C60, E61, fz62, rfl, hF64, hE65⟩ := SlA.open hse52_3 hx55'
   have hc67 := hE65 _ _ hx55'
   refine Dt 9 28 0 (.pointer (some ⟨b58, (o59 + (x1.Line : Int).toNat * 1), none⟩)) (fun _ hq => ix 50 25 27 b58 o59 3 1 8 hi56) ?_
   refine Dt 10 29 3 _ (fun _ hq => lx 3 28 0 1 false 1 (vi x54) (hq.1.1 _ _ hF64) hc67) ?_
   refine Dt 11 8 3 _ (fun _ hq => ma 29 (vi x54)) ?_
   obtain rfl := some_inj h57
   have hs68 : HS w0 F0 wd28 F1 [(sb b18 (kSpan r10.1) 38), (sb b7 #[(vi 0), (vi 0)] 38), (sb b1 (kSystem x0 (some ⟨b44, o45, none⟩) n0_0 a0_1 n0_1) 25)] := hw29.drop 2
   have hs69 : HS w0 F0 wd28 F1 [(sb b18 (kSpan r10.1) 38), (sb b7 #[(vi 0), (vi 0)] 38)] := hs68.drop 2
   exact DWP.done (by kernel_rfl) ⟨F1, hs69, (Mem.le.refl _), rfl, rfl, rfl, rfl⟩
  ·rintro f w30 ⟨F2, hs31, le32, e34, e35, e36, e37⟩
   refine thenQ_nrm ?_
   refine Sq (Rg [0, 1, 2, 3, 4, 5, 6, 7, 8, 9, 10] ?_)
   refine V 30 3 (mv 8 (vi j33) e37) ?_
   refine V 31 0 (fa 38 6 1 1 1 b18 0 1 e36) ?_
   refine V 32 3 (ld 3 31 b18 1 false 1 (vi r10.1.Hi) (hs31.ownAt (k := 0) rfl)) ?_
   refine V 33 3 (run_sub (t := 3) (t' := 3) (x := (.tmp 30)) (y := (.tmp 32)) (k := .i64) (a := j33) (b := r10.1.Hi) rfl rfl) ?_
   refine V 34 3 (mv 8 (vi j33) e37) ?_
   refine V 35 0 (fa 38 6 0 0 1 b18 0 0 e36) ?_
   refine V 36 3 (ld 3 35 b18 0 false 1 (vi r10.1.Lo) (hs31.ownAt (k := 0) rfl)) ?_
   refine V 37 3 (run_sub (t := 3) (t' := 3) (x := (.tmp 34)) (y := (.tmp 36)) (k := .i64) (a := j33) (b := r10.1.Lo) rfl rfl) ?_
   refine V 38 38 (run_build2 (t := 38) (parts := #[(0, (.tmp 33)), (1, (.tmp 37))]) (vs := [(0, (vi (W64 (j33 - r10.1.Hi)))), (1, (vi (W64 (j33 - r10.1.Lo))))]) (rfl) (cs := [(vi (W64 (j33 - r10.1.Hi))), (vi (W64 (j33 - r10.1.Lo)))]) (by kernel_rfl)) ?_
   refine RWP.store (ty := 0) (g := none) (by kernel_rfl) rfl (x := (.tmp 4)) (y := (.tmp 38)) (t := 38) (gg := true) (s := 2) (v := (.agg #[(vi (W64 (j33 - r10.1.Hi))), (vi (W64 (j33 - r10.1.Lo)))])) (b := b7) (o := 0) (C := #[(vi 0), (vi 0)]) e35 rfl (by kernel_rfl) hs31 (k := 1) rfl rfl rfl rfl (C' := #[(vi (W64 (j33 - r10.1.Hi))), (vi (W64 (j33 - r10.1.Lo)))]) rfl (fun w70 (hs71 : HS w0 F0 w70 F2 [(sb b18 (kSpan r10.1) 38), (sb b7 #[(vi (W64 (j33 - r10.1.Hi))), (vi (W64 (j33 - r10.1.Lo)))] 38)]) => ?_)
   refine V 5 30 (mc (vi 0) (vi 0)) ?_
   refine Nt ?_
   refine CWP.ret (by kernel_rfl) ?_
   have hfin := some_inj h39
   subst hfin
   exact ⟨e34, (.tuple #[(.agg #[(vi (W64 (j33 - r10.1.Hi))), (vi (W64 (j33 - r10.1.Lo)))]), (vi 0)]), res_of (l := [.cell 4 38, .tmp 5]) (by kernel_rfl) (vs := [(.agg #[(vi (W64 (j33 - r10.1.Hi))), (vi (W64 (j33 - r10.1.Lo)))]), (vi 0)]) ⟨b7, 0, e35, run_loadVar' (t := 38) (g := true) (s := 2) (by kernel_rfl) (hs71.ownAt (k := 1) rfl) rfl (by decide), ⟨rfl, trivial⟩⟩, (.tuple #[(.agg #[(vi (W64 (j33 - r10.1.Hi))), (vi (W64 (j33 - r10.1.Lo)))]), (vi 0)]), F2, rfl, hs71.clear, rfl⟩
end Go.Proofs.Ythbcnabeabcmlaa
namespace Go.Proofs.Ythbcnabeabcmlaa
open Go.Proofs
def clocks_Before (N : Nat) (x0 : System) (x1 : Ref) (x2 : Ref) : Option (Bool × Int) :=
 ((clocks_Relation N x0 x1 x2).bind fun r10 => some (((r10.2 == 0) && (decide (r10.1.Lo > 0))), r10.2))
theorem co_clocks_Before : CallOk Try.prog 30 := fun _ _ => by kernel_rfl
set_option maxHeartbeats 4000000 in
set_option maxRecDepth 100000 in
theorem c_clocks_Before (N : Nat) (w0 : World) (F0 : Mem) (hF : ∀ b o, F0 b = some o → w0.heap[b]? = some o) (x0 : System) (a0_0 : Option Addr) (n0_0 : Nat) (hb0_0 : LC x0.Tracks.length n0_0) (hs0_0 : SlA tTrack F0 a0_0 x0.Tracks) (a0_1 : Option Addr) (n0_1 : Nat) (hb0_1 : LC x0.Ties.length n0_1) (hs0_1 : SlA tTie F0 a0_1 x0.Ties) (x1 : Ref) (x2 : Ref) (r : (Bool × Int)) (h : clocks_Before N x0 x1 x2 = some r) :
  Calls Try.prog 30 ([(.agg (kSystem x0 a0_0 n0_0 a0_1 n0_1)), (.agg (kRef x1)), (.agg (kRef x2))] : List Value).toArray w0 (FRet w0 F0 fun F' v => v = (.tuple #[(.bool r.1), (vi r.2)])) := by
 have hs0 := HS.start hF
 refine calls_of (n := 25) (c := bodyOf Try.f30) Try.func30 (by kernel_rfl) (by kernel_rfl) (by kernel_rfl) ?_
 refine Sq (Rg [0, 1, 2, 3, 4] ?_)
 refine Bx 3 0 0 25 (kSystem x0 a0_0 n0_0 a0_1 n0_1) hs0 (fun b1 w2 (hs3 : HS w0 F0 w2 F0 [(sb b1 (kSystem x0 a0_0 n0_0 a0_1 n0_1) 25)]) => ?_)
 refine Bx 4 0 1 27 (kRef x1) hs3 (fun b4 w5 (hs6 : HS w0 F0 w5 F0 [(sb b4 (kRef x1) 27), (sb b1 (kSystem x0 a0_0 n0_0 a0_1 n0_1) 25)]) => ?_)
 refine Bx 5 0 2 27 (kRef x2) hs6 (fun b7 w8 (hs9 : HS w0 F0 w8 F0 [(sb b7 (kRef x2) 27), (sb b4 (kRef x1) 27), (sb b1 (kSystem x0 a0_0 n0_0 a0_1 n0_1) 25)]) => ?_)
 refine V 6 4 (mc (.bool false) (.bool false)) ?_
 refine V 7 30 (mc (vi 0) (vi 0)) ?_
 refine Nss (Rg [0, 1, 2, 3, 4, 5, 6, 7, 8, 9] ?_)
 refine V 11 25 (ld 25 3 b1 0 true 3 (.agg (kSystem x0 a0_0 n0_0 a0_1 n0_1)) (hs9.ownAt (k := 2) rfl)) ?_
 refine V 12 27 (ld 27 4 b4 0 true 2 (.agg (kRef x1)) (hs9.ownAt (k := 1) rfl)) ?_
 refine V 13 27 (ld 27 5 b7 0 true 2 (.agg (kRef x2)) (hs9.ownAt (k := 0) rfl)) ?_
 obtain ⟨r10, hr11, h12⟩ := bind_some h
 refine Cl 14 39 20 #[(.tmp 11), (.tmp 12), (.tmp 13)] #[25, 27, 27] co_clocks_Relation hs9 (c_clocks_Relation N w8 F0 hs9.pers (x0) a0_0 n0_0 hb0_0 hs0_0 a0_1 n0_1 hb0_1 hs0_1 (x1) (x2) _ hr11) ?_
 intro v13 F1 w14 hs15 le16 hp17
 obtain rfl := hp17
 refine V 10 39 (mv 14 (.tuple #[(.agg (kSpan r10.1)), (vi r10.2)])) ?_
 refine V 15 38 (ex 10 0 (.agg (kSpan r10.1)) (vs := #[(.agg (kSpan r10.1)), (vi r10.2)])) ?_
 refine V 16 30 (ex 10 1 (vi r10.2) (vs := #[(.agg (kSpan r10.1)), (vi r10.2)])) ?_
 refine Al 8 0 38 #[(vi 0), (vi 0)] hs15 (fun b18 w19 (hs20 : HS w0 F0 w19 F1 [(sb b18 #[(vi 0), (vi 0)] 38), (sb b7 (kRef x2) 27), (sb b4 (kRef x1) 27), (sb b1 (kSystem x0 a0_0 n0_0 a0_1 n0_1) 25)]) => ?_)
 refine RWP.store (ty := 0) (g := none) (by kernel_rfl) rfl (x := (.tmp 8)) (y := (.tmp 15)) (t := 38) (gg := true) (s := 2) (v := (.agg (kSpan r10.1))) (b := b18) (o := 0) (C := #[(vi 0), (vi 0)]) rfl rfl (by kernel_rfl) hs20 (k := 0) rfl rfl rfl rfl (C' := (kSpan r10.1)) rfl (fun w21 (hs22 : HS w0 F0 w21 F1 [(sb b18 (kSpan r10.1) 38), (sb b7 (kRef x2) 27), (sb b4 (kRef x1) 27), (sb b1 (kSystem x0 a0_0 n0_0 a0_1 n0_1) 25)]) => ?_)
 refine V 9 30 (ma 16 (vi r10.2)) ?_
 refine Nss (Rg [0, 1, 2, 3, 4, 5, 6, 7, 8, 9] ?_)
 refine RWP.cut (fun f w => ∃ (F2 : Mem), HS w0 F0 w F2 [] ∧ Mem.le F1 F2 ∧ f.d = [] ∧ f 6 = (.bool ((r10.2 == 0) && (decide (r10.1.Lo > 0)))) ∧ f 7 = (vi r10.2)) ?_ ?_
 ·refine V 17 30 (mv 9 (vi r10.2)) ?_
  refine V 18 4 (run_eql (t := 30) (t' := 30) (x := (.tmp 17)) (y := (.const (vi 0))) (k := .i64) (a := r10.2) (b := 0) rfl rfl) ?_
  refine V 19 4 (mv 18 (.bool (r10.2 == 0))) ?_
  refine RWP.split (r10.2 == 0) (fun hb29 => ?_) (fun hb29 => ?_)
  ·refine Vg 20 0 2 true 19 hb29 (fa 38 8 0 0 1 b18 0 0) ?_
   refine Vg 21 3 2 true 19 hb29 (ld 3 20 b18 0 false 1 (vi r10.1.Lo) (hs22.ownAt (k := 0) rfl)) ?_
   refine Vg 22 4 2 true 19 hb29 (run_gtr (t := 3) (t' := 3) (x := (.tmp 21)) (y := (.const (vi 0))) (k := .i64) (a := r10.1.Lo) (b := 0) rfl rfl) ?_
   refine V 23 4 (p1 19 (.tmp 22) (.const (.bool false)) (.bool (decide (r10.1.Lo > 0))) hb29) ?_
   refine V 24 30 (mv 9 (vi r10.2)) ?_
   refine V 6 4 (ma 23 (.bool (decide (r10.1.Lo > 0)))) ?_
   refine V 7 30 (ma 24 (vi r10.2)) ?_
   have hs30 : HS w0 F0 w21 F1 [(sb b7 (kRef x2) 27), (sb b4 (kRef x1) 27), (sb b1 (kSystem x0 a0_0 n0_0 a0_1 n0_1) 25)] := hs22.drop 0
   have hs31 : HS w0 F0 w21 F1 [(sb b4 (kRef x1) 27), (sb b1 (kSystem x0 a0_0 n0_0 a0_1 n0_1) 25)] := hs30.drop 0
   have hs32 : HS w0 F0 w21 F1 [(sb b1 (kSystem x0 a0_0 n0_0 a0_1 n0_1) 25)] := hs31.drop 0
   have hs33 : HS w0 F0 w21 F1 [] := hs32.drop 0
   exact RWP.nil ⟨rfl, F1, hs33, (Mem.le.refl _), rfl, (congrArg Value.bool (and_t hb29 (rfl))), rfl⟩
  ·refine Sk [20, 21, 22] 2 true 19 hb29 ?_
   refine V 23 4 (p0 19 (.tmp 22) (.const (.bool false)) (.bool false) hb29) ?_
   refine V 24 30 (mv 9 (vi r10.2)) ?_
   refine V 6 4 (ma 23 (.bool false)) ?_
   refine V 7 30 (ma 24 (vi r10.2)) ?_
   have hs34 : HS w0 F0 w21 F1 [(sb b7 (kRef x2) 27), (sb b4 (kRef x1) 27), (sb b1 (kSystem x0 a0_0 n0_0 a0_1 n0_1) 25)] := hs22.drop 0
   have hs35 : HS w0 F0 w21 F1 [(sb b4 (kRef x1) 27), (sb b1 (kSystem x0 a0_0 n0_0 a0_1 n0_1) 25)] := hs34.drop 0
   have hs36 : HS w0 F0 w21 F1 [(sb b1 (kSystem x0 a0_0 n0_0 a0_1 n0_1) 25)] := hs35.drop 0
   have hs37 : HS w0 F0 w21 F1 [] := hs36.drop 0
   exact RWP.nil ⟨rfl, F1, hs37, (Mem.le.refl _), rfl, (congrArg Value.bool (and_f hb29 (rfl))), rfl⟩
 ·rintro f w23 ⟨F2, hs24, le25, e26, e27, e28⟩
  refine thenQ_nrm ?_
  refine CWP.ret (by kernel_rfl) ?_
  have hfin := some_inj h12
  subst hfin
  exact ⟨e26, (.tuple #[(.bool ((r10.2 == 0) && (decide (r10.1.Lo > 0)))), (vi r10.2)]), res_of (l := [.tmp 6, .tmp 7]) (by kernel_rfl) (vs := [(.bool ((r10.2 == 0) && (decide (r10.1.Lo > 0)))), (vi r10.2)]) ⟨e27, ⟨e28, trivial⟩⟩, (.tuple #[(.bool ((r10.2 == 0) && (decide (r10.1.Lo > 0)))), (vi r10.2)]), F2, rfl, hs24.clear, rfl⟩
end Go.Proofs.Ythbcnabeabcmlaa
namespace Go.Proofs.Ythbcnabeabcmlaa
open Go.Proofs
def law03_pair (N : Nat) (x0 : Bool) : Option System :=
 ((bif x0 then some [({ A := ({ Log := 0, Line := 0 } : Ref), B := ({ Log := 1, Line := 0 } : Ref) } : Tie)] else some ([] : List Tie)).bind fun j35 => some ({ Tracks := [({ Clock := ({ Slip := 10, Drift := 0, Jumps := ([] : List Int) } : Clock), Times := [100, 160] } : Track), ({ Clock := ({ Slip := 3, Drift := 0, Jumps := ([] : List Int) } : Clock), Times := [95, 158] } : Track)], Ties := j35, Window := 2 } : System))
theorem co_law03_pair : CallOk Try.prog 64 := fun _ _ => by kernel_rfl
set_option maxHeartbeats 4000000 in
set_option maxRecDepth 100000 in
theorem c_law03_pair (N : Nat) (w0 : World) (F0 : Mem) (hF : ∀ b o, F0 b = some o → w0.heap[b]? = some o) (x0 : Bool) (r : System) (h : law03_pair N x0 = some r) :
  Calls Try.prog 64 ([(.bool x0)] : List Value).toArray w0 (FRet w0 F0 fun F' v => ∃ (aq0_0 : Option Addr) (nq0_0 : Nat) (aq0_1 : Option Addr) (nq0_1 : Nat), v = (.agg (kSystem r aq0_0 nq0_0 aq0_1 nq0_1)) ∧ LC r.Tracks.length nq0_0 ∧ SlA tTrack F' aq0_0 r.Tracks ∧ LC r.Ties.length nq0_1 ∧ SlA tTie F' aq0_1 r.Ties) := by
 have hs0 := HS.start hF
 refine calls_of (n := 19) (c := bodyOf Try.f64) Try.func64 (by kernel_rfl) (by kernel_rfl) (by kernel_rfl) ?_
 refine Sq (Rg [0] ?_)
 refine Al 2 0 25 #[(.slice none ([] : List Track).length 0), (.slice none ([] : List Tie).length 0), (vi 0)] hs0 (fun b1 w2 (hs3 : HS w0 F0 w2 F0 [(sb b1 #[(.slice none ([] : List Track).length 0), (.slice none ([] : List Tie).length 0), (vi 0)] 25)]) => ?_)
 refine Nss (Rg [0, 1, 2, 3, 4, 5, 6, 7, 8, 9] ?_)
 refine V 4 52 (run_build2 (t := 52) (parts := #[(0, (.const (vi 10)))]) (vs := [(0, (vi 10))]) (rfl) (cs := [(vi 10), (vi 0), (.slice none ([] : List Int).length 0)]) (by kernel_rfl)) ?_
 refine RWP.buildSlice (dst := (some 5)) (ty := 50) (g := none) (by kernel_rfl) rfl (t := 50) (len := 2) (parts := #[(0, (.const (vi 100))), (1, (.const (vi 160)))]) (vs := [(0, (vi 100)), (1, (vi 160))]) (rfl) (E := 3) (cs := [(vi 100), (vi 160)]) (by kernel_rfl) hs3 (fun b4 w5 (hs6 : HS w0 F0 w5 F0 [(some b4, .cells ([(vi 100), (vi 160)] : List Value).toArray 3 (0, 0)), (sb b1 #[(.slice none ([] : List Track).length 0), (.slice none ([] : List Tie).length 0), (vi 0)] 25)]) => ?_)
 have hr8 : RowR tInt 3 F0 (some ⟨b4, 0, none⟩) 2 [100, 160] (some b4, .cells ([(vi 100), (vi 160)] : List Value).toArray 3 (0, 0)) := RowR.lit ⟨rfl, ⟨rfl, rfl⟩⟩ (by simp)
 refine V 6 54 (run_build2 (t := 54) (parts := #[(0, (.tmp 4)), (1, (.tmp 5))]) (vs := [(0, (.agg #[(vi 10), (vi 0), (.slice none ([] : List Int).length 0)])), (1, (.slice (some ⟨b4, 0, none⟩) [100, 160].length 2))]) (rfl) (cs := [(vi 10), (vi 0), (.slice none ([] : List Int).length 0), (.slice (some ⟨b4, 0, none⟩) [100, 160].length 2)]) (by kernel_rfl)) ?_
 refine V 7 52 (run_build2 (t := 52) (parts := #[(0, (.const (vi 3)))]) (vs := [(0, (vi 3))]) (rfl) (cs := [(vi 3), (vi 0), (.slice none ([] : List Int).length 0)]) (by kernel_rfl)) ?_
 refine RWP.buildSlice (dst := (some 8)) (ty := 50) (g := none) (by kernel_rfl) rfl (t := 50) (len := 2) (parts := #[(0, (.const (vi 95))), (1, (.const (vi 158)))]) (vs := [(0, (vi 95)), (1, (vi 158))]) (rfl) (E := 3) (cs := [(vi 95), (vi 158)]) (by kernel_rfl) hs6 (fun b9 w10 (hs11 : HS w0 F0 w10 F0 [(some b9, .cells ([(vi 95), (vi 158)] : List Value).toArray 3 (0, 0)), (some b4, .cells ([(vi 100), (vi 160)] : List Value).toArray 3 (0, 0)), (sb b1 #[(.slice none ([] : List Track).length 0), (.slice none ([] : List Tie).length 0), (vi 0)] 25)]) => ?_)
 have hr13 : RowR tInt 3 F0 (some ⟨b9, 0, none⟩) 2 [95, 158] (some b9, .cells ([(vi 95), (vi 158)] : List Value).toArray 3 (0, 0)) := RowR.lit ⟨rfl, ⟨rfl, rfl⟩⟩ (by simp)
 refine V 9 54 (run_build2 (t := 54) (parts := #[(0, (.tmp 7)), (1, (.tmp 8))]) (vs := [(0, (.agg #[(vi 3), (vi 0), (.slice none ([] : List Int).length 0)])), (1, (.slice (some ⟨b9, 0, none⟩) [95, 158].length 2))]) (rfl) (cs := [(vi 3), (vi 0), (.slice none ([] : List Int).length 0), (.slice (some ⟨b9, 0, none⟩) [95, 158].length 2)]) (by kernel_rfl)) ?_
 have hb17 := RowR.bound hr8
 obtain ⟨F1, hs14, le15, hs16⟩ : ∃ Fq, HS w0 F0 w10 Fq [(some b9, .cells ([(vi 95), (vi 158)] : List Value).toArray 3 (0, 0)), (sb b1 #[(.slice none ([] : List Track).length 0), (.slice none ([] : List Tie).length 0), (vi 0)] 25)] ∧ Mem.le F0 Fq ∧ SlA tInt Fq (some ⟨b4, 0, none⟩) [100, 160] := HS.freezeRow hs11 (k := 1) rfl hr8
 have hb21 := RowR.bound (hr13.mono le15)
 obtain ⟨F2, hs18, le19, hs20⟩ : ∃ Fq, HS w0 F0 w10 Fq [(sb b1 #[(.slice none ([] : List Track).length 0), (.slice none ([] : List Tie).length 0), (vi 0)] 25)] ∧ Mem.le F1 Fq ∧ SlA tInt Fq (some ⟨b9, 0, none⟩) [95, 158] := HS.freezeRow hs14 (k := 0) rfl (hr13.mono le15)
 refine RWP.buildSlice (dst := (some 10)) (ty := 22) (g := none) (by kernel_rfl) rfl (t := 22) (len := 2) (parts := #[(0, (.tmp 6)), (1, (.tmp 9))]) (vs := [(0, (.agg #[(vi 10), (vi 0), (.slice none ([] : List Int).length 0), (.slice (some ⟨b4, 0, none⟩) [100, 160].length 2)])), (1, (.agg #[(vi 3), (vi 0), (.slice none ([] : List Int).length 0), (.slice (some ⟨b9, 0, none⟩) [95, 158].length 2)]))]) (rfl) (E := 54) (cs := [(vi 10), (vi 0), (.slice none ([] : List Int).length 0), (.slice (some ⟨b4, 0, none⟩) [100, 160].length 2), (vi 3), (vi 0), (.slice none ([] : List Int).length 0), (.slice (some ⟨b9, 0, none⟩) [95, 158].length 2)]) (by kernel_rfl) hs18 (fun b22 w23 (hs24 : HS w0 F0 w23 F2 [(some b22, .cells ([(vi 10), (vi 0), (.slice none ([] : List Int).length 0), (.slice (some ⟨b4, 0, none⟩) [100, 160].length 2), (vi 3), (vi 0), (.slice none ([] : List Int).length 0), (.slice (some ⟨b9, 0, none⟩) [95, 158].length 2)] : List Value).toArray 54 (0, 0)), (sb b1 #[(.slice none ([] : List Track).length 0), (.slice none ([] : List Tie).length 0), (vi 0)] 25)]) => ?_)
 have hr26 : RowR tTrack 54 F2 (some ⟨b22, 0, none⟩) 2 [({ Clock := ({ Slip := 10, Drift := 0, Jumps := ([] : List Int) } : Clock), Times := [100, 160] } : Track), ({ Clock := ({ Slip := 3, Drift := 0, Jumps := ([] : List Int) } : Clock), Times := [95, 158] } : Track)] (some b22, .cells ([(vi 10), (vi 0), (.slice none ([] : List Int).length 0), (.slice (some ⟨b4, 0, none⟩) [100, 160].length 2), (vi 3), (vi 0), (.slice none ([] : List Int).length 0), (.slice (some ⟨b9, 0, none⟩) [95, 158].length 2)] : List Value).toArray 54 (0, 0)) := RowR.lit ⟨⟨none, 0, (some ⟨b4, 0, none⟩), 2, rfl, LC.nil, (.inl rfl), hb17, (SlA.mono hs16 le19)⟩, ⟨⟨none, 0, (some ⟨b9, 0, none⟩), 2, rfl, LC.nil, (.inl rfl), hb21, hs20⟩, rfl⟩⟩ (by simp)
 refine V 11 25 (run_build2 (t := 25) (parts := #[(0, (.tmp 10)), (2, (.const (vi 2)))]) (vs := [(0, (.slice (some ⟨b22, 0, none⟩) [({ Clock := ({ Slip := 10, Drift := 0, Jumps := ([] : List Int) } : Clock), Times := [100, 160] } : Track), ({ Clock := ({ Slip := 3, Drift := 0, Jumps := ([] : List Int) } : Clock), Times := [95, 158] } : Track)].length 2)), (2, (vi 2))]) (rfl) (cs := [(.slice (some ⟨b22, 0, none⟩) [({ Clock := ({ Slip := 10, Drift := 0, Jumps := ([] : List Int) } : Clock), Times := [100, 160] } : Track), ({ Clock := ({ Slip := 3, Drift := 0, Jumps := ([] : List Int) } : Clock), Times := [95, 158] } : Track)].length 2), (.slice none ([] : List Tie).length 0), (vi 2)]) (by kernel_rfl)) ?_
 refine Al 3 0 25 #[(.slice none ([] : List Track).length 0), (.slice none ([] : List Tie).length 0), (vi 0)] hs24 (fun b27 w28 (hs29 : HS w0 F0 w28 F2 [(sb b27 #[(.slice none ([] : List Track).length 0), (.slice none ([] : List Tie).length 0), (vi 0)] 25), (some b22, .cells ([(vi 10), (vi 0), (.slice none ([] : List Int).length 0), (.slice (some ⟨b4, 0, none⟩) [100, 160].length 2), (vi 3), (vi 0), (.slice none ([] : List Int).length 0), (.slice (some ⟨b9, 0, none⟩) [95, 158].length 2)] : List Value).toArray 54 (0, 0)), (sb b1 #[(.slice none ([] : List Track).length 0), (.slice none ([] : List Tie).length 0), (vi 0)] 25)]) => ?_)
 refine RWP.store (ty := 0) (g := none) (by kernel_rfl) rfl (x := (.tmp 3)) (y := (.tmp 11)) (t := 25) (gg := true) (s := 3) (v := (.agg #[(.slice (some ⟨b22, 0, none⟩) [({ Clock := ({ Slip := 10, Drift := 0, Jumps := ([] : List Int) } : Clock), Times := [100, 160] } : Track), ({ Clock := ({ Slip := 3, Drift := 0, Jumps := ([] : List Int) } : Clock), Times := [95, 158] } : Track)].length 2), (.slice none ([] : List Tie).length 0), (vi 2)])) (b := b27) (o := 0) (C := #[(.slice none ([] : List Track).length 0), (.slice none ([] : List Tie).length 0), (vi 0)]) rfl rfl (by kernel_rfl) hs29 (k := 0) rfl rfl rfl rfl (C' := #[(.slice (some ⟨b22, 0, none⟩) [({ Clock := ({ Slip := 10, Drift := 0, Jumps := ([] : List Int) } : Clock), Times := [100, 160] } : Track), ({ Clock := ({ Slip := 3, Drift := 0, Jumps := ([] : List Int) } : Clock), Times := [95, 158] } : Track)].length 2), (.slice none ([] : List Tie).length 0), (vi 2)]) rfl (fun w30 (hs31 : HS w0 F0 w30 F2 [(sb b27 #[(.slice (some ⟨b22, 0, none⟩) [({ Clock := ({ Slip := 10, Drift := 0, Jumps := ([] : List Int) } : Clock), Times := [100, 160] } : Track), ({ Clock := ({ Slip := 3, Drift := 0, Jumps := ([] : List Int) } : Clock), Times := [95, 158] } : Track)].length 2), (.slice none ([] : List Tie).length 0), (vi 2)] 25), (some b22, .cells ([(vi 10), (vi 0), (.slice none ([] : List Int).length 0), (.slice (some ⟨b4, 0, none⟩) [100, 160].length 2), (vi 3), (vi 0), (.slice none ([] : List Int).length 0), (.slice (some ⟨b9, 0, none⟩) [95, 158].length 2)] : List Value).toArray 54 (0, 0)), (sb b1 #[(.slice none ([] : List Track).length 0), (.slice none ([] : List Tie).length 0), (vi 0)] 25)]) => ?_)
 refine Nss ?_
 refine Sq (Rg [0] ?_)
 refine V 12 4 (mv 0 (.bool x0)) ?_
 refine Nt ?_
 obtain ⟨j35, hj39, h40⟩ := bind_some h
 refine CWP.cut (fun f w => ∃ (F3 : Mem) (aj35_0 : Option Addr) (nj35_0 : Nat), HS w0 F0 w F3 [(sb b27 #[(.slice (some ⟨b22, 0, none⟩) [({ Clock := ({ Slip := 10, Drift := 0, Jumps := ([] : List Int) } : Clock), Times := [100, 160] } : Track), ({ Clock := ({ Slip := 3, Drift := 0, Jumps := ([] : List Int) } : Clock), Times := [95, 158] } : Track)].length 2), (.slice aj35_0 j35.length nj35_0), (vi 2)] 25), (some b22, .cells ([(vi 10), (vi 0), (.slice none ([] : List Int).length 0), (.slice (some ⟨b4, 0, none⟩) [100, 160].length 2), (vi 3), (vi 0), (.slice none ([] : List Int).length 0), (.slice (some ⟨b9, 0, none⟩) [95, 158].length 2)] : List Value).toArray 54 (0, 0)), (sb b1 #[(.slice none ([] : List Track).length 0), (.slice none ([] : List Tie).length 0), (vi 0)] 25)] ∧ Mem.le F2 F3 ∧ f.d = [] ∧ f 2 = (.pointer (some ⟨b1, 0, none⟩)) ∧ f 3 = (.pointer (some ⟨b27, 0, none⟩)) ∧ LC j35.length nj35_0 ∧ SlA tTie F3 aj35_0 j35) ?_ ?_
 ·refine CWP.cond (t := x0) (by kernel_rfl) rfl (fun hb41 => ?_) (fun hb41 => ?_)
  ·have h42 := cond_t hj39 hb41
   refine Rg [0, 1, 2, 3, 4, 5] ?_
   refine V 13 27 (run_build2 (t := 27) (parts := #[(0, (.const (vi 0))), (1, (.const (vi 0)))]) (vs := [(0, (vi 0)), (1, (vi 0))]) (rfl) (cs := [(vi 0), (vi 0)]) (by kernel_rfl)) ?_
   refine V 14 27 (run_build2 (t := 27) (parts := #[(0, (.const (vi 1))), (1, (.const (vi 0)))]) (vs := [(0, (vi 1)), (1, (vi 0))]) (rfl) (cs := [(vi 1), (vi 0)]) (by kernel_rfl)) ?_
   refine V 15 46 (run_build2 (t := 46) (parts := #[(0, (.tmp 13)), (1, (.tmp 14))]) (vs := [(0, (.agg #[(vi 0), (vi 0)])), (1, (.agg #[(vi 1), (vi 0)]))]) (rfl) (cs := [(vi 0), (vi 0), (vi 1), (vi 0)]) (by kernel_rfl)) ?_
   refine RWP.buildSlice (dst := (some 16)) (ty := 23) (g := none) (by kernel_rfl) rfl (t := 23) (len := 1) (parts := #[(0, (.tmp 15))]) (vs := [(0, (.agg #[(vi 0), (vi 0), (vi 1), (vi 0)]))]) (rfl) (E := 46) (cs := [(vi 0), (vi 0), (vi 1), (vi 0)]) (by kernel_rfl) hs31 (fun b43 w44 (hs45 : HS w0 F0 w44 F2 [(some b43, .cells ([(vi 0), (vi 0), (vi 1), (vi 0)] : List Value).toArray 46 (0, 0)), (sb b27 #[(.slice (some ⟨b22, 0, none⟩) [({ Clock := ({ Slip := 10, Drift := 0, Jumps := ([] : List Int) } : Clock), Times := [100, 160] } : Track), ({ Clock := ({ Slip := 3, Drift := 0, Jumps := ([] : List Int) } : Clock), Times := [95, 158] } : Track)].length 2), (.slice none ([] : List Tie).length 0), (vi 2)] 25), (some b22, .cells ([(vi 10), (vi 0), (.slice none ([] : List Int).length 0), (.slice (some ⟨b4, 0, none⟩) [100, 160].length 2), (vi 3), (vi 0), (.slice none ([] : List Int).length 0), (.slice (some ⟨b9, 0, none⟩) [95, 158].length 2)] : List Value).toArray 54 (0, 0)), (sb b1 #[(.slice none ([] : List Track).length 0), (.slice none ([] : List Tie).length 0), (vi 0)] 25)]) => ?_)
   have hr47 : RowR tTie 46 F2 (some ⟨b43, 0, none⟩) 1 [({ A := ({ Log := 0, Line := 0 } : Ref), B := ({ Log := 1, Line := 0 } : Ref) } : Tie)] (some b43, .cells ([(vi 0), (vi 0), (vi 1), (vi 0)] : List Value).toArray 46 (0, 0)) := RowR.lit ⟨rfl, rfl⟩ (by simp)
   refine V 17 0 (fa 25 3 1 1 1 b27 0 1) ?_
   refine RWP.store (ty := 0) (g := none) (by kernel_rfl) rfl (x := (.tmp 17)) (y := (.tmp 16)) (t := 23) (gg := false) (s := 1) (v := (.slice (some ⟨b43, 0, none⟩) [({ A := ({ Log := 0, Line := 0 } : Ref), B := ({ Log := 1, Line := 0 } : Ref) } : Tie)].length 1)) (b := b27) (o := 1) (C := #[(.slice (some ⟨b22, 0, none⟩) [({ Clock := ({ Slip := 10, Drift := 0, Jumps := ([] : List Int) } : Clock), Times := [100, 160] } : Track), ({ Clock := ({ Slip := 3, Drift := 0, Jumps := ([] : List Int) } : Clock), Times := [95, 158] } : Track)].length 2), (.slice none ([] : List Tie).length 0), (vi 2)]) rfl rfl (by kernel_rfl) hs45 (k := 1) rfl rfl rfl rfl (C' := #[(.slice (some ⟨b22, 0, none⟩) [({ Clock := ({ Slip := 10, Drift := 0, Jumps := ([] : List Int) } : Clock), Times := [100, 160] } : Track), ({ Clock := ({ Slip := 3, Drift := 0, Jumps := ([] : List Int) } : Clock), Times := [95, 158] } : Track)].length 2), (.slice (some ⟨b43, 0, none⟩) [({ A := ({ Log := 0, Line := 0 } : Ref), B := ({ Log := 1, Line := 0 } : Ref) } : Tie)].length 1), (vi 2)]) rfl (fun w48 (hs49 : HS w0 F0 w48 F2 [(some b43, .cells ([(vi 0), (vi 0), (vi 1), (vi 0)] : List Value).toArray 46 (0, 0)), (sb b27 #[(.slice (some ⟨b22, 0, none⟩) [({ Clock := ({ Slip := 10, Drift := 0, Jumps := ([] : List Int) } : Clock), Times := [100, 160] } : Track), ({ Clock := ({ Slip := 3, Drift := 0, Jumps := ([] : List Int) } : Clock), Times := [95, 158] } : Track)].length 2), (.slice (some ⟨b43, 0, none⟩) [({ A := ({ Log := 0, Line := 0 } : Ref), B := ({ Log := 1, Line := 0 } : Ref) } : Tie)].length 1), (vi 2)] 25), (some b22, .cells ([(vi 10), (vi 0), (.slice none ([] : List Int).length 0), (.slice (some ⟨b4, 0, none⟩) [100, 160].length 2), (vi 3), (vi 0), (.slice none ([] : List Int).length 0), (.slice (some ⟨b9, 0, none⟩) [95, 158].length 2)] : List Value).toArray 54 (0, 0)), (sb b1 #[(.slice none ([] : List Track).length 0), (.slice none ([] : List Tie).length 0), (vi 0)] 25)]) => ?_)
   refine RWP.nil ?_
   obtain rfl := some_inj h42
   have hb53 := RowR.bound hr47
   obtain ⟨F4, hs50, le51, hs52⟩ : ∃ Fq, HS w0 F0 w48 Fq [(sb b27 #[(.slice (some ⟨b22, 0, none⟩) [({ Clock := ({ Slip := 10, Drift := 0, Jumps := ([] : List Int) } : Clock), Times := [100, 160] } : Track), ({ Clock := ({ Slip := 3, Drift := 0, Jumps := ([] : List Int) } : Clock), Times := [95, 158] } : Track)].length 2), (.slice (some ⟨b43, 0, none⟩) [({ A := ({ Log := 0, Line := 0 } : Ref), B := ({ Log := 1, Line := 0 } : Ref) } : Tie)].length 1), (vi 2)] 25), (some b22, .cells ([(vi 10), (vi 0), (.slice none ([] : List Int).length 0), (.slice (some ⟨b4, 0, none⟩) [100, 160].length 2), (vi 3), (vi 0), (.slice none ([] : List Int).length 0), (.slice (some ⟨b9, 0, none⟩) [95, 158].length 2)] : List Value).toArray 54 (0, 0)), (sb b1 #[(.slice none ([] : List Track).length 0), (.slice none ([] : List Tie).length 0), (vi 0)] 25)] ∧ Mem.le F2 Fq ∧ SlA tTie Fq (some ⟨b43, 0, none⟩) [({ A := ({ Log := 0, Line := 0 } : Ref), B := ({ Log := 1, Line := 0 } : Ref) } : Tie)] := HS.freezeRow hs49 (k := 0) rfl hr47
   exact .inl ⟨rfl, F4, (some ⟨b43, 0, none⟩), 1, hs50, le51, rfl, rfl, rfl, hb53, hs52⟩
  ·have h54 := cond_f hj39 hb41
   refine Sc ?_
   obtain rfl := some_inj h54
   exact .inl ⟨rfl, F2, none, 0, hs31, (Mem.le.refl _), rfl, rfl, rfl, LC.nil, (.inl rfl)⟩
 ·rintro f w32 ⟨F3, aj35_0, nj35_0, hs33, le34, e36, e37, e38, hbj35_0, hsj35_0⟩
  refine thenQ_nrm ?_
  refine Sq (Rg [0, 1] ?_)
  refine V 18 25 (ld 25 3 b27 0 true 3 (.agg #[(.slice (some ⟨b22, 0, none⟩) [({ Clock := ({ Slip := 10, Drift := 0, Jumps := ([] : List Int) } : Clock), Times := [100, 160] } : Track), ({ Clock := ({ Slip := 3, Drift := 0, Jumps := ([] : List Int) } : Clock), Times := [95, 158] } : Track)].length 2), (.slice aj35_0 j35.length nj35_0), (vi 2)]) (hs33.ownAt (k := 0) rfl) e38) ?_
  refine RWP.store (ty := 0) (g := none) (by kernel_rfl) rfl (x := (.tmp 2)) (y := (.tmp 18)) (t := 25) (gg := true) (s := 3) (v := (.agg #[(.slice (some ⟨b22, 0, none⟩) [({ Clock := ({ Slip := 10, Drift := 0, Jumps := ([] : List Int) } : Clock), Times := [100, 160] } : Track), ({ Clock := ({ Slip := 3, Drift := 0, Jumps := ([] : List Int) } : Clock), Times := [95, 158] } : Track)].length 2), (.slice aj35_0 j35.length nj35_0), (vi 2)])) (b := b1) (o := 0) (C := #[(.slice none ([] : List Track).length 0), (.slice none ([] : List Tie).length 0), (vi 0)]) e37 rfl (by kernel_rfl) hs33 (k := 2) rfl rfl rfl rfl (C' := #[(.slice (some ⟨b22, 0, none⟩) [({ Clock := ({ Slip := 10, Drift := 0, Jumps := ([] : List Int) } : Clock), Times := [100, 160] } : Track), ({ Clock := ({ Slip := 3, Drift := 0, Jumps := ([] : List Int) } : Clock), Times := [95, 158] } : Track)].length 2), (.slice aj35_0 j35.length nj35_0), (vi 2)]) rfl (fun w55 (hs56 : HS w0 F0 w55 F3 [(sb b27 #[(.slice (some ⟨b22, 0, none⟩) [({ Clock := ({ Slip := 10, Drift := 0, Jumps := ([] : List Int) } : Clock), Times := [100, 160] } : Track), ({ Clock := ({ Slip := 3, Drift := 0, Jumps := ([] : List Int) } : Clock), Times := [95, 158] } : Track)].length 2), (.slice aj35_0 j35.length nj35_0), (vi 2)] 25), (some b22, .cells ([(vi 10), (vi 0), (.slice none ([] : List Int).length 0), (.slice (some ⟨b4, 0, none⟩) [100, 160].length 2), (vi 3), (vi 0), (.slice none ([] : List Int).length 0), (.slice (some ⟨b9, 0, none⟩) [95, 158].length 2)] : List Value).toArray 54 (0, 0)), (sb b1 #[(.slice (some ⟨b22, 0, none⟩) [({ Clock := ({ Slip := 10, Drift := 0, Jumps := ([] : List Int) } : Clock), Times := [100, 160] } : Track), ({ Clock := ({ Slip := 3, Drift := 0, Jumps := ([] : List Int) } : Clock), Times := [95, 158] } : Track)].length 2), (.slice aj35_0 j35.length nj35_0), (vi 2)] 25)]) => ?_)
  refine Nt ?_
  refine CWP.ret (by kernel_rfl) ?_
  have hb60 := RowR.bound (hr26.mono le34)
  obtain ⟨F5, hs57, le58, hs59⟩ : ∃ Fq, HS w0 F0 w55 Fq [(sb b27 #[(.slice (some ⟨b22, 0, none⟩) [({ Clock := ({ Slip := 10, Drift := 0, Jumps := ([] : List Int) } : Clock), Times := [100, 160] } : Track), ({ Clock := ({ Slip := 3, Drift := 0, Jumps := ([] : List Int) } : Clock), Times := [95, 158] } : Track)].length 2), (.slice aj35_0 j35.length nj35_0), (vi 2)] 25), (sb b1 #[(.slice (some ⟨b22, 0, none⟩) [({ Clock := ({ Slip := 10, Drift := 0, Jumps := ([] : List Int) } : Clock), Times := [100, 160] } : Track), ({ Clock := ({ Slip := 3, Drift := 0, Jumps := ([] : List Int) } : Clock), Times := [95, 158] } : Track)].length 2), (.slice aj35_0 j35.length nj35_0), (vi 2)] 25)] ∧ Mem.le F3 Fq ∧ SlA tTrack Fq (some ⟨b22, 0, none⟩) [({ Clock := ({ Slip := 10, Drift := 0, Jumps := ([] : List Int) } : Clock), Times := [100, 160] } : Track), ({ Clock := ({ Slip := 3, Drift := 0, Jumps := ([] : List Int) } : Clock), Times := [95, 158] } : Track)] := HS.freezeRow hs56 (k := 1) rfl (hr26.mono le34)
  have hfin := some_inj h40
  subst hfin
  exact ⟨e36, (.agg #[(.slice (some ⟨b22, 0, none⟩) [({ Clock := ({ Slip := 10, Drift := 0, Jumps := ([] : List Int) } : Clock), Times := [100, 160] } : Track), ({ Clock := ({ Slip := 3, Drift := 0, Jumps := ([] : List Int) } : Clock), Times := [95, 158] } : Track)].length 2), (.slice aj35_0 j35.length nj35_0), (vi 2)]), res_of (l := [.cell 2 25]) (by kernel_rfl) (vs := [(.agg #[(.slice (some ⟨b22, 0, none⟩) [({ Clock := ({ Slip := 10, Drift := 0, Jumps := ([] : List Int) } : Clock), Times := [100, 160] } : Track), ({ Clock := ({ Slip := 3, Drift := 0, Jumps := ([] : List Int) } : Clock), Times := [95, 158] } : Track)].length 2), (.slice aj35_0 j35.length nj35_0), (vi 2)])]) ⟨b1, 0, e37, run_loadVar' (t := 25) (g := true) (s := 3) (by kernel_rfl) (hs57.ownAt (k := 1) rfl) rfl (by decide), trivial⟩, (.agg #[(.slice (some ⟨b22, 0, none⟩) [({ Clock := ({ Slip := 10, Drift := 0, Jumps := ([] : List Int) } : Clock), Times := [100, 160] } : Track), ({ Clock := ({ Slip := 3, Drift := 0, Jumps := ([] : List Int) } : Clock), Times := [95, 158] } : Track)].length 2), (.slice aj35_0 j35.length nj35_0), (vi 2)]), F5, rfl, hs57.clear, ⟨(some ⟨b22, 0, none⟩), 2, aj35_0, nj35_0, rfl, hb60, hs59, hbj35_0, (SlA.mono hsj35_0 le58)⟩⟩
end Go.Proofs.Ythbcnabeabcmlaa
namespace Go.Proofs.Ythbcnabeabcmlaa
open Go.Proofs
def law03_awake (N : Nat)  : Option Bool :=
 ((law03_pair N true).bind fun r1 => ((clocks_Times N r1).bind fun r9 => ((law03_pair N true).bind fun r17 => ((clocks_Offset N r17 ({ Log := 0, Line := 0 } : Ref)).bind fun r25 => ((law03_pair N false).bind fun r38 => ((clocks_Accept N r38 ([({ A := ({ Log := 0, Line := 0 } : Ref), B := ({ Log := 1, Line := 1 } : Ref) } : Tie), ({ A := ({ Log := 0, Line := 0 } : Ref), B := ({ Log := 1, Line := 0 } : Ref) } : Tie)])).bind fun r55 => ((law03_pair N false).bind fun r63 => ((clocks_Before N r63 ({ Log := 1, Line := 0 } : Ref) ({ Log := 0, Line := 1 } : Ref)).bind fun r71 => ((bif (r9.2 != 0) then some true else (bif ((r9.1.length : Int) != 2) then some true else ((idx r9.1 0).bind fun x99 => (bif ((x99.length : Int) != 2) then some true else ((idx r9.1 0).bind fun x116 => ((idx x116 0).bind fun x122 => (bif (!((x122.Lo == 90) && ((x122.Hi == 100) && true))) then some true else ((idx r9.1 0).bind fun x139 => ((idx x139 1).bind fun x145 => some (!((x145.Lo == 150) && ((x145.Hi == 161) && true)))))))))))).bind fun j82 => (bif j82 then some false else ((bif (r25.2 == 0) then (bif ((r25.1.Lo == 0) && ((r25.1.Hi == 10) && true)) then (bif (r55.2 == 0) then (bif ((r55.1.length : Int) == 2) then ((idx r55.1 0).bind fun x178 => (bif (!x178) then ((idx r55.1 1).bind fun x194 => (bif x194 then (bif r71.1 then some (r71.2 == 0) else some false) else some false)) else some false)) else some false) else some false) else some false) else some false).bind fun j165 => some j165)))))))))))
theorem co_law03_awake : CallOk Try.prog 15 := fun _ _ => by kernel_rfl
set_option maxHeartbeats 4000000 in
set_option maxRecDepth 100000 in
theorem c_law03_awake (N : Nat) (w0 : World) (F0 : Mem) (hF : ∀ b o, F0 b = some o → w0.heap[b]? = some o)  (r : Bool) (h : law03_awake N  = some r) :
  Calls Try.prog 15 ([] : List Value).toArray w0 (FRet w0 F0 fun F' v => v = (.bool r)) := by
 have hs0 := HS.start hF
 refine calls_of (n := 105) (c := bodyOf Try.f15) Try.func15 (by kernel_rfl) (by kernel_rfl) (by kernel_rfl) ?_
 refine Sq (Rg [0] ?_)
 refine V 0 4 (mc (.bool false) (.bool false)) ?_
 refine Nss (Rg [0, 1, 2, 3, 4, 5, 6] ?_)
 obtain ⟨r1, hr2, h3⟩ := bind_some h
 refine Cl 10 25 64 #[(.const (.bool true))] #[4] co_law03_pair hs0 (c_law03_pair N w0 F0 hs0.pers (true) _ hr2) ?_
 intro v4 F1 w5 hs6 le7 hp8
 obtain ⟨ar1_0_0, nr1_0_0, ar1_0_1, nr1_0_1, rfl, hbr1_0_0, hsr1_0_0, hbr1_0_1, hsr1_0_1⟩ := hp8
 obtain ⟨r9, hr10, h11⟩ := bind_some h3
 refine Cl 11 34 19 #[(.tmp 10)] #[25] co_clocks_Times hs6 (c_clocks_Times N w5 F1 hs6.pers (r1) ar1_0_0 nr1_0_0 hbr1_0_0 hsr1_0_0 ar1_0_1 nr1_0_1 hbr1_0_1 hsr1_0_1 _ hr10) ?_
 intro v12 F2 w13 hs14 le15 hp16
 obtain ⟨ar9_0_0, nr9_0_0, rfl, hbr9_0_0, hsr9_0_0⟩ := hp16
 refine V 9 34 (mv 11 (.tuple #[(.slice ar9_0_0 r9.1.length nr9_0_0), (vi r9.2)])) ?_
 refine V 12 33 (ex 9 0 (.slice ar9_0_0 r9.1.length nr9_0_0) (vs := #[(.slice ar9_0_0 r9.1.length nr9_0_0), (vi r9.2)])) ?_
 refine V 13 30 (ex 9 1 (vi r9.2) (vs := #[(.slice ar9_0_0 r9.1.length nr9_0_0), (vi r9.2)])) ?_
 refine V 1 33 (ma 12 (.slice ar9_0_0 r9.1.length nr9_0_0)) ?_
 refine V 2 30 (ma 13 (vi r9.2)) ?_
 refine Nss (Rg [0, 1, 2, 3, 4, 5, 6, 7, 8] ?_)
 obtain ⟨r17, hr18, h19⟩ := bind_some h11
 refine Cl 15 25 64 #[(.const (.bool true))] #[4] co_law03_pair hs14 (c_law03_pair N w13 F2 hs14.pers (true) _ hr18) ?_
 intro v20 F3 w21 hs22 le23 hp24
 obtain ⟨ar17_0_0, nr17_0_0, ar17_0_1, nr17_0_1, rfl, hbr17_0_0, hsr17_0_0, hbr17_0_1, hsr17_0_1⟩ := hp24
 refine V 16 27 (run_build2 (t := 27) (parts := #[]) (vs := []) (rfl) (cs := [(vi 0), (vi 0)]) (by kernel_rfl)) ?_
 obtain ⟨r25, hr26, h27⟩ := bind_some h19
 refine Cl 17 39 24 #[(.tmp 15), (.tmp 16)] #[25, 27] co_clocks_Offset hs22 (c_clocks_Offset N w21 F3 hs22.pers (r17) ar17_0_0 nr17_0_0 hbr17_0_0 hsr17_0_0 ar17_0_1 nr17_0_1 hbr17_0_1 hsr17_0_1 (({ Log := 0, Line := 0 } : Ref)) _ hr26) ?_
 intro v28 F4 w29 hs30 le31 hp32
 obtain rfl := hp32
 refine V 14 39 (mv 17 (.tuple #[(.agg (kSpan r25.1)), (vi r25.2)])) ?_
 refine V 18 38 (ex 14 0 (.agg (kSpan r25.1)) (vs := #[(.agg (kSpan r25.1)), (vi r25.2)])) ?_
 refine V 19 30 (ex 14 1 (vi r25.2) (vs := #[(.agg (kSpan r25.1)), (vi r25.2)])) ?_
 refine Al 3 0 38 #[(vi 0), (vi 0)] hs30 (fun b33 w34 (hs35 : HS w0 F0 w34 F4 [(sb b33 #[(vi 0), (vi 0)] 38)]) => ?_)
 refine RWP.store (ty := 0) (g := none) (by kernel_rfl) rfl (x := (.tmp 3)) (y := (.tmp 18)) (t := 38) (gg := true) (s := 2) (v := (.agg (kSpan r25.1))) (b := b33) (o := 0) (C := #[(vi 0), (vi 0)]) rfl rfl (by kernel_rfl) hs35 (k := 0) rfl rfl rfl rfl (C' := (kSpan r25.1)) rfl (fun w36 (hs37 : HS w0 F0 w36 F4 [(sb b33 (kSpan r25.1) 38)]) => ?_)
 refine V 4 30 (ma 19 (vi r25.2)) ?_
 refine Nss (Rg [0, 1, 2, 3, 4, 5, 6, 7, 8, 9, 10, 11, 12, 13] ?_)
 obtain ⟨r38, hr39, h40⟩ := bind_some h27
 refine Cl 21 25 64 #[(.const (.bool false))] #[4] co_law03_pair hs37 (c_law03_pair N w36 F4 hs37.pers (false) _ hr39) ?_
 intro v41 F5 w42 hs43 le44 hp45
 obtain ⟨ar38_0_0, nr38_0_0, ar38_0_1, nr38_0_1, rfl, hbr38_0_0, hsr38_0_0, hbr38_0_1, hsr38_0_1⟩ := hp45
 refine V 22 27 (run_build2 (t := 27) (parts := #[]) (vs := []) (rfl) (cs := [(vi 0), (vi 0)]) (by kernel_rfl)) ?_
 refine V 23 27 (run_build2 (t := 27) (parts := #[(0, (.const (vi 1))), (1, (.const (vi 1)))]) (vs := [(0, (vi 1)), (1, (vi 1))]) (rfl) (cs := [(vi 1), (vi 1)]) (by kernel_rfl)) ?_
 refine V 24 46 (run_build2 (t := 46) (parts := #[(0, (.tmp 22)), (1, (.tmp 23))]) (vs := [(0, (.agg #[(vi 0), (vi 0)])), (1, (.agg #[(vi 1), (vi 1)]))]) (rfl) (cs := [(vi 0), (vi 0), (vi 1), (vi 1)]) (by kernel_rfl)) ?_
 refine V 25 27 (run_build2 (t := 27) (parts := #[]) (vs := []) (rfl) (cs := [(vi 0), (vi 0)]) (by kernel_rfl)) ?_
 refine V 26 27 (run_build2 (t := 27) (parts := #[(0, (.const (vi 1)))]) (vs := [(0, (vi 1))]) (rfl) (cs := [(vi 1), (vi 0)]) (by kernel_rfl)) ?_
 refine V 27 46 (run_build2 (t := 46) (parts := #[(0, (.tmp 25)), (1, (.tmp 26))]) (vs := [(0, (.agg #[(vi 0), (vi 0)])), (1, (.agg #[(vi 1), (vi 0)]))]) (rfl) (cs := [(vi 0), (vi 0), (vi 1), (vi 0)]) (by kernel_rfl)) ?_
 refine RWP.buildSlice (dst := (some 28)) (ty := 23) (g := none) (by kernel_rfl) rfl (t := 23) (len := 2) (parts := #[(0, (.tmp 24)), (1, (.tmp 27))]) (vs := [(0, (.agg #[(vi 0), (vi 0), (vi 1), (vi 1)])), (1, (.agg #[(vi 0), (vi 0), (vi 1), (vi 0)]))]) (rfl) (E := 46) (cs := [(vi 0), (vi 0), (vi 1), (vi 1), (vi 0), (vi 0), (vi 1), (vi 0)]) (by kernel_rfl) hs43 (fun b46 w47 (hs48 : HS w0 F0 w47 F5 [(some b46, .cells ([(vi 0), (vi 0), (vi 1), (vi 1), (vi 0), (vi 0), (vi 1), (vi 0)] : List Value).toArray 46 (0, 0)), (sb b33 (kSpan r25.1) 38)]) => ?_)
 have hr50 : RowR tTie 46 F5 (some ⟨b46, 0, none⟩) 2 [({ A := ({ Log := 0, Line := 0 } : Ref), B := ({ Log := 1, Line := 1 } : Ref) } : Tie), ({ A := ({ Log := 0, Line := 0 } : Ref), B := ({ Log := 1, Line := 0 } : Ref) } : Tie)] (some b46, .cells ([(vi 0), (vi 0), (vi 1), (vi 1), (vi 0), (vi 0), (vi 1), (vi 0)] : List Value).toArray 46 (0, 0)) := RowR.lit ⟨rfl, ⟨rfl, rfl⟩⟩ (by simp)
 have hb54 := RowR.bound hr50
 obtain ⟨F6, hs51, le52, hs53⟩ : ∃ Fq, HS w0 F0 w47 Fq [(sb b33 (kSpan r25.1) 38)] ∧ Mem.le F5 Fq ∧ SlA tTie Fq (some ⟨b46, 0, none⟩) [({ A := ({ Log := 0, Line := 0 } : Ref), B := ({ Log := 1, Line := 1 } : Ref) } : Tie), ({ A := ({ Log := 0, Line := 0 } : Ref), B := ({ Log := 1, Line := 0 } : Ref) } : Tie)] := HS.freezeRow hs48 (k := 0) rfl hr50
 obtain ⟨r55, hr56, h57⟩ := bind_some h40
 refine Cl 29 65 42 #[(.tmp 21), (.tmp 28)] #[25, 23] co_clocks_Accept hs51 (c_clocks_Accept N w47 F6 hs51.pers (r38) ar38_0_0 nr38_0_0 hbr38_0_0 (SlA.mono hsr38_0_0 le52) ar38_0_1 nr38_0_1 hbr38_0_1 (SlA.mono hsr38_0_1 le52) ([({ A := ({ Log := 0, Line := 0 } : Ref), B := ({ Log := 1, Line := 1 } : Ref) } : Tie), ({ A := ({ Log := 0, Line := 0 } : Ref), B := ({ Log := 1, Line := 0 } : Ref) } : Tie)]) (some ⟨b46, 0, none⟩) 2 hb54 hs53 _ hr56) ?_
 intro v58 F7 w59 hs60 le61 hp62
 obtain ⟨ar55_0_0, nr55_0_0, rfl, hbr55_0_0, hsr55_0_0⟩ := hp62
 refine V 20 65 (mv 29 (.tuple #[(.slice ar55_0_0 r55.1.length nr55_0_0), (vi r55.2)])) ?_
 refine V 30 64 (ex 20 0 (.slice ar55_0_0 r55.1.length nr55_0_0) (vs := #[(.slice ar55_0_0 r55.1.length nr55_0_0), (vi r55.2)])) ?_
 refine V 31 30 (ex 20 1 (vi r55.2) (vs := #[(.slice ar55_0_0 r55.1.length nr55_0_0), (vi r55.2)])) ?_
 refine V 5 64 (ma 30 (.slice ar55_0_0 r55.1.length nr55_0_0)) ?_
 refine V 6 30 (ma 31 (vi r55.2)) ?_
 refine Nss (Rg [0, 1, 2, 3, 4, 5, 6, 7, 8] ?_)
 obtain ⟨r63, hr64, h65⟩ := bind_some h57
 refine Cl 33 25 64 #[(.const (.bool false))] #[4] co_law03_pair hs60 (c_law03_pair N w59 F7 hs60.pers (false) _ hr64) ?_
 intro v66 F8 w67 hs68 le69 hp70
 obtain ⟨ar63_0_0, nr63_0_0, ar63_0_1, nr63_0_1, rfl, hbr63_0_0, hsr63_0_0, hbr63_0_1, hsr63_0_1⟩ := hp70
 refine V 34 27 (run_build2 (t := 27) (parts := #[(0, (.const (vi 1)))]) (vs := [(0, (vi 1))]) (rfl) (cs := [(vi 1), (vi 0)]) (by kernel_rfl)) ?_
 refine V 35 27 (run_build2 (t := 27) (parts := #[(1, (.const (vi 1)))]) (vs := [(1, (vi 1))]) (rfl) (cs := [(vi 0), (vi 1)]) (by kernel_rfl)) ?_
 obtain ⟨r71, hr72, h73⟩ := bind_some h65
 refine Cl 36 43 30 #[(.tmp 33), (.tmp 34), (.tmp 35)] #[25, 27, 27] co_clocks_Before hs68 (c_clocks_Before N w67 F8 hs68.pers (r63) ar63_0_0 nr63_0_0 hbr63_0_0 hsr63_0_0 ar63_0_1 nr63_0_1 hbr63_0_1 hsr63_0_1 (({ Log := 1, Line := 0 } : Ref)) (({ Log := 0, Line := 1 } : Ref)) _ hr72) ?_
 intro v74 F9 w75 hs76 le77 hp78
 obtain rfl := hp78
 refine V 32 43 (mv 36 (.tuple #[(.bool r71.1), (vi r71.2)])) ?_
 refine V 37 4 (ex 32 0 (.bool r71.1) (vs := #[(.bool r71.1), (vi r71.2)])) ?_
 refine V 38 30 (ex 32 1 (vi r71.2) (vs := #[(.bool r71.1), (vi r71.2)])) ?_
 refine V 7 4 (ma 37 (.bool r71.1)) ?_
 refine V 8 30 (ma 38 (vi r71.2)) ?_
 refine Nss ?_
 refine Sq (Rg [0, 1, 2, 3, 4, 5, 6, 7, 8, 9, 10, 11, 12, 13, 14, 15, 16, 17, 18, 19, 20, 21, 22, 23, 24, 25, 26, 27, 28, 29, 30, 31] ?_)
 obtain ⟨j82, hj91, h92⟩ := bind_some h73
 refine RWP.cut (fun f w => ∃ (F10 : Mem), HS w0 F0 w F10 [(sb b33 (kSpan r25.1) 38)] ∧ Mem.le F9 F10 ∧ f.d = [] ∧ f 3 = (.pointer (some ⟨b33, 0, none⟩)) ∧ f 4 = (vi r25.2) ∧ f 5 = (.slice ar55_0_0 r55.1.length nr55_0_0) ∧ f 6 = (vi r55.2) ∧ f 7 = (.bool r71.1) ∧ f 8 = (vi r71.2) ∧ f 70 = (.bool j82)) ?_ ?_
 ·refine V 39 30 (mv 2 (vi r9.2)) ?_
  refine V 40 4 (run_neq (t := 30) (t' := 30) (x := (.tmp 39)) (y := (.const (vi 0))) (k := .i64) (a := r9.2) (b := 0) rfl rfl) ?_
  refine V 41 4 (mv 40 (.bool (r9.2 != 0))) ?_
  refine RWP.split (r9.2 != 0) (fun hb93 => ?_) (fun hb93 => ?_)
  ·have h94 := cond_t hj91 hb93
   refine Sk [42, 43, 44] 2 false 41 hb93 ?_
   refine V 45 4 (p1 41 (.const (.bool true)) (.tmp 44) (.bool true) hb93) ?_
   refine V 46 4 (mv 45 (.bool true)) ?_
   refine Sk [47, 48, 49, 50, 51] 7 false 46 rfl ?_
   refine V 52 4 (p1 46 (.const (.bool true)) (.tmp 51) (.bool true) rfl) ?_
   refine V 53 4 (mv 52 (.bool true)) ?_
   refine Sk [54, 55, 56, 57, 58, 59, 60] 14 false 53 rfl ?_
   refine V 61 4 (p1 53 (.const (.bool true)) (.tmp 60) (.bool true) rfl) ?_
   refine V 62 4 (mv 61 (.bool true)) ?_
   refine Sk [63, 64, 65, 66, 67, 68, 69] 23 false 62 rfl ?_
   refine V 70 4 (p1 62 (.const (.bool true)) (.tmp 69) (.bool true) rfl) ?_
   obtain rfl := some_inj h94
   exact RWP.nil ⟨rfl, F9, hs76, (Mem.le.refl _), rfl, rfl, rfl, rfl, rfl, rfl, rfl, rfl⟩
  ·have h95 := cond_f hj91 hb93
   refine Vg 42 33 2 false 41 hb93 (mv 1 (.slice ar9_0_0 r9.1.length nr9_0_0)) ?_
   refine Vg 43 3 2 false 41 hb93 (ln 42 33 ar9_0_0 r9.1.length nr9_0_0 36 1 24) ?_
   refine Vg 44 4 2 false 41 hb93 (run_neq (t := 3) (t' := 3) (x := (.tmp 43)) (y := (.const (vi 2))) (k := .i64) (a := (r9.1.length : Int)) (b := 2) rfl rfl) ?_
   refine V 45 4 (p0 41 (.const (.bool true)) (.tmp 44) (.bool ((r9.1.length : Int) != 2)) hb93) ?_
   refine V 46 4 (mv 45 (.bool ((r9.1.length : Int) != 2))) ?_
   refine RWP.split ((r9.1.length : Int) != 2) (fun hb96 => ?_) (fun hb96 => ?_)
   ·have h97 := cond_t h95 hb96
    refine Sk [47, 48, 49, 50, 51] 7 false 46 hb96 ?_
    refine V 52 4 (p1 46 (.const (.bool true)) (.tmp 51) (.bool true) hb96) ?_
    refine V 53 4 (mv 52 (.bool true)) ?_
    refine Sk [54, 55, 56, 57, 58, 59, 60] 14 false 53 rfl ?_
    refine V 61 4 (p1 53 (.const (.bool true)) (.tmp 60) (.bool true) rfl) ?_
    refine V 62 4 (mv 61 (.bool true)) ?_
    refine Sk [63, 64, 65, 66, 67, 68, 69] 23 false 62 rfl ?_
    refine V 70 4 (p1 62 (.const (.bool true)) (.tmp 69) (.bool true) rfl) ?_
    obtain rfl := some_inj h97
    exact RWP.nil ⟨rfl, F9, hs76, (Mem.le.refl _), rfl, rfl, rfl, rfl, rfl, rfl, rfl, rfl⟩
   ·have h98 := cond_f h95 hb96
    refine Vg 47 33 7 false 46 hb96 (mv 1 (.slice ar9_0_0 r9.1.length nr9_0_0)) ?_
    obtain ⟨x99, hx100, h102⟩ := bind_some h98
    obtain ⟨hi101, hx100'⟩ := idx_spec hx100
    obtain ⟨b103, o104, C105, E106, fz107, rfl, hF109, hE110⟩ := SlA.open (SlA.mono hsr9_0_0 ((((((le23.trans le31).trans le44).trans le52).trans le61).trans le69).trans le77)) hx100'
    obtain ⟨ae111_0, ne111_0, hc112, hbe111_0, hse111_0⟩ := hE110 _ _ hx100'
    refine Vg 48 0 7 false 46 hb96 (run_index (t := 33) (x := (.tmp 47)) (y := (.const (vi 0))) (b := b103) (o := o104) (E := 36) (s := 1) (by_ := 24) rfl rfl (by kernel_rfl) hi101) ?_
    refine Vg 49 36 7 false 46 hb96 (lx 36 48 0 1 false 1 (.slice ae111_0 x99.length ne111_0) (hs76.pers _ _ hF109) hc112) ?_
    refine Vg 50 3 7 false 46 hb96 (ln 49 36 ae111_0 x99.length ne111_0 38 2 16) ?_
    refine Vg 51 4 7 false 46 hb96 (run_neq (t := 3) (t' := 3) (x := (.tmp 50)) (y := (.const (vi 2))) (k := .i64) (a := (x99.length : Int)) (b := 2) rfl rfl) ?_
    refine V 52 4 (p0 46 (.const (.bool true)) (.tmp 51) (.bool ((x99.length : Int) != 2)) hb96) ?_
    refine V 53 4 (mv 52 (.bool ((x99.length : Int) != 2))) ?_
    refine RWP.split ((x99.length : Int) != 2) (fun hb113 => ?_) (fun hb113 => ?_)
    ·have h114 := cond_t h102 hb113
     refine Sk [54, 55, 56, 57, 58, 59, 60] 14 false 53 hb113 ?_
     refine V 61 4 (p1 53 (.const (.bool true)) (.tmp 60) (.bool true) hb113) ?_
     refine V 62 4 (mv 61 (.bool true)) ?_
     refine Sk [63, 64, 65, 66, 67, 68, 69] 23 false 62 rfl ?_
     refine V 70 4 (p1 62 (.const (.bool true)) (.tmp 69) (.bool true) rfl) ?_
     obtain rfl := some_inj h114
     exact RWP.nil ⟨rfl, F9, hs76, (Mem.le.refl _), rfl, rfl, rfl, rfl, rfl, rfl, rfl, rfl⟩
    ·have h115 := cond_f h102 hb113
     refine Vg 54 33 14 false 53 hb113 (mv 1 (.slice (some ⟨b103, o104, none⟩) r9.1.length nr9_0_0)) ?_
     obtain ⟨x116, hx117, h119⟩ := bind_some h115
     obtain ⟨hi118, hx117'⟩ := idx_spec hx117
     obtain ⟨ae120_0, ne120_0, hc121, hbe120_0, hse120_0⟩ := hE110 _ _ hx117'
     refine Vg 55 0 14 false 53 hb113 (run_index (t := 33) (x := (.tmp 54)) (y := (.const (vi 0))) (b := b103) (o := o104) (E := 36) (s := 1) (by_ := 24) rfl rfl (by kernel_rfl) hi118) ?_
     refine Vg 56 36 14 false 53 hb113 (lx 36 55 0 1 false 1 (.slice ae120_0 x116.length ne120_0) (hs76.pers _ _ hF109) hc121) ?_
     obtain ⟨x122, hx123, h125⟩ := bind_some h119
     obtain ⟨hi124, hx123'⟩ := idx_spec hx123
     obtain ⟨b126, o127, C128, E129, fz130, rfl, hF132, hE133⟩ := SlA.open hse120_0 hx123'
     have hc135 := hE133 _ _ hx123'
     refine Vg 57 0 14 false 53 hb113 (run_index (t := 36) (x := (.tmp 56)) (y := (.const (vi 0))) (b := b126) (o := o127) (E := 38) (s := 2) (by_ := 16) rfl rfl (by kernel_rfl) hi124) ?_
     refine Vg 58 38 14 false 53 hb113 (lx 38 57 0 2 true 2 (.agg (kSpan x122)) (hs76.pers _ _ hF132) hc135) ?_
     refine Vg 59 38 14 false 53 hb113 (run_build2 (t := 38) (parts := #[(0, (.const (vi 90))), (1, (.const (vi 100)))]) (vs := [(0, (vi 90)), (1, (vi 100))]) (rfl) (cs := [(vi 90), (vi 100)]) (by kernel_rfl)) ?_
     refine Vg 60 4 14 false 53 hb113 (run_nes (t := 38) (t' := 38) (x := (.tmp 58)) (y := (.tmp 59)) (xs := (kSpan x122)) (ys := #[(vi 90), (vi 100)]) (b := ((x122.Lo == 90) && ((x122.Hi == 100) && true))) rfl rfl (by kernel_rfl) (by kernel_rfl)) ?_
     refine V 61 4 (p0 53 (.const (.bool true)) (.tmp 60) (.bool (!((x122.Lo == 90) && ((x122.Hi == 100) && true)))) hb113) ?_
     refine V 62 4 (mv 61 (.bool (!((x122.Lo == 90) && ((x122.Hi == 100) && true))))) ?_
     refine RWP.split (!((x122.Lo == 90) && ((x122.Hi == 100) && true))) (fun hb136 => ?_) (fun hb136 => ?_)
     ·have h137 := cond_t h125 hb136
      refine Sk [63, 64, 65, 66, 67, 68, 69] 23 false 62 hb136 ?_
      refine V 70 4 (p1 62 (.const (.bool true)) (.tmp 69) (.bool true) hb136) ?_
      obtain rfl := some_inj h137
      exact RWP.nil ⟨rfl, F9, hs76, (Mem.le.refl _), rfl, rfl, rfl, rfl, rfl, rfl, rfl, rfl⟩
     ·have h138 := cond_f h125 hb136
      refine Vg 63 33 23 false 62 hb136 (mv 1 (.slice (some ⟨b103, o104, none⟩) r9.1.length nr9_0_0)) ?_
      obtain ⟨x139, hx140, h142⟩ := bind_some h138
      obtain ⟨hi141, hx140'⟩ := idx_spec hx140
      obtain ⟨ae143_0, ne143_0, hc144, hbe143_0, hse143_0⟩ := hE110 _ _ hx140'
      refine Vg 64 0 23 false 62 hb136 (run_index (t := 33) (x := (.tmp 63)) (y := (.const (vi 0))) (b := b103) (o := o104) (E := 36) (s := 1) (by_ := 24) rfl rfl (by kernel_rfl) hi141) ?_
      refine Vg 65 36 23 false 62 hb136 (lx 36 64 0 1 false 1 (.slice ae143_0 x139.length ne143_0) (hs76.pers _ _ hF109) hc144) ?_
      obtain ⟨x145, hx146, h148⟩ := bind_some h142
      obtain ⟨hi147, hx146'⟩ := idx_spec hx146
      obtain ⟨b149, o150, C151, E152, fz153, rfl, hF155, hE156⟩ := SlA.open hse143_0 hx146'
      have hc158 := hE156 _ _ hx146'
      refine Vg 66 0 23 false 62 hb136 (run_index (t := 36) (x := (.tmp 65)) (y := (.const (vi 1))) (b := b149) (o := o150) (E := 38) (s := 2) (by_ := 16) rfl rfl (by kernel_rfl) hi147) ?_
      refine Vg 67 38 23 false 62 hb136 (lx 38 66 0 2 true 2 (.agg (kSpan x145)) (hs76.pers _ _ hF155) hc158) ?_
      refine Vg 68 38 23 false 62 hb136 (run_build2 (t := 38) (parts := #[(0, (.const (vi 150))), (1, (.const (vi 161)))]) (vs := [(0, (vi 150)), (1, (vi 161))]) (rfl) (cs := [(vi 150), (vi 161)]) (by kernel_rfl)) ?_
      refine Vg 69 4 23 false 62 hb136 (run_nes (t := 38) (t' := 38) (x := (.tmp 67)) (y := (.tmp 68)) (xs := (kSpan x145)) (ys := #[(vi 150), (vi 161)]) (b := ((x145.Lo == 150) && ((x145.Hi == 161) && true))) rfl rfl (by kernel_rfl) (by kernel_rfl)) ?_
      refine V 70 4 (p0 62 (.const (.bool true)) (.tmp 69) (.bool (!((x145.Lo == 150) && ((x145.Hi == 161) && true)))) hb136) ?_
      obtain rfl := some_inj h148
      exact RWP.nil ⟨rfl, F9, hs76, (Mem.le.refl _), rfl, rfl, rfl, rfl, rfl, rfl, rfl, rfl⟩
 ·rintro f w79 ⟨F10, hs80, le81, e83, e84, e85, e86, e87, e88, e89, e90⟩
  refine thenQ_nrm ?_
  refine CWP.cond (t := j82) (by kernel_rfl) e90 (fun hb159 => ?_) (fun hb159 => ?_)
  ·have h160 := cond_t h92 hb159
   refine Sq (Rg [0] ?_)
   refine V 0 4 (mc (.bool false) (.bool false)) ?_
   refine Nt ?_
   refine CWP.ret (by kernel_rfl) ?_
   refine thenQ_ret ?_
   have hfin := some_inj h160
   subst hfin
   exact ⟨e83, (.bool false), res_of (l := [.tmp 0]) (by kernel_rfl) (vs := [(.bool false)]) ⟨rfl, trivial⟩, (.bool false), F10, rfl, hs80.clear, rfl⟩
  ·have h161 := cond_f h92 hb159
   refine Sc ?_
   refine thenQ_nrm ?_
   refine Sq (Rg [0, 1, 2, 3, 4, 5, 6, 7, 8, 9, 10, 11, 12, 13, 14, 15, 16, 17, 18, 19, 20, 21, 22, 23, 24, 25, 26, 27, 28, 29, 30, 31, 32, 33, 34] ?_)
   obtain ⟨j165, hj168, h169⟩ := bind_some h161
   refine RWP.cut (fun f w => ∃ (F11 : Mem), HS w0 F0 w F11 [] ∧ Mem.le F10 F11 ∧ f.d = [] ∧ f 0 = (.bool j165)) ?_ ?_
   ·refine V 71 30 (mv 4 (vi r25.2) e85) ?_
    refine V 72 4 (run_eql (t := 30) (t' := 30) (x := (.tmp 71)) (y := (.const (vi 0))) (k := .i64) (a := r25.2) (b := 0) rfl rfl) ?_
    refine V 73 4 (mv 72 (.bool (r25.2 == 0))) ?_
    refine RWP.split (r25.2 == 0) (fun hb170 => ?_) (fun hb170 => ?_)
    ·have h171 := cond_t hj168 hb170
     refine Vg 74 38 2 true 73 hb170 (ld 38 3 b33 0 true 2 (.agg (kSpan r25.1)) (hs80.ownAt (k := 0) rfl) e84) ?_
     refine Vg 75 38 2 true 73 hb170 (run_build2 (t := 38) (parts := #[(0, (.const (vi 0))), (1, (.const (vi 10)))]) (vs := [(0, (vi 0)), (1, (vi 10))]) (rfl) (cs := [(vi 0), (vi 10)]) (by kernel_rfl)) ?_
     refine Vg 76 4 2 true 73 hb170 (run_eqs (t := 38) (t' := 38) (x := (.tmp 74)) (y := (.tmp 75)) (xs := (kSpan r25.1)) (ys := #[(vi 0), (vi 10)]) (b := ((r25.1.Lo == 0) && ((r25.1.Hi == 10) && true))) rfl rfl (by kernel_rfl) (by kernel_rfl)) ?_
     refine V 77 4 (p1 73 (.tmp 76) (.const (.bool false)) (.bool ((r25.1.Lo == 0) && ((r25.1.Hi == 10) && true))) hb170) ?_
     refine V 78 4 (mv 77 (.bool ((r25.1.Lo == 0) && ((r25.1.Hi == 10) && true)))) ?_
     refine RWP.split ((r25.1.Lo == 0) && ((r25.1.Hi == 10) && true)) (fun hb172 => ?_) (fun hb172 => ?_)
     ·have h173 := cond_t h171 hb172
      refine Vg 79 30 7 true 78 hb172 (mv 6 (vi r55.2) e87) ?_
      refine Vg 80 4 7 true 78 hb172 (run_eql (t := 30) (t' := 30) (x := (.tmp 79)) (y := (.const (vi 0))) (k := .i64) (a := r55.2) (b := 0) rfl rfl) ?_
      refine V 81 4 (p1 78 (.tmp 80) (.const (.bool false)) (.bool (r55.2 == 0)) hb172) ?_
      refine V 82 4 (mv 81 (.bool (r55.2 == 0))) ?_
      refine RWP.split (r55.2 == 0) (fun hb174 => ?_) (fun hb174 => ?_)
      ·have h175 := cond_t h173 hb174
       refine Vg 83 64 11 true 82 hb174 (mv 5 (.slice ar55_0_0 r55.1.length nr55_0_0) e86) ?_
       refine Vg 84 3 11 true 82 hb174 (ln 83 64 ar55_0_0 r55.1.length nr55_0_0 4 1 1) ?_
       refine Vg 85 4 11 true 82 hb174 (run_eql (t := 3) (t' := 3) (x := (.tmp 84)) (y := (.const (vi 2))) (k := .i64) (a := (r55.1.length : Int)) (b := 2) rfl rfl) ?_
       refine V 86 4 (p1 82 (.tmp 85) (.const (.bool false)) (.bool ((r55.1.length : Int) == 2)) hb174) ?_
       refine V 87 4 (mv 86 (.bool ((r55.1.length : Int) == 2))) ?_
       refine RWP.split ((r55.1.length : Int) == 2) (fun hb176 => ?_) (fun hb176 => ?_)
       ·have h177 := cond_t h175 hb176
        refine Vg 88 64 16 true 87 hb176 (mv 5 (.slice ar55_0_0 r55.1.length nr55_0_0) e86) ?_
        obtain ⟨x178, hx179, h181⟩ := bind_some h177
        obtain ⟨hi180, hx179'⟩ := idx_spec hx179
        obtain ⟨b182, o183, C184, E185, fz186, rfl, hF188, hE189⟩ := SlA.open (SlA.mono hsr55_0_0 ((le69.trans le77).trans le81)) hx179'
        have hc191 := hE189 _ _ hx179'
        refine Vg 89 0 16 true 87 hb176 (run_index (t := 64) (x := (.tmp 88)) (y := (.const (vi 0))) (b := b182) (o := o183) (E := 4) (s := 1) (by_ := 1) rfl rfl (by kernel_rfl) hi180) ?_
        refine Vg 90 4 16 true 87 hb176 (lx 4 89 0 1 false 1 (.bool x178) (hs80.pers _ _ hF188) hc191) ?_
        refine Vg 91 4 16 true 87 hb176 (run_not (t := 4) (x := (.tmp 90)) (a := x178) rfl) ?_
        refine V 92 4 (p1 87 (.tmp 91) (.const (.bool false)) (.bool (!x178)) hb176) ?_
        refine V 93 4 (mv 92 (.bool (!x178))) ?_
        refine RWP.split (!x178) (fun hb192 => ?_) (fun hb192 => ?_)
        ·have h193 := cond_t h181 hb192
         refine Vg 94 64 22 true 93 hb192 (mv 5 (.slice (some ⟨b182, o183, none⟩) r55.1.length nr55_0_0) e86) ?_
         obtain ⟨x194, hx195, h197⟩ := bind_some h193
         obtain ⟨hi196, hx195'⟩ := idx_spec hx195
         have hc199 := hE189 _ _ hx195'
         refine Vg 95 0 22 true 93 hb192 (run_index (t := 64) (x := (.tmp 94)) (y := (.const (vi 1))) (b := b182) (o := o183) (E := 4) (s := 1) (by_ := 1) rfl rfl (by kernel_rfl) hi196) ?_
         refine Vg 96 4 22 true 93 hb192 (lx 4 95 0 1 false 1 (.bool x194) (hs80.pers _ _ hF188) hc199) ?_
         refine V 97 4 (p1 93 (.tmp 96) (.const (.bool false)) (.bool x194) hb192) ?_
         refine V 98 4 (mv 97 (.bool x194)) ?_
         refine RWP.split x194 (fun hb200 => ?_) (fun hb200 => ?_)
         ·have h201 := cond_t h197 hb200
          refine Vg 99 4 27 true 98 hb200 (mv 7 (.bool r71.1) e88) ?_
          refine V 100 4 (p1 98 (.tmp 99) (.const (.bool false)) (.bool r71.1) hb200) ?_
          refine V 101 4 (mv 100 (.bool r71.1)) ?_
          refine RWP.split r71.1 (fun hb202 => ?_) (fun hb202 => ?_)
          ·have h203 := cond_t h201 hb202
           refine Vg 102 30 30 true 101 hb202 (mv 8 (vi r71.2) e89) ?_
           refine Vg 103 4 30 true 101 hb202 (run_eql (t := 30) (t' := 30) (x := (.tmp 102)) (y := (.const (vi 0))) (k := .i64) (a := r71.2) (b := 0) rfl rfl) ?_
           refine V 104 4 (p1 101 (.tmp 103) (.const (.bool false)) (.bool (r71.2 == 0)) hb202) ?_
           refine V 0 4 (ma 104 (.bool (r71.2 == 0))) ?_
           obtain rfl := some_inj h203
           have hs204 : HS w0 F0 w79 F10 [] := hs80.drop 0
           exact RWP.nil ⟨rfl, F10, hs204, (Mem.le.refl _), e83, rfl⟩
          ·have h205 := cond_f h201 hb202
           refine Sk [102, 103] 30 true 101 hb202 ?_
           refine V 104 4 (p0 101 (.tmp 103) (.const (.bool false)) (.bool false) hb202) ?_
           refine V 0 4 (ma 104 (.bool false)) ?_
           obtain rfl := some_inj h205
           have hs206 : HS w0 F0 w79 F10 [] := hs80.drop 0
           exact RWP.nil ⟨rfl, F10, hs206, (Mem.le.refl _), e83, rfl⟩
         ·have h207 := cond_f h197 hb200
          refine Sk [99] 27 true 98 hb200 ?_
          refine V 100 4 (p0 98 (.tmp 99) (.const (.bool false)) (.bool false) hb200) ?_
          refine V 101 4 (mv 100 (.bool false)) ?_
          refine Sk [102, 103] 30 true 101 rfl ?_
          refine V 104 4 (p0 101 (.tmp 103) (.const (.bool false)) (.bool false) rfl) ?_
          refine V 0 4 (ma 104 (.bool false)) ?_
          obtain rfl := some_inj h207
          have hs208 : HS w0 F0 w79 F10 [] := hs80.drop 0
          exact RWP.nil ⟨rfl, F10, hs208, (Mem.le.refl _), e83, rfl⟩
        ·have h209 := cond_f h181 hb192
         refine Sk [94, 95, 96] 22 true 93 hb192 ?_
         refine V 97 4 (p0 93 (.tmp 96) (.const (.bool false)) (.bool false) hb192) ?_
         refine V 98 4 (mv 97 (.bool false)) ?_
         refine Sk [99] 27 true 98 rfl ?_
         refine V 100 4 (p0 98 (.tmp 99) (.const (.bool false)) (.bool false) rfl) ?_
         refine V 101 4 (mv 100 (.bool false)) ?_
         refine Sk [102, 103] 30 true 101 rfl ?_
         refine V 104 4 (p0 101 (.tmp 103) (.const (.bool false)) (.bool false) rfl) ?_
         refine V 0 4 (ma 104 (.bool false)) ?_
         obtain rfl := some_inj h209
         have hs210 : HS w0 F0 w79 F10 [] := hs80.drop 0
         exact RWP.nil ⟨rfl, F10, hs210, (Mem.le.refl _), e83, rfl⟩
       ·have h211 := cond_f h175 hb176
        refine Sk [88, 89, 90, 91] 16 true 87 hb176 ?_
        refine V 92 4 (p0 87 (.tmp 91) (.const (.bool false)) (.bool false) hb176) ?_
        refine V 93 4 (mv 92 (.bool false)) ?_
        refine Sk [94, 95, 96] 22 true 93 rfl ?_
        refine V 97 4 (p0 93 (.tmp 96) (.const (.bool false)) (.bool false) rfl) ?_
        refine V 98 4 (mv 97 (.bool false)) ?_
        refine Sk [99] 27 true 98 rfl ?_
        refine V 100 4 (p0 98 (.tmp 99) (.const (.bool false)) (.bool false) rfl) ?_
        refine V 101 4 (mv 100 (.bool false)) ?_
        refine Sk [102, 103] 30 true 101 rfl ?_
        refine V 104 4 (p0 101 (.tmp 103) (.const (.bool false)) (.bool false) rfl) ?_
        refine V 0 4 (ma 104 (.bool false)) ?_
        obtain rfl := some_inj h211
        have hs212 : HS w0 F0 w79 F10 [] := hs80.drop 0
        exact RWP.nil ⟨rfl, F10, hs212, (Mem.le.refl _), e83, rfl⟩
      ·have h213 := cond_f h173 hb174
       refine Sk [83, 84, 85] 11 true 82 hb174 ?_
       refine V 86 4 (p0 82 (.tmp 85) (.const (.bool false)) (.bool false) hb174) ?_
       refine V 87 4 (mv 86 (.bool false)) ?_
       refine Sk [88, 89, 90, 91] 16 true 87 rfl ?_
       refine V 92 4 (p0 87 (.tmp 91) (.const (.bool false)) (.bool false) rfl) ?_
       refine V 93 4 (mv 92 (.bool false)) ?_
       refine Sk [94, 95, 96] 22 true 93 rfl ?_
       refine V 97 4 (p0 93 (.tmp 96) (.const (.bool false)) (.bool false) rfl) ?_
       refine V 98 4 (mv 97 (.bool false)) ?_
       refine Sk [99] 27 true 98 rfl ?_
       refine V 100 4 (p0 98 (.tmp 99) (.const (.bool false)) (.bool false) rfl) ?_
       refine V 101 4 (mv 100 (.bool false)) ?_
       refine Sk [102, 103] 30 true 101 rfl ?_
       refine V 104 4 (p0 101 (.tmp 103) (.const (.bool false)) (.bool false) rfl) ?_
       refine V 0 4 (ma 104 (.bool false)) ?_
       obtain rfl := some_inj h213
       have hs214 : HS w0 F0 w79 F10 [] := hs80.drop 0
       exact RWP.nil ⟨rfl, F10, hs214, (Mem.le.refl _), e83, rfl⟩
     ·have h215 := cond_f h171 hb172
      refine Sk [79, 80] 7 true 78 hb172 ?_
      refine V 81 4 (p0 78 (.tmp 80) (.const (.bool false)) (.bool false) hb172) ?_
      refine V 82 4 (mv 81 (.bool false)) ?_
      refine Sk [83, 84, 85] 11 true 82 rfl ?_
      refine V 86 4 (p0 82 (.tmp 85) (.const (.bool false)) (.bool false) rfl) ?_
      refine V 87 4 (mv 86 (.bool false)) ?_
      refine Sk [88, 89, 90, 91] 16 true 87 rfl ?_
      refine V 92 4 (p0 87 (.tmp 91) (.const (.bool false)) (.bool false) rfl) ?_
      refine V 93 4 (mv 92 (.bool false)) ?_
      refine Sk [94, 95, 96] 22 true 93 rfl ?_
      refine V 97 4 (p0 93 (.tmp 96) (.const (.bool false)) (.bool false) rfl) ?_
      refine V 98 4 (mv 97 (.bool false)) ?_
      refine Sk [99] 27 true 98 rfl ?_
      refine V 100 4 (p0 98 (.tmp 99) (.const (.bool false)) (.bool false) rfl) ?_
      refine V 101 4 (mv 100 (.bool false)) ?_
      refine Sk [102, 103] 30 true 101 rfl ?_
      refine V 104 4 (p0 101 (.tmp 103) (.const (.bool false)) (.bool false) rfl) ?_
      refine V 0 4 (ma 104 (.bool false)) ?_
      obtain rfl := some_inj h215
      have hs216 : HS w0 F0 w79 F10 [] := hs80.drop 0
      exact RWP.nil ⟨rfl, F10, hs216, (Mem.le.refl _), e83, rfl⟩
    ·have h217 := cond_f hj168 hb170
     refine Sk [74, 75, 76] 2 true 73 hb170 ?_
     refine V 77 4 (p0 73 (.tmp 76) (.const (.bool false)) (.bool false) hb170) ?_
     refine V 78 4 (mv 77 (.bool false)) ?_
     refine Sk [79, 80] 7 true 78 rfl ?_
     refine V 81 4 (p0 78 (.tmp 80) (.const (.bool false)) (.bool false) rfl) ?_
     refine V 82 4 (mv 81 (.bool false)) ?_
     refine Sk [83, 84, 85] 11 true 82 rfl ?_
     refine V 86 4 (p0 82 (.tmp 85) (.const (.bool false)) (.bool false) rfl) ?_
     refine V 87 4 (mv 86 (.bool false)) ?_
     refine Sk [88, 89, 90, 91] 16 true 87 rfl ?_
     refine V 92 4 (p0 87 (.tmp 91) (.const (.bool false)) (.bool false) rfl) ?_
     refine V 93 4 (mv 92 (.bool false)) ?_
     refine Sk [94, 95, 96] 22 true 93 rfl ?_
     refine V 97 4 (p0 93 (.tmp 96) (.const (.bool false)) (.bool false) rfl) ?_
     refine V 98 4 (mv 97 (.bool false)) ?_
     refine Sk [99] 27 true 98 rfl ?_
     refine V 100 4 (p0 98 (.tmp 99) (.const (.bool false)) (.bool false) rfl) ?_
     refine V 101 4 (mv 100 (.bool false)) ?_
     refine Sk [102, 103] 30 true 101 rfl ?_
     refine V 104 4 (p0 101 (.tmp 103) (.const (.bool false)) (.bool false) rfl) ?_
     refine V 0 4 (ma 104 (.bool false)) ?_
     obtain rfl := some_inj h217
     have hs218 : HS w0 F0 w79 F10 [] := hs80.drop 0
     exact RWP.nil ⟨rfl, F10, hs218, (Mem.le.refl _), e83, rfl⟩
   ·rintro f w162 ⟨F11, hs163, le164, e166, e167⟩
    refine thenQ_nrm ?_
    refine CWP.ret (by kernel_rfl) ?_
    have hfin := some_inj h169
    subst hfin
    exact ⟨e166, (.bool j165), res_of (l := [.tmp 0]) (by kernel_rfl) (vs := [(.bool j165)]) ⟨e167, trivial⟩, (.bool j165), F11, rfl, hs163.clear, rfl⟩
end Go.Proofs.Ythbcnabeabcmlaa
