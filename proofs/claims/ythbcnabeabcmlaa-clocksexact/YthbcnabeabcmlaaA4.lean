/- Lemmas of the claim ClocksExact, printed by a program of the claimant and by hand. No statement of the seat is proved here. -/
import Derived.Test.YthbcnabeabcmlaaA3
set_option linter.unusedVariables false
set_option linter.unusedSimpArgs false
set_option linter.unusedSectionVars false
namespace Go.Proofs.Ythbcnabeabcmlaa
open BF
open Classical in
noncomputable def dd (s : System) (a b : Ref) : Int := if h : ∃ n, Dst s a b n then Classical.choose h else 0
theorem dd_eq {s : System} {a b : Ref} {n : Int} (h : Dst s a b n) : dd s a b = n := by
 have hex : ∃ n, Dst s a b n := ⟨n, h⟩
 unfold dd
 rw [dif_pos hex]
 exact (Classical.choose_spec hex).unique h
theorem dd_spec {s : System} (h : vCheck s = 0) (hc : Cls s) {a b : Ref} (ha : Nd s a) (hb : Nd s b) : Dst s a b (dd s a b) := by
 obtain ⟨r, _, hf⟩ := relax_ok (N := 1000000) (Nat.le_refl _) h hc a false
 obtain ⟨n, hn⟩ := walk_any h ha hb
 have hcl := hf.2
 obtain ⟨⟨k, pre, ts, rd, now, hI⟩, _⟩ := hf
 have h0 := hI.frm_zero hcl
 obtain ⟨m, hm, _⟩ := walk_closed hcl hn h0
 have hd : Dst s a b m := (hI.dist hcl).1 hm
 rw [dd_eq hd]; exact hd
theorem dd_self {s : System} (hc : Cls s) (a : Ref) : dd s a a = 0 := dd_eq ⟨.nil _, fun m hm => hc _ _ hm⟩
theorem dd_tri {s : System} (h : vCheck s = 0) (hc : Cls s) {a b c : Ref} (ha : Nd s a) (hb : Nd s b) (hcc : Nd s c) : dd s a c ≤ dd s a b + dd s b c :=
 (dd_spec h hc ha hcc).2 _ ((dd_spec h hc ha hb).1.trans (dd_spec h hc hb hcc).1)
theorem dd_bound {s : System} (h : vCheck s = 0) (hc : Cls s) {b : Bound} (hb : b ∈ bnds s) : dd s b.From b.To ≤ b.Most :=
 (dd_spec h hc (bnd_ends h hb).1 (bnd_ends h hb).2).2 _ (Walk.one hb)
theorem dd_up {s : System} (h : vCheck s = 0) (hc : Cls s) {r : Ref} (hr : Nd s r) : dd s beg r ≤ 50000 := by
 rcases hr with rfl | hr
 ·rw [dd_self hc]; omega
 ·obtain ⟨i, t, j, rfl, ht, hj⟩ := li_has hr
  have hb := (mem_bnds h).2 (.up ht hj)
  have h1 := dd_bound h hc hb
  have h2 := bnd_most h _ hb
  simp only at h1 h2
  omega
theorem dd_down {s : System} (h : vCheck s = 0) (hc : Cls s) {r : Ref} (hr : Nd s r) : dd s r beg ≤ 50000 := by
 rcases hr with rfl | hr
 ·rw [dd_self hc]; omega
 ·obtain ⟨i, t, j, rfl, ht, hj⟩ := li_has hr
  have hb := (mem_bnds h).2 (.down ht hj)
  have h1 := dd_bound h hc hb
  have h2 := bnd_most h _ hb
  simp only at h1 h2
  omega
theorem nd_beg (s : System) : Nd s beg := .inl rfl
theorem dd_in {s : System} (h : vCheck s = 0) (hc : Cls s) {a b : Ref} (ha : Nd s a) (hb : Nd s b) : -100000 ≤ dd s a b ∧ dd s a b ≤ 100000 := by
 have h1 := dd_tri h hc ha (nd_beg s) hb
 have h2 := dd_tri h hc hb (nd_beg s) ha
 have h3 := dd_tri h hc ha hb ha
 rw [dd_self hc] at h3
 have := dd_up h hc ha
 have := dd_up h hc hb
 have := dd_down h hc ha
 have := dd_down h hc hb
 omega
open Classical in
noncomputable def ask (s : System) (l : List Ref) : Int := if vCheck s ≠ 0 then vCheck s else if l.all (vHas s) = false then 3 else if Cls s then 0 else 31
theorem ask_zero {s : System} {l : List Ref} (h : ask s l = 0) : vCheck s = 0 ∧ (∀ r, r ∈ l → vHas s r = true) ∧ Cls s := by
 unfold ask at h
 split at h
 ·contradiction
 ·rename_i h0
  split at h
  ·cases h
  ·rename_i h1
   split at h
   ·rename_i h2
    refine ⟨by omega, fun r hr => ?_, h2⟩
    have : l.all (vHas s) = true := by simpa using h1
    exact List.all_eq_true.1 this r hr
   ·cases h
theorem ask_of {s : System} {l : List Ref} (h : vCheck s = 0) (hl : ∀ r, r ∈ l → vHas s r = true) (hc : Cls s) : ask s l = 0 := by
 unfold ask
 rw [if_neg (by omega), if_neg (by rw [List.all_eq_true.2 hl]; simp), if_pos hc]
section
variable {N : Nat} {s : System}
theorem asked_c (hN : 1000000 ≤ N) (hf : FitS N s) {l : List Ref} (hl : Fit N l.length) : clocks_asked N s l = some (ask s l) := by
 unfold clocks_asked ask
 rw [check_c hf]
 simp only [Option.bind_some]
 by_cases h : vCheck s = 0
 ·rw [if_neg (by omega)]
  have e : (vCheck s != 0) = false := by simp [h]
  rw [e, cond_false]
  have h1 : slices_ContainsFunc_api_Ref_api_Ref N l (fun y0 => clocks_asked_1 N y0 s) = some (l.any fun r => !vHas s r) :=
   contains_aux hl (fun r _ => by unfold clocks_asked_1; rw [has_c hf]; rfl) rfl
  rw [h1, any_not]
  simp only [Option.bind_some]
  cases l.all (vHas s) with
  | false => rfl
  | true =>
   simp only [Bool.not_true, cond_false]
   rcases loopOf_eq hN hf h with ⟨h2, h3⟩ | ⟨h2, c, h3, h4, _⟩
   ·rw [h3, if_pos h2]; rfl
   ·rw [h3, if_neg h2]
    have : c.isEmpty = false := by
     cases c with
     | nil => exact absurd rfl h4.1
     | cons _ _ => rfl
    simp [this]
 ·rw [if_pos h]
  have e : (vCheck s != 0) = true := by simpa using h
  rw [e]; rfl
def eachL {α : Type} (s : System) (f : Ref → α) : List (List α) := (List.range s.Tracks.length).map fun i => match s.Tracks[i]? with
 | none => []
 | some t => (List.range t.Times.length).map fun j => f (li i j)
def eachG1 {α : Type} (N : Nat) (x1 : Ref → Option α) (log : Int) (t : Track) : (Int × List α) → Option (Flow (List (List α)) (Int × List α)) := fun s =>
 bif decide (s.1 < (t.Times.length : Int)) then ((x1 ({ Log := log, Line := s.1 } : Ref)).bind fun r => (apnd s.2 [r]).bind fun row => some (.next (W64 (s.1 + 1), row))) else some (.done s)
def eachG0 {α : Type} (N : Nat) (x0 : System) (x1 : Ref → Option α) : List (List α) → Option (Flow (List (List α)) (List (List α))) := fun done =>
 bif decide ((done.length : Int) < (x0.Tracks.length : Int)) then ((idx x0.Tracks (done.length : Int)).bind fun t => (iter (eachG1 N x1 (done.length : Int) t) N (0, [])).bind fun o => o.k (fun r => some (.ret r)) (fun s => some (.next (done ++ [s.2])))) else some (.done done)
theorem eachG_eq {α : Type} (hN : 1000000 ≤ N) (h : vCheck s = 0) {x1 : Ref → Option α} {f : Ref → α} (hx : ∀ r, x1 r = some (f r)) : ((iter (eachG0 N s x1) N []).bind fun o => o.k (fun r => some r) (fun done => some done)) = some (eachL s f) := by
 have hn := (check_ok h).1
 obtain ⟨o, ho, rfl⟩ := iter_ex (body := eachG0 N s x1) s.Tracks.length
  (fun i q => q = (List.range i).map fun i => match s.Tracks[i]? with
   | none => []
   | some t => (List.range t.Times.length).map fun j => f (li i j)) (fun o => o = .done (eachL s f)) (by
  rintro i q hi rfl
  unfold eachG0
  simp only [List.length_map, List.length_range]
  by_cases hlt : i < s.Tracks.length
  ·left
   rw [lt_t hlt, cond_true, idx_nat hlt, Option.bind_some]
   have ht := List.getElem?_eq_getElem hlt
   have hl := (track_facts (track_at h ht)).2.2
   obtain ⟨o, ho, rfl⟩ := iter_ex (body := eachG1 N x1 (i : Int) s.Tracks[i]) s.Tracks[i].Times.length
    (fun j q => q = ((j : Int), (List.range j).map fun j => f (li i j))) (fun o => o = .done ((s.Tracks[i].Times.length : Int), (List.range s.Tracks[i].Times.length).map fun j => f (li i j))) (by
    rintro j q hj rfl
    unfold eachG1
    simp only
    by_cases hjl : j < s.Tracks[i].Times.length
    ·left
     rw [lt_t hjl, cond_true, hx, Option.bind_some, apnd_ok (by simp; omega), Option.bind_some, W64_succ (by omega)]
     exact ⟨_, rfl, by simp [List.range_succ], hjl⟩
    ·have : j = s.Tracks[i].Times.length := by omega
     subst this
     right
     rw [lt_f, cond_false]
     exact ⟨_, rfl, (fun _ h => by cases h), rfl⟩) s.Tracks[i].Times.length N 0 (0, []) (by omega) rfl (by omega)
   rw [ho]
   refine ⟨_, rfl, ?_, hlt⟩
   simp only [List.range_succ, List.map_append, List.map_cons, List.map_nil, ht]
  ·have : i = s.Tracks.length := by omega
   subst this
   right
   rw [lt_f, cond_false]
   exact ⟨_, rfl, (fun _ h => by cases h), rfl⟩) s.Tracks.length N 0 [] (by omega) rfl (by omega)
 rw [ho]; rfl
theorem mk0_ok {α : Type} (z : α) {n : Nat} (h : n < 4294967296) : ∃ l, mk0 z (n : Int) = some l := by
 unfold mk0
 rw [if_pos (by omega)]
 exact ⟨_, rfl⟩
theorem eachS_eq (hN : 1000000 ≤ N) (h : vCheck s = 0) {x1 : Ref → Option Span} {f : Ref → Span} (hx : ∀ r, x1 r = some (f r)) : clocks_each_api_Span N s x1 = some (eachL s f) := by
 have hn := (check_ok h).1
 obtain ⟨l, hl⟩ := mk0_ok (GC.raw nilv : GC Span) (n := s.Tracks.length) (by omega)
 unfold clocks_each_api_Span
 rw [hl, Option.bind_some]
 exact eachG_eq hN h hx
theorem eachL_congr {α : Type} {f g : Ref → α} (h : ∀ r, vHas s r = true → f r = g r) : eachL s f = eachL s g := by
 unfold eachL
 apply List.map_congr_left
 intro i _
 cases ht : s.Tracks[i]? with
 | none => rfl
 | some t =>
  simp only
  apply List.map_congr_left
  intro j hj
  exact h _ (has_li ht (by simpa using hj))
theorem solved_c (hN : 1000000 ≤ N) (hf : FitS N s) : (vCheck s ≠ 0 ∧ ∃ x y, clocks_solved N s = some (x, y, vCheck s)) ∨ (vCheck s = 0 ∧ ¬ Cls s ∧ ∃ x y, clocks_solved N s = some (x, y, 31)) ∨
  (vCheck s = 0 ∧ Cls s ∧ ∃ x y, clocks_solved N s = some (x, y, 0) ∧ Fin false (bnds s) beg x ∧ Fin true (bnds s) beg y) := by
 unfold clocks_solved
 rw [check_c hf]
 simp only [Option.bind_some]
 by_cases h : vCheck s = 0
 ·right
  have e : (vCheck s != 0) = false := by simp [h]
  rw [e, cond_false]
  simp only [clocks_bounds, Option.bind_some, collect_c hf h, clocks_solved_1, clocks_beginning]
  rw [show ({ Log := -1, Line := 0 } : Ref) = beg from rfl]
  rcases relax_s hN h beg false with ⟨c, h1, h2, h3⟩ | ⟨x, h1, h2⟩
  ·left
   refine ⟨h, h2.not, ?_⟩
   rw [h1]
   have : c.isEmpty = false := by
    cases c with
    | nil => exact absurd rfl h2.1
    | cons _ _ => rfl
   simp only [sk, Option.bind_some, this, Bool.not_false, cond_true]
   exact ⟨_, _, rfl⟩
  ·right
   have hc := h2.closes h
   obtain ⟨y, h3, h4⟩ := relax_ok hN h hc beg true
   refine ⟨h, hc, x, y, ?_, h2, h4⟩
   rw [h1]
   simp only [sk, Option.bind_some, h3]
 ·left
  have e : (vCheck s != 0) = true := by simpa using h
  rw [e]
  exact ⟨h, _, _, rfl⟩
theorem Fin.val (h : vCheck s = 0) (hc : Cls s) {tu : Bool} {frm : Ref} {r : Reached} (hf : Fin tu (bnds s) frm r) (hn : Nd s frm) {x : Ref} (hx : Nd s x) : mgetD r.at_ x 0 = bif tu then dd s x frm else dd s frm x := by
 have : mget r.at_ x = some (bif tu then dd s x frm else dd s frm x) := by
  rw [hf.at]
  cases tu with
  | false => exact dd_spec h hc hn hx
  | true => exact dd_spec h hc hx hn
 unfold mgetD
 rw [this]; rfl
noncomputable def spanAt (s : System) (r : Ref) : Span := { Lo := -dd s r beg, Hi := dd s beg r }
noncomputable def relAt (s : System) (a b : Ref) : Span := { Lo := -dd s b a, Hi := dd s a b }
theorem W64_neg (h : vCheck s = 0) (hc : Cls s) {a b : Ref} (ha : Nd s a) (hb : Nd s b) : W64 (0 - dd s a b) = -dd s a b := by
 have := dd_in h hc ha hb
 rw [W64_id (by omega) (by omega)]; omega
open Classical in
noncomputable def vTimes (s : System) : List (List Span) × Int := if vCheck s ≠ 0 then ([], vCheck s) else if Cls s then (eachL s (spanAt s), 0) else ([], 31)
theorem Times_each (h : vCheck s = 0) (hc : Cls s) (hN : 1000000 ≤ N) {x y : Reached} (h2 : Fin false (bnds s) beg x) (h3 : Fin true (bnds s) beg y) : clocks_each_api_Span N s (fun y0 => clocks_Times_1 N y0 y x) = some (eachL s (spanAt s)) := by
 have hx : ∀ r, (fun y0 => clocks_Times_1 N y0 y x) r = some ({ Lo := W64 (0 - mgetD y.at_ r 0), Hi := mgetD x.at_ r 0 } : Span) := fun r => by unfold clocks_Times_1; rfl
 rw [eachS_eq hN h hx]
 refine congrArg some (eachL_congr fun r hr => ?_)
 have e1 := h2.val h hc (nd_beg s) (x := r) (.inr hr)
 have e2 := h3.val h hc (nd_beg s) (x := r) (.inr hr)
 simp only [cond_false, cond_true] at e1 e2
 have e3 := W64_neg h hc (a := r) (b := beg) (.inr hr) (nd_beg s)
 unfold spanAt
 rw [e1, e2, e3]
theorem solved_aux {α : Type} {q : Option (Reached × Reached × Int)} {each : Reached → Reached → Option (List (List α))} {x y : Reached} {l : List (List α)} (hq : q = some (x, y, 0)) (he : each x y = some l) :
  (q.bind fun r4 => (bif (r4.2.2 != 0) then some (([] : List (List α)), r4.2.2) else ((each r4.1 r4.2.1).bind fun r31 => some (r31, 0)))) = some (l, 0) := by
 subst hq; simp [he]
theorem solved_aux' {α : Type} {q : Option (Reached × Reached × Int)} {each : Reached → Reached → Option (List (List α))} {x y : Reached} {e : Int} (hq : q = some (x, y, e)) (he : e ≠ 0) :
  (q.bind fun r4 => (bif (r4.2.2 != 0) then some (([] : List (List α)), r4.2.2) else ((each r4.1 r4.2.1).bind fun r31 => some (r31, 0)))) = some ([], e) := by
 subst hq
 have e1 : (e != 0) = true := by simpa using he
 simp [e1]
theorem Times_c (hN : 1000000 ≤ N) (hf : FitS N s) : clocks_Times N s = some (vTimes s) := by
 unfold clocks_Times vTimes
 rcases solved_c hN hf with ⟨h, x, y, h1⟩ | ⟨h, hc, x, y, h1⟩ | ⟨h, hc, x, y, h1, h2, h3⟩
 ·rw [if_pos h]
  exact solved_aux' (each := fun a b => clocks_each_api_Span N s (fun y0 => clocks_Times_1 N y0 b a)) h1 h
 ·rw [if_neg (by omega), if_neg hc]
  exact solved_aux' (each := fun a b => clocks_each_api_Span N s (fun y0 => clocks_Times_1 N y0 b a)) h1 (by decide)
 ·rw [if_neg (by omega), if_pos hc]
  exact solved_aux (each := fun a b => clocks_each_api_Span N s (fun y0 => clocks_Times_1 N y0 b a)) h1 (Times_each h hc hN h2 h3)
theorem eachL_at {α : Type} {f : Ref → α} {i j : Nat} {t : Track} (ht : s.Tracks[i]? = some t) (hj : j < t.Times.length) : (idx (eachL s f) (i : Int)).bind (fun x => idx x (j : Int)) = some (f (li i j)) := by
 have hi : i < s.Tracks.length := by
  rcases Nat.lt_or_ge i s.Tracks.length with h | h
  ·exact h
  ·rw [List.getElem?_eq_none h] at ht; cases ht
 rw [idx_nat']
 unfold eachL
 simp only [List.getElem?_map, List.getElem?_range hi, Option.map_some, ht, Option.bind_some]
 rw [idx_nat']
 simp only [List.getElem?_map, List.getElem?_range hj, Option.map_some]
noncomputable def vInterval (s : System) (r : Ref) : Span × Int := if ask s [r] ≠ 0 then ({ Lo := 0, Hi := 0 }, ask s [r]) else (spanAt s r, 0)
theorem Interval_c (hN : 1000000 ≤ N) (hf : FitS N s) (r : Ref) : clocks_Interval N s r = some (vInterval s r) := by
 unfold clocks_Interval vInterval
 rw [asked_c hN hf (l := [r]) ⟨by simp, by simp; omega⟩]
 simp only [Option.bind_some]
 by_cases h : ask s [r] = 0
 ·obtain ⟨h0, hr, hc⟩ := ask_zero h
  have hr := hr r (by simp)
  rw [h, if_neg (by omega)]
  simp only [bne_self_eq_false, cond_false]
  rw [Times_c hN hf]
  obtain ⟨i, t, j, rfl, ht, hj⟩ := li_has hr
  simp only [Option.bind_some]
  have e : (vTimes s).1 = eachL s (spanAt s) := by unfold vTimes; rw [if_neg (by omega), if_pos hc]
  rw [e]
  have := eachL_at (f := spanAt s) ht hj
  cases hx : idx (eachL s (spanAt s)) (i : Int) with
  | none => rw [hx] at this; cases this
  | some row =>
   rw [hx] at this
   simp only [Option.bind_some] at this ⊢
   rw [this]
   rfl
 ·have e : (ask s [r] != 0) = true := by simpa using h
  rw [e, if_pos h]; rfl
noncomputable def vRelation (s : System) (a b : Ref) : Span × Int := if ask s [a, b] ≠ 0 then ({ Lo := 0, Hi := 0 }, ask s [a, b]) else (relAt s a b, 0)
theorem Relation_c (hN : 1000000 ≤ N) (hf : FitS N s) (a b : Ref) : clocks_Relation N s a b = some (vRelation s a b) := by
 unfold clocks_Relation vRelation
 rw [asked_c hN hf (l := [a, b]) ⟨by simp, by simp; omega⟩]
 simp only [Option.bind_some]
 by_cases h : ask s [a, b] = 0
 ·obtain ⟨h0, hr, hc⟩ := ask_zero h
  have ha : Nd s a := .inr (hr a (by simp))
  have hb : Nd s b := .inr (hr b (by simp))
  rw [h, if_neg (by omega)]
  simp only [bne_self_eq_false, cond_false, clocks_bounds, Option.bind_some, collect_c hf h0]
  obtain ⟨x, h1, h2⟩ := relax_ok hN h0 hc a true
  obtain ⟨y, h3, h4⟩ := relax_ok hN h0 hc a false
  unfold clocks_relax_ok
  rw [h1, h3]
  simp only [Option.bind_some]
  have e1 := h2.val h0 hc ha hb
  have e2 := h4.val h0 hc ha hb
  simp only [cond_false, cond_true] at e1 e2
  rw [e1, e2, W64_neg h0 hc hb ha]
  rfl
 ·have e : (ask s [a, b] != 0) = true := by simpa using h
  rw [e, if_pos h]; rfl
end
end Go.Proofs.Ythbcnabeabcmlaa
namespace Go.Proofs.Ythbcnabeabcmlaa
open BF
theorem rel_val {s : System} {a b : Ref} (h : ask s [a, b] = 0) : vRelation s a b = (relAt s a b, 0) := by unfold vRelation; rw [if_neg (by omega)]
theorem int_val {s : System} {a : Ref} (h : ask s [a] = 0) : vInterval s a = (spanAt s a, 0) := by unfold vInterval; rw [if_neg (by omega)]
theorem int_code (s : System) (a : Ref) : (vInterval s a).2 = ask s [a] := by
 unfold vInterval
 by_cases h : ask s [a] = 0
 ·rw [if_neg (by omega), h]
 ·rw [if_pos h]
structure more (s m : System) : Prop where
 tr : m.Tracks = s.Tracks
 ti : ∃ l, m.Ties = s.Ties ++ l
 wi : m.Window = s.Window
section
variable {s m : System}
theorem more.has (h : more s m) (r : Ref) : vHas m r = vHas s r := by unfold vHas; rw [h.tr]
theorem more.valid (h : more s m) (hv : vCheck m = 0) : vCheck s = 0 := by
 obtain ⟨k1, k2, k3, k4, k5, k6⟩ := check_ok hv
 obtain ⟨l, hl⟩ := h.ti
 rw [h.tr] at k1 k3
 rw [h.wi] at k4 k5
 rw [hl] at k2 k6
 rw [List.length_append] at k2
 unfold vCheck
 have e1 : (decide ((s.Tracks.length : Int) > 64) || decide ((s.Ties.length : Int) > 400)) = false := by simp; omega
 have e2 : s.Tracks.all vTrack = true := List.all_eq_true.2 k3
 have e3 : inr s.Window 0 120 = true := by unfold inr; simp; omega
 have e4 : s.Ties.all (vTie s) = true := List.all_eq_true.2 fun t ht => by
  have := k6 t (List.mem_append_left _ ht)
  unfold vTie at this ⊢
  rw [h.has, h.has] at this
  exact this
 rw [e1, e2, e3, e4]; rfl
theorem more.bnds (h : more s m) (hv : vCheck m = 0) {b : Bound} (hb : b ∈ bnds s) : b ∈ Go.Proofs.Ythbcnabeabcmlaa.bnds m := by
 have hs := h.valid hv
 obtain ⟨l, hl⟩ := h.ti
 have hi := (mem_bnds hs).1 hb
 rw [mem_bnds hv]
 have htie : ∀ {j : Nat} {t : Tie}, s.Ties[j]? = some t → m.Ties[j]? = some t := fun {j t} ht => by
  rw [hl]
  have hlt : j < s.Ties.length := by
   rcases Nat.lt_or_ge j s.Ties.length with h | h
   ·exact h
   ·rw [List.getElem?_eq_none h] at ht; cases ht
  rw [List.getElem?_append_left hlt]; exact ht
 cases hi with
 | up ht hj => exact .up (by rw [h.tr]; exact ht) hj
 | down ht hj => exact .down (by rw [h.tr]; exact ht) hj
 | ord ht hj => exact .ord (by rw [h.tr]; exact ht) hj
 | fwd ht hj hn => exact .fwd (by rw [h.tr]; exact ht) hj hn
 | bwd ht hj hn => exact .bwd (by rw [h.tr]; exact ht) hj hn
 | tab ht => rw [← h.wi]; exact .tab (htie ht)
 | tba ht => rw [← h.wi]; exact .tba (htie ht)
theorem more.closes (h : more s m) (hv : vCheck m = 0) (hc : Cls m) : Cls s := fun x n hw => hc x n (hw.mono fun _ he => h.bnds hv he)
theorem more.nd (h : more s m) {r : Ref} (hr : Nd s r) : Nd m r := by
 rcases hr with rfl | hr
 ·exact .inl rfl
 ·exact .inr (by rw [h.has]; exact hr)
end
end Go.Proofs.Ythbcnabeabcmlaa
namespace Go.Proofs.Ythbcnabeabcmlaa
open Go.Proofs
end Go.Proofs.Ythbcnabeabcmlaa
namespace Go.Proofs.Ythbcnabeabcmlaa
open Go.Proofs
end Go.Proofs.Ythbcnabeabcmlaa
namespace Go.Proofs.Ythbcnabeabcmlaa
open Go.Proofs
end Go.Proofs.Ythbcnabeabcmlaa
namespace Go.Proofs.Ythbcnabeabcmlaa
open Go.Proofs
def slices_IndexFunc_int_int_L0 (N : Nat) (x0 : (List Int)) (x1 : (Int → Option Bool)) : Int → Option (Flow Int Int) := fun s4 =>
 (bif (decide (s4 < (x0.length : Int))) then ((idx x0 s4).bind fun x26 => ((x1 x26).bind fun r40 => (bif r40 then some (.ret s4) else some (.next (W64 (s4 + 1)))))) else some (.done s4))
def slices_IndexFunc_int_int (N : Nat) (x0 : (List Int)) (x1 : (Int → Option Bool)) : Option Int :=
 ((iter (slices_IndexFunc_int_int_L0 N x0 x1) N 0).bind fun o => o.k (fun r => some r) (fun s13 => some (-1)))
theorem co_slices_IndexFunc_int_int : CallOk Try.prog 139 := fun _ _ => by kernel_rfl
set_option maxHeartbeats 4000000 in
set_option maxRecDepth 100000 in
theorem c_slices_IndexFunc_int_int (N : Nat) (w0 : World) (F0 : Mem) (hF : ∀ b o, F0 b = some o → w0.heap[b]? = some o) (x0 : (List Int)) (a0_0 : Option Addr) (n0_0 : Nat) (hb0_0 : LC x0.length n0_0) (hs0_0 : SlA tInt F0 a0_0 x0) (gx1 : FuncId) (fx1 kx1 : List Value) (x1 : Int → Option Bool) (hox1 : CallOk Try.prog gx1) (hpx1 : ∀ (w' : World) (F' : Mem) (y0 : Int) (r : Bool), Mem.le F0 F' → (∀ b o, F' b = some o → w'.heap[b]? = some o) → x1 y0 = some r → Calls Try.prog gx1 (fx1 ++ (([(vi y0)] : List Value) ++ kx1)).toArray w' (FRet w' F' fun F'' v => v = (.bool r))) (r : Int) (h : slices_IndexFunc_int_int N x0 x1 = some r) :
  Calls Try.prog 139 ([(.slice a0_0 x0.length n0_0), (.func (.func gx1) fx1.toArray kx1.toArray)] : List Value).toArray w0 (FRet w0 F0 fun F' v => v = (vi r)) := by
 have hs0 := HS.start hF
 refine calls_of (n := 19) (c := bodyOf Try.f139) Try.func139 (by kernel_rfl) (by kernel_rfl) (by kernel_rfl) ?_
 refine Sq (Rg [0] ?_)
 refine V 4 3 (mc (vi 0) (vi 0)) ?_
 refine Nss ?_
 refine Sq (Rg [0, 1, 2] ?_)
 refine V 6 50 (mv 0 (.slice a0_0 x0.length n0_0)) ?_
 refine V 7 3 (ln 6 50 a0_0 x0.length n0_0 3 1 8) ?_
 refine V 8 3 (run_move (x := (.const (vi 0))) (v := (vi 0)) rfl) ?_
 refine Nt ?_
 obtain ⟨o1, ho2, h3⟩ := bind_some h
 refine CWP.cut (fun f w => ∃ (s13 : Int) (F2 : Mem), o1 = .done s13 ∧ HS w0 F0 w F2 [] ∧ Mem.le F0 F2 ∧ f.d = []) ?_ ?_
 ·refine Bk ?_
  refine CWP.loop (by kernel_rfl) (fun m f w => ∃ (s4 : Int) (F1 : Mem), iter (slices_IndexFunc_int_int_L0 N x0 x1) m s4 = some o1 ∧ HS w0 F0 w F1 [] ∧ Mem.le F0 F1 ∧ f.d = [] ∧ f 0 = (.slice a0_0 x0.length n0_0) ∧ f 1 = (.func (.func gx1) fx1.toArray kx1.toArray) ∧ f 7 = (vi (x0.length : Int)) ∧ f 8 = (vi s4)) N ⟨0, F0, ho2, hs0, (Mem.le.refl _), rfl, rfl, rfl, rfl, rfl⟩ ?_
  rintro m18 f w5 ⟨s4, F1, hit19, hs6, le7, e8, e9, e10, e11, e12⟩
  obtain ⟨m20, fl21, rfl, hb22, hnx23⟩ := iter_step hit19
  refine Sq (Rg [0] ?_)
  refine V 9 0 (run_lss (t := 3) (t' := 3) (x := (.tmp 8)) (y := (.tmp 7)) (k := .i64) (a := s4) (b := (x0.length : Int)) e12 e11) ?_
  refine Nss ?_
  refine CWP.cond (t := (decide (s4 < (x0.length : Int)))) (by kernel_rfl) rfl (fun hb24 => ?_) (fun hb24 => ?_)
  ·have h25 := cond_t hb22 hb24
   refine Sc ?_
   refine thenQ_nrm ?_
   refine Sq ?_
   refine Bk ?_
   refine Sq (Rg [0, 1] ?_)
   refine V 10 3 (mv 8 (vi s4) e12) ?_
   refine V 5 3 (ma 10 (vi s4)) ?_
   refine Nss (Rg [0, 1, 2, 3, 4, 5] ?_)
   refine V 11 159 (mv 1 (.func (.func gx1) fx1.toArray kx1.toArray) e10) ?_
   refine V 12 50 (mv 0 (.slice a0_0 x0.length n0_0) e9) ?_
   refine V 13 3 (mv 5 (vi s4)) ?_
   obtain ⟨x26, hx27, h29⟩ := bind_some h25
   obtain ⟨hi28, hx27'⟩ := idx_spec hx27
   obtain ⟨b30, o31, C32, E33, fz34, rfl, hF36, hE37⟩ := SlA.open (SlA.mono hs0_0 le7) hx27'
   have hc39 := hE37 _ _ hx27'
   refine V 14 0 (ix 50 12 13 b30 o31 3 1 8 hi28) ?_
   refine V 15 3 (lx 3 14 0 1 false 1 (vi x26) (hs6.pers _ _ hF36) hc39) ?_
   obtain ⟨r40, hr41, h42⟩ := bind_some h29
   refine RWP.call (dst := (some 16)) (ty := 4) (g := none) (by kernel_rfl) rfl (f0 := (.tmp 11)) (aos := #[(.tmp 15)]) (ats := #[3]) (fid := gx1) (first := fx1.toArray) (cap := kx1.toArray) (args := (fx1 ++ (([(vi x26)] : List Value) ++ kx1))) rfl hox1 (app_args2 (l := [(vi x26)]) (fi := fx1) (k := kx1) (rfl)) hs6 (hpx1 w5 F1 (x26) _ le7 hs6.pers hr41) ?_
   intro v43 F3 w44 hs45 le46 hp47
   obtain rfl := hp47
   refine Nt ?_
   refine CWP.cond (t := r40) (by kernel_rfl) rfl (fun hb48 => ?_) (fun hb48 => ?_)
   ·have h49 := cond_t h42 hb48
    refine Sq (Rg [0, 1] ?_)
    refine V 17 3 (mv 5 (vi s4)) ?_
    refine V 4 3 (ma 17 (vi s4)) ?_
    refine Nt ?_
    refine CWP.ret (by kernel_rfl) ?_
    refine blockQ_ret ?_
    refine thenQ_ret ?_
    refine thenQ_ret ?_
    refine blockQ_ret ?_
    have hret := iter_ret h49 hnx23
    subst hret
    refine .inr ?_
    refine thenQ_ret ?_
    have hfin := some_inj h3
    subst hfin
    exact ⟨e8, (vi s4), res_of (l := [.tmp 4]) (by kernel_rfl) (vs := [(vi s4)]) ⟨rfl, trivial⟩, (vi s4), F3, rfl, hs45.clear, rfl⟩
   ·have h50 := cond_f h42 hb48
    refine Sc ?_
    refine blockQ_nrm ?_
    refine thenQ_nrm ?_
    refine Rg [0, 1] ?_
    refine V 18 3 (run_add (t := 3) (t' := 3) (x := (.tmp 8)) (y := (.const (vi 1))) (k := .i64) (a := s4) (b := 1) e12 rfl) ?_
    refine V 8 3 (mv 18 (vi (W64 (s4 + 1)))) ?_
    refine RWP.nil ?_
    have hn51 := iter_next h50 hnx23
    exact ⟨m20, Nat.lt_succ_self _, (W64 (s4 + 1)), F3, hn51, hs45, (le7.trans le46), e8, e9, e10, e11, rfl⟩
  ·have h52 := cond_f hb22 hb24
   refine CWP.exit (by kernel_rfl) ?_
   refine thenQ_ex ?_
   refine thenQ_ex ?_
   refine blockQ_hit rfl ?_
   have ho53 := iter_done h52 hnx23
   exact .inl ⟨rfl, s4, F1, ho53, hs6, le7, e8⟩
 ·rintro f w14 ⟨s13, F2, rfl, hs15, le16, e17⟩
  have h54 := k_done h3
  refine thenQ_nrm ?_
  refine Sq (Rg [0] ?_)
  refine V 4 3 (mc (vi (-1)) (vi (-1))) ?_
  refine Nt ?_
  refine CWP.ret (by kernel_rfl) ?_
  have hfin := some_inj h54
  subst hfin
  exact ⟨e17, (vi (-1)), res_of (l := [.tmp 4]) (by kernel_rfl) (vs := [(vi (-1))]) ⟨rfl, trivial⟩, (vi (-1)), F2, rfl, hs15.clear, rfl⟩
end Go.Proofs.Ythbcnabeabcmlaa
namespace Go.Proofs.Ythbcnabeabcmlaa
open Go.Proofs
def slices_ContainsFunc_int_int (N : Nat) (x0 : (List Int)) (x1 : (Int → Option Bool)) : Option Bool :=
 ((slices_IndexFunc_int_int N x0 x1).bind fun r1 => some (decide (r1 ≥ 0)))
theorem co_slices_ContainsFunc_int_int : CallOk Try.prog 129 := fun _ _ => by kernel_rfl
set_option maxHeartbeats 4000000 in
set_option maxRecDepth 100000 in
theorem c_slices_ContainsFunc_int_int (N : Nat) (w0 : World) (F0 : Mem) (hF : ∀ b o, F0 b = some o → w0.heap[b]? = some o) (x0 : (List Int)) (a0_0 : Option Addr) (n0_0 : Nat) (hb0_0 : LC x0.length n0_0) (hs0_0 : SlA tInt F0 a0_0 x0) (gx1 : FuncId) (fx1 kx1 : List Value) (x1 : Int → Option Bool) (hox1 : CallOk Try.prog gx1) (hpx1 : ∀ (w' : World) (F' : Mem) (y0 : Int) (r : Bool), Mem.le F0 F' → (∀ b o, F' b = some o → w'.heap[b]? = some o) → x1 y0 = some r → Calls Try.prog gx1 (fx1 ++ (([(vi y0)] : List Value) ++ kx1)).toArray w' (FRet w' F' fun F'' v => v = (.bool r))) (r : Bool) (h : slices_ContainsFunc_int_int N x0 x1 = some r) :
  Calls Try.prog 129 ([(.slice a0_0 x0.length n0_0), (.func (.func gx1) fx1.toArray kx1.toArray)] : List Value).toArray w0 (FRet w0 F0 fun F' v => v = (.bool r)) := by
 have hs0 := HS.start hF
 refine calls_of (n := 9) (c := bodyOf Try.f129) Try.func129 (by kernel_rfl) (by kernel_rfl) (by kernel_rfl) ?_
 refine Sq (Rg [0] ?_)
 refine V 4 4 (mc (.bool false) (.bool false)) ?_
 refine Nss (Rg [0, 1, 2, 3, 4] ?_)
 refine V 5 50 (mv 0 (.slice a0_0 x0.length n0_0)) ?_
 refine V 6 159 (mv 1 (.func (.func gx1) fx1.toArray kx1.toArray)) ?_
 obtain ⟨r1, hr2, h3⟩ := bind_some h
 refine Cl 7 3 139 #[(.tmp 5), (.tmp 6)] #[50, 159] co_slices_IndexFunc_int_int hs0 (c_slices_IndexFunc_int_int N w0 F0 hs0.pers (x0) a0_0 n0_0 hb0_0 hs0_0 gx1 fx1 kx1 x1 hox1 (fun w1 F1 y0 r le1 pe1 hr1 => hpx1 w1 F1 y0 r (le1) pe1 hr1) _ hr2) ?_
 intro v4 F1 w5 hs6 le7 hp8
 obtain rfl := hp8
 refine V 8 4 (run_geq (t := 3) (t' := 3) (x := (.tmp 7)) (y := (.const (vi 0))) (k := .i64) (a := r1) (b := 0) rfl rfl) ?_
 refine V 4 4 (ma 8 (.bool (decide (r1 ≥ 0)))) ?_
 refine Nt ?_
 refine CWP.ret (by kernel_rfl) ?_
 have hfin := some_inj h3
 subst hfin
 exact ⟨rfl, (.bool (decide (r1 ≥ 0))), res_of (l := [.tmp 4]) (by kernel_rfl) (vs := [(.bool (decide (r1 ≥ 0)))]) ⟨rfl, trivial⟩, (.bool (decide (r1 ≥ 0))), F1, rfl, hs6.clear, rfl⟩
end Go.Proofs.Ythbcnabeabcmlaa
namespace Go.Proofs.Ythbcnabeabcmlaa
open Go.Proofs
def clocks_minutes_formed_1 (N : Nat) (x0 : Int) : Option Bool :=
 ((clocks_within N x0 (-1000000) 1000000).bind fun r1 => some (!r1))
theorem co_clocks_minutes_formed_1 : CallOk Try.prog 130 := fun _ _ => by kernel_rfl
set_option maxHeartbeats 4000000 in
set_option maxRecDepth 100000 in
theorem c_clocks_minutes_formed_1 (N : Nat) (w0 : World) (F0 : Mem) (hF : ∀ b o, F0 b = some o → w0.heap[b]? = some o) (x0 : Int) (r : Bool) (h : clocks_minutes_formed_1 N x0 = some r) :
  Calls Try.prog 130 ([(vi x0)] : List Value).toArray w0 (FRet w0 F0 fun F' v => v = (.bool r)) := by
 have hs0 := HS.start hF
 refine calls_of (n := 6) (c := bodyOf Try.f130) Try.func130 (by kernel_rfl) (by kernel_rfl) (by kernel_rfl) ?_
 refine Sq (Rg [0] ?_)
 refine V 2 4 (mc (.bool false) (.bool false)) ?_
 refine Nss (Rg [0, 1, 2, 3] ?_)
 refine V 3 3 (mv 0 (vi x0)) ?_
 obtain ⟨r1, hr2, h3⟩ := bind_some h
 refine Cl 4 4 67 #[(.tmp 3), (.const (vi (-1000000))), (.const (vi 1000000))] #[3, 3, 3] co_clocks_within hs0 (c_clocks_within N w0 F0 hs0.pers (x0) ((-1000000)) (1000000) _ hr2) ?_
 intro v4 F1 w5 hs6 le7 hp8
 obtain rfl := hp8
 refine V 5 4 (run_not (t := 4) (x := (.tmp 4)) (a := r1) rfl) ?_
 refine V 2 4 (ma 5 (.bool (!r1))) ?_
 refine Nt ?_
 refine CWP.ret (by kernel_rfl) ?_
 have hfin := some_inj h3
 subst hfin
 exact ⟨rfl, (.bool (!r1)), res_of (l := [.tmp 2]) (by kernel_rfl) (vs := [(.bool (!r1))]) ⟨rfl, trivial⟩, (.bool (!r1)), F1, rfl, hs6.clear, rfl⟩
end Go.Proofs.Ythbcnabeabcmlaa
namespace Go.Proofs.Ythbcnabeabcmlaa
open Go.Proofs
def clocks_minutes_formed_L0 (N : Nat) (x0 : (List (List Int))) (x1 : System) : Int → Option (Flow Bool Int) := fun s11 =>
 (bif (decide (s11 < (x1.Tracks.length : Int))) then ((idx x1.Tracks s11).bind fun x33 => (((idx x0 s11).bind fun x66 => (bif ((x66.length : Int) != (x33.Times.length : Int)) then some true else ((idx x0 s11).bind fun x84 => ((slices_ContainsFunc_int_int N x84 (fun y0 => clocks_minutes_formed_1 N y0)).bind fun r90 => some r90)))).bind fun j57 => (bif j57 then some (.ret false) else some (.next (W64 (s11 + 1)))))) else some (.done s11))
def clocks_minutes_formed (N : Nat) (x0 : (List (List Int))) (x1 : System) : Option Bool :=
 (bif ((x0.length : Int) != (x1.Tracks.length : Int)) then some false else ((iter (clocks_minutes_formed_L0 N x0 x1) N 0).bind fun o => o.k (fun r => some r) (fun s20 => some true)))
theorem co_clocks_minutes_formed : CallOk Try.prog 100 := fun _ _ => by kernel_rfl
set_option maxHeartbeats 4000000 in
set_option maxRecDepth 100000 in
theorem c_clocks_minutes_formed (N : Nat) (w0 : World) (F0 : Mem) (hF : ∀ b o, F0 b = some o → w0.heap[b]? = some o) (x0 : (List (List Int))) (a0_0 : Option Addr) (n0_0 : Nat) (hb0_0 : LC x0.length n0_0) (hs0_0 : SlA (tSl tInt) F0 a0_0 x0) (x1 : System) (a1_0 : Option Addr) (n1_0 : Nat) (hb1_0 : LC x1.Tracks.length n1_0) (hs1_0 : SlA tTrack F0 a1_0 x1.Tracks) (a1_1 : Option Addr) (n1_1 : Nat) (hb1_1 : LC x1.Ties.length n1_1) (hs1_1 : SlA tTie F0 a1_1 x1.Ties) (r : Bool) (h : clocks_minutes_formed N x0 x1 = some r) :
  Calls Try.prog 100 ([(.slice a0_0 x0.length n0_0), (.agg (kSystem x1 a1_0 n1_0 a1_1 n1_1))] : List Value).toArray w0 (FRet w0 F0 fun F' v => v = (.bool r)) := by
 have hs0 := HS.start hF
 refine calls_of (n := 38) (c := bodyOf Try.f100) Try.func100 (by kernel_rfl) (by kernel_rfl) (by kernel_rfl) ?_
 refine Sq (Rg [0, 1] ?_)
 refine Bx 3 0 1 25 (kSystem x1 a1_0 n1_0 a1_1 n1_1) hs0 (fun b1 w2 (hs3 : HS w0 F0 w2 F0 [(sb b1 (kSystem x1 a1_0 n1_0 a1_1 n1_1) 25)]) => ?_)
 refine V 4 4 (mc (.bool false) (.bool false)) ?_
 refine Nss ?_
 refine Sq (Rg [0, 1, 2, 3, 4, 5] ?_)
 refine V 7 133 (mv 0 (.slice a0_0 x0.length n0_0)) ?_
 refine V 8 3 (ln 7 133 a0_0 x0.length n0_0 50 1 24) ?_
 refine V 9 0 (fa 25 3 0 0 1 b1 0 0) ?_
 refine V 10 22 (ld 22 9 b1 0 false 1 (.slice a1_0 x1.Tracks.length n1_0) (hs3.ownAt (k := 0) rfl)) ?_
 refine V 11 3 (ln 10 22 a1_0 x1.Tracks.length n1_0 54 4 64) ?_
 refine V 12 4 (run_neq (t := 3) (t' := 3) (x := (.tmp 8)) (y := (.tmp 11)) (k := .i64) (a := (x0.length : Int)) (b := (x1.Tracks.length : Int)) rfl rfl) ?_
 refine Nt ?_
 refine CWP.cond (t := ((x0.length : Int) != (x1.Tracks.length : Int))) (by kernel_rfl) rfl (fun hb4 => ?_) (fun hb4 => ?_)
 ·have h5 := cond_t h hb4
  refine Sq (Rg [0] ?_)
  refine V 4 4 (mc (.bool false) (.bool false)) ?_
  refine Nt ?_
  refine CWP.ret (by kernel_rfl) ?_
  refine thenQ_ret ?_
  have hfin := some_inj h5
  subst hfin
  exact ⟨rfl, (.bool false), res_of (l := [.tmp 4]) (by kernel_rfl) (vs := [(.bool false)]) ⟨rfl, trivial⟩, (.bool false), F0, rfl, hs3.clear, rfl⟩
 ·have h6 := cond_f h hb4
  refine Sc ?_
  refine thenQ_nrm ?_
  refine Sq ?_
  refine Sq (Rg [0, 1, 2, 3] ?_)
  refine V 13 0 (fa 25 3 0 0 1 b1 0 0) ?_
  refine V 14 22 (ld 22 13 b1 0 false 1 (.slice a1_0 x1.Tracks.length n1_0) (hs3.ownAt (k := 0) rfl)) ?_
  refine V 15 3 (ln 14 22 a1_0 x1.Tracks.length n1_0 54 4 64) ?_
  refine V 16 3 (run_move (x := (.const (vi 0))) (v := (vi 0)) rfl) ?_
  refine Nt ?_
  have hs7 : HS w0 F0 w2 F0 [] := hs3.drop 0
  obtain ⟨o8, ho9, h10⟩ := bind_some h6
  refine CWP.cut (fun f w => ∃ (s20 : Int) (F2 : Mem), o8 = .done s20 ∧ HS w0 F0 w F2 [] ∧ Mem.le F0 F2 ∧ f.d = []) ?_ ?_
  ·refine Bk ?_
   refine CWP.loop (by kernel_rfl) (fun m f w => ∃ (s11 : Int) (F1 : Mem), iter (clocks_minutes_formed_L0 N x0 x1) m s11 = some o8 ∧ HS w0 F0 w F1 [] ∧ Mem.le F0 F1 ∧ f.d = [] ∧ f 0 = (.slice a0_0 x0.length n0_0) ∧ f 14 = (.slice a1_0 x1.Tracks.length n1_0) ∧ f 15 = (vi (x1.Tracks.length : Int)) ∧ f 16 = (vi s11)) N ⟨0, F0, ho9, hs7, (Mem.le.refl _), rfl, rfl, rfl, rfl, rfl⟩ ?_
   rintro m25 f w12 ⟨s11, F1, hit26, hs13, le14, e15, e16, e17, e18, e19⟩
   obtain ⟨m27, fl28, rfl, hb29, hnx30⟩ := iter_step hit26
   refine Sq (Rg [0] ?_)
   refine V 17 0 (run_lss (t := 3) (t' := 3) (x := (.tmp 16)) (y := (.tmp 15)) (k := .i64) (a := s11) (b := (x1.Tracks.length : Int)) e19 e18) ?_
   refine Nss ?_
   refine CWP.cond (t := (decide (s11 < (x1.Tracks.length : Int)))) (by kernel_rfl) rfl (fun hb31 => ?_) (fun hb31 => ?_)
   ·have h32 := cond_t hb29 hb31
    refine Sc ?_
    refine thenQ_nrm ?_
    refine Sq ?_
    refine Bk ?_
    refine Sq (Rg [0, 1, 2, 3, 4, 5] ?_)
    refine V 18 3 (mv 16 (vi s11) e19) ?_
    obtain ⟨x33, hx34, h36⟩ := bind_some h32
    obtain ⟨hi35, hx34'⟩ := idx_spec hx34
    obtain ⟨b37, o38, C39, E40, fz41, rfl, hF43, hE44⟩ := SlA.open (SlA.mono hs1_0 le14) hx34'
    obtain ⟨ae45_2, ne45_2, ae45_3, ne45_3, hc46, hbe45_2, hse45_2, hbe45_3, hse45_3⟩ := hE44 _ _ hx34'
    refine V 19 0 (run_index (t := 22) (x := (.tmp 14)) (y := (.tmp 16)) (b := b37) (o := o38) (E := 54) (s := 4) (by_ := 64) e17 e19 (by kernel_rfl) hi35) ?_
    refine V 20 54 (lx 54 19 0 4 true 4 (.agg (kTrack x33 ae45_2 ne45_2 ae45_3 ne45_3)) (hs13.pers _ _ hF43) hc46) ?_
    refine Al 6 0 54 #[(vi 0), (vi 0), (.slice none ([] : List Int).length 0), (.slice none ([] : List Int).length 0)] hs13 (fun b47 w48 (hs49 : HS w0 F0 w48 F1 [(sb b47 #[(vi 0), (vi 0), (.slice none ([] : List Int).length 0), (.slice none ([] : List Int).length 0)] 54)]) => ?_)
    refine V 5 3 (ma 18 (vi s11)) ?_
    refine RWP.store (ty := 0) (g := none) (by kernel_rfl) rfl (x := (.tmp 6)) (y := (.tmp 20)) (t := 54) (gg := true) (s := 4) (v := (.agg (kTrack x33 ae45_2 ne45_2 ae45_3 ne45_3))) (b := b47) (o := 0) (C := #[(vi 0), (vi 0), (.slice none ([] : List Int).length 0), (.slice none ([] : List Int).length 0)]) rfl rfl (by kernel_rfl) hs49 (k := 0) rfl rfl rfl rfl (C' := (kTrack x33 ae45_2 ne45_2 ae45_3 ne45_3)) rfl (fun w50 (hs51 : HS w0 F0 w50 F1 [(sb b47 (kTrack x33 ae45_2 ne45_2 ae45_3 ne45_3) 54)]) => ?_)
    refine Nss ?_
    obtain ⟨j57, hj64, h65⟩ := bind_some h36
    refine CWP.regionD (by kernel_rfl) (by kernel_rfl) (by kernel_rfl) (by kernel_rfl) (z := 16) (F := F1) (Lc := [(sb b47 (kTrack x33 ae45_2 ne45_2 ae45_3 ne45_3) 54)]) (Lz := []) (l := [false, false, false, false, false, false, false, false, false, false, false, false, false, false, false, false]) (fuel := 16) (by kernel_rfl) (by kernel_rfl) hs51 (by simp) (by simp) (fun f w => ∃ (F3 : Mem), HS w0 F0 w F3 [] ∧ Mem.le F1 F3 ∧ f.d = [] ∧ f 0 = (.slice a0_0 x0.length n0_0) ∧ f 14 = (.slice (some ⟨b37, o38, none⟩) x1.Tracks.length n1_0) ∧ f 15 = (vi (x1.Tracks.length : Int)) ∧ f 16 = (vi s11) ∧ f 36 = (.bool j57)) (fun wd52 hw53 => ?_) ?_
    ·refine Dt 0 21 133 _ (fun _ hq => mv 0 (.slice a0_0 x0.length n0_0) e16) ?_
     refine Dt 1 22 3 _ (fun _ hq => mv 5 (vi s11)) ?_
     obtain ⟨x66, hx67, h69⟩ := bind_some hj64
     obtain ⟨hi68, hx67'⟩ := idx_spec hx67
     obtain ⟨b70, o71, C72, E73, fz74, rfl, hF76, hE77⟩ := SlA.open (SlA.mono hs0_0 le14) hx67'
     obtain ⟨ae78_0, ne78_0, hc79, hbe78_0, hse78_0⟩ := hE77 _ _ hx67'
     refine Dt 2 23 0 (.pointer (some ⟨b70, (o71 + (s11 : Int).toNat * 1), none⟩)) (fun _ hq => ix 133 21 22 b70 o71 50 1 24 hi68) ?_
     refine Dt 3 24 50 _ (fun _ hq => lx 50 23 0 1 false 1 (.slice ae78_0 x66.length ne78_0) (hq.1.1 _ _ hF76) hc79) ?_
     refine Dt 4 25 3 (vi (x66.length : Int)) (fun _ hq => ln 24 50 ae78_0 x66.length ne78_0 3 1 8) ?_
     refine Dt 5 26 0 (.pointer (some ⟨b47, 3, none⟩)) (fun _ hq => fa 54 6 1 3 1 b47 0 3) ?_
     refine Dt 6 27 50 _ (fun _ hq => ld 50 26 b47 3 false 1 (.slice ae45_3 x33.Times.length ne45_3) (hq.1.2 0 _ _ rfl)) ?_
     refine Dt 7 28 3 (vi (x33.Times.length : Int)) (fun _ hq => ln 27 50 ae45_3 x33.Times.length ne45_3 3 1 8) ?_
     refine Dt 8 29 4 (.bool ((x66.length : Int) != (x33.Times.length : Int))) (fun _ hq => run_neq (t := 3) (t' := 3) (x := (.tmp 25)) (y := (.tmp 28)) (k := .i64) (a := (x66.length : Int)) (b := (x33.Times.length : Int)) rfl rfl) ?_
     refine Dt 9 30 4 _ (fun _ hq => mv 29 (.bool ((x66.length : Int) != (x33.Times.length : Int)))) ?_
     refine DWP.split ((x66.length : Int) != (x33.Times.length : Int)) (fun hb80 => ?_) (fun hb80 => ?_)
     ·have h81 := cond_t h69 hb80
      refine Dk [(10, 31), (11, 32), (12, 33), (13, 34), (14, 35)] 9 false 30 hb80 ?_
      refine Dt 15 36 4 _ (fun _ hq => p1 30 (.const (.bool true)) (.tmp 35) (.bool true) hb80) ?_
      obtain rfl := some_inj h81
      have hs82 : HS w0 F0 wd52 F1 [] := hw53.drop 0
      exact DWP.done (by kernel_rfl) ⟨F1, hs82, (Mem.le.refl _), e15, e16, e17, e18, e19, rfl⟩
     ·have h83 := cond_f h69 hb80
      refine Dg 10 31 133 _ 9 false 30 hb80 (fun _ hq => mv 0 (.slice (some ⟨b70, o71, none⟩) x0.length n0_0) e16) ?_
      refine Dg 11 32 3 _ 9 false 30 hb80 (fun _ hq => mv 5 (vi s11)) ?_
      obtain ⟨x84, hx85, h87⟩ := bind_some h83
      obtain ⟨hi86, hx85'⟩ := idx_spec hx85
      obtain ⟨ae88_0, ne88_0, hc89, hbe88_0, hse88_0⟩ := hE77 _ _ hx85'
      refine Dg 12 33 0 (.pointer (some ⟨b70, (o71 + (s11 : Int).toNat * 1), none⟩)) 9 false 30 hb80 (fun _ hq => ix 133 31 32 b70 o71 50 1 24 hi86) ?_
      refine Dg 13 34 50 _ 9 false 30 hb80 (fun _ hq => lx 50 33 0 1 false 1 (.slice ae88_0 x84.length ne88_0) (hq.1.1 _ _ hF76) hc89) ?_
      refine DWP.one (i := 14) (by kernel_rfl) ?_
      obtain ⟨r90, hr91, h92⟩ := bind_some h87
      refine DStep.call (l' := [true, true, true, true, true, true, true, true, true, true, true, true, true, true, true, false]) (zd := true) (by kernel_rfl) (by kernel_rfl) (by kernel_rfl) (dst := (some 35)) (ty := 4) (g := (some (9, false))) (by kernel_rfl) (gd_y (d := 30) (by kernel_rfl) rfl hb80) (f0 := (.func 129)) (aos := #[(.tmp 34), (.func 130)]) (ats := #[50, 159]) (fid := 129) (first := #[]) (cap := #[]) (args := [(.slice ae88_0 x84.length ne88_0), (.func (.func 130) #[] #[])]) rfl co_slices_ContainsFunc_int_int (rfl) hw53 (c_slices_ContainsFunc_int_int N wd52 F1 hw53.pers (x84) ae88_0 ne88_0 hbe88_0 hse88_0 130 [] [] (fun y0 => clocks_minutes_formed_1 N y0) co_clocks_minutes_formed_1 (fun w1 F1 y0 r le1 pe1 hr1 => c_clocks_minutes_formed_1 N w1 F1 pe1  y0  r hr1) _ hr91) ?_
      intro v93 F4 w94 hs95 le96 hp97
      obtain rfl := hp97
      refine Dt 15 36 4 _ (fun _ hq => p0 30 (.const (.bool true)) (.tmp 35) (.bool r90) hb80) ?_
      obtain rfl := some_inj h92
      have hs98 : HS w0 F0 w94 F4 [] := hs95.drop 0
      exact DWP.done (by kernel_rfl) ⟨F4, hs98, le96, e15, e16, e17, e18, e19, rfl⟩
    ·rintro f w54 ⟨F3, hs55, le56, e58, e59, e60, e61, e62, e63⟩
     refine thenQ_nrm ?_
     refine CWP.cond (t := j57) (by kernel_rfl) e63 (fun hb99 => ?_) (fun hb99 => ?_)
     ·have h100 := cond_t h65 hb99
      refine Sq (Rg [0] ?_)
      refine V 4 4 (mc (.bool false) (.bool false)) ?_
      refine Nt ?_
      refine CWP.ret (by kernel_rfl) ?_
      refine blockQ_ret ?_
      refine thenQ_ret ?_
      refine thenQ_ret ?_
      refine blockQ_ret ?_
      have hret := iter_ret h100 hnx30
      subst hret
      refine .inr ?_
      refine thenQ_ret ?_
      have hfin := some_inj h10
      subst hfin
      exact ⟨e58, (.bool false), res_of (l := [.tmp 4]) (by kernel_rfl) (vs := [(.bool false)]) ⟨rfl, trivial⟩, (.bool false), F3, rfl, hs55.clear, rfl⟩
     ·have h101 := cond_f h65 hb99
      refine Sc ?_
      refine blockQ_nrm ?_
      refine thenQ_nrm ?_
      refine Rg [0, 1] ?_
      refine V 37 3 (run_add (t := 3) (t' := 3) (x := (.tmp 16)) (y := (.const (vi 1))) (k := .i64) (a := s11) (b := 1) e62 rfl) ?_
      refine V 16 3 (mv 37 (vi (W64 (s11 + 1)))) ?_
      refine RWP.nil ?_
      have hn102 := iter_next h101 hnx30
      exact ⟨m27, Nat.lt_succ_self _, (W64 (s11 + 1)), F3, hn102, hs55, (le14.trans le56), e58, e59, e60, e61, rfl⟩
   ·have h103 := cond_f hb29 hb31
    refine CWP.exit (by kernel_rfl) ?_
    refine thenQ_ex ?_
    refine thenQ_ex ?_
    refine blockQ_hit rfl ?_
    have ho104 := iter_done h103 hnx30
    exact .inl ⟨rfl, s11, F1, ho104, hs13, le14, e15⟩
  ·rintro f w21 ⟨s20, F2, rfl, hs22, le23, e24⟩
   have h105 := k_done h10
   refine thenQ_nrm ?_
   refine Sq (Rg [0] ?_)
   refine V 4 4 (mc (.bool true) (.bool true)) ?_
   refine Nt ?_
   refine CWP.ret (by kernel_rfl) ?_
   have hfin := some_inj h105
   subst hfin
   exact ⟨e24, (.bool true), res_of (l := [.tmp 4]) (by kernel_rfl) (vs := [(.bool true)]) ⟨rfl, trivial⟩, (.bool true), F2, rfl, hs22.clear, rfl⟩
end Go.Proofs.Ythbcnabeabcmlaa
namespace Go.Proofs.Ythbcnabeabcmlaa
open Go.Proofs
def clocks_minutes_at (N : Nat) (x0 : (List (List Int))) (x1 : Ref) : Option Int :=
 (((clocks_beginning N ).bind fun r16 => some ((x1.Log == r16.Log) && ((x1.Line == r16.Line) && true))).bind fun j9 => (bif j9 then some 0 else (((idx x0 x1.Log).bind fun x37 => ((idx x37 x1.Line).bind fun x51 => some x51)).bind fun j32 => some j32)))
theorem co_clocks_minutes_at : CallOk Try.prog 131 := fun _ _ => by kernel_rfl
set_option maxHeartbeats 4000000 in
set_option maxRecDepth 100000 in
theorem c_clocks_minutes_at (N : Nat) (w0 : World) (F0 : Mem) (hF : ∀ b o, F0 b = some o → w0.heap[b]? = some o) (x0 : (List (List Int))) (a0_0 : Option Addr) (n0_0 : Nat) (hb0_0 : LC x0.length n0_0) (hs0_0 : SlA (tSl tInt) F0 a0_0 x0) (x1 : Ref) (r : Int) (h : clocks_minutes_at N x0 x1 = some r) :
  Calls Try.prog 131 ([(.slice a0_0 x0.length n0_0), (.agg (kRef x1))] : List Value).toArray w0 (FRet w0 F0 fun F' v => v = (vi r)) := by
 have hs0 := HS.start hF
 refine calls_of (n := 17) (c := bodyOf Try.f131) Try.func131 (by kernel_rfl) (by kernel_rfl) (by kernel_rfl) ?_
 refine Sq (Rg [0, 1] ?_)
 refine Bx 3 0 1 27 (kRef x1) hs0 (fun b1 w2 (hs3 : HS w0 F0 w2 F0 [(sb b1 (kRef x1) 27)]) => ?_)
 refine V 4 3 (mc (vi 0) (vi 0)) ?_
 refine Nss ?_
 refine Sq ?_
 obtain ⟨j9, hj14, h15⟩ := bind_some h
 refine CWP.regionD (by kernel_rfl) (by kernel_rfl) (by kernel_rfl) (by kernel_rfl) (z := 3) (F := F0) (Lc := [(sb b1 (kRef x1) 27)]) (Lz := []) (l := [false, false, false]) (fuel := 3) (by kernel_rfl) (by kernel_rfl) hs3 (by simp) (by simp) (fun f w => ∃ (F1 : Mem), HS w0 F0 w F1 [(sb b1 (kRef x1) 27)] ∧ Mem.le F0 F1 ∧ f.d = [] ∧ f 0 = (.slice a0_0 x0.length n0_0) ∧ f 3 = (.pointer (some ⟨b1, 0, none⟩)) ∧ f 7 = (.bool j9)) (fun wd4 hw5 => ?_) ?_
 ·refine Dt 0 5 27 _ (fun _ hq => ld 27 3 b1 0 true 2 (.agg (kRef x1)) (hq.1.2 0 _ _ rfl)) ?_
  refine DWP.one (i := 1) (by kernel_rfl) ?_
  obtain ⟨r16, hr17, h18⟩ := bind_some hj14
  refine DStep.call (l' := [true, true, false]) (zd := true) (by kernel_rfl) (by kernel_rfl) (by kernel_rfl) (dst := (some 6)) (ty := 27) (g := none) (by kernel_rfl) rfl (f0 := (.func 108)) (aos := #[]) (ats := #[]) (fid := 108) (first := #[]) (cap := #[]) (args := []) rfl co_clocks_beginning (rfl) hw5 (c_clocks_beginning N wd4 F0 hw5.pers  _ hr17) ?_
  intro v19 F2 w20 hs21 le22 hp23
  obtain rfl := hp23
  refine Dt 2 7 4 (.bool ((x1.Log == r16.Log) && ((x1.Line == r16.Line) && true))) (fun _ hq => run_eqs (t := 27) (t' := 27) (x := (.tmp 5)) (y := (.tmp 6)) (xs := (kRef x1)) (ys := (kRef r16)) (b := ((x1.Log == r16.Log) && ((x1.Line == r16.Line) && true))) rfl rfl (by kernel_rfl) (by kernel_rfl)) ?_
  obtain rfl := some_inj h18
  exact DWP.done (by kernel_rfl) ⟨F2, hs21, le22, rfl, rfl, rfl, rfl⟩
 ·rintro f w6 ⟨F1, hs7, le8, e10, e11, e12, e13⟩
  refine thenQ_nrm ?_
  refine CWP.cond (t := j9) (by kernel_rfl) e13 (fun hb24 => ?_) (fun hb24 => ?_)
  ·have h25 := cond_t h15 hb24
   refine Sq (Rg [0] ?_)
   refine V 4 3 (mc (vi 0) (vi 0)) ?_
   refine Nt ?_
   refine CWP.ret (by kernel_rfl) ?_
   refine thenQ_ret ?_
   have hfin := some_inj h25
   subst hfin
   exact ⟨e10, (vi 0), res_of (l := [.tmp 4]) (by kernel_rfl) (vs := [(vi 0)]) ⟨rfl, trivial⟩, (vi 0), F1, rfl, hs7.clear, rfl⟩
  ·have h26 := cond_f h15 hb24
   refine Sc ?_
   refine thenQ_nrm ?_
   refine Sq ?_
   obtain ⟨j32, hj35, h36⟩ := bind_some h26
   refine CWP.regionD (by kernel_rfl) (by kernel_rfl) (by kernel_rfl) (by kernel_rfl) (z := 10) (F := F1) (Lc := [(sb b1 (kRef x1) 27)]) (Lz := []) (l := [false, false, false, false, false, false, false, false, false, false]) (fuel := 10) (by kernel_rfl) (by kernel_rfl) hs7 (by simp) (by simp) (fun f w => ∃ (F3 : Mem), HS w0 F0 w F3 [] ∧ Mem.le F1 F3 ∧ f.d = [] ∧ f 4 = (vi j32)) (fun wd27 hw28 => ?_) ?_
   ·refine Dt 0 8 133 _ (fun _ hq => mv 0 (.slice a0_0 x0.length n0_0) e11) ?_
    refine Dt 1 9 0 (.pointer (some ⟨b1, 0, none⟩)) (fun _ hq => fa 27 3 0 0 1 b1 0 0 e12) ?_
    refine Dt 2 10 3 _ (fun _ hq => ld 3 9 b1 0 false 1 (vi x1.Log) (hq.1.2 0 _ _ rfl)) ?_
    obtain ⟨x37, hx38, h40⟩ := bind_some hj35
    obtain ⟨hi39, hx38'⟩ := idx_spec hx38
    obtain ⟨b41, o42, C43, E44, fz45, rfl, hF47, hE48⟩ := SlA.open (SlA.mono hs0_0 le8) hx38'
    obtain ⟨ae49_0, ne49_0, hc50, hbe49_0, hse49_0⟩ := hE48 _ _ hx38'
    refine Dt 3 11 0 (.pointer (some ⟨b41, (o42 + (x1.Log : Int).toNat * 1), none⟩)) (fun _ hq => ix 133 8 10 b41 o42 50 1 24 hi39) ?_
    refine Dt 4 12 50 _ (fun _ hq => lx 50 11 0 1 false 1 (.slice ae49_0 x37.length ne49_0) (hq.1.1 _ _ hF47) hc50) ?_
    refine Dt 5 13 0 (.pointer (some ⟨b1, 1, none⟩)) (fun _ hq => fa 27 3 1 1 1 b1 0 1 e12) ?_
    refine Dt 6 14 3 _ (fun _ hq => ld 3 13 b1 1 false 1 (vi x1.Line) (hq.1.2 0 _ _ rfl)) ?_
    obtain ⟨x51, hx52, h54⟩ := bind_some h40
    obtain ⟨hi53, hx52'⟩ := idx_spec hx52
    obtain ⟨b55, o56, C57, E58, fz59, rfl, hF61, hE62⟩ := SlA.open hse49_0 hx52'
    have hc64 := hE62 _ _ hx52'
    refine Dt 7 15 0 (.pointer (some ⟨b55, (o56 + (x1.Line : Int).toNat * 1), none⟩)) (fun _ hq => ix 50 12 14 b55 o56 3 1 8 hi53) ?_
    refine Dt 8 16 3 _ (fun _ hq => lx 3 15 0 1 false 1 (vi x51) (hq.1.1 _ _ hF61) hc64) ?_
    refine Dt 9 4 3 _ (fun _ hq => ma 16 (vi x51)) ?_
    obtain rfl := some_inj h54
    have hs65 : HS w0 F0 wd27 F1 [] := hw28.drop 0
    exact DWP.done (by kernel_rfl) ⟨F1, hs65, (Mem.le.refl _), e10, rfl⟩
   ·rintro f w29 ⟨F3, hs30, le31, e33, e34⟩
    refine thenQ_nrm ?_
    refine CWP.ret (by kernel_rfl) ?_
    have hfin := some_inj h36
    subst hfin
    exact ⟨e33, (vi j32), res_of (l := [.tmp 4]) (by kernel_rfl) (vs := [(vi j32)]) ⟨e34, trivial⟩, (vi j32), F3, rfl, hs30.clear, rfl⟩
end Go.Proofs.Ythbcnabeabcmlaa
namespace Go.Proofs.Ythbcnabeabcmlaa
open Go.Proofs
def clocks_minutes_breaks (N : Nat) (x0 : (List (List Int))) (x1 : Bound) : Option Bool :=
 (((clocks_minutes_at N x0 x1.To).bind fun r14 => ((clocks_minutes_at N x0 x1.From).bind fun r22 => some (decide (r14 > (W64 (r22 + x1.Most)))))).bind fun j9 => some j9)
theorem co_clocks_minutes_breaks : CallOk Try.prog 101 := fun _ _ => by kernel_rfl
set_option maxHeartbeats 4000000 in
set_option maxRecDepth 100000 in
theorem c_clocks_minutes_breaks (N : Nat) (w0 : World) (F0 : Mem) (hF : ∀ b o, F0 b = some o → w0.heap[b]? = some o) (x0 : (List (List Int))) (a0_0 : Option Addr) (n0_0 : Nat) (hb0_0 : LC x0.length n0_0) (hs0_0 : SlA (tSl tInt) F0 a0_0 x0) (x1 : Bound) (r : Bool) (h : clocks_minutes_breaks N x0 x1 = some r) :
  Calls Try.prog 101 ([(.slice a0_0 x0.length n0_0), (.agg (kBound x1))] : List Value).toArray w0 (FRet w0 F0 fun F' v => v = (.bool r)) := by
 have hs0 := HS.start hF
 refine calls_of (n := 17) (c := bodyOf Try.f101) Try.func101 (by kernel_rfl) (by kernel_rfl) (by kernel_rfl) ?_
 refine Sq (Rg [0, 1] ?_)
 refine Bx 3 0 1 103 (kBound x1) hs0 (fun b1 w2 (hs3 : HS w0 F0 w2 F0 [(sb b1 (kBound x1) 103)]) => ?_)
 refine V 4 4 (mc (.bool false) (.bool false)) ?_
 refine Nss ?_
 obtain ⟨j9, hj12, h13⟩ := bind_some h
 refine CWP.regionD (by kernel_rfl) (by kernel_rfl) (by kernel_rfl) (by kernel_rfl) (z := 13) (F := F0) (Lc := [(sb b1 (kBound x1) 103)]) (Lz := []) (l := [false, false, false, false, false, false, false, false, false, false, false, false, false]) (fuel := 13) (by kernel_rfl) (by kernel_rfl) hs3 (by simp) (by simp) (fun f w => ∃ (F1 : Mem), HS w0 F0 w F1 [] ∧ Mem.le F0 F1 ∧ f.d = [] ∧ f 4 = (.bool j9)) (fun wd4 hw5 => ?_) ?_
 ·refine Dt 0 5 133 _ (fun _ hq => mv 0 (.slice a0_0 x0.length n0_0)) ?_
  refine Dt 1 6 0 (.pointer (some ⟨b1, 2, none⟩)) (fun _ hq => fa 103 3 1 2 2 b1 0 2) ?_
  refine Dt 2 7 27 _ (fun _ hq => ld 27 6 b1 2 true 2 (.agg (kRef x1.To)) (hq.1.2 0 _ _ rfl)) ?_
  refine Dt 4 9 133 _ (fun _ hq => mv 0 (.slice a0_0 x0.length n0_0)) ?_
  refine Dt 5 10 0 (.pointer (some ⟨b1, 0, none⟩)) (fun _ hq => fa 103 3 0 0 2 b1 0 0) ?_
  refine Dt 6 11 27 _ (fun _ hq => ld 27 10 b1 0 true 2 (.agg (kRef x1.From)) (hq.1.2 0 _ _ rfl)) ?_
  refine Dt 8 13 0 (.pointer (some ⟨b1, 4, none⟩)) (fun _ hq => fa 103 3 2 4 1 b1 0 4) ?_
  refine Dt 9 14 3 _ (fun _ hq => ld 3 13 b1 4 false 1 (vi x1.Most) (hq.1.2 0 _ _ rfl)) ?_
  refine DWP.one (i := 3) (by kernel_rfl) ?_
  obtain ⟨r14, hr15, h16⟩ := bind_some hj12
  refine DStep.call (l' := [true, true, true, true, true, true, true, false, true, true, false, false, false]) (zd := true) (by kernel_rfl) (by kernel_rfl) (by kernel_rfl) (dst := (some 8)) (ty := 3) (g := none) (by kernel_rfl) rfl (f0 := (.func 131)) (aos := #[(.tmp 5), (.tmp 7)]) (ats := #[133, 27]) (fid := 131) (first := #[]) (cap := #[]) (args := [(.slice a0_0 x0.length n0_0), (.agg (kRef x1.To))]) rfl co_clocks_minutes_at (rfl) hw5 (c_clocks_minutes_at N wd4 F0 hw5.pers (x0) a0_0 n0_0 hb0_0 hs0_0 (x1.To) _ hr15) ?_
  intro v17 F2 w18 hs19 le20 hp21
  obtain rfl := hp21
  refine DWP.one (i := 7) (by kernel_rfl) ?_
  obtain ⟨r22, hr23, h24⟩ := bind_some h16
  refine DStep.call (l' := [true, true, true, true, true, true, true, true, true, true, false, false, false]) (zd := true) (by kernel_rfl) (by kernel_rfl) (by kernel_rfl) (dst := (some 12)) (ty := 3) (g := none) (by kernel_rfl) rfl (f0 := (.func 131)) (aos := #[(.tmp 9), (.tmp 11)]) (ats := #[133, 27]) (fid := 131) (first := #[]) (cap := #[]) (args := [(.slice a0_0 x0.length n0_0), (.agg (kRef x1.From))]) rfl co_clocks_minutes_at (rfl) hs19 (c_clocks_minutes_at N w18 F2 hs19.pers (x0) a0_0 n0_0 hb0_0 (SlA.mono hs0_0 le20) (x1.From) _ hr23) ?_
  intro v25 F3 w26 hs27 le28 hp29
  obtain rfl := hp29
  refine Dt 10 15 3 (vi (W64 (r22 + x1.Most))) (fun _ hq => run_add (t := 3) (t' := 3) (x := (.tmp 12)) (y := (.tmp 14)) (k := .i64) (a := r22) (b := x1.Most) rfl rfl) ?_
  refine Dt 11 16 4 (.bool (decide (r14 > (W64 (r22 + x1.Most))))) (fun _ hq => run_gtr (t := 3) (t' := 3) (x := (.tmp 8)) (y := (.tmp 15)) (k := .i64) (a := r14) (b := (W64 (r22 + x1.Most))) rfl rfl) ?_
  refine Dt 12 4 4 _ (fun _ hq => ma 16 (.bool (decide (r14 > (W64 (r22 + x1.Most)))))) ?_
  obtain rfl := some_inj h24
  have hs30 : HS w0 F0 w26 F3 [] := hs27.drop 0
  exact DWP.done (by kernel_rfl) ⟨F3, hs30, (le20.trans le28), rfl, rfl⟩
 ·rintro f w6 ⟨F1, hs7, le8, e10, e11⟩
  refine thenQ_nrm ?_
  refine CWP.ret (by kernel_rfl) ?_
  have hfin := some_inj h13
  subst hfin
  exact ⟨e10, (.bool j9), res_of (l := [.tmp 4]) (by kernel_rfl) (vs := [(.bool j9)]) ⟨e11, trivial⟩, (.bool j9), F1, rfl, hs7.clear, rfl⟩
end Go.Proofs.Ythbcnabeabcmlaa
namespace Go.Proofs.Ythbcnabeabcmlaa
open Go.Proofs
def slices_IndexFunc_api_Bound_api_Bound_L0 (N : Nat) (x0 : (List Bound)) (x1 : (Bound → Option Bool)) : Int → Option (Flow Int Int) := fun s4 =>
 (bif (decide (s4 < (x0.length : Int))) then ((idx x0 s4).bind fun x26 => ((x1 x26).bind fun r40 => (bif r40 then some (.ret s4) else some (.next (W64 (s4 + 1)))))) else some (.done s4))
def slices_IndexFunc_api_Bound_api_Bound (N : Nat) (x0 : (List Bound)) (x1 : (Bound → Option Bool)) : Option Int :=
 ((iter (slices_IndexFunc_api_Bound_api_Bound_L0 N x0 x1) N 0).bind fun o => o.k (fun r => some r) (fun s13 => some (-1)))
theorem co_slices_IndexFunc_api_Bound_api_Bound : CallOk Try.prog 132 := fun _ _ => by kernel_rfl
set_option maxHeartbeats 4000000 in
set_option maxRecDepth 100000 in
theorem c_slices_IndexFunc_api_Bound_api_Bound (N : Nat) (w0 : World) (F0 : Mem) (hF : ∀ b o, F0 b = some o → w0.heap[b]? = some o) (x0 : (List Bound)) (a0_0 : Option Addr) (n0_0 : Nat) (hb0_0 : LC x0.length n0_0) (hs0_0 : SlA tBound F0 a0_0 x0) (gx1 : FuncId) (fx1 kx1 : List Value) (x1 : Bound → Option Bool) (hox1 : CallOk Try.prog gx1) (hpx1 : ∀ (w' : World) (F' : Mem) (y0 : Bound) (r : Bool), Mem.le F0 F' → (∀ b o, F' b = some o → w'.heap[b]? = some o) → x1 y0 = some r → Calls Try.prog gx1 (fx1 ++ (([(.agg (kBound y0))] : List Value) ++ kx1)).toArray w' (FRet w' F' fun F'' v => v = (.bool r))) (r : Int) (h : slices_IndexFunc_api_Bound_api_Bound N x0 x1 = some r) :
  Calls Try.prog 132 ([(.slice a0_0 x0.length n0_0), (.func (.func gx1) fx1.toArray kx1.toArray)] : List Value).toArray w0 (FRet w0 F0 fun F' v => v = (vi r)) := by
 have hs0 := HS.start hF
 refine calls_of (n := 19) (c := bodyOf Try.f132) Try.func132 (by kernel_rfl) (by kernel_rfl) (by kernel_rfl) ?_
 refine Sq (Rg [0] ?_)
 refine V 4 3 (mc (vi 0) (vi 0)) ?_
 refine Nss ?_
 refine Sq (Rg [0, 1, 2] ?_)
 refine V 6 57 (mv 0 (.slice a0_0 x0.length n0_0)) ?_
 refine V 7 3 (ln 6 57 a0_0 x0.length n0_0 103 7 56) ?_
 refine V 8 3 (run_move (x := (.const (vi 0))) (v := (vi 0)) rfl) ?_
 refine Nt ?_
 obtain ⟨o1, ho2, h3⟩ := bind_some h
 refine CWP.cut (fun f w => ∃ (s13 : Int) (F2 : Mem), o1 = .done s13 ∧ HS w0 F0 w F2 [] ∧ Mem.le F0 F2 ∧ f.d = []) ?_ ?_
 ·refine Bk ?_
  refine CWP.loop (by kernel_rfl) (fun m f w => ∃ (s4 : Int) (F1 : Mem), iter (slices_IndexFunc_api_Bound_api_Bound_L0 N x0 x1) m s4 = some o1 ∧ HS w0 F0 w F1 [] ∧ Mem.le F0 F1 ∧ f.d = [] ∧ f 0 = (.slice a0_0 x0.length n0_0) ∧ f 1 = (.func (.func gx1) fx1.toArray kx1.toArray) ∧ f 7 = (vi (x0.length : Int)) ∧ f 8 = (vi s4)) N ⟨0, F0, ho2, hs0, (Mem.le.refl _), rfl, rfl, rfl, rfl, rfl⟩ ?_
  rintro m18 f w5 ⟨s4, F1, hit19, hs6, le7, e8, e9, e10, e11, e12⟩
  obtain ⟨m20, fl21, rfl, hb22, hnx23⟩ := iter_step hit19
  refine Sq (Rg [0] ?_)
  refine V 9 0 (run_lss (t := 3) (t' := 3) (x := (.tmp 8)) (y := (.tmp 7)) (k := .i64) (a := s4) (b := (x0.length : Int)) e12 e11) ?_
  refine Nss ?_
  refine CWP.cond (t := (decide (s4 < (x0.length : Int)))) (by kernel_rfl) rfl (fun hb24 => ?_) (fun hb24 => ?_)
  ·have h25 := cond_t hb22 hb24
   refine Sc ?_
   refine thenQ_nrm ?_
   refine Sq ?_
   refine Bk ?_
   refine Sq (Rg [0, 1] ?_)
   refine V 10 3 (mv 8 (vi s4) e12) ?_
   refine V 5 3 (ma 10 (vi s4)) ?_
   refine Nss (Rg [0, 1, 2, 3, 4, 5] ?_)
   refine V 11 134 (mv 1 (.func (.func gx1) fx1.toArray kx1.toArray) e10) ?_
   refine V 12 57 (mv 0 (.slice a0_0 x0.length n0_0) e9) ?_
   refine V 13 3 (mv 5 (vi s4)) ?_
   obtain ⟨x26, hx27, h29⟩ := bind_some h25
   obtain ⟨hi28, hx27'⟩ := idx_spec hx27
   obtain ⟨b30, o31, C32, E33, fz34, rfl, hF36, hE37⟩ := SlA.open (SlA.mono hs0_0 le7) hx27'
   have hc39 := hE37 _ _ hx27'
   refine V 14 0 (ix 57 12 13 b30 o31 103 7 56 hi28) ?_
   refine V 15 103 (lx 103 14 0 7 true 7 (.agg (kBound x26)) (hs6.pers _ _ hF36) hc39) ?_
   obtain ⟨r40, hr41, h42⟩ := bind_some h29
   refine RWP.call (dst := (some 16)) (ty := 4) (g := none) (by kernel_rfl) rfl (f0 := (.tmp 11)) (aos := #[(.tmp 15)]) (ats := #[103]) (fid := gx1) (first := fx1.toArray) (cap := kx1.toArray) (args := (fx1 ++ (([(.agg (kBound x26))] : List Value) ++ kx1))) rfl hox1 (app_args2 (l := [(.agg (kBound x26))]) (fi := fx1) (k := kx1) (rfl)) hs6 (hpx1 w5 F1 (x26) _ le7 hs6.pers hr41) ?_
   intro v43 F3 w44 hs45 le46 hp47
   obtain rfl := hp47
   refine Nt ?_
   refine CWP.cond (t := r40) (by kernel_rfl) rfl (fun hb48 => ?_) (fun hb48 => ?_)
   ·have h49 := cond_t h42 hb48
    refine Sq (Rg [0, 1] ?_)
    refine V 17 3 (mv 5 (vi s4)) ?_
    refine V 4 3 (ma 17 (vi s4)) ?_
    refine Nt ?_
    refine CWP.ret (by kernel_rfl) ?_
    refine blockQ_ret ?_
    refine thenQ_ret ?_
    refine thenQ_ret ?_
    refine blockQ_ret ?_
    have hret := iter_ret h49 hnx23
    subst hret
    refine .inr ?_
    refine thenQ_ret ?_
    have hfin := some_inj h3
    subst hfin
    exact ⟨e8, (vi s4), res_of (l := [.tmp 4]) (by kernel_rfl) (vs := [(vi s4)]) ⟨rfl, trivial⟩, (vi s4), F3, rfl, hs45.clear, rfl⟩
   ·have h50 := cond_f h42 hb48
    refine Sc ?_
    refine blockQ_nrm ?_
    refine thenQ_nrm ?_
    refine Rg [0, 1] ?_
    refine V 18 3 (run_add (t := 3) (t' := 3) (x := (.tmp 8)) (y := (.const (vi 1))) (k := .i64) (a := s4) (b := 1) e12 rfl) ?_
    refine V 8 3 (mv 18 (vi (W64 (s4 + 1)))) ?_
    refine RWP.nil ?_
    have hn51 := iter_next h50 hnx23
    exact ⟨m20, Nat.lt_succ_self _, (W64 (s4 + 1)), F3, hn51, hs45, (le7.trans le46), e8, e9, e10, e11, rfl⟩
  ·have h52 := cond_f hb22 hb24
   refine CWP.exit (by kernel_rfl) ?_
   refine thenQ_ex ?_
   refine thenQ_ex ?_
   refine blockQ_hit rfl ?_
   have ho53 := iter_done h52 hnx23
   exact .inl ⟨rfl, s4, F1, ho53, hs6, le7, e8⟩
 ·rintro f w14 ⟨s13, F2, rfl, hs15, le16, e17⟩
  have h54 := k_done h3
  refine thenQ_nrm ?_
  refine Sq (Rg [0] ?_)
  refine V 4 3 (mc (vi (-1)) (vi (-1))) ?_
  refine Nt ?_
  refine CWP.ret (by kernel_rfl) ?_
  have hfin := some_inj h54
  subst hfin
  exact ⟨e17, (vi (-1)), res_of (l := [.tmp 4]) (by kernel_rfl) (vs := [(vi (-1))]) ⟨rfl, trivial⟩, (vi (-1)), F2, rfl, hs15.clear, rfl⟩
end Go.Proofs.Ythbcnabeabcmlaa
namespace Go.Proofs.Ythbcnabeabcmlaa
open Go.Proofs
def slices_ContainsFunc_api_Bound_api_Bound (N : Nat) (x0 : (List Bound)) (x1 : (Bound → Option Bool)) : Option Bool :=
 ((slices_IndexFunc_api_Bound_api_Bound N x0 x1).bind fun r1 => some (decide (r1 ≥ 0)))
theorem co_slices_ContainsFunc_api_Bound_api_Bound : CallOk Try.prog 102 := fun _ _ => by kernel_rfl
set_option maxHeartbeats 4000000 in
set_option maxRecDepth 100000 in
theorem c_slices_ContainsFunc_api_Bound_api_Bound (N : Nat) (w0 : World) (F0 : Mem) (hF : ∀ b o, F0 b = some o → w0.heap[b]? = some o) (x0 : (List Bound)) (a0_0 : Option Addr) (n0_0 : Nat) (hb0_0 : LC x0.length n0_0) (hs0_0 : SlA tBound F0 a0_0 x0) (gx1 : FuncId) (fx1 kx1 : List Value) (x1 : Bound → Option Bool) (hox1 : CallOk Try.prog gx1) (hpx1 : ∀ (w' : World) (F' : Mem) (y0 : Bound) (r : Bool), Mem.le F0 F' → (∀ b o, F' b = some o → w'.heap[b]? = some o) → x1 y0 = some r → Calls Try.prog gx1 (fx1 ++ (([(.agg (kBound y0))] : List Value) ++ kx1)).toArray w' (FRet w' F' fun F'' v => v = (.bool r))) (r : Bool) (h : slices_ContainsFunc_api_Bound_api_Bound N x0 x1 = some r) :
  Calls Try.prog 102 ([(.slice a0_0 x0.length n0_0), (.func (.func gx1) fx1.toArray kx1.toArray)] : List Value).toArray w0 (FRet w0 F0 fun F' v => v = (.bool r)) := by
 have hs0 := HS.start hF
 refine calls_of (n := 9) (c := bodyOf Try.f102) Try.func102 (by kernel_rfl) (by kernel_rfl) (by kernel_rfl) ?_
 refine Sq (Rg [0] ?_)
 refine V 4 4 (mc (.bool false) (.bool false)) ?_
 refine Nss (Rg [0, 1, 2, 3, 4] ?_)
 refine V 5 57 (mv 0 (.slice a0_0 x0.length n0_0)) ?_
 refine V 6 134 (mv 1 (.func (.func gx1) fx1.toArray kx1.toArray)) ?_
 obtain ⟨r1, hr2, h3⟩ := bind_some h
 refine Cl 7 3 132 #[(.tmp 5), (.tmp 6)] #[57, 134] co_slices_IndexFunc_api_Bound_api_Bound hs0 (c_slices_IndexFunc_api_Bound_api_Bound N w0 F0 hs0.pers (x0) a0_0 n0_0 hb0_0 hs0_0 gx1 fx1 kx1 x1 hox1 (fun w1 F1 y0 r le1 pe1 hr1 => hpx1 w1 F1 y0 r (le1) pe1 hr1) _ hr2) ?_
 intro v4 F1 w5 hs6 le7 hp8
 obtain rfl := hp8
 refine V 8 4 (run_geq (t := 3) (t' := 3) (x := (.tmp 7)) (y := (.const (vi 0))) (k := .i64) (a := r1) (b := 0) rfl rfl) ?_
 refine V 4 4 (ma 8 (.bool (decide (r1 ≥ 0)))) ?_
 refine Nt ?_
 refine CWP.ret (by kernel_rfl) ?_
 have hfin := some_inj h3
 subst hfin
 exact ⟨rfl, (.bool (decide (r1 ≥ 0))), res_of (l := [.tmp 4]) (by kernel_rfl) (vs := [(.bool (decide (r1 ≥ 0)))]) ⟨rfl, trivial⟩, (.bool (decide (r1 ≥ 0))), F1, rfl, hs6.clear, rfl⟩
end Go.Proofs.Ythbcnabeabcmlaa
namespace Go.Proofs.Ythbcnabeabcmlaa
open Go.Proofs
def clocks_Keeps (N : Nat) (x0 : System) (x1 : (List (List Int))) : Option (Bool × Int) :=
 ((clocks_Check N x0).bind fun r4 => (bif (r4 != 0) then some (false, r4) else ((clocks_minutes_formed N x1 x0).bind fun r15 => (bif (!r15) then some (false, 0) else ((clocks_bounds N x0).bind fun r26 => ((slices_Collect_api_Bound N r26).bind fun r34 => ((slices_ContainsFunc_api_Bound_api_Bound N r34 (fun y0 => clocks_minutes_breaks N x1 y0)).bind fun r42 => some ((!r42), 0))))))))
theorem co_clocks_Keeps : CallOk Try.prog 55 := fun _ _ => by kernel_rfl
set_option maxHeartbeats 4000000 in
set_option maxRecDepth 100000 in
theorem c_clocks_Keeps (N : Nat) (w0 : World) (F0 : Mem) (hF : ∀ b o, F0 b = some o → w0.heap[b]? = some o) (x0 : System) (a0_0 : Option Addr) (n0_0 : Nat) (hb0_0 : LC x0.Tracks.length n0_0) (hs0_0 : SlA tTrack F0 a0_0 x0.Tracks) (a0_1 : Option Addr) (n0_1 : Nat) (hb0_1 : LC x0.Ties.length n0_1) (hs0_1 : SlA tTie F0 a0_1 x0.Ties) (x1 : (List (List Int))) (a1_0 : Option Addr) (n1_0 : Nat) (hb1_0 : LC x1.length n1_0) (hs1_0 : SlA (tSl tInt) F0 a1_0 x1) (r : (Bool × Int)) (h : clocks_Keeps N x0 x1 = some r) :
  Calls Try.prog 55 ([(.agg (kSystem x0 a0_0 n0_0 a0_1 n0_1)), (.slice a1_0 x1.length n1_0)] : List Value).toArray w0 (FRet w0 F0 fun F' v => v = (.tuple #[(.bool r.1), (vi r.2)])) := by
 have hs0 := HS.start hF
 refine calls_of (n := 27) (c := bodyOf Try.f55) Try.func55 (by kernel_rfl) (by kernel_rfl) (by kernel_rfl) ?_
 refine Sq (Rg [0, 1, 2] ?_)
 refine Bx 2 0 0 25 (kSystem x0 a0_0 n0_0 a0_1 n0_1) hs0 (fun b1 w2 (hs3 : HS w0 F0 w2 F0 [(sb b1 (kSystem x0 a0_0 n0_0 a0_1 n0_1) 25)]) => ?_)
 refine V 4 4 (mc (.bool false) (.bool false)) ?_
 refine V 5 30 (mc (vi 0) (vi 0)) ?_
 refine Nss ?_
 refine Sq (Rg [0, 1, 2] ?_)
 refine V 9 25 (ld 25 2 b1 0 true 3 (.agg (kSystem x0 a0_0 n0_0 a0_1 n0_1)) (hs3.ownAt (k := 0) rfl)) ?_
 obtain ⟨r4, hr5, h6⟩ := bind_some h
 refine Cl 10 30 17 #[(.tmp 9)] #[25] co_clocks_Check hs3 (c_clocks_Check N w2 F0 hs3.pers (x0) a0_0 n0_0 hb0_0 hs0_0 a0_1 n0_1 hb0_1 hs0_1 _ hr5) ?_
 intro v7 F1 w8 hs9 le10 hp11
 obtain rfl := hp11
 refine V 6 30 (ma 10 (vi r4)) ?_
 refine Nss (Rg [0, 1] ?_)
 refine V 11 30 (mv 6 (vi r4)) ?_
 refine V 12 4 (run_neq (t := 30) (t' := 30) (x := (.tmp 11)) (y := (.const (vi 0))) (k := .i64) (a := r4) (b := 0) rfl rfl) ?_
 refine Nt ?_
 refine CWP.cond (t := (r4 != 0)) (by kernel_rfl) rfl (fun hb12 => ?_) (fun hb12 => ?_)
 ·have h13 := cond_t h6 hb12
  refine Sq (Rg [0, 1, 2] ?_)
  refine V 13 30 (mv 6 (vi r4)) ?_
  refine V 4 4 (mc (.bool false) (.bool false)) ?_
  refine V 5 30 (ma 13 (vi r4)) ?_
  refine Nt ?_
  refine CWP.ret (by kernel_rfl) ?_
  refine thenQ_ret ?_
  have hfin := some_inj h13
  subst hfin
  exact ⟨rfl, (.tuple #[(.bool false), (vi r4)]), res_of (l := [.tmp 4, .tmp 5]) (by kernel_rfl) (vs := [(.bool false), (vi r4)]) ⟨rfl, ⟨rfl, trivial⟩⟩, (.tuple #[(.bool false), (vi r4)]), F1, rfl, hs9.clear, rfl⟩
 ·have h14 := cond_f h6 hb12
  refine Sc ?_
  refine thenQ_nrm ?_
  refine Sq (Rg [0, 1] ?_)
  refine V 14 71 (mv 1 (.slice a1_0 x1.length n1_0)) ?_
  refine V 7 133 (ma 14 (.slice a1_0 x1.length n1_0)) ?_
  refine Nss ?_
  refine Sq (Rg [0, 1, 2, 3] ?_)
  refine V 15 133 (mv 7 (.slice a1_0 x1.length n1_0)) ?_
  refine V 16 25 (ld 25 2 b1 0 true 3 (.agg (kSystem x0 a0_0 n0_0 a0_1 n0_1)) (hs9.ownAt (k := 0) rfl)) ?_
  obtain ⟨r15, hr16, h17⟩ := bind_some h14
  refine Cl 17 4 100 #[(.tmp 15), (.tmp 16)] #[133, 25] co_clocks_minutes_formed hs9 (c_clocks_minutes_formed N w8 F1 hs9.pers (x1) a1_0 n1_0 hb1_0 (SlA.mono hs1_0 le10) (x0) a0_0 n0_0 hb0_0 (SlA.mono hs0_0 le10) a0_1 n0_1 hb0_1 (SlA.mono hs0_1 le10) _ hr16) ?_
  intro v18 F2 w19 hs20 le21 hp22
  obtain rfl := hp22
  refine V 18 4 (run_not (t := 4) (x := (.tmp 17)) (a := r15) rfl) ?_
  refine Nt ?_
  refine CWP.cond (t := (!r15)) (by kernel_rfl) rfl (fun hb23 => ?_) (fun hb23 => ?_)
  ·have h24 := cond_t h17 hb23
   refine Sq (Rg [0, 1] ?_)
   refine V 4 4 (mc (.bool false) (.bool false)) ?_
   refine V 5 30 (mc (vi 0) (vi 0)) ?_
   refine Nt ?_
   refine CWP.ret (by kernel_rfl) ?_
   refine thenQ_ret ?_
   have hfin := some_inj h24
   subst hfin
   exact ⟨rfl, (.tuple #[(.bool false), (vi 0)]), res_of (l := [.tmp 4, .tmp 5]) (by kernel_rfl) (vs := [(.bool false), (vi 0)]) ⟨rfl, ⟨rfl, trivial⟩⟩, (.tuple #[(.bool false), (vi 0)]), F2, rfl, hs20.clear, rfl⟩
  ·have h25 := cond_f h17 hb23
   refine Sc ?_
   refine thenQ_nrm ?_
   refine Sq (Rg [0, 1, 2] ?_)
   refine V 19 133 (mv 7 (.slice a1_0 x1.length n1_0)) ?_
   refine V 20 134 (run_makeFunc (fn := .func 101) (first := #[(.tmp 19)]) (cap := #[]) (fl := [(.slice a1_0 x1.length n1_0)]) (cl := []) (rfl) (rfl)) ?_
   refine V 8 134 (ma 20 (.func (.func 101) #[(.slice a1_0 x1.length n1_0)] #[])) ?_
   refine Nss (Rg [0, 1, 2, 3, 4, 5, 6, 7] ?_)
   refine V 21 25 (ld 25 2 b1 0 true 3 (.agg (kSystem x0 a0_0 n0_0 a0_1 n0_1)) (hs20.ownAt (k := 0) rfl)) ?_
   obtain ⟨r26, hr27, h28⟩ := bind_some h25
   refine Cl 22 105 76 #[(.tmp 21)] #[25] co_clocks_bounds hs20 (c_clocks_bounds N w19 F2 hs20.pers (x0) a0_0 n0_0 hb0_0 (SlA.mono hs0_0 (le10.trans le21)) a0_1 n0_1 hb0_1 (SlA.mono hs0_1 (le10.trans le21)) _ hr27) ?_
   intro v29 F3 w30 hs31 le32 hp33
   obtain ⟨ar26_0_0_0, nr26_0_0_0, ar26_0_0_1, nr26_0_0_1, br26_0_0, rfl, hbr26_0_0_0, hsr26_0_0_0, hbr26_0_0_1, hsr26_0_0_1, hFr26_0_0⟩ := hp33
   obtain ⟨r34, hr35, h36⟩ := bind_some h28
   refine Cl 23 57 75 #[(.tmp 22)] #[105] co_slices_Collect_api_Bound hs31 (c_slices_Collect_api_Bound N w30 F3 hs31.pers (r26) ar26_0_0_0 nr26_0_0_0 hbr26_0_0_0 hsr26_0_0_0 ar26_0_0_1 nr26_0_0_1 hbr26_0_0_1 hsr26_0_0_1 br26_0_0 hFr26_0_0 _ hr35) ?_
   intro v37 F4 w38 hs39 le40 hp41
   obtain ⟨ar34_0_0, nr34_0_0, rfl, hbr34_0_0, hsr34_0_0⟩ := hp41
   refine V 24 134 (mv 8 (.func (.func 101) #[(.slice a1_0 x1.length n1_0)] #[])) ?_
   obtain ⟨r42, hr43, h44⟩ := bind_some h36
   refine Cl 25 4 102 #[(.tmp 23), (.tmp 24)] #[57, 134] co_slices_ContainsFunc_api_Bound_api_Bound hs39 (c_slices_ContainsFunc_api_Bound_api_Bound N w38 F4 hs39.pers (r34) ar34_0_0 nr34_0_0 hbr34_0_0 hsr34_0_0 101 [(.slice a1_0 x1.length n1_0)] [] (fun y0 => clocks_minutes_breaks N x1 y0) co_clocks_minutes_breaks (fun w1 F1 y0 r le1 pe1 hr1 => c_clocks_minutes_breaks N w1 F1 pe1 (x1) a1_0 n1_0 hb1_0 (SlA.mono (SlA.mono hs1_0 (((le10.trans le21).trans le32).trans le40)) le1) y0  r hr1) _ hr43) ?_
   intro v45 F5 w46 hs47 le48 hp49
   obtain rfl := hp49
   refine V 26 4 (run_not (t := 4) (x := (.tmp 25)) (a := r42) rfl) ?_
   refine V 4 4 (ma 26 (.bool (!r42))) ?_
   refine V 5 30 (mc (vi 0) (vi 0)) ?_
   refine Nt ?_
   refine CWP.ret (by kernel_rfl) ?_
   have hfin := some_inj h44
   subst hfin
   exact ⟨rfl, (.tuple #[(.bool (!r42)), (vi 0)]), res_of (l := [.tmp 4, .tmp 5]) (by kernel_rfl) (vs := [(.bool (!r42)), (vi 0)]) ⟨rfl, ⟨rfl, trivial⟩⟩, (.tuple #[(.bool (!r42)), (vi 0)]), F5, rfl, hs47.clear, rfl⟩
end Go.Proofs.Ythbcnabeabcmlaa
namespace Go.Proofs.Ythbcnabeabcmlaa
open Go.Proofs
end Go.Proofs.Ythbcnabeabcmlaa
namespace Go.Proofs.Ythbcnabeabcmlaa
section
variable {N : Nat} {s : System}
def refB (a b : Ref) : Bool := (a.Log == b.Log) && ((a.Line == b.Line) && true)
theorem refB_eq (a b : Ref) : refB a b = decide (a = b) := by
 obtain ⟨a1, a2⟩ := a
 obtain ⟨b1, b2⟩ := b
 unfold refB
 simp only [Bool.and_true, Ref.mk.injEq]
 rw [Bool.eq_iff_iff]
 simp
theorem lt_of_get' {α : Type} {l : List α} {i : Nat} {x : α} (hx : l[i]? = some x) : i < l.length := by
 rcases Nat.lt_or_ge i l.length with h | h
 ·exact h
 ·rw [List.getElem?_eq_none h] at hx; cases hx
def mAt (l : List (List Int)) (r : Ref) : Int := if r = beg then 0 else (l.getD r.Log.toNat []).getD r.Line.toNat 0
def okRow (s : System) (l : List (List Int)) (i : Nat) : Bool := match s.Tracks[i]?, l[i]? with
 | some t, some row => decide (row.length = t.Times.length) && row.all fun n => inr n (-1000000) 1000000
 | _, _ => false
def vForm (s : System) (l : List (List Int)) : Bool := decide (l.length = s.Tracks.length) && allB s.Tracks.length (okRow s l)
def keepB (l : List (List Int)) (b : Bound) : Bool := decide (mAt l b.To ≤ mAt l b.From + b.Most)
def vKeeps (s : System) (l : List (List Int)) : Bool × Int := if vCheck s ≠ 0 then (false, vCheck s) else (vForm s l && (bnds s).all (keepB l), 0)
theorem form_at {l : List (List Int)} (hv : vForm s l = true) {i : Nat} {t : Track} (ht : s.Tracks[i]? = some t) : ∃ row, l[i]? = some row ∧ row.length = t.Times.length ∧ ∀ n, n ∈ row → -1000000 ≤ n ∧ n ≤ 1000000 := by
 unfold vForm at hv
 simp only [Bool.and_eq_true, decide_eq_true_eq] at hv
 have := allB_t hv.2 (lt_of_get' ht)
 unfold okRow at this
 rw [ht] at this
 cases hr : l[i]? with
 | none => rw [hr] at this; cases this
 | some row =>
  rw [hr] at this
  simp only [Bool.and_eq_true, decide_eq_true_eq, List.all_eq_true, inr] at this
  exact ⟨row, rfl, this.1, this.2⟩
theorem mAt_in {l : List (List Int)} (hv : vForm s l = true) {r : Ref} (hr : Nd s r) : -1000000 ≤ mAt l r ∧ mAt l r ≤ 1000000 := by
 rcases hr with rfl | hr
 ·unfold mAt; rw [if_pos rfl]; omega
 ·obtain ⟨i, t, j, rfl, ht, hj⟩ := li_has hr
  obtain ⟨row, h1, h2, h3⟩ := form_at hv ht
  unfold mAt
  rw [if_neg (by intro h; have : (i : Int) = -1 := congrArg Ref.Log h; omega)]
  have hd : l.getD i [] = row := by rw [List.getD_eq_getElem?_getD, h1]; rfl
  simp only [li, Int.toNat_natCast, hd]
  rw [getD_at (show j < row.length by omega)]
  exact h3 _ (List.getElem_mem _)
theorem at_c {l : List (List Int)} (hv : vForm s l = true) {r : Ref} (hr : Nd s r) : clocks_minutes_at N l r = some (mAt l r) := by
 unfold clocks_minutes_at clocks_beginning
 rw [Option.bind_some, Option.bind_some]
 rw [show ((r.Log == -1) && ((r.Line == 0) && true)) = refB r beg from rfl, refB_eq]
 by_cases he : r = beg
 ·unfold mAt; simp [he]
 ·rcases hr with hr | hr
  ·exact absurd hr he
  ·obtain ⟨i, t, j, rfl, ht, hj⟩ := li_has hr
   obtain ⟨row, h1, h2, h3⟩ := form_at hv ht
   unfold mAt
   simp only [he, decide_false, cond_false, if_false, li, idx_nat', h1, Option.bind_some, List.getElem?_eq_getElem (show j < row.length by omega), Int.toNat_natCast]
   have hd : l.getD i [] = row := by rw [List.getD_eq_getElem?_getD, h1]; rfl
   rw [hd, getD_at (show j < row.length by omega)]
theorem form_c (hf : FitS N s) (h : vCheck s = 0) (l : List (List Int)) : clocks_minutes_formed N l s = some (vForm s l) := by
 unfold clocks_minutes_formed vForm
 have hn := hf.n
 have h1 := hn.1
 by_cases hl : l.length = s.Tracks.length
 ·simp only [hl, bne_self_eq_false, cond_false, decide_true, Bool.true_and]
  rw [iter_check' (n := s.Tracks.length) (okRow s l) false (fun i hi => by
   unfold clocks_minutes_formed_L0
   have hil : i < l.length := by omega
   have ht := List.getElem?_eq_getElem hi
   rw [lt_t hi, cond_true, idx_nat hi, Option.bind_some, idx_nat hil, Option.bind_some, W64_succ (by omega)]
   unfold okRow
   rw [ht, List.getElem?_eq_getElem hil]
   simp only
   by_cases hlen : l[i].length = s.Tracks[i].Times.length
   ·have hfit : Fit N l[i].length := by rw [hlen]; exact (hf.t _ (List.getElem_mem hi)).t
    have := contains_aux (N := N) (f := fun y0 => clocks_minutes_formed_1 N y0) hfit (p := fun n => !inr n (-1000000) 1000000) (fun x _ => by unfold clocks_minutes_formed_1; rw [within_c]; rfl) rfl
    have e : slices_ContainsFunc_int_int N l[i] (fun y0 => clocks_minutes_formed_1 N y0) = some (l[i].any fun n => !inr n (-1000000) 1000000) := this
    simp only [hlen, bne_self_eq_false, cond_false, Option.bind_some, e, any_not, decide_true, Bool.true_and]
    cases l[i].all fun n => inr n (-1000000) 1000000 <;> rfl
   ·have e : ((l[i].length : Int) != (s.Tracks[i].Times.length : Int)) = true := by simp; omega
    rw [e]
    simp [hlen]) (by unfold clocks_minutes_formed_L0; rw [lt_f]; rfl) hn.2]
  cases allB s.Tracks.length (okRow s l) <;> rfl
 ·have e : ((l.length : Int) != (s.Tracks.length : Int)) = true := by simp; omega
  rw [e]
  simp [hl]
theorem Keeps_c (hN : 1000000 ≤ N) (hf : FitS N s) (l : List (List Int)) : clocks_Keeps N s l = some (vKeeps s l) := by
 unfold clocks_Keeps vKeeps
 rw [check_c hf, Option.bind_some]
 by_cases h : vCheck s = 0
 ·rw [if_neg (by omega)]
  have e : (vCheck s != 0) = false := by simp [h]
  rw [e, cond_false, form_c hf h, Option.bind_some]
  cases hv : vForm s l with
  | false => rfl
  | true =>
   have hbl := bnds_len' h
   have : slices_ContainsFunc_api_Bound_api_Bound N (bnds s) (fun y0 => clocks_minutes_breaks N l y0) = some ((bnds s).any fun b => !keepB l b) :=
    contains_aux ⟨by omega, by omega⟩ (fun b hb => by
     obtain ⟨n1, n2⟩ := bnd_ends h hb
     have i1 := mAt_in hv n1
     have i2 := bnd_most h b hb
     unfold clocks_minutes_breaks
     rw [at_c hv n1, at_c hv n2]
     simp only [Option.bind_some]
     rw [W64_id (by omega) (by omega)]
     unfold keepB
     congr 1
     rw [← decide_not, decide_eq_decide]; omega) rfl
   simp only [Bool.not_true, cond_false, clocks_bounds, Option.bind_some, collect_c hf h, this, any_not, Bool.not_not, Bool.true_and]
 ·rw [if_pos h]
  have e : (vCheck s != 0) = true := by simpa using h
  rw [e]; rfl
end
end Go.Proofs.Ythbcnabeabcmlaa
namespace Go.Proofs.Ythbcnabeabcmlaa
open Go.Proofs
end Go.Proofs.Ythbcnabeabcmlaa
namespace Go.Proofs.Ythbcnabeabcmlaa
open BF
section
variable {N : Nat} {s : System}
theorem keeps_walk {l : List (List Int)} (h : vCheck s = 0) (hk : (vKeeps s l).1 = true) {x y : Ref} {n : Int} (hw : WK s x y n) : mAt l y ≤ mAt l x + n := by
 unfold vKeeps at hk
 rw [if_neg (by omega)] at hk
 simp only [Bool.and_eq_true, List.all_eq_true, keepB, decide_eq_true_eq] at hk
 induction hw with
 | nil => omega
 | snoc _ he hs ih =>
  have := hk.2 _ he
  subst hs
  omega
theorem keeps_closes {l : List (List Int)} (h : vCheck s = 0) (hk : (vKeeps s l).1 = true) : Cls s := fun x n hw => by
 have := keeps_walk h hk hw; omega
theorem keeps_code (l : List (List Int)) : (vKeeps s l).2 = vCheck s := by
 unfold vKeeps
 by_cases h : vCheck s = 0
 ·rw [if_neg (by omega), h]
 ·rw [if_pos h]
end
end Go.Proofs.Ythbcnabeabcmlaa
namespace Go.Proofs.Ythbcnabeabcmlaa
open Go.Proofs
def clocks_Earliest_1 (N : Nat) (x0 : Ref) (z0 : Reached) : Option Int :=
 some (W64 (0 - (mgetD z0.at_ x0 0)))
theorem co_clocks_Earliest_1 : CallOk Try.prog 95 := fun _ _ => by kernel_rfl
set_option maxHeartbeats 4000000 in
set_option maxRecDepth 100000 in
theorem c_clocks_Earliest_1 (N : Nat) (w0 : World) (F0 : Mem) (hF : ∀ b o, F0 b = some o → w0.heap[b]? = some o) (x0 : Ref) (bz0 : Nat) (z0 : Reached) (oz0_0 : Option Nat) (hmz0_0 : MpA tRef tInt F0 oz0_0 z0.at_) (oz0_1 : Option Nat) (hmz0_1 : MpA tRef tBound F0 oz0_1 z0.by_) (hz0 : F0 bz0 = some (oc #[(.map oz0_0), (.map oz0_1)] 95)) (r : Int) (h : clocks_Earliest_1 N x0 z0 = some r) :
  Calls Try.prog 95 ([(.agg (kRef x0)), (.pointer (some ⟨bz0, 0, none⟩))] : List Value).toArray w0 (FRet w0 F0 fun F' v => v = (vi r)) := by
 have hs0 := HS.start hF
 refine calls_of (n := 9) (c := bodyOf Try.f95) Try.func95 (by kernel_rfl) (by kernel_rfl) (by kernel_rfl) ?_
 refine Sq (Rg [0, 1] ?_)
 refine Bx 2 0 0 27 (kRef x0) hs0 (fun b1 w2 (hs3 : HS w0 F0 w2 F0 [(sb b1 (kRef x0) 27)]) => ?_)
 refine V 3 3 (mc (vi 0) (vi 0)) ?_
 refine Nss (Rg [0, 1, 2, 3, 4, 5] ?_)
 refine V 4 0 (fa 95 1 0 0 1 bz0 0 0) ?_
 refine V 5 92 (ld 92 4 bz0 0 false 1 (.map oz0_0) (hs3.pers _ _ hz0)) ?_
 refine V 6 27 (ld 27 2 b1 0 true 2 (.agg (kRef x0)) (hs3.ownAt (k := 0) rfl)) ?_
 refine V 7 3 (run_lookV1 (mt := 92) (k := 27) (vt := 3) (m := (.tmp 5)) (x := (.tmp 6)) (kv := (.agg (kRef x0))) (kx := x0) (z := (vi 0)) (zx := 0) (K := tRef) (T := tInt) kl27 rfl rfl ⟨_, rfl, rfl⟩ (by kernel_rfl) (by kernel_rfl) ⟨_, rfl, rfl⟩ (MpA.mpw hs3.pers hmz0_0) (fun h => by obtain ⟨_, rfl, rfl⟩ := h; rfl)) ?_
 refine V 8 3 (run_neg (t := 3) (x := (.tmp 7)) (k := .i64) (a := (mgetD z0.at_ x0 0)) rfl) ?_
 refine V 3 3 (ma 8 (vi (W64 (0 - (mgetD z0.at_ x0 0))))) ?_
 refine Nt ?_
 refine CWP.ret (by kernel_rfl) ?_
 have hfin := some_inj h
 subst hfin
 exact ⟨rfl, (vi (W64 (0 - (mgetD z0.at_ x0 0)))), res_of (l := [.tmp 3]) (by kernel_rfl) (vs := [(vi (W64 (0 - (mgetD z0.at_ x0 0))))]) ⟨rfl, trivial⟩, (vi (W64 (0 - (mgetD z0.at_ x0 0)))), F0, rfl, hs3.clear, rfl⟩
end Go.Proofs.Ythbcnabeabcmlaa
namespace Go.Proofs.Ythbcnabeabcmlaa
open Go.Proofs
def clocks_each_int_L1 (N : Nat) (x1 : Ref → Option Int) (log : Int) (t : Track) : (Int × List Int) → Option (Flow (List (List Int)) (Int × List Int)) := fun s =>
 bif decide (s.1 < (t.Times.length : Int)) then ((x1 ({ Log := log, Line := s.1 } : Ref)).bind fun r => (apnd s.2 [r]).bind fun row => some (.next (W64 (s.1 + 1), row))) else some (.done s)
def clocks_each_int_L0 (N : Nat) (x0 : System) (x1 : Ref → Option Int) : List (List Int) → Option (Flow (List (List Int)) (List (List Int))) := fun done =>
 bif decide ((done.length : Int) < (x0.Tracks.length : Int)) then ((idx x0.Tracks (done.length : Int)).bind fun t => (iter (clocks_each_int_L1 N x1 (done.length : Int) t) N (0, [])).bind fun o => o.k (fun r => some (.ret r)) (fun s => some (.next (done ++ [s.2])))) else some (.done done)
def clocks_each_int (N : Nat) (x0 : System) (x1 : Ref → Option Int) : Option (List (List Int)) :=
 (mk0 (GC.raw nilv : GC Int) (x0.Tracks.length : Int)).bind fun _ => (iter (clocks_each_int_L0 N x0 x1) N []).bind fun o => o.k (fun r => some r) (fun done => some done)
theorem clocks_each_int_inner {N : Nat} {x1 : Ref → Option Int} {log : Int} {t : Track} {m : Nat} {s : Int × List Int} {o : Flow (List (List Int)) (Int × List Int)} (h : iter (clocks_each_int_L1 N x1 log t) m s = some o) : ∃ s', o = .done s' := by
 obtain ⟨s1, _, hb, hne⟩ := iter_inv (fun _ => True) (fun _ _ _ _ => trivial) trivial h
 unfold clocks_each_int_L1 at hb
 rcases cond_some hb with ⟨_, hb⟩ | ⟨_, hb⟩
 ·obtain ⟨_, _, hb⟩ := bind_some hb
  obtain ⟨_, _, hb⟩ := bind_some hb
  cases hb
  exact absurd rfl (hne _)
 ·cases hb; exact ⟨_, rfl⟩
theorem co_clocks_each_int : CallOk Try.prog 94 := fun _ _ => by kernel_rfl
set_option maxHeartbeats 4000000 in
set_option maxRecDepth 100000 in
theorem c_clocks_each_int (N : Nat) (w0 : World) (F0 : Mem) (hF : ∀ b o, F0 b = some o → w0.heap[b]? = some o) (x0 : System) (a0_0 : Option Addr) (n0_0 : Nat) (hb0_0 : LC x0.Tracks.length n0_0) (hs0_0 : SlA tTrack F0 a0_0 x0.Tracks) (a0_1 : Option Addr) (n0_1 : Nat) (hb0_1 : LC x0.Ties.length n0_1) (hs0_1 : SlA tTie F0 a0_1 x0.Ties)
  (gx1 : FuncId) (fx1 kx1 : List Value) (x1 : Ref → Option Int) (hox1 : CallOk Try.prog gx1) (hpx1 : ∀ (w' : World) (F' : Mem) (y0 : Ref) (r : Int), Mem.le F0 F' → (∀ b o, F' b = some o → w'.heap[b]? = some o) → x1 y0 = some r → Calls Try.prog gx1 (fx1 ++ (([(.agg (kRef y0))] : List Value) ++ kx1)).toArray w' (FRet w' F' fun F'' v => v = (vi r))) (r : List (List Int)) (h : clocks_each_int N x0 x1 = some r) :
  Calls Try.prog 94 ([(.agg (kSystem x0 a0_0 n0_0 a0_1 n0_1)), (.func (.func gx1) fx1.toArray kx1.toArray)] : List Value).toArray w0 (FRet w0 F0 fun F' v => ∃ (aq0_0 : Option Addr) (nq0_0 : Nat), v = (.slice aq0_0 r.length nq0_0) ∧ LC r.length nq0_0 ∧ SlA (tSl tInt) F' aq0_0 r) := by
 have hs0 := HS.start hF
 obtain ⟨q0, hq0, h⟩ := bind_some h
 obtain ⟨o, ho, h⟩ := bind_some h
 obtain ⟨k, hk⟩ : ∃ k, x0.Tracks.length = k := ⟨_, rfl⟩
 have hkb : k < 9223372036854775808 := hk ▸ hb0_0.2
 refine calls_of (n := 44) (c := bodyOf Try.f94) Try.func94 (by kernel_rfl) (by kernel_rfl) (by kernel_rfl) ?_
 refine CWP.seq (by kernel_rfl) ?_
 refine CWP.region (l := [0, 1]) (by kernel_rfl) (by kernel_rfl) (by kernel_rfl) ?_
 refine RWP.box (dst := (some 2)) (ty := 0) (g := none) (by kernel_rfl) rfl (x := (.tmp 0)) (t := 25) (v := (.agg (kSystem x0 a0_0 n0_0 a0_1 n0_1))) rfl (C := (kSystem x0 a0_0 n0_0 a0_1 n0_1)) rfl hs0 (fun b1 w1 hs1 => ?_)
 refine RWP.val (dst := (some 4)) (ty := 71) (g := none) (by kernel_rfl) rfl (run_assign (x := (.const (.slice none 0 0))) (v := (.slice none 0 0)) rfl) ?_
 refine RWP.nil ?_
 refine thenQ_nrm ?_
 refine CWP.seq (by kernel_rfl) ?_
 refine CWP.region (l := [0, 1, 2, 3, 4]) (by kernel_rfl) (by kernel_rfl) (by kernel_rfl) ?_
 refine RWP.val (dst := (some 9)) (ty := 0) (g := none) (by kernel_rfl) rfl (run_fieldAddr (s := 25) (x := (.tmp 2)) (i := 0) (o := 0) (k := 1) (b := b1) (o0 := 0) rfl (by kernel_rfl) rfl (o1 := 0) rfl) ?_
 refine RWP.val (dst := (some 10)) (ty := 22) (g := none) (by kernel_rfl) rfl (run_load' (t := 22) (x := (.tmp 9)) (b := b1) (o := 0) (g := false) (s := 1) (C := (kSystem x0 a0_0 n0_0 a0_1 n0_1)) (v := (.slice a0_0 x0.Tracks.length n0_0)) rfl (by kernel_rfl) (hs1.ownAt (k := 0) rfl) rfl rfl rfl) ?_
 refine RWP.val (dst := (some 11)) (ty := 3) (g := none) (by kernel_rfl) rfl (run_len_slice' (x := (.tmp 10)) (ats := #[22]) (a := a0_0) (n := x0.Tracks.length) (c := n0_0) (E := 54) (s := 4) (by_ := 64) rfl rfl (by kernel_rfl)) ?_
 refine RWP.makeSlice (dst := (some 12)) (ty := 71) (g := none) (by kernel_rfl) rfl (x := (.tmp 11)) (y := (.tmp 11)) (t := 71) (by_ := 24) (z := (.slice none 0 0)) (T := tGC tInt) (E := 50) rfl rfl (by kernel_rfl) (by decide) (by kernel_rfl) (z0 := .raw nilv) (fun _ => rfl) (by decide) hs1 hq0 (fun b cap C w2 hs2 hr2 => ?_)
 refine RWP.val (dst := (some 5)) (ty := 71) (g := none) (by kernel_rfl) rfl (run_assign (x := (.tmp 12)) (v := .slice (some ⟨b, 0, none⟩) q0.length cap) rfl) ?_
 refine RWP.nil ?_
 refine thenQ_nrm ?_
 obtain ⟨hq1, hq2⟩ := mk0_spec hq0
 have hqg : q0 = gl k [] := by rw [hq2, gl_nil, ← hk]; simp
 subst hqg
 refine CWP.seq (by kernel_rfl) ?_
 refine CWP.seq (by kernel_rfl) ?_
 refine CWP.region (l := [0, 1, 2, 3]) (by kernel_rfl) (by kernel_rfl) (by kernel_rfl) ?_
 refine RWP.val (dst := (some 13)) (ty := 0) (g := none) (by kernel_rfl) rfl (run_fieldAddr (s := 25) (x := (.tmp 2)) (i := 0) (o := 0) (k := 1) (b := b1) (o0 := 0) rfl (by kernel_rfl) rfl (o1 := 0) rfl) ?_
 refine RWP.val (dst := (some 14)) (ty := 22) (g := none) (by kernel_rfl) rfl (run_load' (t := 22) (x := (.tmp 13)) (b := b1) (o := 0) (g := false) (s := 1) (C := (kSystem x0 a0_0 n0_0 a0_1 n0_1)) (v := (.slice a0_0 x0.Tracks.length n0_0)) rfl (by kernel_rfl) (hs2.ownAt (k := 1) rfl) rfl rfl rfl) ?_
 refine RWP.val (dst := (some 15)) (ty := 3) (g := none) (by kernel_rfl) rfl (run_len_slice' (x := (.tmp 14)) (ats := #[22]) (a := a0_0) (n := x0.Tracks.length) (c := n0_0) (E := 54) (s := 4) (by_ := 64) rfl rfl (by kernel_rfl)) ?_
 refine RWP.val (dst := (some 16)) (ty := 3) (g := none) (by kernel_rfl) rfl (run_move (x := (.const (vi 0))) (v := (vi 0)) rfl) ?_
 refine RWP.nil ?_
 refine thenQ_nrm ?_
 have hs3 : HS w0 F0 w2 F0 [(some b, .cells C 50 (0, 0))] := hs2.drop 1
 refine CWP.cut (fun f w => ∃ (done : List (List Int)) (F1 : Mem) (e1 : Option Nat × Obj), o = .done done ∧ HS w0 F0 w F1 [e1] ∧ Mem.le F0 F1 ∧ f.d = [] ∧ f 5 = .slice (some ⟨b, 0, none⟩) (gl k done).length cap ∧ done.length = k ∧ RowR (tGC tInt) 50 F1 (some ⟨b, 0, none⟩) cap (gl k done) e1) ?_ ?_
 ·
  refine CWP.block (by kernel_rfl) ?_
  refine CWP.loop (by kernel_rfl) (fun m f w => ∃ (done : List (List Int)) (F1 : Mem) (e1 : Option Nat × Obj), iter (clocks_each_int_L0 N x0 x1) m done = some o ∧ HS w0 F0 w F1 [e1] ∧ Mem.le F0 F1 ∧ f.d = [] ∧ f 1 = .func (.func gx1) fx1.toArray kx1.toArray ∧ f 5 = .slice (some ⟨b, 0, none⟩) (gl k done).length cap ∧ f 14 = .slice a0_0 x0.Tracks.length n0_0 ∧ f 15 = .int .i64 (x0.Tracks.length : Int) ∧ f 16 = .int .i64 (done.length : Int) ∧ done.length ≤ k ∧ RowR (tGC tInt) 50 F1 (some ⟨b, 0, none⟩) cap (gl k done) e1) N ⟨[], F0, _, ho, hs3, Mem.le.refl _, rfl, rfl, rfl, rfl, rfl, rfl, by simp, hr2⟩ ?_
  rintro m f w ⟨done, F1, e1, hit, hs, hle0, hd, h1, h5, h14, h15, h16, hdk, hr1⟩
  obtain ⟨m1, fl, rfl, hb, hnx⟩ := iter_step hit
  unfold clocks_each_int_L0 at hb
  refine CWP.seq (by kernel_rfl) ?_
  refine CWP.region (l := [0]) (by kernel_rfl) (by kernel_rfl) (by kernel_rfl) ?_
  refine RWP.val (dst := (some 17)) (ty := 0) (g := none) (by kernel_rfl) rfl (run_lss (t := 3) (t' := 3) (x := (.tmp 16)) (y := (.tmp 15)) (k := .i64) (a := (done.length : Int)) (b := (x0.Tracks.length : Int)) h16 h15) ?_
  refine RWP.nil ?_
  refine thenQ_nrm ?_
  refine CWP.seq (by kernel_rfl) ?_
  refine CWP.cond (t := decide ((done.length : Int) < (x0.Tracks.length : Int))) (by kernel_rfl) rfl (fun hc => ?_) (fun hc => ?_)
  rotate_left
  ·refine CWP.exit (by kernel_rfl) ?_
   refine thenQ_ex ?_
   refine thenQ_ex ?_
   refine blockQ_hit rfl ?_
   have hb := cond_f hb hc
   have ho' := iter_done hb hnx
   have hlen : done.length = k := by
    have : ¬ ((done.length : Int) < (x0.Tracks.length : Int)) := by simpa using hc
    rw [hk] at this; omega
   exact .inl ⟨rfl, done, F1, e1, ho', hs, hle0, hd, h5, hlen, hr1⟩
  ·have hb := cond_t hb hc
   have hdk : done.length < k := by
    have : ((done.length : Int) < (x0.Tracks.length : Int)) := by simpa using hc
    rw [hk] at this; omega
   obtain ⟨t, ht, hb⟩ := bind_some hb
   obtain ⟨o2, ho2, hb⟩ := bind_some hb
   obtain ⟨sE, rfl⟩ := clocks_each_int_inner ho2
   obtain ⟨hti, ht'⟩ := idx_spec ht
   refine CWP.skip (by kernel_rfl) ?_
   refine thenQ_nrm ?_
   refine CWP.seq (by kernel_rfl) ?_
   refine CWP.block (by kernel_rfl) ?_
   refine CWP.seq (by kernel_rfl) ?_
   obtain ⟨bT, oT, CT, ET, fT, haT, hFT, hET⟩ := SlA.open (hs0_0.mono hle0) ht'
   obtain ⟨at1, nt1, at2, nt2, hcT, hlt1, hst1, hlt2, hst2⟩ := hET _ _ ht'
   refine CWP.region (l := [0, 1, 2, 3, 4, 5]) (by kernel_rfl) (by kernel_rfl) (by kernel_rfl) ?_
   refine RWP.val (dst := (some 18)) (ty := 3) (g := none) (by kernel_rfl) rfl (run_move (x := (.tmp 16)) (v := (vi (done.length : Int))) h16) ?_
   refine RWP.val (dst := (some 19)) (ty := 0) (g := none) (by kernel_rfl) rfl (run_index (t := 22) (x := (.tmp 14)) (y := (.tmp 16)) (b := bT) (o := oT) (E := 54) (s := 4) (by_ := 64) (i := (done.length : Int)) (haT ▸ h14) h16 (by kernel_rfl) hti) ?_
   refine RWP.val (dst := (some 20)) (ty := 54) (g := none) (by kernel_rfl) rfl (run_loadE (t := 54) (x := (.tmp 19)) (b := bT) (o := oT + (done.length : Int).toNat * 4) (j := 0) (C := CT) (kk := 4) (cs := [(vi t.Clock.Slip), (vi t.Clock.Drift), (.slice at1 t.Clock.Jumps.length nt1), (.slice at2 t.Times.length nt2)]) (gg := true) (s := 4) (v := (.agg (kTrack t at1 nt1 at2 nt2))) rfl (by kernel_rfl) (hs.pers _ _ hFT) hcT (by decide) (by exact ⟨rfl, trivial⟩) rfl rfl) ?_
   refine RWP.alloc (dst := (some 7)) (ty := 0) (g := none) (by kernel_rfl) rfl (t := 54) (z := (.agg #[(vi 0), (vi 0), (.slice none 0 0), (.slice none 0 0)])) (by kernel_rfl) (C := #[(vi 0), (vi 0), (.slice none 0 0), (.slice none 0 0)]) rfl hs (fun bt w4 hs4 => ?_)
   refine RWP.val (dst := (some 6)) (ty := 3) (g := none) (by kernel_rfl) rfl (run_assign (x := (.tmp 18)) (v := (vi (done.length : Int))) rfl) ?_
   refine RWP.store (ty := 0) (g := none) (by kernel_rfl) rfl (x := (.tmp 7)) (y := (.tmp 20)) (t := 54) (gg := true) (s := 4) (v := (.agg (kTrack t at1 nt1 at2 nt2))) (b := bt) (o := 0) (C := #[(vi 0), (vi 0), (.slice none 0 0), (.slice none 0 0)]) rfl rfl (by kernel_rfl) hs4 (k := 0) rfl rfl rfl rfl (C' := (kTrack t at1 nt1 at2 nt2)) rfl (fun w5 hs5 => ?_)
   refine RWP.nil ?_
   refine thenQ_nrm ?_
   refine CWP.seq (by kernel_rfl) ?_
   refine CWP.region (l := [0, 1, 2, 3]) (by kernel_rfl) (by kernel_rfl) (by kernel_rfl) ?_
   refine RWP.val (dst := (some 21)) (ty := 0) (g := none) (by kernel_rfl) rfl (run_fieldAddr (s := 54) (x := (.tmp 7)) (i := 1) (o := 3) (k := 1) (b := bt) (o0 := 0) rfl (by kernel_rfl) rfl (o1 := 3) rfl) ?_
   refine RWP.val (dst := (some 22)) (ty := 50) (g := none) (by kernel_rfl) rfl (run_load' (t := 50) (x := (.tmp 21)) (b := bt) (o := 3) (g := false) (s := 1) (C := (kTrack t at1 nt1 at2 nt2)) (v := (.slice at2 t.Times.length nt2)) rfl (by kernel_rfl) (hs5.ownAt (k := 0) rfl) rfl rfl rfl) ?_
   refine RWP.val (dst := (some 23)) (ty := 3) (g := none) (by kernel_rfl) rfl (run_len_slice' (x := (.tmp 22)) (ats := #[50]) (a := at2) (n := t.Times.length) (c := nt2) (E := 3) (s := 1) (by_ := 8) rfl rfl (by kernel_rfl)) ?_
   refine RWP.val (dst := (some 24)) (ty := 3) (g := none) (by kernel_rfl) rfl (run_move (x := (.const (vi 0))) (v := (vi 0)) rfl) ?_
   refine RWP.nil ?_
   refine thenQ_nrm ?_
   rw [gl_gc hdk] at hr1
   have h5' : f 5 = .slice (some ⟨b, 0, none⟩) (gc k done nilv).length cap := by rw [h5, gl_len (by omega), gc_len hdk]
   have hs6 : HS w0 F0 w5 F1 [e1, (none, .cells #[] 0 (0, 0))] := ((hs5.drop 0).dummy (oc #[] 0)).swap (A := [(none, .cells #[] 0 (0, 0))]) (B := [e1])
   refine CWP.cut (fun f w => ∃ (F2 : Mem) (e1 e2 : Option Nat × Obj) (a2 : Option Addr) (c2 : Nat), HS w0 F0 w F2 [e1, e2] ∧ Mem.le F1 F2 ∧ f.d = [] ∧ f 1 = .func (.func gx1) fx1.toArray kx1.toArray ∧ f 5 = .slice (some ⟨b, 0, none⟩) (gc k done (.slice a2 sE.2.length c2)).length cap ∧ f 14 = .slice a0_0 x0.Tracks.length n0_0 ∧ f 15 = .int .i64 (x0.Tracks.length : Int) ∧ f 16 = .int .i64 (done.length : Int) ∧ RowR (tGC tInt) 50 F2 (some ⟨b, 0, none⟩) cap (gc k done (.slice a2 sE.2.length c2)) e1 ∧ RowR tInt 3 F2 a2 c2 sE.2 e2) ?_ ?_
   ·
    refine CWP.block (by kernel_rfl) ?_
    refine CWP.loop (by kernel_rfl) (fun m f w => ∃ (s2 : Int × List Int) (F2 : Mem) (e1 e2 : Option Nat × Obj) (a2 : Option Addr) (c2 : Nat), iter (clocks_each_int_L1 N x1 (done.length : Int) t) m s2 = some (.done sE) ∧ HS w0 F0 w F2 [e1, e2] ∧ Mem.le F1 F2 ∧ f.d = [] ∧ f 1 = .func (.func gx1) fx1.toArray kx1.toArray ∧ f 5 = .slice (some ⟨b, 0, none⟩) (gc k done (.slice a2 s2.2.length c2)).length cap ∧ f 6 = .int .i64 (done.length : Int) ∧ f 14 = .slice a0_0 x0.Tracks.length n0_0 ∧ f 15 = .int .i64 (x0.Tracks.length : Int) ∧ f 16 = .int .i64 (done.length : Int) ∧ f 23 = .int .i64 (t.Times.length : Int) ∧ f 24 = .int .i64 s2.1 ∧ RowR (tGC tInt) 50 F2 (some ⟨b, 0, none⟩) cap (gc k done (.slice a2 s2.2.length c2)) e1 ∧ RowR tInt 3 F2 a2 c2 s2.2 e2) N ⟨(0, []), F1, _, _, none, 0, ho2, hs6, Mem.le.refl _, hd, h1, h5', rfl, h14, h15, h16, rfl, rfl, hr1, RowR.nil _ _ _ _⟩ ?_
    rintro m f w ⟨s2, F2, e1, e2, a2, c2, hit2, hs, hle2, hd, h1, h5, h6, h14, h15, h16, h23, h24, hr1, hr2⟩
    obtain ⟨m2, fl2, rfl, hb2, hnx2⟩ := iter_step hit2
    unfold clocks_each_int_L1 at hb2
    refine CWP.seq (by kernel_rfl) ?_
    refine CWP.region (l := [0]) (by kernel_rfl) (by kernel_rfl) (by kernel_rfl) ?_
    refine RWP.val (dst := (some 25)) (ty := 0) (g := none) (by kernel_rfl) rfl (run_lss (t := 3) (t' := 3) (x := (.tmp 24)) (y := (.tmp 23)) (k := .i64) (a := s2.1) (b := (t.Times.length : Int)) h24 h23) ?_
    refine RWP.nil ?_
    refine thenQ_nrm ?_
    refine CWP.seq (by kernel_rfl) ?_
    refine CWP.cond (t := decide (s2.1 < (t.Times.length : Int))) (by kernel_rfl) rfl (fun hc2 => ?_) (fun hc2 => ?_)
    rotate_left
    ·refine CWP.exit (by kernel_rfl) ?_
     refine thenQ_ex ?_
     refine thenQ_ex ?_
     refine blockQ_hit rfl ?_
     have hb2 := cond_f hb2 hc2
     have ho' := iter_done hb2 hnx2
     cases ho'
     exact .inl ⟨rfl, F2, e1, e2, a2, c2, hs, hle2, hd, h1, h5, h14, h15, h16, hr1, hr2⟩
    ·have hb2 := cond_t hb2 hc2
     obtain ⟨r, hr, hb2⟩ := bind_some hb2
     obtain ⟨row, hap, hb2⟩ := bind_some hb2
     refine CWP.skip (by kernel_rfl) ?_
     refine thenQ_nrm ?_
     refine CWP.seq (by kernel_rfl) ?_
     refine CWP.block (by kernel_rfl) ?_
     refine CWP.seq (by kernel_rfl) ?_
     refine CWP.region (l := [0, 1]) (by kernel_rfl) (by kernel_rfl) (by kernel_rfl) ?_
     refine RWP.val (dst := (some 26)) (ty := 3) (g := none) (by kernel_rfl) rfl (run_move (x := (.tmp 24)) (v := (vi s2.1)) h24) ?_
     refine RWP.val (dst := (some 8)) (ty := 3) (g := none) (by kernel_rfl) rfl (run_assign (x := (.tmp 26)) (v := (vi s2.1)) rfl) ?_
     refine RWP.nil ?_
     refine thenQ_nrm ?_
     obtain ⟨b', C, hab, rfl, hE⟩ := RowR.open hr1 gc_get
     cases hab
     have hcell := hE _ _ gc_get
     refine CWP.regionD (by kernel_rfl) (by kernel_rfl) (by kernel_rfl) (by kernel_rfl) (z := 14) (F := F2) (Lc := []) (Lz := [(some b, .cells C 50 (0, 0))]) (l := [false, false, false, false, false, false, false, false, false, false, false, false, false, false, false]) (fuel := 15) (by kernel_rfl) (by kernel_rfl) hs (by simp) (by simp)
      (fun f w => ∃ (row' : List Int) (F3 : Mem) (e1 e2 : Option Nat × Obj) (a2 : Option Addr) (c2 : Nat), some row = some row' ∧ HS w0 F0 w F3 [e1, e2] ∧ Mem.le F2 F3 ∧ f.d = [] ∧ f 1 = .func (.func gx1) fx1.toArray kx1.toArray ∧ f 5 = .slice (some ⟨b, 0, none⟩) (gc k done (.slice a2 row'.length c2)).length cap ∧ f 6 = .int .i64 (done.length : Int) ∧ f 14 = .slice a0_0 x0.Tracks.length n0_0 ∧ f 15 = .int .i64 (x0.Tracks.length : Int) ∧ f 16 = .int .i64 (done.length : Int) ∧ f 23 = .int .i64 (t.Times.length : Int) ∧ f 24 = .int .i64 s2.1 ∧ RowR (tGC tInt) 50 F3 (some ⟨b, 0, none⟩) cap (gc k done (.slice a2 row'.length c2)) e1 ∧ RowR tInt 3 F3 a2 c2 row' e2) (fun wd hsw => ?_) ?_
     ·
      refine DWP.take (i := 0) (v := (.slice (some ⟨b, 0, none⟩) (gc k done (.slice a2 s2.2.length c2)).length cap)) (zd := false) (dst := (some 27)) (ty := 71) (g := none) (by kernel_rfl) (by kernel_rfl) (by kernel_rfl) (by kernel_rfl) (by kernel_rfl) rfl (fun wq hq => (run_move (x := (.tmp 5)) (v := (.slice (some ⟨b, 0, none⟩) (gc k done (.slice a2 s2.2.length c2)).length cap)) h5)) (l' := [true, false, false, false, false, false, false, false, false, false, false, false, false, false, false]) (by kernel_rfl) ?_
      refine DWP.take (i := 1) (v := (vi (done.length : Int))) (zd := false) (dst := (some 28)) (ty := 3) (g := none) (by kernel_rfl) (by kernel_rfl) (by kernel_rfl) (by kernel_rfl) (by kernel_rfl) rfl (fun wq hq => (run_move (x := (.tmp 6)) (v := (vi (done.length : Int))) h6)) (l' := [true, true, false, false, false, false, false, false, false, false, false, false, false, false, false]) (by kernel_rfl) ?_
      refine DWP.take (i := 2) (v := (.slice (some ⟨b, 0, none⟩) (gc k done (.slice a2 s2.2.length c2)).length cap)) (zd := false) (dst := (some 29)) (ty := 71) (g := none) (by kernel_rfl) (by kernel_rfl) (by kernel_rfl) (by kernel_rfl) (by kernel_rfl) rfl (fun wq hq => (run_move (x := (.tmp 5)) (v := (.slice (some ⟨b, 0, none⟩) (gc k done (.slice a2 s2.2.length c2)).length cap)) h5)) (l' := [true, true, true, false, false, false, false, false, false, false, false, false, false, false, false]) (by kernel_rfl) ?_
      refine DWP.take (i := 3) (v := (vi (done.length : Int))) (zd := false) (dst := (some 30)) (ty := 3) (g := none) (by kernel_rfl) (by kernel_rfl) (by kernel_rfl) (by kernel_rfl) (by kernel_rfl) rfl (fun wq hq => (run_move (x := (.tmp 6)) (v := (vi (done.length : Int))) h6)) (l' := [true, true, true, true, false, false, false, false, false, false, false, false, false, false, false]) (by kernel_rfl) ?_
      refine DWP.take (i := 4) (v := (.pointer (some ⟨b, done.length * 1, none⟩))) (zd := false) (dst := (some 31)) (ty := 0) (g := none) (by kernel_rfl) (by kernel_rfl) (by kernel_rfl) (by kernel_rfl) (by kernel_rfl) rfl (fun wq hq => (run_index0 (t := 71) (x := (.tmp 29)) (y := (.tmp 30)) (b := b) (E := 50) (s := 1) (by_ := 24) (j := (done.length : Int)) rfl rfl (by kernel_rfl) ⟨by omega, by rw [gc_len hdk]; omega⟩)) (l' := [true, true, true, true, true, false, false, false, false, false, false, false, false, false, false]) (by kernel_rfl) ?_
      refine DWP.take (i := 5) (v := (.slice a2 s2.2.length c2)) (zd := false) (dst := (some 32)) (ty := 50) (g := none) (by kernel_rfl) (by kernel_rfl) (by kernel_rfl) (by kernel_rfl) (by kernel_rfl) rfl (fun wq hq => (run_loadE (t := 50) (x := (.tmp 31)) (b := b) (o := done.length * 1) (j := 0) (C := C) (kk := 1) (cs := [(.slice a2 s2.2.length c2)]) (gg := false) (s := 1) (v := (.slice a2 s2.2.length c2)) rfl (by kernel_rfl) ((hq.2 rfl).2 0 _ _ rfl) hcell (by decide) (by exact ⟨rfl, trivial⟩) rfl rfl)) (l' := [true, true, true, true, true, true, false, false, false, false, false, false, false, false, false]) (by kernel_rfl) ?_
      refine DWP.take (i := 6) (v := (.func (.func gx1) fx1.toArray kx1.toArray)) (zd := false) (dst := (some 33)) (ty := 114) (g := none) (by kernel_rfl) (by kernel_rfl) (by kernel_rfl) (by kernel_rfl) (by kernel_rfl) rfl (fun wq hq => (run_move (x := (.tmp 1)) (v := (.func (.func gx1) fx1.toArray kx1.toArray)) h1)) (l' := [true, true, true, true, true, true, true, false, false, false, false, false, false, false, false]) (by kernel_rfl) ?_
      refine DWP.take (i := 7) (v := (vi (done.length : Int))) (zd := false) (dst := (some 34)) (ty := 3) (g := none) (by kernel_rfl) (by kernel_rfl) (by kernel_rfl) (by kernel_rfl) (by kernel_rfl) rfl (fun wq hq => (run_move (x := (.tmp 6)) (v := (vi (done.length : Int))) h6)) (l' := [true, true, true, true, true, true, true, true, false, false, false, false, false, false, false]) (by kernel_rfl) ?_
      refine DWP.take (i := 8) (v := (vi s2.1)) (zd := false) (dst := (some 35)) (ty := 3) (g := none) (by kernel_rfl) (by kernel_rfl) (by kernel_rfl) (by kernel_rfl) (by kernel_rfl) rfl (fun wq hq => (run_move (x := (.tmp 8)) (v := (vi s2.1)) rfl)) (l' := [true, true, true, true, true, true, true, true, true, false, false, false, false, false, false]) (by kernel_rfl) ?_
      refine DWP.take (i := 9) (v := (.agg #[(vi (done.length : Int)), (vi s2.1)])) (zd := false) (dst := (some 36)) (ty := 27) (g := none) (by kernel_rfl) (by kernel_rfl) (by kernel_rfl) (by kernel_rfl) (by kernel_rfl) rfl (fun wq hq => (run_build2 (t := 27) (parts := #[(0, (.tmp 34)), (1, (.tmp 35))]) (vs := [(0, (vi (done.length : Int))), (1, (vi s2.1))]) (rfl) (cs := [(vi (done.length : Int)), (vi s2.1)]) (by kernel_rfl))) (l' := [true, true, true, true, true, true, true, true, true, true, false, false, false, false, false]) (by kernel_rfl) ?_
      refine DWP.one (i := 10) (by kernel_rfl) ?_
      refine DStep.call (l' := [true, true, true, true, true, true, true, true, true, true, true, false, false, false, false]) (zd := false) (by kernel_rfl) (by kernel_rfl) (by kernel_rfl) (dst := (some 37)) (ty := 3) (g := none) (by kernel_rfl) rfl (f0 := (.tmp 33)) (aos := #[(.tmp 36)]) (ats := #[27]) (fid := gx1) (first := fx1.toArray) (cap := kx1.toArray) (args := (fx1 ++ (([(.agg #[(vi (done.length : Int)), (vi s2.1)])] : List Value) ++ kx1))) rfl hox1 (app_args2 (l := [(.agg #[(vi (done.length : Int)), (vi s2.1)])]) (fi := fx1) (k := kx1) (rfl)) hsw (hpx1 wd F2 ({ Log := (done.length : Int), Line := s2.1 } : Ref) _ (hle0.trans hle2) hsw.pers hr) ?_
      intro v F3 w3 hs3 le3 hp
      obtain rfl := hp
      refine DWP.one (i := 11) (by kernel_rfl) ?_
      refine DStep.buildSlice (l' := [true, true, true, true, true, true, true, true, true, true, true, true, false, false, false]) (zd := false) (by kernel_rfl) (by kernel_rfl) (dst := (some 38)) (ty := 50) (g := none) (by kernel_rfl) rfl (t := 50) (len := 1) (parts := #[(0, (.tmp 37))]) (vs := [(0, (vi r))]) (rfl) (E := 3) (cs := [(vi r)]) (by kernel_rfl) hs3 le3 (by simp) (fun _ => by simp) (fun b3 w4 (hs4 : HS w0 F0 w4 F3 [(some b3, .cells ([(vi r)] : List Value).toArray 3 (0, 0)), (some b, .cells C 50 (0, 0)), e2]) => ?_)
      have hr4 : RowR tInt 3 F3 (some ⟨b3, 0, none⟩) 1 [r] (some b3, .cells ([(vi r)] : List Value).toArray 3 (0, 0)) := RowR.lit ⟨rfl, rfl⟩ (by simp)
      refine DWP.one (i := 12) (by kernel_rfl) ?_
      refine DStep.append (l' := [true, true, true, true, true, true, true, true, true, true, true, true, true, false, false]) (zd := false) (by kernel_rfl) (by kernel_rfl) (dst := (some 39)) (ty := 50) (g := none) (by kernel_rfl) rfl (x := (.tmp 32)) (y := (.tmp 38)) (t := 50) (t2 := 50) (by_ := 8) (z := (vi 0)) (a2 := (some ⟨b3, 0, none⟩)) (c2 := 1) (m := [r]) (T := tInt) (E := 3) (a := a2) (cap := c2) (l := s2.2) rfl rfl (by kernel_rfl) (by decide) (by kernel_rfl) (by kernel_rfl) rfl oInt hs4 (k := 2) rfl (hr2.mono le3) (RowR.rd hs4 (k := 0) rfl hr4) (r := row) hap le3 (fun _ => by simp) (fun _ _ => by simp) (fun a5 n5 e5 w5 (hs5 : HS w0 F0 w5 F3 [(some b3, .cells ([(vi r)] : List Value).toArray 3 (0, 0)), (some b, .cells C 50 (0, 0)), e5]) hr5 => ?_)
      refine DWP.one (i := 13) (by kernel_rfl) ?_
      refine DStep.val (l' := [true, true, true, true, true, true, true, true, true, true, true, true, true, true, false]) (zd := false) (by kernel_rfl) (by kernel_rfl) (dst := (some 40)) (ty := 0) (g := none) (by kernel_rfl) rfl (v := (.pointer (some ⟨b, done.length * 1, none⟩))) (run_index0 (t := 71) (x := (.tmp 27)) (y := (.tmp 28)) (b := b) (E := 50) (s := 1) (by_ := 24) (j := (done.length : Int)) rfl rfl (by kernel_rfl) ⟨by omega, by rw [gc_len hdk]; omega⟩) (dz_of hs5 le3 (by simp) (fun _ => by simp)) ?_
      refine DWP.one (i := 14) (by kernel_rfl) ?_
      refine DStep.storeRow (l' := [true, true, true, true, true, true, true, true, true, true, true, true, true, true, true]) (zd := true) (by kernel_rfl) (by kernel_rfl) (ty := 0) (g := none) (by kernel_rfl) rfl (x := (.tmp 40)) (y := (.tmp 39)) (t := 50) (v := (.slice a5 row.length n5)) (gg := false) (b := b) (j := done.length) (C := C) (T := tGC tInt) (E := 50) (u := .raw (.slice a5 row.length n5)) rfl rfl (by kernel_rfl) hs5 (k := 1) rfl (hr1.mono le3) gc_get rfl rfl le3 (fun _ => by simp) (fun e => by cases e) (fun C6 w6 (hs6 : HS w0 F0 w6 F3 [(some b3, .cells ([(vi r)] : List Value).toArray 3 (0, 0)), (some b, .cells C6 50 (0, 0)), e5]) hr6 => ?_)
      rw [gc_set] at hr6
      exact DWP.done (by kernel_rfl) ⟨row, F3, _, e5, a5, n5, rfl, hs6.drop 0, le3, hd, h1, by show f 5 = _; rw [h5, gc_len hdk, gc_len hdk], h6, h14, h15, h16, h23, h24, hr6, hr5⟩
     ·rintro f w ⟨row', F3, e1, e2, a2, c2, hrow, hs, le3, hd, h1, h5, h6, h14, h15, h16, h23, h24, hr1, hr2⟩
      cases hrow
      refine blockQ_nrm ?_
      refine thenQ_nrm ?_
      refine CWP.region (l := [0, 1]) (by kernel_rfl) (by kernel_rfl) (by kernel_rfl) ?_
      refine RWP.val (dst := (some 41)) (ty := 3) (g := none) (by kernel_rfl) rfl (run_add (t := 3) (t' := 3) (x := (.tmp 24)) (y := (.const (vi 1))) (k := .i64) (a := s2.1) (b := 1) h24 rfl) ?_
      refine RWP.val (dst := (some 24)) (ty := 3) (g := none) (by kernel_rfl) rfl (run_move (x := (.tmp 41)) (v := (vi (W64 (s2.1 + 1)))) rfl) ?_
      refine RWP.nil ?_
      have hn := iter_next hb2 hnx2
      exact ⟨m2, Nat.lt_succ_self _, (W64 (s2.1 + 1), row), F3, e1, e2, a2, c2, hn, hs, hle2.trans le3, hd, h1, h5, h6, h14, h15, h16, h23, rfl, hr1, hr2⟩
   ·rintro f w ⟨F2, e1, e2, a2, c2, hs, hle2, hd, h1, h5, h14, h15, h16, hr1, hr2⟩
    refine blockQ_nrm ?_
    refine thenQ_nrm ?_
    refine CWP.region (l := [0, 1]) (by kernel_rfl) (by kernel_rfl) (by kernel_rfl) ?_
    refine RWP.val (dst := (some 42)) (ty := 3) (g := none) (by kernel_rfl) rfl (run_add (t := 3) (t' := 3) (x := (.tmp 16)) (y := (.const (vi 1))) (k := .i64) (a := (done.length : Int)) (b := 1) h16 rfl) ?_
    refine RWP.val (dst := (some 16)) (ty := 3) (g := none) (by kernel_rfl) rfl (run_move (x := (.tmp 42)) (v := (vi (W64 ((done.length : Int) + 1)))) rfl) ?_
    refine RWP.nil ?_
    have hb0 := RowR.bound hr2
    obtain ⟨F3, hs3, le3, hsl⟩ : ∃ Fq, HS w0 F0 w Fq [e1] ∧ Mem.le F2 Fq ∧ SlA tInt Fq a2 sE.2 := HS.freezeRow hs (k := 1) rfl hr2
    have hr3 := gc_fin hdk (hr1.mono le3) hb0 hsl
    have hn := iter_next hb hnx
    refine ⟨m1, Nat.lt_succ_self _, done ++ [sE.2], F3, e1, hn, hs3, (hle0.trans hle2).trans le3, hd, h1, ?_, h14, h15, ?_, by simp; omega, hr3⟩
    ·show f 5 = _
     rw [h5, gc_len hdk, gl_len (by simp; omega)]
    ·show Value.int .i64 (W64 ((done.length : Int) + 1)) = _
     rw [W64_id (by omega) (by omega)]; simp
 ·rintro f w ⟨done, F1, e1, rfl, hs, hle0, hd, h5, hdk, hr1⟩
  refine thenQ_nrm ?_
  cases h
  have hr2 := gl_done hdk hr1
  have hb0 := RowR.bound hr2
  obtain ⟨F2, hs2, le2, hsl⟩ : ∃ Fq, HS w0 F0 w Fq [] ∧ Mem.le F1 Fq ∧ SlA (tSl tInt) Fq (some ⟨b, 0, none⟩) r := HS.freezeRow hs (k := 0) rfl hr2
  have h5' : f 5 = .slice (some ⟨b, 0, none⟩) r.length cap := by rw [h5, gl_len (by omega), hdk]
  refine CWP.seq (by kernel_rfl) ?_
  refine CWP.region (l := [0, 1]) (by kernel_rfl) (by kernel_rfl) (by kernel_rfl) ?_
  refine RWP.val (dst := (some 43)) (ty := 71) (g := none) (by kernel_rfl) rfl (run_move (x := (.tmp 5)) (v := (.slice (some ⟨b, 0, none⟩) r.length cap)) h5') ?_
  refine RWP.val (dst := (some 4)) (ty := 71) (g := none) (by kernel_rfl) rfl (run_assign (x := (.tmp 43)) (v := (.slice (some ⟨b, 0, none⟩) r.length cap)) rfl) ?_
  refine RWP.nil ?_
  refine thenQ_nrm ?_
  refine CWP.ret (by kernel_rfl) ?_
  exact ⟨hd, (.slice (some ⟨b, 0, none⟩) r.length cap), res_of (l := [.tmp 4]) (by kernel_rfl) (vs := [(.slice (some ⟨b, 0, none⟩) r.length cap)]) ⟨rfl, trivial⟩, (.slice (some ⟨b, 0, none⟩) r.length cap), F2, rfl, hs2.clear, ⟨_, _, rfl, hb0, hsl⟩⟩
end Go.Proofs.Ythbcnabeabcmlaa
namespace Go.Proofs.Ythbcnabeabcmlaa
open Go.Proofs
def clocks_Earliest (N : Nat) (x0 : System) : Option ((List (List Int)) × Int) :=
 ((clocks_solved N x0).bind fun r4 => (bif (r4.2.2 != 0) then some (([] : List (List Int)), r4.2.2) else ((clocks_each_int N x0 (fun y0 => clocks_Earliest_1 N y0 r4.2.1)).bind fun r28 => some (r28, 0))))
theorem co_clocks_Earliest : CallOk Try.prog 48 := fun _ _ => by kernel_rfl
set_option maxHeartbeats 4000000 in
set_option maxRecDepth 100000 in
theorem c_clocks_Earliest (N : Nat) (w0 : World) (F0 : Mem) (hF : ∀ b o, F0 b = some o → w0.heap[b]? = some o) (x0 : System) (a0_0 : Option Addr) (n0_0 : Nat) (hb0_0 : LC x0.Tracks.length n0_0) (hs0_0 : SlA tTrack F0 a0_0 x0.Tracks) (a0_1 : Option Addr) (n0_1 : Nat) (hb0_1 : LC x0.Ties.length n0_1) (hs0_1 : SlA tTie F0 a0_1 x0.Ties) (r : ((List (List Int)) × Int)) (h : clocks_Earliest N x0 = some r) :
  Calls Try.prog 48 ([(.agg (kSystem x0 a0_0 n0_0 a0_1 n0_1))] : List Value).toArray w0 (FRet w0 F0 fun F' v => ∃ (aq0_0 : Option Addr) (nq0_0 : Nat), v = (.tuple #[(.slice aq0_0 r.1.length nq0_0), (vi r.2)]) ∧ LC r.1.length nq0_0 ∧ SlA (tSl tInt) F' aq0_0 r.1) := by
 have hs0 := HS.start hF
 refine calls_of (n := 19) (c := bodyOf Try.f48) Try.func48 (by kernel_rfl) (by kernel_rfl) (by kernel_rfl) ?_
 refine Sq (Rg [0, 1, 2] ?_)
 refine Bx 1 0 0 25 (kSystem x0 a0_0 n0_0 a0_1 n0_1) hs0 (fun b1 w2 (hs3 : HS w0 F0 w2 F0 [(sb b1 (kSystem x0 a0_0 n0_0 a0_1 n0_1) 25)]) => ?_)
 refine V 2 71 (mc (.slice none 0 0) (.slice none ([] : List (List Int)).length 0)) ?_
 refine V 3 30 (mc (vi 0) (vi 0)) ?_
 refine Nss (Rg [0, 1, 2, 3, 4, 5, 6, 7, 8, 9, 10] ?_)
 refine V 8 25 (ld 25 1 b1 0 true 3 (.agg (kSystem x0 a0_0 n0_0 a0_1 n0_1)) (hs3.ownAt (k := 0) rfl)) ?_
 obtain ⟨r4, hr5, h6⟩ := bind_some h
 refine Cl 9 96 71 #[(.tmp 8)] #[25] co_clocks_solved hs3 (c_clocks_solved N w2 F0 hs3.pers (x0) a0_0 n0_0 hb0_0 hs0_0 a0_1 n0_1 hb0_1 hs0_1 _ hr5) ?_
 intro v7 F1 w8 hs9 le10 hp11
 obtain ⟨or4_0_0, or4_0_1, or4_1_0, or4_1_1, rfl, hmr4_0_0, hmr4_0_1, hmr4_1_0, hmr4_1_1⟩ := hp11
 refine V 7 96 (mv 9 (.tuple #[(.agg #[(.map or4_0_0), (.map or4_0_1)]), (.agg #[(.map or4_1_0), (.map or4_1_1)]), (vi r4.2.2)])) ?_
 refine V 10 95 (ex 7 0 (.agg #[(.map or4_0_0), (.map or4_0_1)]) (vs := #[(.agg #[(.map or4_0_0), (.map or4_0_1)]), (.agg #[(.map or4_1_0), (.map or4_1_1)]), (vi r4.2.2)])) ?_
 refine V 11 95 (ex 7 1 (.agg #[(.map or4_1_0), (.map or4_1_1)]) (vs := #[(.agg #[(.map or4_0_0), (.map or4_0_1)]), (.agg #[(.map or4_1_0), (.map or4_1_1)]), (vi r4.2.2)])) ?_
 refine V 12 30 (ex 7 2 (vi r4.2.2) (vs := #[(.agg #[(.map or4_0_0), (.map or4_0_1)]), (.agg #[(.map or4_1_0), (.map or4_1_1)]), (vi r4.2.2)])) ?_
 refine Al 4 0 95 #[(.map none), (.map none)] hs9 (fun b12 w13 (hs14 : HS w0 F0 w13 F1 [(sb b12 #[(.map none), (.map none)] 95), (sb b1 (kSystem x0 a0_0 n0_0 a0_1 n0_1) 25)]) => ?_)
 refine Al 5 0 95 #[(.map none), (.map none)] hs14 (fun b15 w16 (hs17 : HS w0 F0 w16 F1 [(sb b15 #[(.map none), (.map none)] 95), (sb b12 #[(.map none), (.map none)] 95), (sb b1 (kSystem x0 a0_0 n0_0 a0_1 n0_1) 25)]) => ?_)
 refine RWP.store (ty := 0) (g := none) (by kernel_rfl) rfl (x := (.tmp 4)) (y := (.tmp 10)) (t := 95) (gg := true) (s := 2) (v := (.agg #[(.map or4_0_0), (.map or4_0_1)])) (b := b12) (o := 0) (C := #[(.map none), (.map none)]) rfl rfl (by kernel_rfl) hs17 (k := 1) rfl rfl rfl rfl (C' := #[(.map or4_0_0), (.map or4_0_1)]) rfl (fun w18 (hs19 : HS w0 F0 w18 F1 [(sb b15 #[(.map none), (.map none)] 95), (sb b12 #[(.map or4_0_0), (.map or4_0_1)] 95), (sb b1 (kSystem x0 a0_0 n0_0 a0_1 n0_1) 25)]) => ?_)
 refine RWP.store (ty := 0) (g := none) (by kernel_rfl) rfl (x := (.tmp 5)) (y := (.tmp 11)) (t := 95) (gg := true) (s := 2) (v := (.agg #[(.map or4_1_0), (.map or4_1_1)])) (b := b15) (o := 0) (C := #[(.map none), (.map none)]) rfl rfl (by kernel_rfl) hs19 (k := 0) rfl rfl rfl rfl (C' := #[(.map or4_1_0), (.map or4_1_1)]) rfl (fun w20 (hs21 : HS w0 F0 w20 F1 [(sb b15 #[(.map or4_1_0), (.map or4_1_1)] 95), (sb b12 #[(.map or4_0_0), (.map or4_0_1)] 95), (sb b1 (kSystem x0 a0_0 n0_0 a0_1 n0_1) 25)]) => ?_)
 refine V 6 30 (ma 12 (vi r4.2.2)) ?_
 refine Nss ?_
 refine Sq (Rg [0, 1] ?_)
 refine V 13 30 (mv 6 (vi r4.2.2)) ?_
 refine V 14 4 (run_neq (t := 30) (t' := 30) (x := (.tmp 13)) (y := (.const (vi 0))) (k := .i64) (a := r4.2.2) (b := 0) rfl rfl) ?_
 refine Nt ?_
 refine CWP.cond (t := (r4.2.2 != 0)) (by kernel_rfl) rfl (fun hb22 => ?_) (fun hb22 => ?_)
 ·have h23 := cond_t h6 hb22
  refine Sq (Rg [0, 1, 2] ?_)
  refine V 15 30 (mv 6 (vi r4.2.2)) ?_
  refine V 2 71 (mc (.slice none 0 0) (.slice none ([] : List (List Int)).length 0)) ?_
  refine V 3 30 (ma 15 (vi r4.2.2)) ?_
  refine Nt ?_
  refine CWP.ret (by kernel_rfl) ?_
  refine thenQ_ret ?_
  have hfin := some_inj h23
  subst hfin
  exact ⟨rfl, (.tuple #[(.slice none ([] : List (List Int)).length 0), (vi r4.2.2)]), res_of (l := [.tmp 2, .tmp 3]) (by kernel_rfl) (vs := [(.slice none ([] : List (List Int)).length 0), (vi r4.2.2)]) ⟨rfl, ⟨rfl, trivial⟩⟩, (.tuple #[(.slice none ([] : List (List Int)).length 0), (vi r4.2.2)]), F1, rfl, hs21.clear, ⟨none, 0, rfl, LC.nil, (.inl rfl)⟩⟩
 ·have h24 := cond_f h6 hb22
  refine Sc ?_
  refine thenQ_nrm ?_
  refine Sq (Rg [0, 1, 2, 3, 4] ?_)
  refine V 16 25 (ld 25 1 b1 0 true 3 (.agg (kSystem x0 a0_0 n0_0 a0_1 n0_1)) (hs21.ownAt (k := 2) rfl)) ?_
  refine V 17 114 (run_makeFunc (fn := .func 95) (first := #[]) (cap := #[(.tmp 5)]) (fl := []) (cl := [(.pointer (some ⟨b15, 0, none⟩))]) rfl (rfl)) ?_
  obtain ⟨F2, hs25, le26, hF27⟩ : ∃ Fq, HS w0 F0 w20 Fq [(sb b12 #[(.map or4_0_0), (.map or4_0_1)] 95), (sb b1 (kSystem x0 a0_0 n0_0 a0_1 n0_1) 25)] ∧ Mem.le F1 Fq ∧ Fq b15 = some (oc #[(.map or4_1_0), (.map or4_1_1)] 95) := HS.freezeC hs21 (k := 0) rfl
  obtain ⟨r28, hr29, h30⟩ := bind_some h24
  refine Cl 18 71 94 #[(.tmp 16), (.tmp 17)] #[25, 114] co_clocks_each_int hs25 (c_clocks_each_int N w20 F2 hs25.pers (x0) a0_0 n0_0 hb0_0 (SlA.mono hs0_0 (le10.trans le26)) a0_1 n0_1 hb0_1 (SlA.mono hs0_1 (le10.trans le26)) 95 [] [(.pointer (some ⟨b15, 0, none⟩))] (fun y0 => clocks_Earliest_1 N y0 r4.2.1) co_clocks_Earliest_1 (fun w1 F1 y0 r le1 pe1 hr1 => c_clocks_Earliest_1 N w1 F1 pe1  y0 b15 r4.2.1 or4_1_0 (MpA.mono (MpA.mono hmr4_1_0 le26) le1) or4_1_1 (MpA.mono (MpA.mono hmr4_1_1 le26) le1) (le1 _ _ hF27) r hr1) _ hr29) ?_
  intro v31 F3 w32 hs33 le34 hp35
  obtain ⟨ar28_0_0, nr28_0_0, rfl, hbr28_0_0, hsr28_0_0⟩ := hp35
  refine V 2 71 (ma 18 (.slice ar28_0_0 r28.length nr28_0_0)) ?_
  refine V 3 30 (mc (vi 0) (vi 0)) ?_
  refine Nt ?_
  refine CWP.ret (by kernel_rfl) ?_
  have hfin := some_inj h30
  subst hfin
  exact ⟨rfl, (.tuple #[(.slice ar28_0_0 r28.length nr28_0_0), (vi 0)]), res_of (l := [.tmp 2, .tmp 3]) (by kernel_rfl) (vs := [(.slice ar28_0_0 r28.length nr28_0_0), (vi 0)]) ⟨rfl, ⟨rfl, trivial⟩⟩, (.tuple #[(.slice ar28_0_0 r28.length nr28_0_0), (vi 0)]), F3, rfl, hs33.clear, ⟨ar28_0_0, nr28_0_0, rfl, hbr28_0_0, hsr28_0_0⟩⟩
end Go.Proofs.Ythbcnabeabcmlaa
namespace Go.Proofs.Ythbcnabeabcmlaa
open Go.Proofs
def clocks_Latest_1 (N : Nat) (x0 : Ref) (z0 : Reached) : Option Int :=
 some (mgetD z0.at_ x0 0)
theorem co_clocks_Latest_1 : CallOk Try.prog 97 := fun _ _ => by kernel_rfl
set_option maxHeartbeats 4000000 in
set_option maxRecDepth 100000 in
theorem c_clocks_Latest_1 (N : Nat) (w0 : World) (F0 : Mem) (hF : ∀ b o, F0 b = some o → w0.heap[b]? = some o) (x0 : Ref) (bz0 : Nat) (z0 : Reached) (oz0_0 : Option Nat) (hmz0_0 : MpA tRef tInt F0 oz0_0 z0.at_) (oz0_1 : Option Nat) (hmz0_1 : MpA tRef tBound F0 oz0_1 z0.by_) (hz0 : F0 bz0 = some (oc #[(.map oz0_0), (.map oz0_1)] 95)) (r : Int) (h : clocks_Latest_1 N x0 z0 = some r) :
  Calls Try.prog 97 ([(.agg (kRef x0)), (.pointer (some ⟨bz0, 0, none⟩))] : List Value).toArray w0 (FRet w0 F0 fun F' v => v = (vi r)) := by
 have hs0 := HS.start hF
 refine calls_of (n := 8) (c := bodyOf Try.f97) Try.func97 (by kernel_rfl) (by kernel_rfl) (by kernel_rfl) ?_
 refine Sq (Rg [0, 1] ?_)
 refine Bx 2 0 0 27 (kRef x0) hs0 (fun b1 w2 (hs3 : HS w0 F0 w2 F0 [(sb b1 (kRef x0) 27)]) => ?_)
 refine V 3 3 (mc (vi 0) (vi 0)) ?_
 refine Nss (Rg [0, 1, 2, 3, 4] ?_)
 refine V 4 0 (fa 95 1 0 0 1 bz0 0 0) ?_
 refine V 5 92 (ld 92 4 bz0 0 false 1 (.map oz0_0) (hs3.pers _ _ hz0)) ?_
 refine V 6 27 (ld 27 2 b1 0 true 2 (.agg (kRef x0)) (hs3.ownAt (k := 0) rfl)) ?_
 refine V 7 3 (run_lookV1 (mt := 92) (k := 27) (vt := 3) (m := (.tmp 5)) (x := (.tmp 6)) (kv := (.agg (kRef x0))) (kx := x0) (z := (vi 0)) (zx := 0) (K := tRef) (T := tInt) kl27 rfl rfl ⟨_, rfl, rfl⟩ (by kernel_rfl) (by kernel_rfl) ⟨_, rfl, rfl⟩ (MpA.mpw hs3.pers hmz0_0) (fun h => by obtain ⟨_, rfl, rfl⟩ := h; rfl)) ?_
 refine V 3 3 (ma 7 (vi (mgetD z0.at_ x0 0))) ?_
 refine Nt ?_
 refine CWP.ret (by kernel_rfl) ?_
 have hfin := some_inj h
 subst hfin
 exact ⟨rfl, (vi (mgetD z0.at_ x0 0)), res_of (l := [.tmp 3]) (by kernel_rfl) (vs := [(vi (mgetD z0.at_ x0 0))]) ⟨rfl, trivial⟩, (vi (mgetD z0.at_ x0 0)), F0, rfl, hs3.clear, rfl⟩
end Go.Proofs.Ythbcnabeabcmlaa
namespace Go.Proofs.Ythbcnabeabcmlaa
open Go.Proofs
def clocks_Latest (N : Nat) (x0 : System) : Option ((List (List Int)) × Int) :=
 ((clocks_solved N x0).bind fun r4 => (bif (r4.2.2 != 0) then some (([] : List (List Int)), r4.2.2) else ((clocks_each_int N x0 (fun y0 => clocks_Latest_1 N y0 r4.1)).bind fun r28 => some (r28, 0))))
theorem co_clocks_Latest : CallOk Try.prog 50 := fun _ _ => by kernel_rfl
set_option maxHeartbeats 4000000 in
set_option maxRecDepth 100000 in
theorem c_clocks_Latest (N : Nat) (w0 : World) (F0 : Mem) (hF : ∀ b o, F0 b = some o → w0.heap[b]? = some o) (x0 : System) (a0_0 : Option Addr) (n0_0 : Nat) (hb0_0 : LC x0.Tracks.length n0_0) (hs0_0 : SlA tTrack F0 a0_0 x0.Tracks) (a0_1 : Option Addr) (n0_1 : Nat) (hb0_1 : LC x0.Ties.length n0_1) (hs0_1 : SlA tTie F0 a0_1 x0.Ties) (r : ((List (List Int)) × Int)) (h : clocks_Latest N x0 = some r) :
  Calls Try.prog 50 ([(.agg (kSystem x0 a0_0 n0_0 a0_1 n0_1))] : List Value).toArray w0 (FRet w0 F0 fun F' v => ∃ (aq0_0 : Option Addr) (nq0_0 : Nat), v = (.tuple #[(.slice aq0_0 r.1.length nq0_0), (vi r.2)]) ∧ LC r.1.length nq0_0 ∧ SlA (tSl tInt) F' aq0_0 r.1) := by
 have hs0 := HS.start hF
 refine calls_of (n := 19) (c := bodyOf Try.f50) Try.func50 (by kernel_rfl) (by kernel_rfl) (by kernel_rfl) ?_
 refine Sq (Rg [0, 1, 2] ?_)
 refine Bx 1 0 0 25 (kSystem x0 a0_0 n0_0 a0_1 n0_1) hs0 (fun b1 w2 (hs3 : HS w0 F0 w2 F0 [(sb b1 (kSystem x0 a0_0 n0_0 a0_1 n0_1) 25)]) => ?_)
 refine V 2 71 (mc (.slice none 0 0) (.slice none ([] : List (List Int)).length 0)) ?_
 refine V 3 30 (mc (vi 0) (vi 0)) ?_
 refine Nss (Rg [0, 1, 2, 3, 4, 5, 6, 7, 8, 9, 10] ?_)
 refine V 8 25 (ld 25 1 b1 0 true 3 (.agg (kSystem x0 a0_0 n0_0 a0_1 n0_1)) (hs3.ownAt (k := 0) rfl)) ?_
 obtain ⟨r4, hr5, h6⟩ := bind_some h
 refine Cl 9 96 71 #[(.tmp 8)] #[25] co_clocks_solved hs3 (c_clocks_solved N w2 F0 hs3.pers (x0) a0_0 n0_0 hb0_0 hs0_0 a0_1 n0_1 hb0_1 hs0_1 _ hr5) ?_
 intro v7 F1 w8 hs9 le10 hp11
 obtain ⟨or4_0_0, or4_0_1, or4_1_0, or4_1_1, rfl, hmr4_0_0, hmr4_0_1, hmr4_1_0, hmr4_1_1⟩ := hp11
 refine V 7 96 (mv 9 (.tuple #[(.agg #[(.map or4_0_0), (.map or4_0_1)]), (.agg #[(.map or4_1_0), (.map or4_1_1)]), (vi r4.2.2)])) ?_
 refine V 10 95 (ex 7 0 (.agg #[(.map or4_0_0), (.map or4_0_1)]) (vs := #[(.agg #[(.map or4_0_0), (.map or4_0_1)]), (.agg #[(.map or4_1_0), (.map or4_1_1)]), (vi r4.2.2)])) ?_
 refine V 11 95 (ex 7 1 (.agg #[(.map or4_1_0), (.map or4_1_1)]) (vs := #[(.agg #[(.map or4_0_0), (.map or4_0_1)]), (.agg #[(.map or4_1_0), (.map or4_1_1)]), (vi r4.2.2)])) ?_
 refine V 12 30 (ex 7 2 (vi r4.2.2) (vs := #[(.agg #[(.map or4_0_0), (.map or4_0_1)]), (.agg #[(.map or4_1_0), (.map or4_1_1)]), (vi r4.2.2)])) ?_
 refine Al 4 0 95 #[(.map none), (.map none)] hs9 (fun b12 w13 (hs14 : HS w0 F0 w13 F1 [(sb b12 #[(.map none), (.map none)] 95), (sb b1 (kSystem x0 a0_0 n0_0 a0_1 n0_1) 25)]) => ?_)
 refine Al 5 0 95 #[(.map none), (.map none)] hs14 (fun b15 w16 (hs17 : HS w0 F0 w16 F1 [(sb b15 #[(.map none), (.map none)] 95), (sb b12 #[(.map none), (.map none)] 95), (sb b1 (kSystem x0 a0_0 n0_0 a0_1 n0_1) 25)]) => ?_)
 refine RWP.store (ty := 0) (g := none) (by kernel_rfl) rfl (x := (.tmp 4)) (y := (.tmp 10)) (t := 95) (gg := true) (s := 2) (v := (.agg #[(.map or4_0_0), (.map or4_0_1)])) (b := b12) (o := 0) (C := #[(.map none), (.map none)]) rfl rfl (by kernel_rfl) hs17 (k := 1) rfl rfl rfl rfl (C' := #[(.map or4_0_0), (.map or4_0_1)]) rfl (fun w18 (hs19 : HS w0 F0 w18 F1 [(sb b15 #[(.map none), (.map none)] 95), (sb b12 #[(.map or4_0_0), (.map or4_0_1)] 95), (sb b1 (kSystem x0 a0_0 n0_0 a0_1 n0_1) 25)]) => ?_)
 refine RWP.store (ty := 0) (g := none) (by kernel_rfl) rfl (x := (.tmp 5)) (y := (.tmp 11)) (t := 95) (gg := true) (s := 2) (v := (.agg #[(.map or4_1_0), (.map or4_1_1)])) (b := b15) (o := 0) (C := #[(.map none), (.map none)]) rfl rfl (by kernel_rfl) hs19 (k := 0) rfl rfl rfl rfl (C' := #[(.map or4_1_0), (.map or4_1_1)]) rfl (fun w20 (hs21 : HS w0 F0 w20 F1 [(sb b15 #[(.map or4_1_0), (.map or4_1_1)] 95), (sb b12 #[(.map or4_0_0), (.map or4_0_1)] 95), (sb b1 (kSystem x0 a0_0 n0_0 a0_1 n0_1) 25)]) => ?_)
 refine V 6 30 (ma 12 (vi r4.2.2)) ?_
 refine Nss ?_
 refine Sq (Rg [0, 1] ?_)
 refine V 13 30 (mv 6 (vi r4.2.2)) ?_
 refine V 14 4 (run_neq (t := 30) (t' := 30) (x := (.tmp 13)) (y := (.const (vi 0))) (k := .i64) (a := r4.2.2) (b := 0) rfl rfl) ?_
 refine Nt ?_
 refine CWP.cond (t := (r4.2.2 != 0)) (by kernel_rfl) rfl (fun hb22 => ?_) (fun hb22 => ?_)
 ·have h23 := cond_t h6 hb22
  refine Sq (Rg [0, 1, 2] ?_)
  refine V 15 30 (mv 6 (vi r4.2.2)) ?_
  refine V 2 71 (mc (.slice none 0 0) (.slice none ([] : List (List Int)).length 0)) ?_
  refine V 3 30 (ma 15 (vi r4.2.2)) ?_
  refine Nt ?_
  refine CWP.ret (by kernel_rfl) ?_
  refine thenQ_ret ?_
  have hfin := some_inj h23
  subst hfin
  exact ⟨rfl, (.tuple #[(.slice none ([] : List (List Int)).length 0), (vi r4.2.2)]), res_of (l := [.tmp 2, .tmp 3]) (by kernel_rfl) (vs := [(.slice none ([] : List (List Int)).length 0), (vi r4.2.2)]) ⟨rfl, ⟨rfl, trivial⟩⟩, (.tuple #[(.slice none ([] : List (List Int)).length 0), (vi r4.2.2)]), F1, rfl, hs21.clear, ⟨none, 0, rfl, LC.nil, (.inl rfl)⟩⟩
 ·have h24 := cond_f h6 hb22
  refine Sc ?_
  refine thenQ_nrm ?_
  refine Sq (Rg [0, 1, 2, 3, 4] ?_)
  refine V 16 25 (ld 25 1 b1 0 true 3 (.agg (kSystem x0 a0_0 n0_0 a0_1 n0_1)) (hs21.ownAt (k := 2) rfl)) ?_
  refine V 17 114 (run_makeFunc (fn := .func 97) (first := #[]) (cap := #[(.tmp 4)]) (fl := []) (cl := [(.pointer (some ⟨b12, 0, none⟩))]) rfl (rfl)) ?_
  obtain ⟨F2, hs25, le26, hF27⟩ : ∃ Fq, HS w0 F0 w20 Fq [(sb b15 #[(.map or4_1_0), (.map or4_1_1)] 95), (sb b1 (kSystem x0 a0_0 n0_0 a0_1 n0_1) 25)] ∧ Mem.le F1 Fq ∧ Fq b12 = some (oc #[(.map or4_0_0), (.map or4_0_1)] 95) := HS.freezeC hs21 (k := 1) rfl
  obtain ⟨r28, hr29, h30⟩ := bind_some h24
  refine Cl 18 71 94 #[(.tmp 16), (.tmp 17)] #[25, 114] co_clocks_each_int hs25 (c_clocks_each_int N w20 F2 hs25.pers (x0) a0_0 n0_0 hb0_0 (SlA.mono hs0_0 (le10.trans le26)) a0_1 n0_1 hb0_1 (SlA.mono hs0_1 (le10.trans le26)) 97 [] [(.pointer (some ⟨b12, 0, none⟩))] (fun y0 => clocks_Latest_1 N y0 r4.1) co_clocks_Latest_1 (fun w1 F1 y0 r le1 pe1 hr1 => c_clocks_Latest_1 N w1 F1 pe1  y0 b12 r4.1 or4_0_0 (MpA.mono (MpA.mono hmr4_0_0 le26) le1) or4_0_1 (MpA.mono (MpA.mono hmr4_0_1 le26) le1) (le1 _ _ hF27) r hr1) _ hr29) ?_
  intro v31 F3 w32 hs33 le34 hp35
  obtain ⟨ar28_0_0, nr28_0_0, rfl, hbr28_0_0, hsr28_0_0⟩ := hp35
  refine V 2 71 (ma 18 (.slice ar28_0_0 r28.length nr28_0_0)) ?_
  refine V 3 30 (mc (vi 0) (vi 0)) ?_
  refine Nt ?_
  refine CWP.ret (by kernel_rfl) ?_
  have hfin := some_inj h30
  subst hfin
  exact ⟨rfl, (.tuple #[(.slice ar28_0_0 r28.length nr28_0_0), (vi 0)]), res_of (l := [.tmp 2, .tmp 3]) (by kernel_rfl) (vs := [(.slice ar28_0_0 r28.length nr28_0_0), (vi 0)]) ⟨rfl, ⟨rfl, trivial⟩⟩, (.tuple #[(.slice ar28_0_0 r28.length nr28_0_0), (vi 0)]), F3, rfl, hs33.clear, ⟨ar28_0_0, nr28_0_0, rfl, hbr28_0_0, hsr28_0_0⟩⟩
end Go.Proofs.Ythbcnabeabcmlaa
namespace Go.Proofs.Ythbcnabeabcmlaa
section
variable {N : Nat} {s : System}
theorem eachL_map {α β : Type} (f : Ref → α) (g : α → β) : (eachL s f).map (fun r => r.map g) = eachL s fun r => g (f r) := by
 unfold eachL
 rw [List.map_map]
 apply List.map_congr_left
 intro i _
 simp only [Function.comp]
 cases s.Tracks[i]? with
 | none => rfl
 | some t => simp
theorem eachI_eq (hN : 1000000 ≤ N) (h : vCheck s = 0) {x1 : Ref → Option Int} {f : Ref → Int} (hx : ∀ r, x1 r = some (f r)) : clocks_each_int N s x1 = some (eachL s f) := by
 have hn := (check_ok h).1
 obtain ⟨l, hl⟩ := mk0_ok (GC.raw nilv : GC Int) (n := s.Tracks.length) (by omega)
 unfold clocks_each_int
 rw [hl, Option.bind_some]
 exact eachG_eq hN h hx
theorem times_err (h : vCheck s ≠ 0) : vTimes s = ([], vCheck s) := by unfold vTimes; rw [if_pos h]
theorem times_loop (h : vCheck s = 0) (hc : ¬ Cls s) : vTimes s = ([], 31) := by unfold vTimes; rw [if_neg (by omega), if_neg hc]
theorem times_ok (h : vCheck s = 0) (hc : Cls s) : vTimes s = (eachL s (spanAt s), 0) := by unfold vTimes; rw [if_neg (by omega), if_pos hc]
theorem Earliest_c (hN : 1000000 ≤ N) (hf : FitS N s) : clocks_Earliest N s = some ((vTimes s).1.map (fun r => r.map Span.Lo), (vTimes s).2) := by
 unfold clocks_Earliest
 rcases solved_c hN hf with ⟨h, x, y, h1⟩ | ⟨h, hc, x, y, h1⟩ | ⟨h, hc, x, y, h1, h2, h3⟩
 ·rw [times_err h]
  exact solved_aux' (each := fun _ b => clocks_each_int N s (fun y0 => clocks_Earliest_1 N y0 b)) h1 h
 ·rw [times_loop h hc]
  exact solved_aux' (each := fun _ b => clocks_each_int N s (fun y0 => clocks_Earliest_1 N y0 b)) h1 (by decide)
 ·rw [times_ok h hc, eachL_map]
  refine solved_aux (each := fun _ b => clocks_each_int N s (fun y0 => clocks_Earliest_1 N y0 b)) h1 ?_
  have hx : ∀ r, (fun y0 => clocks_Earliest_1 N y0 y) r = some (W64 (0 - mgetD y.at_ r 0)) := fun r => by unfold clocks_Earliest_1; rfl
  rw [eachI_eq hN h hx]
  refine congrArg some (eachL_congr fun r hr => ?_)
  have e2 := h3.val h hc (nd_beg s) (x := r) (.inr hr)
  simp only [cond_true] at e2
  rw [e2, W64_neg h hc (a := r) (b := beg) (.inr hr) (nd_beg s)]
  rfl
theorem Latest_c (hN : 1000000 ≤ N) (hf : FitS N s) : clocks_Latest N s = some ((vTimes s).1.map (fun r => r.map Span.Hi), (vTimes s).2) := by
 unfold clocks_Latest
 rcases solved_c hN hf with ⟨h, x, y, h1⟩ | ⟨h, hc, x, y, h1⟩ | ⟨h, hc, x, y, h1, h2, h3⟩
 ·rw [times_err h]
  exact solved_aux' (each := fun a _ => clocks_each_int N s (fun y0 => clocks_Latest_1 N y0 a)) h1 h
 ·rw [times_loop h hc]
  exact solved_aux' (each := fun a _ => clocks_each_int N s (fun y0 => clocks_Latest_1 N y0 a)) h1 (by decide)
 ·rw [times_ok h hc, eachL_map]
  refine solved_aux (each := fun a _ => clocks_each_int N s (fun y0 => clocks_Latest_1 N y0 a)) h1 ?_
  have hx : ∀ r, (fun y0 => clocks_Latest_1 N y0 x) r = some (mgetD x.at_ r 0) := fun r => by unfold clocks_Latest_1; rfl
  rw [eachI_eq hN h hx]
  refine congrArg some (eachL_congr fun r hr => ?_)
  have e2 := h2.val h hc (nd_beg s) (x := r) (.inr hr)
  simp only [cond_false] at e2
  rw [e2]
  rfl
end
end Go.Proofs.Ythbcnabeabcmlaa
namespace Go.Proofs.Ythbcnabeabcmlaa
open Go.Proofs
def clocks_Offset (N : Nat) (x0 : System) (x1 : Ref) : Option (Span × Int) :=
 ((clocks_Interval N x0 x1).bind fun r10 => (bif (r10.2 != 0) then some (({ Lo := 0, Hi := 0 } : Span), r10.2) else (((idx x0.Tracks x1.Log).bind fun x40 => ((idx x40.Times x1.Line).bind fun x54 => some x54)).bind fun j33 => some (({ Lo := (W64 (j33 - r10.1.Hi)), Hi := (W64 (j33 - r10.1.Lo)) } : Span), 0))))
theorem co_clocks_Offset : CallOk Try.prog 24 := fun _ _ => by kernel_rfl
set_option maxHeartbeats 4000000 in
set_option maxRecDepth 100000 in
theorem c_clocks_Offset (N : Nat) (w0 : World) (F0 : Mem) (hF : ∀ b o, F0 b = some o → w0.heap[b]? = some o) (x0 : System) (a0_0 : Option Addr) (n0_0 : Nat) (hb0_0 : LC x0.Tracks.length n0_0) (hs0_0 : SlA tTrack F0 a0_0 x0.Tracks) (a0_1 : Option Addr) (n0_1 : Nat) (hb0_1 : LC x0.Ties.length n0_1) (hs0_1 : SlA tTie F0 a0_1 x0.Ties) (x1 : Ref) (r : (Span × Int)) (h : clocks_Offset N x0 x1 = some r) :
  Calls Try.prog 24 ([(.agg (kSystem x0 a0_0 n0_0 a0_1 n0_1)), (.agg (kRef x1))] : List Value).toArray w0 (FRet w0 F0 fun F' v => v = (.tuple #[(.agg (kSpan r.1)), (vi r.2)])) := by
 have hs0 := HS.start hF
 refine calls_of (n := 39) (c := bodyOf Try.f24) Try.func24 (by kernel_rfl) (by kernel_rfl) (by kernel_rfl) ?_
 refine Sq (Rg [0, 1, 2, 3] ?_)
 refine Bx 2 0 0 25 (kSystem x0 a0_0 n0_0 a0_1 n0_1) hs0 (fun b1 w2 (hs3 : HS w0 F0 w2 F0 [(sb b1 (kSystem x0 a0_0 n0_0 a0_1 n0_1) 25)]) => ?_)
 refine Bx 3 0 1 27 (kRef x1) hs3 (fun b4 w5 (hs6 : HS w0 F0 w5 F0 [(sb b4 (kRef x1) 27), (sb b1 (kSystem x0 a0_0 n0_0 a0_1 n0_1) 25)]) => ?_)
 refine Al 4 0 38 #[(vi 0), (vi 0)] hs6 (fun b7 w8 (hs9 : HS w0 F0 w8 F0 [(sb b7 #[(vi 0), (vi 0)] 38), (sb b4 (kRef x1) 27), (sb b1 (kSystem x0 a0_0 n0_0 a0_1 n0_1) 25)]) => ?_)
 refine V 5 30 (mc (vi 0) (vi 0)) ?_
 refine Nss (Rg [0, 1, 2, 3, 4, 5, 6, 7, 8] ?_)
 refine V 10 25 (ld 25 2 b1 0 true 3 (.agg (kSystem x0 a0_0 n0_0 a0_1 n0_1)) (hs9.ownAt (k := 2) rfl)) ?_
 refine V 11 27 (ld 27 3 b4 0 true 2 (.agg (kRef x1)) (hs9.ownAt (k := 1) rfl)) ?_
 obtain ⟨r10, hr11, h12⟩ := bind_some h
 refine Cl 12 39 21 #[(.tmp 10), (.tmp 11)] #[25, 27] co_clocks_Interval hs9 (c_clocks_Interval N w8 F0 hs9.pers (x0) a0_0 n0_0 hb0_0 hs0_0 a0_1 n0_1 hb0_1 hs0_1 (x1) _ hr11) ?_
 intro v13 F1 w14 hs15 le16 hp17
 obtain rfl := hp17
 refine V 9 39 (mv 12 (.tuple #[(.agg (kSpan r10.1)), (vi r10.2)])) ?_
 refine V 13 38 (ex 9 0 (.agg (kSpan r10.1)) (vs := #[(.agg (kSpan r10.1)), (vi r10.2)])) ?_
 refine V 14 30 (ex 9 1 (vi r10.2) (vs := #[(.agg (kSpan r10.1)), (vi r10.2)])) ?_
 refine Al 6 0 38 #[(vi 0), (vi 0)] hs15 (fun b18 w19 (hs20 : HS w0 F0 w19 F1 [(sb b18 #[(vi 0), (vi 0)] 38), (sb b7 #[(vi 0), (vi 0)] 38), (sb b4 (kRef x1) 27), (sb b1 (kSystem x0 a0_0 n0_0 a0_1 n0_1) 25)]) => ?_)
 refine RWP.store (ty := 0) (g := none) (by kernel_rfl) rfl (x := (.tmp 6)) (y := (.tmp 13)) (t := 38) (gg := true) (s := 2) (v := (.agg (kSpan r10.1))) (b := b18) (o := 0) (C := #[(vi 0), (vi 0)]) rfl rfl (by kernel_rfl) hs20 (k := 0) rfl rfl rfl rfl (C' := (kSpan r10.1)) rfl (fun w21 (hs22 : HS w0 F0 w21 F1 [(sb b18 (kSpan r10.1) 38), (sb b7 #[(vi 0), (vi 0)] 38), (sb b4 (kRef x1) 27), (sb b1 (kSystem x0 a0_0 n0_0 a0_1 n0_1) 25)]) => ?_)
 refine V 7 30 (ma 14 (vi r10.2)) ?_
 refine Nss ?_
 refine Sq (Rg [0, 1] ?_)
 refine V 15 30 (mv 7 (vi r10.2)) ?_
 refine V 16 4 (run_neq (t := 30) (t' := 30) (x := (.tmp 15)) (y := (.const (vi 0))) (k := .i64) (a := r10.2) (b := 0) rfl rfl) ?_
 refine Nt ?_
 refine CWP.cond (t := (r10.2 != 0)) (by kernel_rfl) rfl (fun hb23 => ?_) (fun hb23 => ?_)
 ·have h24 := cond_t h12 hb23
  refine Sq (Rg [0, 1, 2, 3] ?_)
  refine V 17 38 (run_build2 (t := 38) (parts := #[]) (vs := []) (rfl) (cs := [(vi 0), (vi 0)]) (by kernel_rfl)) ?_
  refine V 18 30 (mv 7 (vi r10.2)) ?_
  refine RWP.store (ty := 0) (g := none) (by kernel_rfl) rfl (x := (.tmp 4)) (y := (.tmp 17)) (t := 38) (gg := true) (s := 2) (v := (.agg #[(vi 0), (vi 0)])) (b := b7) (o := 0) (C := #[(vi 0), (vi 0)]) rfl rfl (by kernel_rfl) hs22 (k := 1) rfl rfl rfl rfl (C' := #[(vi 0), (vi 0)]) rfl (fun w25 (hs26 : HS w0 F0 w25 F1 [(sb b18 (kSpan r10.1) 38), (sb b7 #[(vi 0), (vi 0)] 38), (sb b4 (kRef x1) 27), (sb b1 (kSystem x0 a0_0 n0_0 a0_1 n0_1) 25)]) => ?_)
  refine V 5 30 (ma 18 (vi r10.2)) ?_
  refine Nt ?_
  refine CWP.ret (by kernel_rfl) ?_
  refine thenQ_ret ?_
  have hfin := some_inj h24
  subst hfin
  exact ⟨rfl, (.tuple #[(.agg #[(vi 0), (vi 0)]), (vi r10.2)]), res_of (l := [.cell 4 38, .tmp 5]) (by kernel_rfl) (vs := [(.agg #[(vi 0), (vi 0)]), (vi r10.2)]) ⟨b7, 0, rfl, run_loadVar' (t := 38) (g := true) (s := 2) (by kernel_rfl) (hs26.ownAt (k := 1) rfl) rfl (by decide), ⟨rfl, trivial⟩⟩, (.tuple #[(.agg #[(vi 0), (vi 0)]), (vi r10.2)]), F1, rfl, hs26.clear, rfl⟩
 ·have h27 := cond_f h12 hb23
  refine Sc ?_
  refine thenQ_nrm ?_
  refine Sq ?_
  obtain ⟨j33, hj38, h39⟩ := bind_some h27
  refine CWP.regionD (by kernel_rfl) (by kernel_rfl) (by kernel_rfl) (by kernel_rfl) (z := 12) (F := F1) (Lc := [(sb b18 (kSpan r10.1) 38), (sb b7 #[(vi 0), (vi 0)] 38), (sb b4 (kRef x1) 27), (sb b1 (kSystem x0 a0_0 n0_0 a0_1 n0_1) 25)]) (Lz := []) (l := [false, false, false, false, false, false, false, false, false, false, false, false]) (fuel := 12) (by kernel_rfl) (by kernel_rfl) hs22 (by simp) (by simp) (fun f w => ∃ (F2 : Mem), HS w0 F0 w F2 [(sb b18 (kSpan r10.1) 38), (sb b7 #[(vi 0), (vi 0)] 38)] ∧ Mem.le F1 F2 ∧ f.d = [] ∧ f 4 = (.pointer (some ⟨b7, 0, none⟩)) ∧ f 6 = (.pointer (some ⟨b18, 0, none⟩)) ∧ f 8 = (vi j33)) (fun wd28 hw29 => ?_) ?_
  ·refine Dt 0 19 0 (.pointer (some ⟨b1, 0, none⟩)) (fun _ hq => fa 25 2 0 0 1 b1 0 0) ?_
   refine Dt 1 20 22 _ (fun _ hq => ld 22 19 b1 0 false 1 (.slice a0_0 x0.Tracks.length n0_0) (hq.1.2 3 _ _ rfl)) ?_
   refine Dt 2 21 0 (.pointer (some ⟨b4, 0, none⟩)) (fun _ hq => fa 27 3 0 0 1 b4 0 0) ?_
   refine Dt 3 22 3 _ (fun _ hq => ld 3 21 b4 0 false 1 (vi x1.Log) (hq.1.2 2 _ _ rfl)) ?_
   obtain ⟨x40, hx41, h43⟩ := bind_some hj38
   obtain ⟨hi42, hx41'⟩ := idx_spec hx41
   obtain ⟨b44, o45, C46, E47, fz48, rfl, hF50, hE51⟩ := SlA.open (SlA.mono hs0_0 le16) hx41'
   obtain ⟨ae52_2, ne52_2, ae52_3, ne52_3, hc53, hbe52_2, hse52_2, hbe52_3, hse52_3⟩ := hE51 _ _ hx41'
   refine Dt 4 23 0 (.pointer (some ⟨b44, (o45 + (x1.Log : Int).toNat * 4), none⟩)) (fun _ hq => ix 22 20 22 b44 o45 54 4 64 hi42) ?_
   refine Dt 5 24 0 (.pointer (some ⟨b44, ((o45 + (x1.Log : Int).toNat * 4) + 3), none⟩)) (fun _ hq => fa 54 23 1 3 1 b44 (o45 + (x1.Log : Int).toNat * 4) ((o45 + (x1.Log : Int).toNat * 4) + 3)) ?_
   refine Dt 6 25 50 _ (fun _ hq => lx 50 24 3 4 false 1 (.slice ae52_3 x40.Times.length ne52_3) (hq.1.1 _ _ hF50) hc53) ?_
   refine Dt 7 26 0 (.pointer (some ⟨b4, 1, none⟩)) (fun _ hq => fa 27 3 1 1 1 b4 0 1) ?_
   refine Dt 8 27 3 _ (fun _ hq => ld 3 26 b4 1 false 1 (vi x1.Line) (hq.1.2 2 _ _ rfl)) ?_
   obtain ⟨x54, hx55, h57⟩ := bind_some h43
   obtain ⟨hi56, hx55'⟩ := idx_spec hx55
   obtain ⟨b58, o59, C60, E61, fz62, rfl, hF64, hE65⟩ := SlA.open hse52_3 hx55'
   have hc67 := hE65 _ _ hx55'
   refine Dt 9 28 0 (.pointer (some ⟨b58, (o59 + (x1.Line : Int).toNat * 1), none⟩)) (fun _ hq => ix 50 25 27 b58 o59 3 1 8 hi56) ?_
   refine Dt 10 29 3 _ (fun _ hq => lx 3 28 0 1 false 1 (vi x54) (hq.1.1 _ _ hF64) hc67) ?_
   refine Dt 11 8 3 _ (fun _ hq => ma 29 (vi x54)) ?_
   obtain rfl := some_inj h57
   have hs68 : HS w0 F0 wd28 F1 [(sb b18 (kSpan r10.1) 38), (sb b7 #[(vi 0), (vi 0)] 38), (sb b1 (kSystem x0 (some ⟨b44, o45, none⟩) n0_0 a0_1 n0_1) 25)] := hw29.drop 2
   have hs69 : HS w0 F0 wd28 F1 [(sb b18 (kSpan r10.1) 38), (sb b7 #[(vi 0), (vi 0)] 38)] := hs68.drop 2
   exact DWP.done (by kernel_rfl) ⟨F1, hs69, (Mem.le.refl _), rfl, rfl, rfl, rfl⟩
  ·rintro f w30 ⟨F2, hs31, le32, e34, e35, e36, e37⟩
   refine thenQ_nrm ?_
   refine Sq (Rg [0, 1, 2, 3, 4, 5, 6, 7, 8, 9, 10] ?_)
   refine V 30 3 (mv 8 (vi j33) e37) ?_
   refine V 31 0 (fa 38 6 1 1 1 b18 0 1 e36) ?_
   refine V 32 3 (ld 3 31 b18 1 false 1 (vi r10.1.Hi) (hs31.ownAt (k := 0) rfl)) ?_
   refine V 33 3 (run_sub (t := 3) (t' := 3) (x := (.tmp 30)) (y := (.tmp 32)) (k := .i64) (a := j33) (b := r10.1.Hi) rfl rfl) ?_
   refine V 34 3 (mv 8 (vi j33) e37) ?_
   refine V 35 0 (fa 38 6 0 0 1 b18 0 0 e36) ?_
   refine V 36 3 (ld 3 35 b18 0 false 1 (vi r10.1.Lo) (hs31.ownAt (k := 0) rfl)) ?_
   refine V 37 3 (run_sub (t := 3) (t' := 3) (x := (.tmp 34)) (y := (.tmp 36)) (k := .i64) (a := j33) (b := r10.1.Lo) rfl rfl) ?_
   refine V 38 38 (run_build2 (t := 38) (parts := #[(0, (.tmp 33)), (1, (.tmp 37))]) (vs := [(0, (vi (W64 (j33 - r10.1.Hi)))), (1, (vi (W64 (j33 - r10.1.Lo))))]) (rfl) (cs := [(vi (W64 (j33 - r10.1.Hi))), (vi (W64 (j33 - r10.1.Lo)))]) (by kernel_rfl)) ?_
   refine RWP.store (ty := 0) (g := none) (by kernel_rfl) rfl (x := (.tmp 4)) (y := (.tmp 38)) (t := 38) (gg := true) (s := 2) (v := (.agg #[(vi (W64 (j33 - r10.1.Hi))), (vi (W64 (j33 - r10.1.Lo)))])) (b := b7) (o := 0) (C := #[(vi 0), (vi 0)]) e35 rfl (by kernel_rfl) hs31 (k := 1) rfl rfl rfl rfl (C' := #[(vi (W64 (j33 - r10.1.Hi))), (vi (W64 (j33 - r10.1.Lo)))]) rfl (fun w70 (hs71 : HS w0 F0 w70 F2 [(sb b18 (kSpan r10.1) 38), (sb b7 #[(vi (W64 (j33 - r10.1.Hi))), (vi (W64 (j33 - r10.1.Lo)))] 38)]) => ?_)
   refine V 5 30 (mc (vi 0) (vi 0)) ?_
   refine Nt ?_
   refine CWP.ret (by kernel_rfl) ?_
   have hfin := some_inj h39
   subst hfin
   exact ⟨e34, (.tuple #[(.agg #[(vi (W64 (j33 - r10.1.Hi))), (vi (W64 (j33 - r10.1.Lo)))]), (vi 0)]), res_of (l := [.cell 4 38, .tmp 5]) (by kernel_rfl) (vs := [(.agg #[(vi (W64 (j33 - r10.1.Hi))), (vi (W64 (j33 - r10.1.Lo)))]), (vi 0)]) ⟨b7, 0, e35, run_loadVar' (t := 38) (g := true) (s := 2) (by kernel_rfl) (hs71.ownAt (k := 1) rfl) rfl (by decide), ⟨rfl, trivial⟩⟩, (.tuple #[(.agg #[(vi (W64 (j33 - r10.1.Hi))), (vi (W64 (j33 - r10.1.Lo)))]), (vi 0)]), F2, rfl, hs71.clear, rfl⟩
end Go.Proofs.Ythbcnabeabcmlaa
namespace Go.Proofs.Ythbcnabeabcmlaa
open Go.Proofs
def clocks_Before (N : Nat) (x0 : System) (x1 : Ref) (x2 : Ref) : Option (Bool × Int) :=
 ((clocks_Relation N x0 x1 x2).bind fun r10 => some (((r10.2 == 0) && (decide (r10.1.Lo > 0))), r10.2))
theorem co_clocks_Before : CallOk Try.prog 30 := fun _ _ => by kernel_rfl
set_option maxHeartbeats 4000000 in
set_option maxRecDepth 100000 in
theorem c_clocks_Before (N : Nat) (w0 : World) (F0 : Mem) (hF : ∀ b o, F0 b = some o → w0.heap[b]? = some o) (x0 : System) (a0_0 : Option Addr) (n0_0 : Nat) (hb0_0 : LC x0.Tracks.length n0_0) (hs0_0 : SlA tTrack F0 a0_0 x0.Tracks) (a0_1 : Option Addr) (n0_1 : Nat) (hb0_1 : LC x0.Ties.length n0_1) (hs0_1 : SlA tTie F0 a0_1 x0.Ties) (x1 : Ref) (x2 : Ref) (r : (Bool × Int)) (h : clocks_Before N x0 x1 x2 = some r) :
  Calls Try.prog 30 ([(.agg (kSystem x0 a0_0 n0_0 a0_1 n0_1)), (.agg (kRef x1)), (.agg (kRef x2))] : List Value).toArray w0 (FRet w0 F0 fun F' v => v = (.tuple #[(.bool r.1), (vi r.2)])) := by
 have hs0 := HS.start hF
 refine calls_of (n := 25) (c := bodyOf Try.f30) Try.func30 (by kernel_rfl) (by kernel_rfl) (by kernel_rfl) ?_
 refine Sq (Rg [0, 1, 2, 3, 4] ?_)
 refine Bx 3 0 0 25 (kSystem x0 a0_0 n0_0 a0_1 n0_1) hs0 (fun b1 w2 (hs3 : HS w0 F0 w2 F0 [(sb b1 (kSystem x0 a0_0 n0_0 a0_1 n0_1) 25)]) => ?_)
 refine Bx 4 0 1 27 (kRef x1) hs3 (fun b4 w5 (hs6 : HS w0 F0 w5 F0 [(sb b4 (kRef x1) 27), (sb b1 (kSystem x0 a0_0 n0_0 a0_1 n0_1) 25)]) => ?_)
 refine Bx 5 0 2 27 (kRef x2) hs6 (fun b7 w8 (hs9 : HS w0 F0 w8 F0 [(sb b7 (kRef x2) 27), (sb b4 (kRef x1) 27), (sb b1 (kSystem x0 a0_0 n0_0 a0_1 n0_1) 25)]) => ?_)
 refine V 6 4 (mc (.bool false) (.bool false)) ?_
 refine V 7 30 (mc (vi 0) (vi 0)) ?_
 refine Nss (Rg [0, 1, 2, 3, 4, 5, 6, 7, 8, 9] ?_)
 refine V 11 25 (ld 25 3 b1 0 true 3 (.agg (kSystem x0 a0_0 n0_0 a0_1 n0_1)) (hs9.ownAt (k := 2) rfl)) ?_
 refine V 12 27 (ld 27 4 b4 0 true 2 (.agg (kRef x1)) (hs9.ownAt (k := 1) rfl)) ?_
 refine V 13 27 (ld 27 5 b7 0 true 2 (.agg (kRef x2)) (hs9.ownAt (k := 0) rfl)) ?_
 obtain ⟨r10, hr11, h12⟩ := bind_some h
 refine Cl 14 39 20 #[(.tmp 11), (.tmp 12), (.tmp 13)] #[25, 27, 27] co_clocks_Relation hs9 (c_clocks_Relation N w8 F0 hs9.pers (x0) a0_0 n0_0 hb0_0 hs0_0 a0_1 n0_1 hb0_1 hs0_1 (x1) (x2) _ hr11) ?_
 intro v13 F1 w14 hs15 le16 hp17
 obtain rfl := hp17
 refine V 10 39 (mv 14 (.tuple #[(.agg (kSpan r10.1)), (vi r10.2)])) ?_
 refine V 15 38 (ex 10 0 (.agg (kSpan r10.1)) (vs := #[(.agg (kSpan r10.1)), (vi r10.2)])) ?_
 refine V 16 30 (ex 10 1 (vi r10.2) (vs := #[(.agg (kSpan r10.1)), (vi r10.2)])) ?_
 refine Al 8 0 38 #[(vi 0), (vi 0)] hs15 (fun b18 w19 (hs20 : HS w0 F0 w19 F1 [(sb b18 #[(vi 0), (vi 0)] 38), (sb b7 (kRef x2) 27), (sb b4 (kRef x1) 27), (sb b1 (kSystem x0 a0_0 n0_0 a0_1 n0_1) 25)]) => ?_)
 refine RWP.store (ty := 0) (g := none) (by kernel_rfl) rfl (x := (.tmp 8)) (y := (.tmp 15)) (t := 38) (gg := true) (s := 2) (v := (.agg (kSpan r10.1))) (b := b18) (o := 0) (C := #[(vi 0), (vi 0)]) rfl rfl (by kernel_rfl) hs20 (k := 0) rfl rfl rfl rfl (C' := (kSpan r10.1)) rfl (fun w21 (hs22 : HS w0 F0 w21 F1 [(sb b18 (kSpan r10.1) 38), (sb b7 (kRef x2) 27), (sb b4 (kRef x1) 27), (sb b1 (kSystem x0 a0_0 n0_0 a0_1 n0_1) 25)]) => ?_)
 refine V 9 30 (ma 16 (vi r10.2)) ?_
 refine Nss (Rg [0, 1, 2, 3, 4, 5, 6, 7, 8, 9] ?_)
 refine RWP.cut (fun f w => ∃ (F2 : Mem), HS w0 F0 w F2 [] ∧ Mem.le F1 F2 ∧ f.d = [] ∧ f 6 = (.bool ((r10.2 == 0) && (decide (r10.1.Lo > 0)))) ∧ f 7 = (vi r10.2)) ?_ ?_
 ·refine V 17 30 (mv 9 (vi r10.2)) ?_
  refine V 18 4 (run_eql (t := 30) (t' := 30) (x := (.tmp 17)) (y := (.const (vi 0))) (k := .i64) (a := r10.2) (b := 0) rfl rfl) ?_
  refine V 19 4 (mv 18 (.bool (r10.2 == 0))) ?_
  refine RWP.split (r10.2 == 0) (fun hb29 => ?_) (fun hb29 => ?_)
  ·refine Vg 20 0 2 true 19 hb29 (fa 38 8 0 0 1 b18 0 0) ?_
   refine Vg 21 3 2 true 19 hb29 (ld 3 20 b18 0 false 1 (vi r10.1.Lo) (hs22.ownAt (k := 0) rfl)) ?_
   refine Vg 22 4 2 true 19 hb29 (run_gtr (t := 3) (t' := 3) (x := (.tmp 21)) (y := (.const (vi 0))) (k := .i64) (a := r10.1.Lo) (b := 0) rfl rfl) ?_
   refine V 23 4 (p1 19 (.tmp 22) (.const (.bool false)) (.bool (decide (r10.1.Lo > 0))) hb29) ?_
   refine V 24 30 (mv 9 (vi r10.2)) ?_
   refine V 6 4 (ma 23 (.bool (decide (r10.1.Lo > 0)))) ?_
   refine V 7 30 (ma 24 (vi r10.2)) ?_
   have hs30 : HS w0 F0 w21 F1 [(sb b7 (kRef x2) 27), (sb b4 (kRef x1) 27), (sb b1 (kSystem x0 a0_0 n0_0 a0_1 n0_1) 25)] := hs22.drop 0
   have hs31 : HS w0 F0 w21 F1 [(sb b4 (kRef x1) 27), (sb b1 (kSystem x0 a0_0 n0_0 a0_1 n0_1) 25)] := hs30.drop 0
   have hs32 : HS w0 F0 w21 F1 [(sb b1 (kSystem x0 a0_0 n0_0 a0_1 n0_1) 25)] := hs31.drop 0
   have hs33 : HS w0 F0 w21 F1 [] := hs32.drop 0
   exact RWP.nil ⟨rfl, F1, hs33, (Mem.le.refl _), rfl, (congrArg Value.bool (and_t hb29 (rfl))), rfl⟩
  ·refine Sk [20, 21, 22] 2 true 19 hb29 ?_
   refine V 23 4 (p0 19 (.tmp 22) (.const (.bool false)) (.bool false) hb29) ?_
   refine V 24 30 (mv 9 (vi r10.2)) ?_
   refine V 6 4 (ma 23 (.bool false)) ?_
   refine V 7 30 (ma 24 (vi r10.2)) ?_
   have hs34 : HS w0 F0 w21 F1 [(sb b7 (kRef x2) 27), (sb b4 (kRef x1) 27), (sb b1 (kSystem x0 a0_0 n0_0 a0_1 n0_1) 25)] := hs22.drop 0
   have hs35 : HS w0 F0 w21 F1 [(sb b4 (kRef x1) 27), (sb b1 (kSystem x0 a0_0 n0_0 a0_1 n0_1) 25)] := hs34.drop 0
   have hs36 : HS w0 F0 w21 F1 [(sb b1 (kSystem x0 a0_0 n0_0 a0_1 n0_1) 25)] := hs35.drop 0
   have hs37 : HS w0 F0 w21 F1 [] := hs36.drop 0
   exact RWP.nil ⟨rfl, F1, hs37, (Mem.le.refl _), rfl, (congrArg Value.bool (and_f hb29 (rfl))), rfl⟩
 ·rintro f w23 ⟨F2, hs24, le25, e26, e27, e28⟩
  refine thenQ_nrm ?_
  refine CWP.ret (by kernel_rfl) ?_
  have hfin := some_inj h12
  subst hfin
  exact ⟨e26, (.tuple #[(.bool ((r10.2 == 0) && (decide (r10.1.Lo > 0)))), (vi r10.2)]), res_of (l := [.tmp 6, .tmp 7]) (by kernel_rfl) (vs := [(.bool ((r10.2 == 0) && (decide (r10.1.Lo > 0)))), (vi r10.2)]) ⟨e27, ⟨e28, trivial⟩⟩, (.tuple #[(.bool ((r10.2 == 0) && (decide (r10.1.Lo > 0)))), (vi r10.2)]), F2, rfl, hs24.clear, rfl⟩
end Go.Proofs.Ythbcnabeabcmlaa
namespace Go.Proofs.Ythbcnabeabcmlaa
open Go.Proofs
def slices_Clone_api_Tie_api_Tie (N : Nat) (x0 : List Tie) : Option (List Tie) := apnd [] x0
theorem co_slices_Clone_api_Tie_api_Tie : CallOk Try.prog 128 := fun _ _ => by kernel_rfl
set_option maxRecDepth 100000 in
theorem c_slices_Clone_api_Tie_api_Tie (N : Nat) (w0 : World) (F0 : Mem) (hF : ∀ b o, F0 b = some o → w0.heap[b]? = some o) (x0 : List Tie) (a0_0 : Option Addr) (n0_0 : Nat) (hb0_0 : LC x0.length n0_0) (hs0_0 : SlA tTie F0 a0_0 x0) (r : List Tie) (h : slices_Clone_api_Tie_api_Tie N x0 = some r) :
  Calls Try.prog 128 ([.slice a0_0 x0.length n0_0] : List Value).toArray w0 (FRetO w0 F0 fun F' v L' => ∃ (a : Option Addr) (n : Nat) (e : Option Nat × Obj), v = .slice a r.length n ∧ L' = [e] ∧ RowR tTie 46 F' a n r e) := by
 have hs0 := HS.start hF
 obtain ⟨hlen, hr⟩ := apnd_spec h
 refine calls_of (n := 8) (c := bodyOf Try.f128) Try.func128 (by kernel_rfl) (by kernel_rfl) (by kernel_rfl) ?_
 refine CWP.seq (by kernel_rfl) ?_
 refine CWP.region (l := [0]) (by kernel_rfl) (by kernel_rfl) (by kernel_rfl) ?_
 refine RWP.val (dst := (some 2)) (ty := 23) (g := none) (by kernel_rfl) rfl (run_assign (x := (.const (.slice none 0 0))) (v := (.slice none 0 0)) rfl) ?_
 refine RWP.nil ?_
 refine thenQ_nrm ?_
 refine CWP.seq (by kernel_rfl) ?_
 refine CWP.seq (by kernel_rfl) ?_
 refine CWP.region (l := [0, 1]) (by kernel_rfl) (by kernel_rfl) (by kernel_rfl) ?_
 refine RWP.val (dst := (some 3)) (ty := 23) (g := none) (by kernel_rfl) rfl (run_move (x := (.tmp 0)) (v := (.slice a0_0 x0.length n0_0)) rfl) ?_
 refine RWP.val (dst := (some 4)) (ty := 4) (g := none) (by kernel_rfl) rfl (run_eqnil (e := 46) (t := 23) (t' := 23) (x := (.tmp 3)) (y := (.const (.slice none 0 0))) rfl rfl (by kernel_rfl)) ?_
 refine RWP.nil ?_
 refine thenQ_nrm ?_
 refine CWP.cond (t := a0_0.isNone) (by kernel_rfl) rfl (fun hc => ?_) (fun hc => ?_)
 ·have hn : a0_0 = none := by simpa using hc
  subst hn
  have hx : x0 = [] := by
   rcases hs0_0 with h | ⟨b, o, C, E, fz, ha, _⟩
   ·exact h
   ·cases ha
  subst hx
  simp at hr
  subst hr
  refine CWP.seq (by kernel_rfl) ?_
  refine CWP.region (l := [0]) (by kernel_rfl) (by kernel_rfl) (by kernel_rfl) ?_
  refine RWP.val (dst := (some 2)) (ty := 23) (g := none) (by kernel_rfl) rfl (run_assign (x := (.const (.slice none 0 0))) (v := (.slice none 0 0)) rfl) ?_
  refine RWP.nil ?_
  refine thenQ_nrm ?_
  refine CWP.ret (by kernel_rfl) ?_
  refine thenQ_ret ?_
  exact ⟨rfl, (.slice none 0 0), res_of (l := [.tmp 2]) (by kernel_rfl) (vs := [(.slice none 0 0)]) ⟨rfl, trivial⟩, (.slice none 0 0), F0, _, rfl, hs0.dummy (oc #[] 0), none, 0, _, rfl, rfl, RowR.nil _ _ _ _⟩
 ·refine CWP.skip (by kernel_rfl) ?_
  refine thenQ_nrm ?_
  refine CWP.seq (by kernel_rfl) ?_
  refine CWP.region (l := [0, 1, 2, 3]) (by kernel_rfl) (by kernel_rfl) (by kernel_rfl) ?_
  refine RWP.buildSlice (dst := (some 5)) (ty := 23) (g := none) (by kernel_rfl) rfl (t := 23) (len := 0) (parts := #[]) (vs := []) rfl (E := 46) (cs := []) (by kernel_rfl) hs0 (fun b w1 (hs1 : HS w0 F0 w1 F0 [(some b, .cells ([] : List Value).toArray 46 (0, 0))]) => ?_)
  have hr1 : RowR tTie 46 F0 (some ⟨b, 0, none⟩) 0 [] (some b, .cells ([] : List Value).toArray 46 (0, 0)) := RowR.lit rfl (by simp)
  refine RWP.val (dst := (some 6)) (ty := 23) (g := none) (by kernel_rfl) rfl (run_move (x := (.tmp 0)) (v := (.slice a0_0 x0.length n0_0)) rfl) ?_
  refine RWP.append (dst := (some 7)) (ty := 23) (g := none) (by kernel_rfl) rfl (x := (.tmp 5)) (y := (.tmp 6)) (t := 23) (t2 := 23) (by_ := 32) (z := (.agg #[(vi 0), (vi 0), (vi 0), (vi 0)])) (a2 := a0_0) (c2 := n0_0) (m := x0) (T := tTie) (E := 46) (a := (some ⟨b, 0, none⟩)) (cap := 0) (l := []) rfl rfl (by kernel_rfl) (by decide) (by kernel_rfl) (by kernel_rfl) rfl oTie hs1 (k := 0) rfl hr1 (SlA.rd hs1 hs0_0) (r := r) h (fun a2 n2 e2 w2 (hs2 : HS w0 F0 w2 F0 [e2]) hr2 => ?_)
  refine RWP.val (dst := (some 2)) (ty := 23) (g := none) (by kernel_rfl) rfl (run_assign (x := (.tmp 7)) (v := (.slice a2 r.length n2)) rfl) ?_
  refine RWP.nil ?_
  refine thenQ_nrm ?_
  refine CWP.ret (by kernel_rfl) ?_
  exact ⟨rfl, (.slice a2 r.length n2), res_of (l := [.tmp 2]) (by kernel_rfl) (vs := [(.slice a2 r.length n2)]) ⟨rfl, trivial⟩, (.slice a2 r.length n2), F0, _, rfl, hs2, a2, n2, e2, rfl, rfl, hr2⟩
end Go.Proofs.Ythbcnabeabcmlaa
namespace Go.Proofs.Ythbcnabeabcmlaa
open Go.Proofs
def clocks_added_1_L0 {σ : Type} (N : Nat) (y : (σ → (Bool × (List Bound)) → Option (Bool × σ))) (z0 : System) (z1 : (List Tie)) (s : σ) (r1 : (List Tie)) : (Int × List Tie × σ) → Option (Flow σ (Int × List Tie × σ)) := fun s20 =>
 (bif (decide (s20.1 < (z1.length : Int))) then ((idx z1 s20.1).bind fun x47 => ((apnd s20.2.1 [x47]).bind fun r71 => ((clocks_loopOf N ({ Tracks := z0.Tracks, Ties := r71, Window := z0.Window } : System)).bind fun r82 => ((y s20.2.2 ((r82.isEmpty), r82)).bind fun q93 => (bif (!q93.1) then some (.ret q93.2) else ((bif (!r82.isEmpty) then ((sub r71 0 (W64 ((r71.length : Int) - 1))).bind fun r123 => some r123) else some r71).bind fun j112 => some (.next ((W64 (s20.1 + 1)), j112, q93.2)))))))) else some (.done (s20.1, s20.2.1, s20.2.2)))
def clocks_added_1 {σ : Type} (N : Nat) (y : σ → (Bool × (List Bound)) → Option (Bool × σ)) (z0 : System) (z1 : (List Tie)) (s : σ) : Option σ :=
 ((slices_Clone_api_Tie_api_Tie N z0.Ties).bind fun r1 => ((iter (clocks_added_1_L0 N y z0 z1 s r1) N (0, r1, s)).bind fun o => o.k (fun r => some r) (fun s32 => some s32.2.2)))
theorem co_clocks_added_1 : CallOk Try.prog 127 := fun _ _ => by kernel_rfl
set_option maxHeartbeats 4000000 in
set_option maxRecDepth 100000 in
theorem c_clocks_added_1 (N : Nat) (F0 : Mem) (z0 : System) (az0_0 : Option Addr) (nz0_0 : Nat) (hbz0_0 : LC z0.Tracks.length nz0_0) (hsz0_0 : SlA tTrack F0 az0_0 z0.Tracks) (az0_1 : Option Addr) (nz0_1 : Nat) (hbz0_1 : LC z0.Ties.length nz0_1) (hsz0_1 : SlA tTie F0 az0_1 z0.Ties) (bz0 : Nat) (z1 : (List Tie)) (az1_0 : Option Addr) (nz1_0 : Nat) (hbz1_0 : LC z1.length nz1_0) (hsz1_0 : SlA tTie F0 az1_0 z1) (bz1 : Nat) (hz1 : F0 bz1 = some (oc #[(.slice az1_0 z1.length nz1_0)] 23)) :
  SeqOk Try.prog 127 [(.pointer (some ⟨bz0, 0, none⟩)), (.pointer (some ⟨bz1, 0, none⟩))] F0 [(sb bz0 (kSystem z0 az0_0 nz0_0 az0_1 nz0_1) 25)] enc155 ok155 px155 (fun {_} y s => clocks_added_1 N y z0 z1 s) := by
 intro σ wb w0 Fb F1 l y J s r Lf le01 hJm hs0 hJ hY h
 have hs0 : HS wb Fb w0 F1 ((sb bz0 (kSystem z0 az0_0 nz0_0 az0_1 nz0_1) 25) :: Lf) := hs0
 refine calls_of (n := 42) (c := bodyOf Try.f127) Try.func127 (by kernel_rfl) (by kernel_rfl) (by kernel_rfl) ?_
 refine Sq (Rg [0, 1, 2, 3, 4] ?_)
 refine V 7 0 (fa 25 1 1 1 1 bz0 0 1) ?_
 refine V 8 23 (ld 23 7 bz0 1 false 1 (.slice az0_1 z0.Ties.length nz0_1) (hs0.ownAt (k := 0) rfl)) ?_
 obtain ⟨r1, hr2, h3⟩ := bind_some h
 refine RWP.callO (dst := (some 9)) (ty := 23) (g := none) (by kernel_rfl) rfl (f0 := (.func 128)) (aos := #[(.tmp 8)]) (ats := #[23]) (fid := 128) (first := #[]) (cap := #[]) (args := [(.slice az0_1 z0.Ties.length nz0_1)]) rfl co_slices_Clone_api_Tie_api_Tie (rfl) hs0 (c_slices_Clone_api_Tie_api_Tie N w0 F1 hs0.pers (z0.Ties) az0_1 nz0_1 hbz0_1 (SlA.mono hsz0_1 le01) _ hr2) ?_
 rintro _ F2 w5 _ hs6 le7 ⟨a9, n10, e11, rfl, rfl, hr12⟩
 have hs14 : HS wb Fb w5 F2 (e11 :: (sb bz0 (kSystem z0 az0_0 nz0_0 az0_1 nz0_1) 25) :: Lf) := hs6
 refine V 10 0 (fa 25 1 1 1 1 bz0 0 1) ?_
 refine RWP.store (ty := 0) (g := none) (by kernel_rfl) rfl (x := (.tmp 10)) (y := (.tmp 9)) (t := 23) (gg := false) (s := 1) (v := (.slice a9 r1.length n10)) (b := bz0) (o := 1) (C := (kSystem z0 az0_0 nz0_0 az0_1 nz0_1)) rfl rfl (by kernel_rfl) hs14 (k := 1) rfl rfl rfl rfl (C' := #[(.slice az0_0 z0.Tracks.length nz0_0), (.slice a9 r1.length n10), (vi z0.Window)]) rfl (fun w15 (hs16 : HS wb Fb w15 F2 (e11 :: (sb bz0 #[(.slice az0_0 z0.Tracks.length nz0_0), (.slice a9 r1.length n10), (vi z0.Window)] 25) :: Lf)) => ?_)
 refine Nss (Rg [0, 1, 2] ?_)
 refine V 11 23 (ld 23 2 bz1 0 false 1 (.slice az1_0 z1.length nz1_0) (hs16.pers _ _ ((le01.trans le7) _ _ hz1))) ?_
 refine V 12 3 (ln 11 23 az1_0 z1.length nz1_0 46 4 32) ?_
 refine V 13 3 (run_move (x := (.const (vi 0))) (v := (vi 0)) rfl) ?_
 refine Nt ?_
 obtain ⟨o17, ho18, h19⟩ := bind_some h3
 refine CWP.cut (fun f w => ∃ (s32 : (Int × List Tie × σ)) (F4 : Mem) (Lf36 : Own), o17 = .done s32 ∧ HS wb Fb w F4 Lf36 ∧ Mem.le F2 F4 ∧ f.d = [] ∧ J s32.2.2 F4 Lf36) ?_ ?_
 ·refine Bk ?_
  refine CWP.loop (by kernel_rfl) (fun m f w => ∃ (s20 : (Int × List Tie × σ)) (F3 : Mem) (as20_1 : Option Addr) (ns20_1 : Nat) (es20_1 : Option Nat × Obj) (Lf24 : Own), iter (clocks_added_1_L0 N y z0 z1 s r1) m s20 = some o17 ∧ HS wb Fb w F3 (es20_1 :: (sb bz0 #[(.slice az0_0 z0.Tracks.length nz0_0), (.slice as20_1 s20.2.1.length ns20_1), (vi z0.Window)] 25) :: Lf24) ∧ Mem.le F2 F3 ∧ f.d = [] ∧ f 0 = (.func (.yield l) #[] #[]) ∧ f 1 = (.pointer (some ⟨bz0, 0, none⟩)) ∧ f 11 = (.slice az1_0 z1.length nz1_0) ∧ f 12 = (vi (z1.length : Int)) ∧ f 13 = (vi s20.1) ∧ RowR tTie 46 F3 as20_1 ns20_1 s20.2.1 es20_1 ∧ J s20.2.2 F3 Lf24) N ⟨(0, r1, s), F2, a9, n10, e11, Lf, ho18, hs16, (Mem.le.refl _), rfl, rfl, rfl, rfl, rfl, rfl, hr12, (hJm _ _ _ _ hJ le7)⟩ ?_
  rintro m39 f w21 ⟨s20, F3, as20_1, ns20_1, es20_1, Lf24, hit40, hs22, le23, e26, e27, e28, e29, e30, e31, hrs20_1, hJ25⟩
  obtain ⟨m41, fl42, rfl, hb43, hnx44⟩ := iter_step hit40
  refine Sq (Rg [0] ?_)
  refine V 14 0 (run_lss (t := 3) (t' := 3) (x := (.tmp 13)) (y := (.tmp 12)) (k := .i64) (a := s20.1) (b := (z1.length : Int)) e31 e30) ?_
  refine Nss ?_
  refine CWP.cond (t := (decide (s20.1 < (z1.length : Int)))) (by kernel_rfl) rfl (fun hb45 => ?_) (fun hb45 => ?_)
  ·have h46 := cond_t hb43 hb45
   refine Sc ?_
   refine thenQ_nrm ?_
   refine Sq ?_
   refine Bk ?_
   refine Sq (Rg [0, 1, 2, 3] ?_)
   obtain ⟨x47, hx48, h50⟩ := bind_some h46
   obtain ⟨hi49, hx48'⟩ := idx_spec hx48
   obtain ⟨b51, o52, C53, E54, fz55, rfl, hF57, hE58⟩ := SlA.open (SlA.mono hsz1_0 ((le01.trans le7).trans le23)) hx48'
   have hc60 := hE58 _ _ hx48'
   refine V 15 0 (run_index (t := 23) (x := (.tmp 11)) (y := (.tmp 13)) (b := b51) (o := o52) (E := 46) (s := 4) (by_ := 32) e29 e31 (by kernel_rfl) hi49) ?_
   refine V 16 46 (lx 46 15 0 4 true 4 (.agg (kTie x47)) (hs22.pers _ _ hF57) hc60) ?_
   refine Al 5 0 46 #[(vi 0), (vi 0), (vi 0), (vi 0)] hs22 (fun b61 w62 (hs63 : HS wb Fb w62 F3 ((sb b61 #[(vi 0), (vi 0), (vi 0), (vi 0)] 46) :: es20_1 :: (sb bz0 #[(.slice az0_0 z0.Tracks.length nz0_0), (.slice as20_1 s20.2.1.length ns20_1), (vi z0.Window)] 25) :: Lf24)) => ?_)
   refine RWP.store (ty := 0) (g := none) (by kernel_rfl) rfl (x := (.tmp 5)) (y := (.tmp 16)) (t := 46) (gg := true) (s := 4) (v := (.agg (kTie x47))) (b := b61) (o := 0) (C := #[(vi 0), (vi 0), (vi 0), (vi 0)]) rfl rfl (by kernel_rfl) hs63 (k := 0) rfl rfl rfl rfl (C' := (kTie x47)) rfl (fun w64 (hs65 : HS wb Fb w64 F3 ((sb b61 (kTie x47) 46) :: es20_1 :: (sb bz0 #[(.slice az0_0 z0.Tracks.length nz0_0), (.slice as20_1 s20.2.1.length ns20_1), (vi z0.Window)] 25) :: Lf24)) => ?_)
   refine Nss (Rg [0, 1, 2, 3, 4, 5, 6] ?_)
   refine V 17 0 (fa 25 1 1 1 1 bz0 0 1 e28) ?_
   refine V 18 23 (ld 23 17 bz0 1 false 1 (.slice as20_1 s20.2.1.length ns20_1) (hs65.ownAt (k := 2) rfl)) ?_
   refine V 19 46 (ld 46 5 b61 0 true 4 (.agg (kTie x47)) (hs65.ownAt (k := 0) rfl)) ?_
   refine RWP.buildSlice (dst := (some 20)) (ty := 23) (g := none) (by kernel_rfl) rfl (t := 23) (len := 1) (parts := #[(0, (.tmp 19))]) (vs := [(0, (.agg (kTie x47)))]) (rfl) (E := 46) (cs := [(vi x47.A.Log), (vi x47.A.Line), (vi x47.B.Log), (vi x47.B.Line)]) (by kernel_rfl) hs65 (fun b66 w67 (hs68 : HS wb Fb w67 F3 ((some b66, .cells ([(vi x47.A.Log), (vi x47.A.Line), (vi x47.B.Log), (vi x47.B.Line)] : List Value).toArray 46 (0, 0)) :: (sb b61 (kTie x47) 46) :: es20_1 :: (sb bz0 #[(.slice az0_0 z0.Tracks.length nz0_0), (.slice as20_1 s20.2.1.length ns20_1), (vi z0.Window)] 25) :: Lf24)) => ?_)
   have hr70 : RowR tTie 46 F3 (some ⟨b66, 0, none⟩) 1 [x47] (some b66, .cells ([(vi x47.A.Log), (vi x47.A.Line), (vi x47.B.Log), (vi x47.B.Line)] : List Value).toArray 46 (0, 0)) := RowR.lit ⟨rfl, rfl⟩ (by simp)
   obtain ⟨r71, hap72, h73⟩ := bind_some h50
   refine RWP.append (dst := (some 21)) (ty := 23) (g := none) (by kernel_rfl) rfl (x := (.tmp 18)) (y := (.tmp 20)) (t := 23) (t2 := 23) (by_ := 32) (z := (.agg #[(vi 0), (vi 0), (vi 0), (vi 0)])) (a2 := (some ⟨b66, 0, none⟩)) (c2 := 1) (m := [x47]) (T := tTie) (E := 46) (a := as20_1) (cap := ns20_1) (l := s20.2.1) rfl rfl (by kernel_rfl) (by decide) (by kernel_rfl) (by kernel_rfl) rfl oTie hs68 (k := 2) rfl hrs20_1 (RowR.rd hs68 (k := 0) rfl hr70) (r := r71) hap72 (fun a74 n75 e76 w77 (hs78 : HS wb Fb w77 F3 ((some b66, .cells ([(vi x47.A.Log), (vi x47.A.Line), (vi x47.B.Log), (vi x47.B.Line)] : List Value).toArray 46 (0, 0)) :: (sb b61 (kTie x47) 46) :: e76 :: (sb bz0 #[(.slice az0_0 z0.Tracks.length nz0_0), (.slice as20_1 s20.2.1.length ns20_1), (vi z0.Window)] 25) :: Lf24)) hr79 => ?_)
   refine V 22 0 (fa 25 1 1 1 1 bz0 0 1 e28) ?_
   refine RWP.store (ty := 0) (g := none) (by kernel_rfl) rfl (x := (.tmp 22)) (y := (.tmp 21)) (t := 23) (gg := false) (s := 1) (v := (.slice a74 r71.length n75)) (b := bz0) (o := 1) (C := #[(.slice az0_0 z0.Tracks.length nz0_0), (.slice as20_1 s20.2.1.length ns20_1), (vi z0.Window)]) rfl rfl (by kernel_rfl) hs78 (k := 3) rfl rfl rfl rfl (C' := #[(.slice az0_0 z0.Tracks.length nz0_0), (.slice a74 r71.length n75), (vi z0.Window)]) rfl (fun w80 (hs81 : HS wb Fb w80 F3 ((some b66, .cells ([(vi x47.A.Log), (vi x47.A.Line), (vi x47.B.Log), (vi x47.B.Line)] : List Value).toArray 46 (0, 0)) :: (sb b61 (kTie x47) 46) :: e76 :: (sb bz0 #[(.slice az0_0 z0.Tracks.length nz0_0), (.slice a74 r71.length n75), (vi z0.Window)] 25) :: Lf24)) => ?_)
   refine Nss (Rg [0, 1, 2] ?_)
   refine V 23 25 (ld 25 1 bz0 0 true 3 (.agg #[(.slice az0_0 z0.Tracks.length nz0_0), (.slice a74 r71.length n75), (vi z0.Window)]) (hs81.ownAt (k := 3) rfl) e28) ?_
   obtain ⟨r82, hr83, h84⟩ := bind_some h73
   refine RWP.callLent (q := 2) (T := tBound) (r := r82) (dst := (some 24)) (ty := 57) (g := none) (by kernel_rfl) rfl (f0 := (.func 103)) (aos := #[(.tmp 23)]) (ats := #[25]) (fid := 103) (first := #[]) (cap := #[]) (args := [(.agg #[(.slice az0_0 z0.Tracks.length nz0_0), (.slice a74 r71.length n75), (vi z0.Window)])]) rfl co_clocks_loopOf (rfl) hs81 rfl (fun _ _ _ _ h => h) (c_clocks_loopOf N w80 (addF F3 e76) (HS.lend hs81 (q := 2) rfl).2 ({ Tracks := z0.Tracks, Ties := r71, Window := z0.Window } : System) az0_0 nz0_0 hbz0_0 (SlA.mono (SlA.mono hsz0_0 ((le01.trans le7).trans le23)) (HS.lend hs81 (q := 2) rfl).1) a74 n75 (RowR.bound hr79) (RowR.freeze hr79 (HS.lend hs81 (q := 2) rfl).1) _ hr83) (fun a85 n86 F5 w87 (hs88 : HS wb Fb w87 F5 ((some b66, .cells ([(vi x47.A.Log), (vi x47.A.Line), (vi x47.B.Log), (vi x47.B.Line)] : List Value).toArray 46 (0, 0)) :: (sb b61 (kTie x47) 46) :: e76 :: (sb bz0 #[(.slice az0_0 z0.Tracks.length nz0_0), (.slice a74 r71.length n75), (vi z0.Window)] 25) :: Lf24)) le89 hb90 hl91 nf92 => ?_)
   refine V 6 57 (ma 24 (.slice a85 r82.length n86)) ?_
   refine Nss ?_
   refine Sq (Rg [0, 1, 2, 3, 4, 5] ?_)
   refine V 25 155 (mv 0 (.func (.yield l) #[] #[]) e27) ?_
   refine V 26 57 (mv 6 (.slice a85 r82.length n86)) ?_
   refine V 27 4 (run_eqnil' (e := 103) (t := 57) (t' := 57) (x := (.tmp 26)) (y := (.const (.slice none 0 0))) hl91 nf92 rfl rfl (by kernel_rfl)) ?_
   refine V 28 57 (mv 6 (.slice a85 r82.length n86)) ?_
   obtain ⟨q93, hq94, h95⟩ := bind_some h84
   refine RWP.yield (dst := (some 29)) (ty := 4) (g := none) (by kernel_rfl) rfl (f0 := (.tmp 25)) (aos := #[(.tmp 27), (.tmp 28)]) (ats := #[4, 57]) (l := l) (args := [(.bool (r82.isEmpty)), (.slice a85 r82.length n86)]) rfl (rfl) (hY s20.2.2 ((r82.isEmpty), r82, a85, n86) w87 F5 [(some b66, .cells ([(vi x47.A.Log), (vi x47.A.Line), (vi x47.B.Log), (vi x47.B.Line)] : List Value).toArray 46 (0, 0)), (sb b61 (kTie x47) 46), e76, (sb bz0 #[(.slice az0_0 z0.Tracks.length nz0_0), (.slice a74 r71.length n75), (vi z0.Window)] 25)] Lf24 q93 ((le7.trans le23).trans le89) ⟨hb90, hl91⟩ (hJm _ _ _ _ hJ25 le89) hs88 hq94) ?_
   rintro _ w96 ⟨F6, Lf100, rfl, hs97, le98, hJ99⟩
   have hs101 : HS wb Fb w96 F6 ((some b66, .cells ([(vi x47.A.Log), (vi x47.A.Line), (vi x47.B.Log), (vi x47.B.Line)] : List Value).toArray 46 (0, 0)) :: (sb b61 (kTie x47) 46) :: e76 :: (sb bz0 #[(.slice az0_0 z0.Tracks.length nz0_0), (.slice a74 r71.length n75), (vi z0.Window)] 25) :: Lf100) := hs97
   refine ⟨_, rfl, ?_⟩
   refine V 30 4 (run_not (t := 4) (x := (.tmp 29)) (a := q93.1) rfl) ?_
   refine Nt ?_
   refine CWP.cond (t := (!q93.1)) (by kernel_rfl) rfl (fun hb102 => ?_) (fun hb102 => ?_)
   ·have h103 := cond_t h95 hb102
    refine CWP.ret (by kernel_rfl) ?_
    refine thenQ_ret ?_
    refine blockQ_ret ?_
    refine thenQ_ret ?_
    refine thenQ_ret ?_
    refine blockQ_ret ?_
    have hret := iter_ret h103 hnx44
    subst hret
    refine .inr ?_
    have hs104 : HS wb Fb w96 F6 ((sb b61 (kTie x47) 46) :: e76 :: (sb bz0 #[(.slice az0_0 z0.Tracks.length nz0_0), (.slice a74 r71.length n75), (vi z0.Window)] 25) :: Lf100) := hs101.drop 0
    have hs105 : HS wb Fb w96 F6 (e76 :: (sb bz0 #[(.slice az0_0 z0.Tracks.length nz0_0), (.slice a74 r71.length n75), (vi z0.Window)] 25) :: Lf100) := hs104.drop 0
    have hs106 : HS wb Fb w96 F6 ((sb bz0 #[(.slice az0_0 z0.Tracks.length nz0_0), (.slice a74 r71.length n75), (vi z0.Window)] 25) :: Lf100) := hs105.drop 0
    have hs107 : HS wb Fb w96 F6 Lf100 := hs106.drop 0
    have hfin := some_inj h19
    subst hfin
    exact ⟨e26, .tuple #[], res_of (l := []) (by kernel_rfl) (vs := []) trivial, F6, Lf100, rfl, hs107, (((le7.trans le23).trans le89).trans le98), hJ99⟩
   ·have h108 := cond_f h95 hb102
    refine Sc ?_
    refine thenQ_nrm ?_
    refine Sq (Rg [0, 1] ?_)
    refine V 31 57 (mv 6 (.slice a85 r82.length n86)) ?_
    refine V 32 4 (run_nenil' (e := 103) (t := 57) (t' := 57) (x := (.tmp 31)) (y := (.const (.slice none 0 0))) (SlA.mono hl91 le98) nf92 rfl rfl (by kernel_rfl)) ?_
    refine Nt ?_
    obtain ⟨j112, hj119, h120⟩ := bind_some h108
    refine CWP.cut (fun f w => ∃ (F7 : Mem) (aj112_0 : Option Addr) (nj112_0 : Nat) (ej112_0 : Option Nat × Obj), HS wb Fb w F7 (ej112_0 :: (sb bz0 #[(.slice az0_0 z0.Tracks.length nz0_0), (.slice aj112_0 j112.length nj112_0), (vi z0.Window)] 25) :: Lf100) ∧ Mem.le F6 F7 ∧ f.d = [] ∧ f 0 = (.func (.yield l) #[] #[]) ∧ f 1 = (.pointer (some ⟨bz0, 0, none⟩)) ∧ f 11 = (.slice (some ⟨b51, o52, none⟩) z1.length nz1_0) ∧ f 12 = (vi (z1.length : Int)) ∧ f 13 = (vi s20.1) ∧ RowR tTie 46 F7 aj112_0 nj112_0 j112 ej112_0) ?_ ?_
    ·refine CWP.cond (t := (!r82.isEmpty)) (by kernel_rfl) rfl (fun hb121 => ?_) (fun hb121 => ?_)
     ·have h122 := cond_t hj119 hb121
      refine Rg [0, 1, 2, 3, 4, 5, 6, 7, 8] ?_
      refine V 33 0 (fa 25 1 1 1 1 bz0 0 1 e28) ?_
      refine V 34 23 (ld 23 33 bz0 1 false 1 (.slice a74 r71.length n75) (hs101.ownAt (k := 3) rfl)) ?_
      refine V 35 0 (fa 25 1 1 1 1 bz0 0 1 e28) ?_
      refine V 36 23 (ld 23 35 bz0 1 false 1 (.slice a74 r71.length n75) (hs101.ownAt (k := 3) rfl)) ?_
      refine V 37 3 (ln 36 23 a74 r71.length n75 46 4 32) ?_
      refine V 38 3 (run_sub (t := 3) (t' := 3) (x := (.tmp 37)) (y := (.const (vi 1))) (k := .i64) (a := (r71.length : Int)) (b := 1) rfl rfl) ?_
      obtain ⟨r123, hr124, h125⟩ := bind_some h122
      refine RWP.sliceRow (T := tTie) (x := (.tmp 34)) (y := (.tmp 38)) (t := 23) (E := 46) (by_ := 32) (c := n75) (a := a74) (l := r71) (r := r123) (ih := (W64 ((r71.length : Int) - 1))) (dst := (some 39)) (ty := 23) (g := none) (by kernel_rfl) rfl rfl (by kernel_rfl) (by kernel_rfl) (hr79.mono (le89.trans le98)) rfl hr124 (fun hr126 => ?_)
      refine V 40 0 (fa 25 1 1 1 1 bz0 0 1 e28) ?_
      refine RWP.store (ty := 0) (g := none) (by kernel_rfl) rfl (x := (.tmp 40)) (y := (.tmp 39)) (t := 23) (gg := false) (s := 1) (v := (.slice a74 r123.length n75)) (b := bz0) (o := 1) (C := #[(.slice az0_0 z0.Tracks.length nz0_0), (.slice a74 r71.length n75), (vi z0.Window)]) rfl rfl (by kernel_rfl) hs101 (k := 3) rfl rfl rfl rfl (C' := #[(.slice az0_0 z0.Tracks.length nz0_0), (.slice a74 r123.length n75), (vi z0.Window)]) rfl (fun w127 (hs128 : HS wb Fb w127 F6 ((some b66, .cells ([(vi x47.A.Log), (vi x47.A.Line), (vi x47.B.Log), (vi x47.B.Line)] : List Value).toArray 46 (0, 0)) :: (sb b61 (kTie x47) 46) :: e76 :: (sb bz0 #[(.slice az0_0 z0.Tracks.length nz0_0), (.slice a74 r123.length n75), (vi z0.Window)] 25) :: Lf100)) => ?_)
      refine RWP.nil ?_
      obtain rfl := some_inj h125
      have hs129 : HS wb Fb w127 F6 ((sb b61 (kTie x47) 46) :: e76 :: (sb bz0 #[(.slice az0_0 z0.Tracks.length nz0_0), (.slice a74 r123.length n75), (vi z0.Window)] 25) :: Lf100) := hs128.drop 0
      have hs130 : HS wb Fb w127 F6 (e76 :: (sb bz0 #[(.slice az0_0 z0.Tracks.length nz0_0), (.slice a74 r123.length n75), (vi z0.Window)] 25) :: Lf100) := hs129.drop 0
      exact .inl ⟨rfl, F6, a74, n75, e76, hs130, (Mem.le.refl _), e26, e27, e28, e29, e30, e31, hr126⟩
     ·have h131 := cond_f hj119 hb121
      refine Sc ?_
      obtain rfl := some_inj h131
      have hs132 : HS wb Fb w96 F6 ((sb b61 (kTie x47) 46) :: e76 :: (sb bz0 #[(.slice az0_0 z0.Tracks.length nz0_0), (.slice a74 r71.length n75), (vi z0.Window)] 25) :: Lf100) := hs101.drop 0
      have hs133 : HS wb Fb w96 F6 (e76 :: (sb bz0 #[(.slice az0_0 z0.Tracks.length nz0_0), (.slice a74 r71.length n75), (vi z0.Window)] 25) :: Lf100) := hs132.drop 0
      exact .inl ⟨rfl, F6, a74, n75, e76, hs133, (Mem.le.refl _), e26, e27, e28, e29, e30, e31, (hr79.mono (le89.trans le98))⟩
    ·rintro f w109 ⟨F7, aj112_0, nj112_0, ej112_0, hs110, le111, e113, e114, e115, e116, e117, e118, hrj112_0⟩
     refine blockQ_nrm ?_
     refine thenQ_nrm ?_
     refine Rg [0, 1] ?_
     refine V 41 3 (run_add (t := 3) (t' := 3) (x := (.tmp 13)) (y := (.const (vi 1))) (k := .i64) (a := s20.1) (b := 1) e118 rfl) ?_
     refine V 13 3 (mv 41 (vi (W64 (s20.1 + 1)))) ?_
     refine RWP.nil ?_
     have hn134 := iter_next h120 hnx44
     exact ⟨m41, Nat.lt_succ_self _, ((W64 (s20.1 + 1)), j112, q93.2), F7, aj112_0, nj112_0, ej112_0, Lf100, hn134, hs110, (((le23.trans le89).trans le98).trans le111), e113, e114, e115, e116, e117, rfl, hrj112_0, (hJm _ _ _ _ hJ99 le111)⟩
  ·have h135 := cond_f hb43 hb45
   refine CWP.exit (by kernel_rfl) ?_
   refine thenQ_ex ?_
   refine thenQ_ex ?_
   refine blockQ_hit rfl ?_
   have hs136 : HS wb Fb w21 F3 ((sb bz0 #[(.slice az0_0 z0.Tracks.length nz0_0), (.slice as20_1 s20.2.1.length ns20_1), (vi z0.Window)] 25) :: Lf24) := hs22.drop 0
   have hs137 : HS wb Fb w21 F3 Lf24 := hs136.drop 0
   have ho138 := iter_done h135 hnx44
   exact .inl ⟨rfl, (s20.1, s20.2.1, s20.2.2), F3, Lf24, ho138, hs137, le23, e26, hJ25⟩
 ·rintro f w33 ⟨s32, F4, Lf36, rfl, hs34, le35, e38, hJ37⟩
  have h139 := k_done h19
  have hfin := some_inj h139
  subst hfin
  exact ⟨e38, .tuple #[], res_of (l := []) (by kernel_rfl) (vs := []) trivial, F4, Lf36, rfl, hs34, (le7.trans le35), hJ37⟩
end Go.Proofs.Ythbcnabeabcmlaa
namespace Go.Proofs.Ythbcnabeabcmlaa
open Go.Proofs
def clocks_offered_1 (N : Nat) (x0 : Tie) (z0 : System) : Option Bool :=
 (((clocks_has N z0 x0.A).bind fun r12 => (bif (!r12) then some true else ((clocks_has N z0 x0.B).bind fun r24 => some (!r24)))).bind fun j7 => some j7)
theorem co_clocks_offered_1 : CallOk Try.prog 125 := fun _ _ => by kernel_rfl
set_option maxHeartbeats 4000000 in
set_option maxRecDepth 100000 in
theorem c_clocks_offered_1 (N : Nat) (w0 : World) (F0 : Mem) (hF : ∀ b o, F0 b = some o → w0.heap[b]? = some o) (x0 : Tie) (bz0 : Nat) (z0 : System) (az0_0 : Option Addr) (nz0_0 : Nat) (hbz0_0 : LC z0.Tracks.length nz0_0) (hsz0_0 : SlA tTrack F0 az0_0 z0.Tracks) (az0_1 : Option Addr) (nz0_1 : Nat) (hbz0_1 : LC z0.Ties.length nz0_1) (hsz0_1 : SlA tTie F0 az0_1 z0.Ties) (hz0 : F0 bz0 = some (oc (kSystem z0 az0_0 nz0_0 az0_1 nz0_1) 25)) (r : Bool) (h : clocks_offered_1 N x0 z0 = some r) :
  Calls Try.prog 125 ([(.agg (kTie x0)), (.pointer (some ⟨bz0, 0, none⟩))] : List Value).toArray w0 (FRet w0 F0 fun F' v => v = (.bool r)) := by
 have hs0 := HS.start hF
 refine calls_of (n := 16) (c := bodyOf Try.f125) Try.func125 (by kernel_rfl) (by kernel_rfl) (by kernel_rfl) ?_
 refine Sq (Rg [0, 1] ?_)
 refine Bx 2 0 0 46 (kTie x0) hs0 (fun b1 w2 (hs3 : HS w0 F0 w2 F0 [(sb b1 (kTie x0) 46)]) => ?_)
 refine V 3 4 (mc (.bool false) (.bool false)) ?_
 refine Nss (Rg [0, 1, 2, 3, 4, 5, 6, 7, 8, 9, 10, 11, 12] ?_)
 obtain ⟨j7, hj10, h11⟩ := bind_some h
 refine RWP.cut (fun f w => ∃ (F1 : Mem), HS w0 F0 w F1 [] ∧ Mem.le F0 F1 ∧ f.d = [] ∧ f 3 = (.bool j7)) ?_ ?_
 ·refine V 4 25 (ld 25 1 bz0 0 true 3 (.agg (kSystem z0 az0_0 nz0_0 az0_1 nz0_1)) (hs3.pers _ _ hz0)) ?_
  refine V 5 0 (fa 46 2 0 0 2 b1 0 0) ?_
  refine V 6 27 (ld 27 5 b1 0 true 2 (.agg (kRef x0.A)) (hs3.ownAt (k := 0) rfl)) ?_
  obtain ⟨r12, hr13, h14⟩ := bind_some hj10
  refine Cl 7 4 107 #[(.tmp 4), (.tmp 6)] #[25, 27] co_clocks_has hs3 (c_clocks_has N w2 F0 hs3.pers (z0) az0_0 nz0_0 hbz0_0 hsz0_0 az0_1 nz0_1 hbz0_1 hsz0_1 (x0.A) _ hr13) ?_
  intro v15 F2 w16 hs17 le18 hp19
  obtain rfl := hp19
  refine V 8 4 (run_not (t := 4) (x := (.tmp 7)) (a := r12) rfl) ?_
  refine V 9 4 (mv 8 (.bool (!r12))) ?_
  refine RWP.split (!r12) (fun hb20 => ?_) (fun hb20 => ?_)
  ·have h21 := cond_t h14 hb20
   refine Sk [10, 11, 12, 13, 14] 5 false 9 hb20 ?_
   refine V 15 4 (p1 9 (.const (.bool true)) (.tmp 14) (.bool true) hb20) ?_
   refine V 3 4 (ma 15 (.bool true)) ?_
   obtain rfl := some_inj h21
   have hs22 : HS w0 F0 w16 F2 [] := hs17.drop 0
   exact RWP.nil ⟨rfl, F2, hs22, le18, rfl, rfl⟩
  ·have h23 := cond_f h14 hb20
   refine Vg 10 25 5 false 9 hb20 (ld 25 1 bz0 0 true 3 (.agg (kSystem z0 az0_0 nz0_0 az0_1 nz0_1)) (hs17.pers _ _ (le18 _ _ hz0))) ?_
   refine Vg 11 0 5 false 9 hb20 (fa 46 2 1 2 2 b1 0 2) ?_
   refine Vg 12 27 5 false 9 hb20 (ld 27 11 b1 2 true 2 (.agg (kRef x0.B)) (hs17.ownAt (k := 0) rfl)) ?_
   obtain ⟨r24, hr25, h26⟩ := bind_some h23
   refine RWP.call (dst := (some 13)) (ty := 4) (g := (some (5, false))) (by kernel_rfl) (gd_y (d := 9) (by kernel_rfl) rfl hb20) (f0 := (.func 107)) (aos := #[(.tmp 10), (.tmp 12)]) (ats := #[25, 27]) (fid := 107) (first := #[]) (cap := #[]) (args := [(.agg (kSystem z0 az0_0 nz0_0 az0_1 nz0_1)), (.agg (kRef x0.B))]) rfl co_clocks_has (rfl) hs17 (c_clocks_has N w16 F2 hs17.pers (z0) az0_0 nz0_0 hbz0_0 (SlA.mono hsz0_0 le18) az0_1 nz0_1 hbz0_1 (SlA.mono hsz0_1 le18) (x0.B) _ hr25) ?_
   intro v27 F3 w28 hs29 le30 hp31
   obtain rfl := hp31
   refine Vg 14 4 5 false 9 hb20 (run_not (t := 4) (x := (.tmp 13)) (a := r24) rfl) ?_
   refine V 15 4 (p0 9 (.const (.bool true)) (.tmp 14) (.bool (!r24)) hb20) ?_
   refine V 3 4 (ma 15 (.bool (!r24))) ?_
   obtain rfl := some_inj h26
   have hs32 : HS w0 F0 w28 F3 [] := hs29.drop 0
   exact RWP.nil ⟨rfl, F3, hs32, (le18.trans le30), rfl, rfl⟩
 ·rintro f w4 ⟨F1, hs5, le6, e8, e9⟩
  refine thenQ_nrm ?_
  refine CWP.ret (by kernel_rfl) ?_
  have hfin := some_inj h11
  subst hfin
  exact ⟨e8, (.bool j7), res_of (l := [.tmp 3]) (by kernel_rfl) (vs := [(.bool j7)]) ⟨e9, trivial⟩, (.bool j7), F1, rfl, hs5.clear, rfl⟩
end Go.Proofs.Ythbcnabeabcmlaa
namespace Go.Proofs.Ythbcnabeabcmlaa
open Go.Proofs
def clocks_offered_2 (N : Nat) (x0 : Tie) (z0 : System) : Option Bool :=
 ((clocks_tied N z0 x0).bind fun r4 => some (!r4))
theorem co_clocks_offered_2 : CallOk Try.prog 126 := fun _ _ => by kernel_rfl
set_option maxHeartbeats 4000000 in
set_option maxRecDepth 100000 in
theorem c_clocks_offered_2 (N : Nat) (w0 : World) (F0 : Mem) (hF : ∀ b o, F0 b = some o → w0.heap[b]? = some o) (x0 : Tie) (bz0 : Nat) (z0 : System) (az0_0 : Option Addr) (nz0_0 : Nat) (hbz0_0 : LC z0.Tracks.length nz0_0) (hsz0_0 : SlA tTrack F0 az0_0 z0.Tracks) (az0_1 : Option Addr) (nz0_1 : Nat) (hbz0_1 : LC z0.Ties.length nz0_1) (hsz0_1 : SlA tTie F0 az0_1 z0.Ties) (hz0 : F0 bz0 = some (oc (kSystem z0 az0_0 nz0_0 az0_1 nz0_1) 25)) (r : Bool) (h : clocks_offered_2 N x0 z0 = some r) :
  Calls Try.prog 126 ([(.agg (kTie x0)), (.pointer (some ⟨bz0, 0, none⟩))] : List Value).toArray w0 (FRet w0 F0 fun F' v => v = (.bool r)) := by
 have hs0 := HS.start hF
 refine calls_of (n := 8) (c := bodyOf Try.f126) Try.func126 (by kernel_rfl) (by kernel_rfl) (by kernel_rfl) ?_
 refine Sq (Rg [0, 1] ?_)
 refine Bx 2 0 0 46 (kTie x0) hs0 (fun b1 w2 (hs3 : HS w0 F0 w2 F0 [(sb b1 (kTie x0) 46)]) => ?_)
 refine V 3 4 (mc (.bool false) (.bool false)) ?_
 refine Nss (Rg [0, 1, 2, 3, 4] ?_)
 refine V 4 25 (ld 25 1 bz0 0 true 3 (.agg (kSystem z0 az0_0 nz0_0 az0_1 nz0_1)) (hs3.pers _ _ hz0)) ?_
 refine V 5 46 (ld 46 2 b1 0 true 4 (.agg (kTie x0)) (hs3.ownAt (k := 0) rfl)) ?_
 obtain ⟨r4, hr5, h6⟩ := bind_some h
 refine Cl 6 4 70 #[(.tmp 4), (.tmp 5)] #[25, 46] co_clocks_tied hs3 (c_clocks_tied N w2 F0 hs3.pers (z0) az0_0 nz0_0 hbz0_0 hsz0_0 az0_1 nz0_1 hbz0_1 hsz0_1 (x0) _ hr5) ?_
 intro v7 F1 w8 hs9 le10 hp11
 obtain rfl := hp11
 refine V 7 4 (run_not (t := 4) (x := (.tmp 6)) (a := r4) rfl) ?_
 refine V 3 4 (ma 7 (.bool (!r4))) ?_
 refine Nt ?_
 refine CWP.ret (by kernel_rfl) ?_
 have hfin := some_inj h6
 subst hfin
 exact ⟨rfl, (.bool (!r4)), res_of (l := [.tmp 3]) (by kernel_rfl) (vs := [(.bool (!r4))]) ⟨rfl, trivial⟩, (.bool (!r4)), F1, rfl, hs9.clear, rfl⟩
end Go.Proofs.Ythbcnabeabcmlaa
namespace Go.Proofs.Ythbcnabeabcmlaa
open Go.Proofs
def clocks_offered (N : Nat) (x0 : System) (x1 : (List Tie)) (x2 : Bool) : Option Int :=
 ((clocks_Check N x0).bind fun r4 => (bif (r4 != 0) then some r4 else ((slices_ContainsFunc_api_Tie_api_Tie N x1 (fun y0 => clocks_offered_1 N y0 x0)).bind fun r18 => (bif r18 then some 3 else ((bif (!x2) then some true else ((slices_ContainsFunc_api_Tie_api_Tie N x1 (fun y0 => clocks_offered_2 N y0 x0)).bind fun r42 => some r42)).bind fun j32 => (bif j32 then some 1 else ((clocks_loopOf N x0).bind fun r53 => (bif (!r53.isEmpty) then some 31 else (bif (decide ((W64 ((x0.Ties.length : Int) + (x1.length : Int))) > 400)) then some 2 else some 0)))))))))
theorem co_clocks_offered : CallOk Try.prog 86 := fun _ _ => by kernel_rfl
set_option maxHeartbeats 4000000 in
set_option maxRecDepth 100000 in
theorem c_clocks_offered (N : Nat) (w0 : World) (F0 : Mem) (hF : ∀ b o, F0 b = some o → w0.heap[b]? = some o) (x0 : System) (a0_0 : Option Addr) (n0_0 : Nat) (hb0_0 : LC x0.Tracks.length n0_0) (hs0_0 : SlA tTrack F0 a0_0 x0.Tracks) (a0_1 : Option Addr) (n0_1 : Nat) (hb0_1 : LC x0.Ties.length n0_1) (hs0_1 : SlA tTie F0 a0_1 x0.Ties) (x1 : (List Tie)) (a1_0 : Option Addr) (n1_0 : Nat) (hb1_0 : LC x1.length n1_0) (hs1_0 : SlA tTie F0 a1_0 x1) (x2 : Bool) (r : Int) (h : clocks_offered N x0 x1 x2 = some r) :
  Calls Try.prog 86 ([(.agg (kSystem x0 a0_0 n0_0 a0_1 n0_1)), (.slice a1_0 x1.length n1_0), (.bool x2)] : List Value).toArray w0 (FRet w0 F0 fun F' v => v = (vi r)) := by
 have hs0 := HS.start hF
 refine calls_of (n := 36) (c := bodyOf Try.f86) Try.func86 (by kernel_rfl) (by kernel_rfl) (by kernel_rfl) ?_
 refine Sq (Rg [0, 1] ?_)
 refine Bx 3 0 0 25 (kSystem x0 a0_0 n0_0 a0_1 n0_1) hs0 (fun b1 w2 (hs3 : HS w0 F0 w2 F0 [(sb b1 (kSystem x0 a0_0 n0_0 a0_1 n0_1) 25)]) => ?_)
 refine V 6 30 (mc (vi 0) (vi 0)) ?_
 refine Nss ?_
 refine Sq (Rg [0, 1, 2] ?_)
 refine V 8 25 (ld 25 3 b1 0 true 3 (.agg (kSystem x0 a0_0 n0_0 a0_1 n0_1)) (hs3.ownAt (k := 0) rfl)) ?_
 obtain ⟨r4, hr5, h6⟩ := bind_some h
 refine Cl 9 30 17 #[(.tmp 8)] #[25] co_clocks_Check hs3 (c_clocks_Check N w2 F0 hs3.pers (x0) a0_0 n0_0 hb0_0 hs0_0 a0_1 n0_1 hb0_1 hs0_1 _ hr5) ?_
 intro v7 F1 w8 hs9 le10 hp11
 obtain rfl := hp11
 refine V 7 30 (ma 9 (vi r4)) ?_
 refine Nss (Rg [0, 1] ?_)
 refine V 10 30 (mv 7 (vi r4)) ?_
 refine V 11 4 (run_neq (t := 30) (t' := 30) (x := (.tmp 10)) (y := (.const (vi 0))) (k := .i64) (a := r4) (b := 0) rfl rfl) ?_
 refine Nt ?_
 refine CWP.cond (t := (r4 != 0)) (by kernel_rfl) rfl (fun hb12 => ?_) (fun hb12 => ?_)
 ·have h13 := cond_t h6 hb12
  refine Sq (Rg [0, 1] ?_)
  refine V 12 30 (mv 7 (vi r4)) ?_
  refine V 6 30 (ma 12 (vi r4)) ?_
  refine Nt ?_
  refine CWP.ret (by kernel_rfl) ?_
  refine thenQ_ret ?_
  have hfin := some_inj h13
  subst hfin
  exact ⟨rfl, (vi r4), res_of (l := [.tmp 6]) (by kernel_rfl) (vs := [(vi r4)]) ⟨rfl, trivial⟩, (vi r4), F1, rfl, hs9.clear, rfl⟩
 ·have h14 := cond_f h6 hb12
  refine Sc ?_
  refine thenQ_nrm ?_
  refine Sq ?_
  refine Sq (Rg [0, 1, 2] ?_)
  refine V 13 23 (mv 1 (.slice a1_0 x1.length n1_0)) ?_
  refine V 14 91 (run_makeFunc (fn := .func 125) (first := #[]) (cap := #[(.tmp 3)]) (fl := []) (cl := [(.pointer (some ⟨b1, 0, none⟩))]) rfl (rfl)) ?_
  obtain ⟨F2, hs15, le16, hF17⟩ : ∃ Fq, HS w0 F0 w8 Fq [] ∧ Mem.le F1 Fq ∧ Fq b1 = some (oc (kSystem x0 a0_0 n0_0 a0_1 n0_1) 25) := HS.freezeC hs9 (k := 0) rfl
  obtain ⟨r18, hr19, h20⟩ := bind_some h14
  refine Cl 15 4 68 #[(.tmp 13), (.tmp 14)] #[23, 91] co_slices_ContainsFunc_api_Tie_api_Tie hs15 (c_slices_ContainsFunc_api_Tie_api_Tie N w8 F2 hs15.pers (x1) a1_0 n1_0 hb1_0 (SlA.mono hs1_0 (le10.trans le16)) 125 [] [(.pointer (some ⟨b1, 0, none⟩))] (fun y0 => clocks_offered_1 N y0 x0) co_clocks_offered_1 (fun w1 F1 y0 r le1 pe1 hr1 => c_clocks_offered_1 N w1 F1 pe1  y0 b1 x0 a0_0 n0_0 hb0_0 (SlA.mono (SlA.mono hs0_0 (le10.trans le16)) le1) a0_1 n0_1 hb0_1 (SlA.mono (SlA.mono hs0_1 (le10.trans le16)) le1) (le1 _ _ hF17) r hr1) _ hr19) ?_
  intro v21 F3 w22 hs23 le24 hp25
  obtain rfl := hp25
  refine Nt ?_
  refine CWP.cond (t := r18) (by kernel_rfl) rfl (fun hb26 => ?_) (fun hb26 => ?_)
  ·have h27 := cond_t h20 hb26
   refine Sq (Rg [0] ?_)
   refine V 6 30 (mc (vi 3) (vi 3)) ?_
   refine Nt ?_
   refine CWP.ret (by kernel_rfl) ?_
   refine thenQ_ret ?_
   have hfin := some_inj h27
   subst hfin
   exact ⟨rfl, (vi 3), res_of (l := [.tmp 6]) (by kernel_rfl) (vs := [(vi 3)]) ⟨rfl, trivial⟩, (vi 3), F3, rfl, hs23.clear, rfl⟩
  ·have h28 := cond_f h20 hb26
   refine Sc ?_
   refine thenQ_nrm ?_
   refine Sq ?_
   refine Bk ?_
   refine Sq (Rg [0, 1, 2, 3, 4, 5, 6, 7] ?_)
   obtain ⟨j32, hj37, h38⟩ := bind_some h28
   refine RWP.cut (fun f w => ∃ (F4 : Mem), HS w0 F0 w F4 [] ∧ Mem.le F3 F4 ∧ f.d = [] ∧ f 1 = (.slice a1_0 x1.length n1_0) ∧ f 3 = (.pointer (some ⟨b1, 0, none⟩)) ∧ f 16 = (.bool j32)) ?_ ?_
   ·refine V 17 4 (mv 2 (.bool x2)) ?_
    refine V 18 4 (run_not (t := 4) (x := (.tmp 17)) (a := x2) rfl) ?_
    refine V 19 4 (mv 18 (.bool (!x2))) ?_
    refine RWP.split (!x2) (fun hb39 => ?_) (fun hb39 => ?_)
    ·have h40 := cond_t hj37 hb39
     refine Sk [20, 21, 22] 2 false 19 hb39 ?_
     refine V 23 4 (p1 19 (.const (.bool true)) (.tmp 22) (.bool true) hb39) ?_
     refine V 16 4 (ma 23 (.bool true)) ?_
     obtain rfl := some_inj h40
     exact RWP.nil ⟨rfl, F3, hs23, (Mem.le.refl _), rfl, rfl, rfl, rfl⟩
    ·have h41 := cond_f hj37 hb39
     refine Vg 20 23 2 false 19 hb39 (mv 1 (.slice a1_0 x1.length n1_0)) ?_
     refine Vg 21 91 2 false 19 hb39 (run_makeFunc (fn := .func 126) (first := #[]) (cap := #[(.tmp 3)]) (fl := []) (cl := [(.pointer (some ⟨b1, 0, none⟩))]) rfl (rfl)) ?_
     obtain ⟨r42, hr43, h44⟩ := bind_some h41
     refine RWP.call (dst := (some 22)) (ty := 4) (g := (some (2, false))) (by kernel_rfl) (gd_y (d := 19) (by kernel_rfl) rfl hb39) (f0 := (.func 68)) (aos := #[(.tmp 20), (.tmp 21)]) (ats := #[23, 91]) (fid := 68) (first := #[]) (cap := #[]) (args := [(.slice a1_0 x1.length n1_0), (.func (.func 126) #[] #[(.pointer (some ⟨b1, 0, none⟩))])]) rfl co_slices_ContainsFunc_api_Tie_api_Tie (rfl) hs23 (c_slices_ContainsFunc_api_Tie_api_Tie N w22 F3 hs23.pers (x1) a1_0 n1_0 hb1_0 (SlA.mono hs1_0 ((le10.trans le16).trans le24)) 126 [] [(.pointer (some ⟨b1, 0, none⟩))] (fun y0 => clocks_offered_2 N y0 x0) co_clocks_offered_2 (fun w1 F1 y0 r le1 pe1 hr1 => c_clocks_offered_2 N w1 F1 pe1  y0 b1 x0 a0_0 n0_0 hb0_0 (SlA.mono (SlA.mono hs0_0 ((le10.trans le16).trans le24)) le1) a0_1 n0_1 hb0_1 (SlA.mono (SlA.mono hs0_1 ((le10.trans le16).trans le24)) le1) (le1 _ _ (le24 _ _ hF17)) r hr1) _ hr43) ?_
     intro v45 F5 w46 hs47 le48 hp49
     obtain rfl := hp49
     refine V 23 4 (p0 19 (.const (.bool true)) (.tmp 22) (.bool r42) hb39) ?_
     refine V 16 4 (ma 23 (.bool r42)) ?_
     obtain rfl := some_inj h44
     exact RWP.nil ⟨rfl, F5, hs47, le48, rfl, rfl, rfl, rfl⟩
   ·rintro f w29 ⟨F4, hs30, le31, e33, e34, e35, e36⟩
    refine thenQ_nrm ?_
    refine CWP.cond (t := j32) (by kernel_rfl) e36 (fun hb50 => ?_) (fun hb50 => ?_)
    ·have h51 := cond_t h38 hb50
     refine Sq (Rg [0] ?_)
     refine V 6 30 (mc (vi 1) (vi 1)) ?_
     refine Nt ?_
     refine CWP.ret (by kernel_rfl) ?_
     refine blockQ_ret ?_
     refine thenQ_ret ?_
     have hfin := some_inj h51
     subst hfin
     exact ⟨e33, (vi 1), res_of (l := [.tmp 6]) (by kernel_rfl) (vs := [(vi 1)]) ⟨rfl, trivial⟩, (vi 1), F4, rfl, hs30.clear, rfl⟩
    ·have h52 := cond_f h38 hb50
     refine Sq (Rg [0, 1, 2, 3] ?_)
     refine V 25 25 (ld 25 3 b1 0 true 3 (.agg (kSystem x0 a0_0 n0_0 a0_1 n0_1)) (hs30.pers _ _ ((le24.trans le31) _ _ hF17)) e35) ?_
     obtain ⟨r53, hr54, h55⟩ := bind_some h52
     refine Cl 26 57 103 #[(.tmp 25)] #[25] co_clocks_loopOf hs30 (c_clocks_loopOf N w29 F4 hs30.pers (x0) a0_0 n0_0 hb0_0 (SlA.mono hs0_0 (((le10.trans le16).trans le24).trans le31)) a0_1 n0_1 hb0_1 (SlA.mono hs0_1 (((le10.trans le16).trans le24).trans le31)) _ hr54) ?_
     intro v56 F6 w57 hs58 le59 hp60
     obtain ⟨ar53_0_0, nr53_0_0, rfl, hbr53_0_0, hsr53_0_0, nf61, fr62⟩ := hp60
     refine V 27 4 (run_nenil' (e := 103) (t := 57) (t' := 57) (x := (.tmp 26)) (y := (.const (.slice none 0 0))) hsr53_0_0 nf61 rfl rfl (by kernel_rfl)) ?_
     refine V 24 4 (ma 27 (.bool (!r53.isEmpty))) ?_
     refine Nt ?_
     refine CWP.cond (t := (!r53.isEmpty)) (by kernel_rfl) rfl (fun hb63 => ?_) (fun hb63 => ?_)
     ·have h64 := cond_t h55 hb63
      refine Sq (Rg [0] ?_)
      refine V 6 30 (mc (vi 31) (vi 31)) ?_
      refine Nt ?_
      refine CWP.ret (by kernel_rfl) ?_
      refine blockQ_ret ?_
      refine thenQ_ret ?_
      have hfin := some_inj h64
      subst hfin
      exact ⟨e33, (vi 31), res_of (l := [.tmp 6]) (by kernel_rfl) (vs := [(vi 31)]) ⟨rfl, trivial⟩, (vi 31), F6, rfl, hs58.clear, rfl⟩
     ·have h65 := cond_f h55 hb63
      refine Sq (Rg [0, 1, 2, 3, 4, 5, 6, 7] ?_)
      refine V 29 0 (fa 25 3 1 1 1 b1 0 1 e35) ?_
      refine V 30 23 (ld 23 29 b1 1 false 1 (.slice a0_1 x0.Ties.length n0_1) (hs58.pers _ _ (((le24.trans le31).trans le59) _ _ hF17))) ?_
      refine V 31 3 (ln 30 23 a0_1 x0.Ties.length n0_1 46 4 32) ?_
      refine V 32 23 (mv 1 (.slice a1_0 x1.length n1_0) e34) ?_
      refine V 33 3 (ln 32 23 a1_0 x1.length n1_0 46 4 32) ?_
      refine V 34 3 (run_add (t := 3) (t' := 3) (x := (.tmp 31)) (y := (.tmp 33)) (k := .i64) (a := (x0.Ties.length : Int)) (b := (x1.length : Int)) rfl rfl) ?_
      refine V 35 4 (run_gtr (t := 3) (t' := 3) (x := (.tmp 34)) (y := (.const (vi 400))) (k := .i64) (a := (W64 ((x0.Ties.length : Int) + (x1.length : Int)))) (b := 400) rfl rfl) ?_
      refine V 28 4 (ma 35 (.bool (decide ((W64 ((x0.Ties.length : Int) + (x1.length : Int))) > 400)))) ?_
      refine Nt ?_
      refine CWP.cond (t := (decide ((W64 ((x0.Ties.length : Int) + (x1.length : Int))) > 400))) (by kernel_rfl) rfl (fun hb66 => ?_) (fun hb66 => ?_)
      ·have h67 := cond_t h65 hb66
       refine Sq (Rg [0] ?_)
       refine V 6 30 (mc (vi 2) (vi 2)) ?_
       refine Nt ?_
       refine CWP.ret (by kernel_rfl) ?_
       refine blockQ_ret ?_
       refine thenQ_ret ?_
       have hfin := some_inj h67
       subst hfin
       exact ⟨e33, (vi 2), res_of (l := [.tmp 6]) (by kernel_rfl) (vs := [(vi 2)]) ⟨rfl, trivial⟩, (vi 2), F6, rfl, hs58.clear, rfl⟩
      ·have h68 := cond_f h65 hb66
       refine Sc ?_
       refine blockQ_nrm ?_
       refine thenQ_nrm ?_
       refine Sq (Rg [0] ?_)
       refine V 6 30 (mc (vi 0) (vi 0)) ?_
       refine Nt ?_
       refine CWP.ret (by kernel_rfl) ?_
       have hfin := some_inj h68
       subst hfin
       exact ⟨e33, (vi 0), res_of (l := [.tmp 6]) (by kernel_rfl) (vs := [(vi 0)]) ⟨rfl, trivial⟩, (vi 0), F6, rfl, hs58.clear, rfl⟩
end Go.Proofs.Ythbcnabeabcmlaa
namespace Go.Proofs.Ythbcnabeabcmlaa
open Go.Proofs
theorem co_clocks_added : CallOk Try.prog 87 := fun _ _ => by kernel_rfl
set_option maxRecDepth 100000 in
theorem c_clocks_added (w0 : World) (F0 : Mem) (hF : ∀ b o, F0 b = some o → w0.heap[b]? = some o) (x0 : System) (a0_0 : Option Addr) (n0_0 : Nat) (_ : LC x0.Tracks.length n0_0) (_ : SlA tTrack F0 a0_0 x0.Tracks) (a0_1 : Option Addr) (n0_1 : Nat) (_ : LC x0.Ties.length n0_1) (_ : SlA tTie F0 a0_1 x0.Ties) (x1 : List Tie) (a1_0 : Option Addr) (n1_0 : Nat) (_ : LC x1.length n1_0) (_ : SlA tTie F0 a1_0 x1) :
  Calls Try.prog 87 ([(.agg (kSystem x0 a0_0 n0_0 a0_1 n0_1)), (.slice a1_0 x1.length n1_0)] : List Value).toArray w0 (FRetO w0 F0 fun _ v L' => ∃ (b0 b1 : Nat), v = .func (.func 127) #[] #[.pointer (some ⟨b0, 0, none⟩), .pointer (some ⟨b1, 0, none⟩)] ∧ L' = [(some b1, .cells #[(.slice a1_0 x1.length n1_0)] 23 (0, 0)), (some b0, .cells (kSystem x0 a0_0 n0_0 a0_1 n0_1) 25 (0, 0))]) := by
 have hs0 := HS.start hF
 refine calls_of (n := 6) (c := bodyOf Try.f87) Try.func87 (by kernel_rfl) (by kernel_rfl) (by kernel_rfl) ?_
 refine CWP.seq (by kernel_rfl) ?_
 refine CWP.region (l := [0, 1, 2]) (by kernel_rfl) (by kernel_rfl) (by kernel_rfl) ?_
 refine RWP.box (dst := (some 2)) (ty := 0) (g := none) (by kernel_rfl) rfl (x := (.tmp 0)) (t := 25) (v := (.agg (kSystem x0 a0_0 n0_0 a0_1 n0_1))) rfl (C := (kSystem x0 a0_0 n0_0 a0_1 n0_1)) rfl hs0 (fun b0 w1 hs1 => ?_)
 refine RWP.box (dst := (some 3)) (ty := 0) (g := none) (by kernel_rfl) rfl (x := (.tmp 1)) (t := 23) (v := (.slice a1_0 x1.length n1_0)) rfl (C := #[(.slice a1_0 x1.length n1_0)]) rfl hs1 (fun b1 w2 hs2 => ?_)
 refine RWP.val (dst := (some 4)) (ty := 120) (g := none) (by kernel_rfl) rfl (run_assign (x := (.const .nilFunc)) (v := .nilFunc) rfl) ?_
 refine RWP.nil ?_
 refine thenQ_nrm ?_
 refine CWP.seq (by kernel_rfl) ?_
 refine CWP.region (l := [0, 1]) (by kernel_rfl) (by kernel_rfl) (by kernel_rfl) ?_
 refine RWP.val (dst := some 5) (ty := 119) (g := none) (by kernel_rfl) rfl (run_makeFunc (fn := .func 127) (first := #[]) (cap := #[.tmp 2, .tmp 3]) (fl := []) (cl := [.pointer (some ⟨b0, 0, none⟩), .pointer (some ⟨b1, 0, none⟩)]) rfl rfl) ?_
 refine RWP.val (dst := (some 4)) (ty := 120) (g := none) (by kernel_rfl) rfl (run_assign (x := (.tmp 5)) (v := .func (.func 127) #[] #[.pointer (some ⟨b0, 0, none⟩), .pointer (some ⟨b1, 0, none⟩)]) rfl) ?_
 refine RWP.nil ?_
 refine thenQ_nrm ?_
 refine CWP.ret (by kernel_rfl) ?_
 exact ⟨rfl, _, res_of (l := [.tmp 4]) (by kernel_rfl) (vs := [.func (.func 127) #[] #[.pointer (some ⟨b0, 0, none⟩), .pointer (some ⟨b1, 0, none⟩)]]) ⟨rfl, trivial⟩, _, F0, _, rfl, hs2, b0, b1, rfl, rfl⟩
end Go.Proofs.Ythbcnabeabcmlaa
namespace Go.Proofs.Ythbcnabeabcmlaa
open Go.Proofs
def clocks_Accept_L0 (N : Nat) (x0 : System) (x1 : (List Tie)) (r4 : Int) : (List Bool) → (Bool × (List Bound)) → Option (List Bool) := fun s33 ⟨y55, y56⟩ =>
 ((apnd s33 [y55]).bind fun r68 => some r68)
def clocks_Accept (N : Nat) (x0 : System) (x1 : (List Tie)) : Option ((List Bool) × Int) :=
 ((clocks_offered N x0 x1 true).bind fun r4 => (bif (r4 != 0) then some (([] : List Bool), r4) else ((clocks_added_1 N (fun st x => ((clocks_Accept_L0 N x0 x1 r4) st x).map fun t => (true, t)) x0 x1 ([] : List Bool)).bind fun r41 => some (r41, 0))))
theorem co_clocks_Accept : CallOk Try.prog 42 := fun _ _ => by kernel_rfl
set_option maxHeartbeats 4000000 in
set_option maxRecDepth 100000 in
theorem c_clocks_Accept (N : Nat) (w0 : World) (F0 : Mem) (hF : ∀ b o, F0 b = some o → w0.heap[b]? = some o) (x0 : System) (a0_0 : Option Addr) (n0_0 : Nat) (hb0_0 : LC x0.Tracks.length n0_0) (hs0_0 : SlA tTrack F0 a0_0 x0.Tracks) (a0_1 : Option Addr) (n0_1 : Nat) (hb0_1 : LC x0.Ties.length n0_1) (hs0_1 : SlA tTie F0 a0_1 x0.Ties) (x1 : (List Tie)) (a1_0 : Option Addr) (n1_0 : Nat) (hb1_0 : LC x1.length n1_0) (hs1_0 : SlA tTie F0 a1_0 x1) (r : ((List Bool) × Int)) (h : clocks_Accept N x0 x1 = some r) :
  Calls Try.prog 42 ([(.agg (kSystem x0 a0_0 n0_0 a0_1 n0_1)), (.slice a1_0 x1.length n1_0)] : List Value).toArray w0 (FRet w0 F0 fun F' v => ∃ (aq0_0 : Option Addr) (nq0_0 : Nat), v = (.tuple #[(.slice aq0_0 r.1.length nq0_0), (vi r.2)]) ∧ LC r.1.length nq0_0 ∧ SlA tBool F' aq0_0 r.1) := by
 have hs0 := HS.start hF
 refine calls_ofM (n := 25) (c := bodyOf Try.f42) Try.func42 (by kernel_rfl) (by kernel_rfl) (by kernel_rfl) ?_
 refine Sq (Rg [0, 1, 2] ?_)
 refine Bx 2 0 0 25 (kSystem x0 a0_0 n0_0 a0_1 n0_1) hs0 (fun b1 w2 (hs3 : HS w0 F0 w2 F0 [(sb b1 (kSystem x0 a0_0 n0_0 a0_1 n0_1) 25)]) => ?_)
 refine V 4 64 (mc (.slice none 0 0) (.slice none ([] : List Bool).length 0)) ?_
 refine V 5 30 (mc (vi 0) (vi 0)) ?_
 refine Nss ?_
 refine Sq (Rg [0, 1, 2, 3] ?_)
 refine V 9 25 (ld 25 2 b1 0 true 3 (.agg (kSystem x0 a0_0 n0_0 a0_1 n0_1)) (hs3.ownAt (k := 0) rfl)) ?_
 refine V 10 23 (mv 1 (.slice a1_0 x1.length n1_0)) ?_
 obtain ⟨r4, hr5, h6⟩ := bind_some h
 refine Cl 11 30 86 #[(.tmp 9), (.tmp 10), (.const (.bool true))] #[25, 23, 4] co_clocks_offered hs3 (c_clocks_offered N w2 F0 hs3.pers (x0) a0_0 n0_0 hb0_0 hs0_0 a0_1 n0_1 hb0_1 hs0_1 (x1) a1_0 n1_0 hb1_0 hs1_0 (true) _ hr5) ?_
 intro v7 F1 w8 hs9 le10 hp11
 obtain rfl := hp11
 refine V 6 30 (ma 11 (vi r4)) ?_
 refine Nss (Rg [0, 1] ?_)
 refine V 12 30 (mv 6 (vi r4)) ?_
 refine V 13 4 (run_neq (t := 30) (t' := 30) (x := (.tmp 12)) (y := (.const (vi 0))) (k := .i64) (a := r4) (b := 0) rfl rfl) ?_
 refine Nt ?_
 refine CWP.cond (t := (r4 != 0)) (by kernel_rfl) rfl (fun hb12 => ?_) (fun hb12 => ?_)
 ·have h13 := cond_t h6 hb12
  refine Sq (Rg [0, 1, 2] ?_)
  refine V 14 30 (mv 6 (vi r4)) ?_
  refine V 4 64 (mc (.slice none 0 0) (.slice none ([] : List Bool).length 0)) ?_
  refine V 5 30 (ma 14 (vi r4)) ?_
  refine Nt ?_
  refine CWP.ret (by kernel_rfl) ?_
  refine thenQ_ret ?_
  have hfin := some_inj h13
  subst hfin
  exact .inl ⟨rfl, (.tuple #[(.slice none ([] : List Bool).length 0), (vi r4)]), res_of (l := [.tmp 4, .tmp 5]) (by kernel_rfl) (vs := [(.slice none ([] : List Bool).length 0), (vi r4)]) ⟨rfl, ⟨rfl, trivial⟩⟩, (.tuple #[(.slice none ([] : List Bool).length 0), (vi r4)]), F1, rfl, hs9.clear, ⟨none, 0, rfl, LC.nil, (.inl rfl)⟩⟩
 ·have h14 := cond_f h6 hb12
  refine Sc ?_
  refine thenQ_nrm ?_
  refine Sq (Rg [0] ?_)
  refine RWP.alloc (dst := (some 7)) (ty := 0) (g := none) (by kernel_rfl) rfl (t := 64) (z := (.slice none ([] : List Bool).length 0)) (by kernel_rfl) (C := #[(.slice none ([] : List Bool).length 0)]) rfl hs9 (fun b15 w16 (hs17 : HS w0 F0 w16 F1 [(sb b15 #[(.slice none ([] : List Bool).length 0)] 64), (sb b1 (kSystem x0 a0_0 n0_0 a0_1 n0_1) 25)]) => ?_)
  refine Nss ?_
  refine Sq (Rg [0, 1, 2] ?_)
  refine V 15 25 (ld 25 2 b1 0 true 3 (.agg (kSystem x0 a0_0 n0_0 a0_1 n0_1)) (hs17.ownAt (k := 1) rfl)) ?_
  refine V 16 23 (mv 1 (.slice a1_0 x1.length n1_0)) ?_
  refine RWP.callO (dst := (some 17)) (ty := 120) (g := none) (by kernel_rfl) rfl (f0 := (.func 87)) (aos := #[(.tmp 15), (.tmp 16)]) (ats := #[25, 23]) (fid := 87) (first := #[]) (cap := #[]) (args := [(.agg (kSystem x0 a0_0 n0_0 a0_1 n0_1)), (.slice a1_0 x1.length n1_0)]) rfl co_clocks_added (rfl) hs17 (c_clocks_added w16 F1 hs17.pers (x0) a0_0 n0_0 hb0_0 (SlA.mono hs0_0 le10) a0_1 n0_1 hb0_1 (SlA.mono hs0_1 le10) (x1) a1_0 n1_0 hb1_0 (SlA.mono hs1_0 le10)) ?_
  rintro _ F2 w20 _ hs21 le22 ⟨b18, b19, rfl, rfl⟩
  have hs23 : HS w0 F0 w20 F2 [(sb b19 #[(.slice a1_0 x1.length n1_0)] 23), (sb b18 (kSystem x0 a0_0 n0_0 a0_1 n0_1) 25), (sb b15 #[(.slice none ([] : List Bool).length 0)] 64), (sb b1 (kSystem x0 a0_0 n0_0 a0_1 n0_1) 25)] := hs21
  refine Nt ?_
  refine Bk ?_
  obtain ⟨F3, hs24, le25, hF26⟩ : ∃ Fq, HS w0 F0 w20 Fq [(sb b18 (kSystem x0 a0_0 n0_0 a0_1 n0_1) 25), (sb b15 #[(.slice none ([] : List Bool).length 0)] 64), (sb b1 (kSystem x0 a0_0 n0_0 a0_1 n0_1) 25)] ∧ Mem.le F2 Fq ∧ Fq b19 = some (oc #[(.slice a1_0 x1.length n1_0)] 23) := HS.freezeC hs23 (k := 0) rfl
  have hs27 : HS w0 F0 w20 F3 [(sb b18 (kSystem x0 a0_0 n0_0 a0_1 n0_1) 25), (sb b15 #[(.slice none ([] : List Bool).length 0)] 64)] := hs24.drop 2
  have hs28 : HS w0 F0 w20 F3 [(none, .cells #[] 0 (0, 0)), (sb b18 (kSystem x0 a0_0 n0_0 a0_1 n0_1) 25), (sb b15 #[(.slice none ([] : List Bool).length 0)] 64)] := hs27.dummy _
  have hs30 : HS w0 F0 w20 F3 [(sb b15 #[(.slice none ([] : List Bool).length 0)] 64), (none, .cells #[] 0 (0, 0)), (sb b18 (kSystem x0 a0_0 n0_0 a0_1 n0_1) 25)] := hs28.pick (k := 2) rfl
  have hs31 : HS w0 F0 w20 F3 [(none, .cells #[] 0 (0, 0)), (sb b15 #[(.slice none ([] : List Bool).length 0)] 64), (sb b18 (kSystem x0 a0_0 n0_0 a0_1 n0_1) 25)] := hs30.pick (k := 1) rfl
  have hs32 : HS w0 F0 w20 F3 [(sb b18 (kSystem x0 a0_0 n0_0 a0_1 n0_1) 25), (none, .cells #[] 0 (0, 0)), (sb b15 #[(.slice none ([] : List Bool).length 0)] 64)] := hs31.pick (k := 2) rfl
  obtain ⟨r41, hr42, h43⟩ := bind_some h14
  refine CWP.rangeFunc (enc := enc155) (ok := ok155) (px := px155) (m := fun {_} y s => clocks_added_1 N y x0 x1 s) (L := [(none, .cells #[] 0 (0, 0)), (sb b15 #[(.slice none ([] : List Bool).length 0)] 64)]) (B := [(sb b18 (kSystem x0 a0_0 n0_0 a0_1 n0_1) 25)]) (ps := [18, 19]) (by kernel_rfl) (gf := 127) (cap := [(.pointer (some ⟨b18, 0, none⟩)), (.pointer (some ⟨b19, 0, none⟩))]) rfl co_clocks_added_1 rfl (by kernel_rfl) (by kernel_rfl) (by rintro ⟨_, _, _, _⟩; rfl) hs32 (c_clocks_added_1 N F3 x0 a0_0 n0_0 hb0_0 (SlA.mono hs0_0 ((le10.trans le22).trans le25)) a0_1 n0_1 hb0_1 (SlA.mono hs0_1 ((le10.trans le22).trans le25)) b18 x1 a1_0 n1_0 hb1_0 (SlA.mono hs1_0 ((le10.trans le22).trans le25)) b19 hF26) (fun st x => ((clocks_Accept_L0 N x0 x1 r4) st x).map fun t => (true, t)) (fun (s33 : (List Bool)) (F4 : Mem) (Lq : Own) => ∃ (as33_0 : Option Addr) (ns33_0 : Nat) (es33_0 : Option Nat × Obj), Lq = [es33_0, (sb b15 #[(.slice as33_0 s33.length ns33_0)] 64)] ∧ RowR tBool 4 F4 as33_0 ns33_0 s33 es33_0) ?_ (s := ([] : List Bool)) (r := r41) ?_ hr42 (fun _ _ _ h => (map_true h).1) ?_ ?_
  ·rintro s F F' L ⟨as33_0, ns33_0, es33_0, rfl, hrs33_0⟩ hl
   exact ⟨as33_0, ns33_0, es33_0, rfl, (hrs33_0.mono hl)⟩
  ·exact ⟨none, 0, (none, .cells #[] 0 (0, 0)), rfl, (RowR.nil tBool 4 F3 _)⟩
  ·rintro l44 s33 ⟨y55, y56, ay56_0, ny56_0⟩ w47 F4 _ Rf49 ⟨_, q50⟩ le51 ⟨hby56_0, hsy56_0⟩ ⟨as33_0, ns33_0, es33_0, rfl, hrs33_0⟩ hs53 hy54
   have h57 := (map_true hy54).2
   have hs58 : HS w0 F0 w47 F4 (es33_0 :: (sb b15 #[(.slice as33_0 s33.length ns33_0)] 64) :: Rf49) := hs53
   refine Rg [0] ?_
   refine V 8 4 (ma 18 (.bool y55)) ?_
   refine RWP.nil ?_
   refine ⟨rfl, F4, [es33_0, (sb b15 #[(.slice as33_0 s33.length ns33_0)] 64)], hs58, fun w59 Rf60 hs61 => ?_⟩
   have hs62 : HS w0 F0 w59 F4 (es33_0 :: (sb b15 #[(.slice as33_0 s33.length ns33_0)] 64) :: Rf60) := hs61
   refine Bk ?_
   refine Rg [0, 1, 2, 3, 4] ?_
   refine V 20 64 (ld 64 7 b15 0 false 1 (.slice as33_0 s33.length ns33_0) (hs62.ownAt (k := 1) rfl)) ?_
   refine V 21 4 (mv 8 (.bool y55)) ?_
   refine RWP.buildSlice (dst := (some 22)) (ty := 64) (g := none) (by kernel_rfl) rfl (t := 64) (len := 1) (parts := #[(0, (.tmp 21))]) (vs := [(0, (.bool y55))]) (rfl) (E := 4) (cs := [(.bool y55)]) (by kernel_rfl) hs62 (fun b63 w64 (hs65 : HS w0 F0 w64 F4 ((some b63, .cells ([(.bool y55)] : List Value).toArray 4 (0, 0)) :: es33_0 :: (sb b15 #[(.slice as33_0 s33.length ns33_0)] 64) :: Rf60)) => ?_)
   have hr67 : RowR tBool 4 F4 (some ⟨b63, 0, none⟩) 1 [y55] (some b63, .cells ([(.bool y55)] : List Value).toArray 4 (0, 0)) := RowR.lit ⟨rfl, rfl⟩ (by simp)
   obtain ⟨r68, hap69, h70⟩ := bind_some h57
   refine RWP.append (dst := (some 23)) (ty := 64) (g := none) (by kernel_rfl) rfl (x := (.tmp 20)) (y := (.tmp 22)) (t := 64) (t2 := 64) (by_ := 1) (z := (.bool false)) (a2 := (some ⟨b63, 0, none⟩)) (c2 := 1) (m := [y55]) (T := tBool) (E := 4) (a := as33_0) (cap := ns33_0) (l := s33) rfl rfl (by kernel_rfl) (by decide) (by kernel_rfl) (by kernel_rfl) rfl oBool hs65 (k := 1) rfl hrs33_0 (RowR.rd hs65 (k := 0) rfl hr67) (r := r68) hap69 (fun a71 n72 e73 w74 (hs75 : HS w0 F0 w74 F4 ((some b63, .cells ([(.bool y55)] : List Value).toArray 4 (0, 0)) :: e73 :: (sb b15 #[(.slice as33_0 s33.length ns33_0)] 64) :: Rf60)) hr76 => ?_)
   refine RWP.store (ty := 0) (g := none) (by kernel_rfl) rfl (x := (.tmp 7)) (y := (.tmp 23)) (t := 64) (gg := false) (s := 1) (v := (.slice a71 r68.length n72)) (b := b15) (o := 0) (C := #[(.slice as33_0 s33.length ns33_0)]) rfl rfl (by kernel_rfl) hs75 (k := 2) rfl rfl rfl rfl (C' := #[(.slice a71 r68.length n72)]) rfl (fun w77 (hs78 : HS w0 F0 w77 F4 ((some b63, .cells ([(.bool y55)] : List Value).toArray 4 (0, 0)) :: e73 :: (sb b15 #[(.slice a71 r68.length n72)] 64) :: Rf60)) => ?_)
   refine RWP.nil ?_
   refine blockQ_nrm ?_
   have hs79 : HS w0 F0 w77 F4 (e73 :: (sb b15 #[(.slice a71 r68.length n72)] 64) :: Rf60) := hs78.drop 0
   obtain rfl := some_inj h70
   exact ⟨rfl, F4, [e73, (sb b15 #[(.slice a71 r68.length n72)] 64)], hs79, (Mem.le.refl _), ⟨a71, n72, e73, rfl, hr76⟩⟩
  ·rintro D81 w82 F5 _ hs83 le84 ⟨as37_0, ns37_0, es37_0, rfl, hrs37_0⟩
   have hs85 : HS w0 F0 w82 F5 [(some D81, (.deferred (some []))), es37_0, (sb b15 #[(.slice as37_0 r41.length ns37_0)] 64)] := hs83
   refine blockQ_nrm ?_
   refine thenQ_nrm ?_
   refine Sq (Rg [0, 1, 2] ?_)
   refine V 24 64 (ld 64 7 b15 0 false 1 (.slice as37_0 r41.length ns37_0) (hs85.ownAt (k := 2) rfl)) ?_
   refine V 4 64 (ma 24 (.slice as37_0 r41.length ns37_0)) ?_
   refine V 5 30 (mc (vi 0) (vi 0)) ?_
   refine Nt ?_
   refine CWP.ret (by kernel_rfl) ?_
   have hb89 := RowR.bound hrs37_0
   obtain ⟨F6, hs86, le87, hs88⟩ : ∃ Fq, HS w0 F0 w82 Fq [(some D81, (.deferred (some []))), (sb b15 #[(.slice as37_0 r41.length ns37_0)] 64)] ∧ Mem.le F5 Fq ∧ SlA tBool Fq as37_0 r41 := HS.freezeRow hs85 (k := 1) rfl hrs37_0
   have hs90 := hs86.put (k := 0) rfl (.deferred none)
   have hs91 : HS w0 F0 (putB w82 D81 (.deferred none)) F6 [(sb b15 #[(.slice as37_0 r41.length ns37_0)] 64)] := hs90.drop 0
   have hfin := some_inj h43
   subst hfin
   exact .inr ⟨D81, rfl, hs86.ownAt (k := 0) rfl, (.tuple #[(.slice as37_0 r41.length ns37_0), (vi 0)]), res_of (l := [.tmp 4, .tmp 5]) (by kernel_rfl) (vs := [(.slice as37_0 r41.length ns37_0), (vi 0)]) ⟨rfl, ⟨rfl, trivial⟩⟩, (.tuple #[(.slice as37_0 r41.length ns37_0), (vi 0)]), F6, rfl, hs91.clear, ⟨as37_0, ns37_0, rfl, hb89, hs88⟩⟩
end Go.Proofs.Ythbcnabeabcmlaa
namespace Go.Proofs.Ythbcnabeabcmlaa
open Go.Proofs
def law03_pair (N : Nat) (x0 : Bool) : Option System :=
 ((bif x0 then some [({ A := ({ Log := 0, Line := 0 } : Ref), B := ({ Log := 1, Line := 0 } : Ref) } : Tie)] else some ([] : List Tie)).bind fun j35 => some ({ Tracks := [({ Clock := ({ Slip := 10, Drift := 0, Jumps := ([] : List Int) } : Clock), Times := [100, 160] } : Track), ({ Clock := ({ Slip := 3, Drift := 0, Jumps := ([] : List Int) } : Clock), Times := [95, 158] } : Track)], Ties := j35, Window := 2 } : System))
theorem co_law03_pair : CallOk Try.prog 64 := fun _ _ => by kernel_rfl
set_option maxHeartbeats 4000000 in
set_option maxRecDepth 100000 in
theorem c_law03_pair (N : Nat) (w0 : World) (F0 : Mem) (hF : ∀ b o, F0 b = some o → w0.heap[b]? = some o) (x0 : Bool) (r : System) (h : law03_pair N x0 = some r) :
  Calls Try.prog 64 ([(.bool x0)] : List Value).toArray w0 (FRet w0 F0 fun F' v => ∃ (aq0_0 : Option Addr) (nq0_0 : Nat) (aq0_1 : Option Addr) (nq0_1 : Nat), v = (.agg (kSystem r aq0_0 nq0_0 aq0_1 nq0_1)) ∧ LC r.Tracks.length nq0_0 ∧ SlA tTrack F' aq0_0 r.Tracks ∧ LC r.Ties.length nq0_1 ∧ SlA tTie F' aq0_1 r.Ties) := by
 have hs0 := HS.start hF
 refine calls_of (n := 19) (c := bodyOf Try.f64) Try.func64 (by kernel_rfl) (by kernel_rfl) (by kernel_rfl) ?_
 refine Sq (Rg [0] ?_)
 refine Al 2 0 25 #[(.slice none ([] : List Track).length 0), (.slice none ([] : List Tie).length 0), (vi 0)] hs0 (fun b1 w2 (hs3 : HS w0 F0 w2 F0 [(sb b1 #[(.slice none ([] : List Track).length 0), (.slice none ([] : List Tie).length 0), (vi 0)] 25)]) => ?_)
 refine Nss (Rg [0, 1, 2, 3, 4, 5, 6, 7, 8, 9] ?_)
 refine V 4 52 (run_build2 (t := 52) (parts := #[(0, (.const (vi 10)))]) (vs := [(0, (vi 10))]) (rfl) (cs := [(vi 10), (vi 0), (.slice none ([] : List Int).length 0)]) (by kernel_rfl)) ?_
 refine RWP.buildSlice (dst := (some 5)) (ty := 50) (g := none) (by kernel_rfl) rfl (t := 50) (len := 2) (parts := #[(0, (.const (vi 100))), (1, (.const (vi 160)))]) (vs := [(0, (vi 100)), (1, (vi 160))]) (rfl) (E := 3) (cs := [(vi 100), (vi 160)]) (by kernel_rfl) hs3 (fun b4 w5 (hs6 : HS w0 F0 w5 F0 [(some b4, .cells ([(vi 100), (vi 160)] : List Value).toArray 3 (0, 0)), (sb b1 #[(.slice none ([] : List Track).length 0), (.slice none ([] : List Tie).length 0), (vi 0)] 25)]) => ?_)
 have hr8 : RowR tInt 3 F0 (some ⟨b4, 0, none⟩) 2 [100, 160] (some b4, .cells ([(vi 100), (vi 160)] : List Value).toArray 3 (0, 0)) := RowR.lit ⟨rfl, ⟨rfl, rfl⟩⟩ (by simp)
 refine V 6 54 (run_build2 (t := 54) (parts := #[(0, (.tmp 4)), (1, (.tmp 5))]) (vs := [(0, (.agg #[(vi 10), (vi 0), (.slice none ([] : List Int).length 0)])), (1, (.slice (some ⟨b4, 0, none⟩) [100, 160].length 2))]) (rfl) (cs := [(vi 10), (vi 0), (.slice none ([] : List Int).length 0), (.slice (some ⟨b4, 0, none⟩) [100, 160].length 2)]) (by kernel_rfl)) ?_
 refine V 7 52 (run_build2 (t := 52) (parts := #[(0, (.const (vi 3)))]) (vs := [(0, (vi 3))]) (rfl) (cs := [(vi 3), (vi 0), (.slice none ([] : List Int).length 0)]) (by kernel_rfl)) ?_
 refine RWP.buildSlice (dst := (some 8)) (ty := 50) (g := none) (by kernel_rfl) rfl (t := 50) (len := 2) (parts := #[(0, (.const (vi 95))), (1, (.const (vi 158)))]) (vs := [(0, (vi 95)), (1, (vi 158))]) (rfl) (E := 3) (cs := [(vi 95), (vi 158)]) (by kernel_rfl) hs6 (fun b9 w10 (hs11 : HS w0 F0 w10 F0 [(some b9, .cells ([(vi 95), (vi 158)] : List Value).toArray 3 (0, 0)), (some b4, .cells ([(vi 100), (vi 160)] : List Value).toArray 3 (0, 0)), (sb b1 #[(.slice none ([] : List Track).length 0), (.slice none ([] : List Tie).length 0), (vi 0)] 25)]) => ?_)
 have hr13 : RowR tInt 3 F0 (some ⟨b9, 0, none⟩) 2 [95, 158] (some b9, .cells ([(vi 95), (vi 158)] : List Value).toArray 3 (0, 0)) := RowR.lit ⟨rfl, ⟨rfl, rfl⟩⟩ (by simp)
 refine V 9 54 (run_build2 (t := 54) (parts := #[(0, (.tmp 7)), (1, (.tmp 8))]) (vs := [(0, (.agg #[(vi 3), (vi 0), (.slice none ([] : List Int).length 0)])), (1, (.slice (some ⟨b9, 0, none⟩) [95, 158].length 2))]) (rfl) (cs := [(vi 3), (vi 0), (.slice none ([] : List Int).length 0), (.slice (some ⟨b9, 0, none⟩) [95, 158].length 2)]) (by kernel_rfl)) ?_
 have hb17 := RowR.bound hr8
 obtain ⟨F1, hs14, le15, hs16⟩ : ∃ Fq, HS w0 F0 w10 Fq [(some b9, .cells ([(vi 95), (vi 158)] : List Value).toArray 3 (0, 0)), (sb b1 #[(.slice none ([] : List Track).length 0), (.slice none ([] : List Tie).length 0), (vi 0)] 25)] ∧ Mem.le F0 Fq ∧ SlA tInt Fq (some ⟨b4, 0, none⟩) [100, 160] := HS.freezeRow hs11 (k := 1) rfl hr8
 have hb21 := RowR.bound (hr13.mono le15)
 obtain ⟨F2, hs18, le19, hs20⟩ : ∃ Fq, HS w0 F0 w10 Fq [(sb b1 #[(.slice none ([] : List Track).length 0), (.slice none ([] : List Tie).length 0), (vi 0)] 25)] ∧ Mem.le F1 Fq ∧ SlA tInt Fq (some ⟨b9, 0, none⟩) [95, 158] := HS.freezeRow hs14 (k := 0) rfl (hr13.mono le15)
 refine RWP.buildSlice (dst := (some 10)) (ty := 22) (g := none) (by kernel_rfl) rfl (t := 22) (len := 2) (parts := #[(0, (.tmp 6)), (1, (.tmp 9))]) (vs := [(0, (.agg #[(vi 10), (vi 0), (.slice none ([] : List Int).length 0), (.slice (some ⟨b4, 0, none⟩) [100, 160].length 2)])), (1, (.agg #[(vi 3), (vi 0), (.slice none ([] : List Int).length 0), (.slice (some ⟨b9, 0, none⟩) [95, 158].length 2)]))]) (rfl) (E := 54) (cs := [(vi 10), (vi 0), (.slice none ([] : List Int).length 0), (.slice (some ⟨b4, 0, none⟩) [100, 160].length 2), (vi 3), (vi 0), (.slice none ([] : List Int).length 0), (.slice (some ⟨b9, 0, none⟩) [95, 158].length 2)]) (by kernel_rfl) hs18 (fun b22 w23 (hs24 : HS w0 F0 w23 F2 [(some b22, .cells ([(vi 10), (vi 0), (.slice none ([] : List Int).length 0), (.slice (some ⟨b4, 0, none⟩) [100, 160].length 2), (vi 3), (vi 0), (.slice none ([] : List Int).length 0), (.slice (some ⟨b9, 0, none⟩) [95, 158].length 2)] : List Value).toArray 54 (0, 0)), (sb b1 #[(.slice none ([] : List Track).length 0), (.slice none ([] : List Tie).length 0), (vi 0)] 25)]) => ?_)
 have hr26 : RowR tTrack 54 F2 (some ⟨b22, 0, none⟩) 2 [({ Clock := ({ Slip := 10, Drift := 0, Jumps := ([] : List Int) } : Clock), Times := [100, 160] } : Track), ({ Clock := ({ Slip := 3, Drift := 0, Jumps := ([] : List Int) } : Clock), Times := [95, 158] } : Track)] (some b22, .cells ([(vi 10), (vi 0), (.slice none ([] : List Int).length 0), (.slice (some ⟨b4, 0, none⟩) [100, 160].length 2), (vi 3), (vi 0), (.slice none ([] : List Int).length 0), (.slice (some ⟨b9, 0, none⟩) [95, 158].length 2)] : List Value).toArray 54 (0, 0)) := RowR.lit ⟨⟨none, 0, (some ⟨b4, 0, none⟩), 2, rfl, LC.nil, (.inl rfl), hb17, (SlA.mono hs16 le19)⟩, ⟨⟨none, 0, (some ⟨b9, 0, none⟩), 2, rfl, LC.nil, (.inl rfl), hb21, hs20⟩, rfl⟩⟩ (by simp)
 refine V 11 25 (run_build2 (t := 25) (parts := #[(0, (.tmp 10)), (2, (.const (vi 2)))]) (vs := [(0, (.slice (some ⟨b22, 0, none⟩) [({ Clock := ({ Slip := 10, Drift := 0, Jumps := ([] : List Int) } : Clock), Times := [100, 160] } : Track), ({ Clock := ({ Slip := 3, Drift := 0, Jumps := ([] : List Int) } : Clock), Times := [95, 158] } : Track)].length 2)), (2, (vi 2))]) (rfl) (cs := [(.slice (some ⟨b22, 0, none⟩) [({ Clock := ({ Slip := 10, Drift := 0, Jumps := ([] : List Int) } : Clock), Times := [100, 160] } : Track), ({ Clock := ({ Slip := 3, Drift := 0, Jumps := ([] : List Int) } : Clock), Times := [95, 158] } : Track)].length 2), (.slice none ([] : List Tie).length 0), (vi 2)]) (by kernel_rfl)) ?_
 refine Al 3 0 25 #[(.slice none ([] : List Track).length 0), (.slice none ([] : List Tie).length 0), (vi 0)] hs24 (fun b27 w28 (hs29 : HS w0 F0 w28 F2 [(sb b27 #[(.slice none ([] : List Track).length 0), (.slice none ([] : List Tie).length 0), (vi 0)] 25), (some b22, .cells ([(vi 10), (vi 0), (.slice none ([] : List Int).length 0), (.slice (some ⟨b4, 0, none⟩) [100, 160].length 2), (vi 3), (vi 0), (.slice none ([] : List Int).length 0), (.slice (some ⟨b9, 0, none⟩) [95, 158].length 2)] : List Value).toArray 54 (0, 0)), (sb b1 #[(.slice none ([] : List Track).length 0), (.slice none ([] : List Tie).length 0), (vi 0)] 25)]) => ?_)
 refine RWP.store (ty := 0) (g := none) (by kernel_rfl) rfl (x := (.tmp 3)) (y := (.tmp 11)) (t := 25) (gg := true) (s := 3) (v := (.agg #[(.slice (some ⟨b22, 0, none⟩) [({ Clock := ({ Slip := 10, Drift := 0, Jumps := ([] : List Int) } : Clock), Times := [100, 160] } : Track), ({ Clock := ({ Slip := 3, Drift := 0, Jumps := ([] : List Int) } : Clock), Times := [95, 158] } : Track)].length 2), (.slice none ([] : List Tie).length 0), (vi 2)])) (b := b27) (o := 0) (C := #[(.slice none ([] : List Track).length 0), (.slice none ([] : List Tie).length 0), (vi 0)]) rfl rfl (by kernel_rfl) hs29 (k := 0) rfl rfl rfl rfl (C' := #[(.slice (some ⟨b22, 0, none⟩) [({ Clock := ({ Slip := 10, Drift := 0, Jumps := ([] : List Int) } : Clock), Times := [100, 160] } : Track), ({ Clock := ({ Slip := 3, Drift := 0, Jumps := ([] : List Int) } : Clock), Times := [95, 158] } : Track)].length 2), (.slice none ([] : List Tie).length 0), (vi 2)]) rfl (fun w30 (hs31 : HS w0 F0 w30 F2 [(sb b27 #[(.slice (some ⟨b22, 0, none⟩) [({ Clock := ({ Slip := 10, Drift := 0, Jumps := ([] : List Int) } : Clock), Times := [100, 160] } : Track), ({ Clock := ({ Slip := 3, Drift := 0, Jumps := ([] : List Int) } : Clock), Times := [95, 158] } : Track)].length 2), (.slice none ([] : List Tie).length 0), (vi 2)] 25), (some b22, .cells ([(vi 10), (vi 0), (.slice none ([] : List Int).length 0), (.slice (some ⟨b4, 0, none⟩) [100, 160].length 2), (vi 3), (vi 0), (.slice none ([] : List Int).length 0), (.slice (some ⟨b9, 0, none⟩) [95, 158].length 2)] : List Value).toArray 54 (0, 0)), (sb b1 #[(.slice none ([] : List Track).length 0), (.slice none ([] : List Tie).length 0), (vi 0)] 25)]) => ?_)
 refine Nss ?_
 refine Sq (Rg [0] ?_)
 refine V 12 4 (mv 0 (.bool x0)) ?_
 refine Nt ?_
 obtain ⟨j35, hj39, h40⟩ := bind_some h
 refine CWP.cut (fun f w => ∃ (F3 : Mem) (aj35_0 : Option Addr) (nj35_0 : Nat), HS w0 F0 w F3 [(sb b27 #[(.slice (some ⟨b22, 0, none⟩) [({ Clock := ({ Slip := 10, Drift := 0, Jumps := ([] : List Int) } : Clock), Times := [100, 160] } : Track), ({ Clock := ({ Slip := 3, Drift := 0, Jumps := ([] : List Int) } : Clock), Times := [95, 158] } : Track)].length 2), (.slice aj35_0 j35.length nj35_0), (vi 2)] 25), (some b22, .cells ([(vi 10), (vi 0), (.slice none ([] : List Int).length 0), (.slice (some ⟨b4, 0, none⟩) [100, 160].length 2), (vi 3), (vi 0), (.slice none ([] : List Int).length 0), (.slice (some ⟨b9, 0, none⟩) [95, 158].length 2)] : List Value).toArray 54 (0, 0)), (sb b1 #[(.slice none ([] : List Track).length 0), (.slice none ([] : List Tie).length 0), (vi 0)] 25)] ∧ Mem.le F2 F3 ∧ f.d = [] ∧ f 2 = (.pointer (some ⟨b1, 0, none⟩)) ∧ f 3 = (.pointer (some ⟨b27, 0, none⟩)) ∧ LC j35.length nj35_0 ∧ SlA tTie F3 aj35_0 j35) ?_ ?_
 ·refine CWP.cond (t := x0) (by kernel_rfl) rfl (fun hb41 => ?_) (fun hb41 => ?_)
  ·have h42 := cond_t hj39 hb41
   refine Rg [0, 1, 2, 3, 4, 5] ?_
   refine V 13 27 (run_build2 (t := 27) (parts := #[(0, (.const (vi 0))), (1, (.const (vi 0)))]) (vs := [(0, (vi 0)), (1, (vi 0))]) (rfl) (cs := [(vi 0), (vi 0)]) (by kernel_rfl)) ?_
   refine V 14 27 (run_build2 (t := 27) (parts := #[(0, (.const (vi 1))), (1, (.const (vi 0)))]) (vs := [(0, (vi 1)), (1, (vi 0))]) (rfl) (cs := [(vi 1), (vi 0)]) (by kernel_rfl)) ?_
   refine V 15 46 (run_build2 (t := 46) (parts := #[(0, (.tmp 13)), (1, (.tmp 14))]) (vs := [(0, (.agg #[(vi 0), (vi 0)])), (1, (.agg #[(vi 1), (vi 0)]))]) (rfl) (cs := [(vi 0), (vi 0), (vi 1), (vi 0)]) (by kernel_rfl)) ?_
   refine RWP.buildSlice (dst := (some 16)) (ty := 23) (g := none) (by kernel_rfl) rfl (t := 23) (len := 1) (parts := #[(0, (.tmp 15))]) (vs := [(0, (.agg #[(vi 0), (vi 0), (vi 1), (vi 0)]))]) (rfl) (E := 46) (cs := [(vi 0), (vi 0), (vi 1), (vi 0)]) (by kernel_rfl) hs31 (fun b43 w44 (hs45 : HS w0 F0 w44 F2 [(some b43, .cells ([(vi 0), (vi 0), (vi 1), (vi 0)] : List Value).toArray 46 (0, 0)), (sb b27 #[(.slice (some ⟨b22, 0, none⟩) [({ Clock := ({ Slip := 10, Drift := 0, Jumps := ([] : List Int) } : Clock), Times := [100, 160] } : Track), ({ Clock := ({ Slip := 3, Drift := 0, Jumps := ([] : List Int) } : Clock), Times := [95, 158] } : Track)].length 2), (.slice none ([] : List Tie).length 0), (vi 2)] 25), (some b22, .cells ([(vi 10), (vi 0), (.slice none ([] : List Int).length 0), (.slice (some ⟨b4, 0, none⟩) [100, 160].length 2), (vi 3), (vi 0), (.slice none ([] : List Int).length 0), (.slice (some ⟨b9, 0, none⟩) [95, 158].length 2)] : List Value).toArray 54 (0, 0)), (sb b1 #[(.slice none ([] : List Track).length 0), (.slice none ([] : List Tie).length 0), (vi 0)] 25)]) => ?_)
   have hr47 : RowR tTie 46 F2 (some ⟨b43, 0, none⟩) 1 [({ A := ({ Log := 0, Line := 0 } : Ref), B := ({ Log := 1, Line := 0 } : Ref) } : Tie)] (some b43, .cells ([(vi 0), (vi 0), (vi 1), (vi 0)] : List Value).toArray 46 (0, 0)) := RowR.lit ⟨rfl, rfl⟩ (by simp)
   refine V 17 0 (fa 25 3 1 1 1 b27 0 1) ?_
   refine RWP.store (ty := 0) (g := none) (by kernel_rfl) rfl (x := (.tmp 17)) (y := (.tmp 16)) (t := 23) (gg := false) (s := 1) (v := (.slice (some ⟨b43, 0, none⟩) [({ A := ({ Log := 0, Line := 0 } : Ref), B := ({ Log := 1, Line := 0 } : Ref) } : Tie)].length 1)) (b := b27) (o := 1) (C := #[(.slice (some ⟨b22, 0, none⟩) [({ Clock := ({ Slip := 10, Drift := 0, Jumps := ([] : List Int) } : Clock), Times := [100, 160] } : Track), ({ Clock := ({ Slip := 3, Drift := 0, Jumps := ([] : List Int) } : Clock), Times := [95, 158] } : Track)].length 2), (.slice none ([] : List Tie).length 0), (vi 2)]) rfl rfl (by kernel_rfl) hs45 (k := 1) rfl rfl rfl rfl (C' := #[(.slice (some ⟨b22, 0, none⟩) [({ Clock := ({ Slip := 10, Drift := 0, Jumps := ([] : List Int) } : Clock), Times := [100, 160] } : Track), ({ Clock := ({ Slip := 3, Drift := 0, Jumps := ([] : List Int) } : Clock), Times := [95, 158] } : Track)].length 2), (.slice (some ⟨b43, 0, none⟩) [({ A := ({ Log := 0, Line := 0 } : Ref), B := ({ Log := 1, Line := 0 } : Ref) } : Tie)].length 1), (vi 2)]) rfl (fun w48 (hs49 : HS w0 F0 w48 F2 [(some b43, .cells ([(vi 0), (vi 0), (vi 1), (vi 0)] : List Value).toArray 46 (0, 0)), (sb b27 #[(.slice (some ⟨b22, 0, none⟩) [({ Clock := ({ Slip := 10, Drift := 0, Jumps := ([] : List Int) } : Clock), Times := [100, 160] } : Track), ({ Clock := ({ Slip := 3, Drift := 0, Jumps := ([] : List Int) } : Clock), Times := [95, 158] } : Track)].length 2), (.slice (some ⟨b43, 0, none⟩) [({ A := ({ Log := 0, Line := 0 } : Ref), B := ({ Log := 1, Line := 0 } : Ref) } : Tie)].length 1), (vi 2)] 25), (some b22, .cells ([(vi 10), (vi 0), (.slice none ([] : List Int).length 0), (.slice (some ⟨b4, 0, none⟩) [100, 160].length 2), (vi 3), (vi 0), (.slice none ([] : List Int).length 0), (.slice (some ⟨b9, 0, none⟩) [95, 158].length 2)] : List Value).toArray 54 (0, 0)), (sb b1 #[(.slice none ([] : List Track).length 0), (.slice none ([] : List Tie).length 0), (vi 0)] 25)]) => ?_)
   refine RWP.nil ?_
   obtain rfl := some_inj h42
   have hb53 := RowR.bound hr47
   obtain ⟨F4, hs50, le51, hs52⟩ : ∃ Fq, HS w0 F0 w48 Fq [(sb b27 #[(.slice (some ⟨b22, 0, none⟩) [({ Clock := ({ Slip := 10, Drift := 0, Jumps := ([] : List Int) } : Clock), Times := [100, 160] } : Track), ({ Clock := ({ Slip := 3, Drift := 0, Jumps := ([] : List Int) } : Clock), Times := [95, 158] } : Track)].length 2), (.slice (some ⟨b43, 0, none⟩) [({ A := ({ Log := 0, Line := 0 } : Ref), B := ({ Log := 1, Line := 0 } : Ref) } : Tie)].length 1), (vi 2)] 25), (some b22, .cells ([(vi 10), (vi 0), (.slice none ([] : List Int).length 0), (.slice (some ⟨b4, 0, none⟩) [100, 160].length 2), (vi 3), (vi 0), (.slice none ([] : List Int).length 0), (.slice (some ⟨b9, 0, none⟩) [95, 158].length 2)] : List Value).toArray 54 (0, 0)), (sb b1 #[(.slice none ([] : List Track).length 0), (.slice none ([] : List Tie).length 0), (vi 0)] 25)] ∧ Mem.le F2 Fq ∧ SlA tTie Fq (some ⟨b43, 0, none⟩) [({ A := ({ Log := 0, Line := 0 } : Ref), B := ({ Log := 1, Line := 0 } : Ref) } : Tie)] := HS.freezeRow hs49 (k := 0) rfl hr47
   exact .inl ⟨rfl, F4, (some ⟨b43, 0, none⟩), 1, hs50, le51, rfl, rfl, rfl, hb53, hs52⟩
  ·have h54 := cond_f hj39 hb41
   refine Sc ?_
   obtain rfl := some_inj h54
   exact .inl ⟨rfl, F2, none, 0, hs31, (Mem.le.refl _), rfl, rfl, rfl, LC.nil, (.inl rfl)⟩
 ·rintro f w32 ⟨F3, aj35_0, nj35_0, hs33, le34, e36, e37, e38, hbj35_0, hsj35_0⟩
  refine thenQ_nrm ?_
  refine Sq (Rg [0, 1] ?_)
  refine V 18 25 (ld 25 3 b27 0 true 3 (.agg #[(.slice (some ⟨b22, 0, none⟩) [({ Clock := ({ Slip := 10, Drift := 0, Jumps := ([] : List Int) } : Clock), Times := [100, 160] } : Track), ({ Clock := ({ Slip := 3, Drift := 0, Jumps := ([] : List Int) } : Clock), Times := [95, 158] } : Track)].length 2), (.slice aj35_0 j35.length nj35_0), (vi 2)]) (hs33.ownAt (k := 0) rfl) e38) ?_
  refine RWP.store (ty := 0) (g := none) (by kernel_rfl) rfl (x := (.tmp 2)) (y := (.tmp 18)) (t := 25) (gg := true) (s := 3) (v := (.agg #[(.slice (some ⟨b22, 0, none⟩) [({ Clock := ({ Slip := 10, Drift := 0, Jumps := ([] : List Int) } : Clock), Times := [100, 160] } : Track), ({ Clock := ({ Slip := 3, Drift := 0, Jumps := ([] : List Int) } : Clock), Times := [95, 158] } : Track)].length 2), (.slice aj35_0 j35.length nj35_0), (vi 2)])) (b := b1) (o := 0) (C := #[(.slice none ([] : List Track).length 0), (.slice none ([] : List Tie).length 0), (vi 0)]) e37 rfl (by kernel_rfl) hs33 (k := 2) rfl rfl rfl rfl (C' := #[(.slice (some ⟨b22, 0, none⟩) [({ Clock := ({ Slip := 10, Drift := 0, Jumps := ([] : List Int) } : Clock), Times := [100, 160] } : Track), ({ Clock := ({ Slip := 3, Drift := 0, Jumps := ([] : List Int) } : Clock), Times := [95, 158] } : Track)].length 2), (.slice aj35_0 j35.length nj35_0), (vi 2)]) rfl (fun w55 (hs56 : HS w0 F0 w55 F3 [(sb b27 #[(.slice (some ⟨b22, 0, none⟩) [({ Clock := ({ Slip := 10, Drift := 0, Jumps := ([] : List Int) } : Clock), Times := [100, 160] } : Track), ({ Clock := ({ Slip := 3, Drift := 0, Jumps := ([] : List Int) } : Clock), Times := [95, 158] } : Track)].length 2), (.slice aj35_0 j35.length nj35_0), (vi 2)] 25), (some b22, .cells ([(vi 10), (vi 0), (.slice none ([] : List Int).length 0), (.slice (some ⟨b4, 0, none⟩) [100, 160].length 2), (vi 3), (vi 0), (.slice none ([] : List Int).length 0), (.slice (some ⟨b9, 0, none⟩) [95, 158].length 2)] : List Value).toArray 54 (0, 0)), (sb b1 #[(.slice (some ⟨b22, 0, none⟩) [({ Clock := ({ Slip := 10, Drift := 0, Jumps := ([] : List Int) } : Clock), Times := [100, 160] } : Track), ({ Clock := ({ Slip := 3, Drift := 0, Jumps := ([] : List Int) } : Clock), Times := [95, 158] } : Track)].length 2), (.slice aj35_0 j35.length nj35_0), (vi 2)] 25)]) => ?_)
  refine Nt ?_
  refine CWP.ret (by kernel_rfl) ?_
  have hb60 := RowR.bound (hr26.mono le34)
  obtain ⟨F5, hs57, le58, hs59⟩ : ∃ Fq, HS w0 F0 w55 Fq [(sb b27 #[(.slice (some ⟨b22, 0, none⟩) [({ Clock := ({ Slip := 10, Drift := 0, Jumps := ([] : List Int) } : Clock), Times := [100, 160] } : Track), ({ Clock := ({ Slip := 3, Drift := 0, Jumps := ([] : List Int) } : Clock), Times := [95, 158] } : Track)].length 2), (.slice aj35_0 j35.length nj35_0), (vi 2)] 25), (sb b1 #[(.slice (some ⟨b22, 0, none⟩) [({ Clock := ({ Slip := 10, Drift := 0, Jumps := ([] : List Int) } : Clock), Times := [100, 160] } : Track), ({ Clock := ({ Slip := 3, Drift := 0, Jumps := ([] : List Int) } : Clock), Times := [95, 158] } : Track)].length 2), (.slice aj35_0 j35.length nj35_0), (vi 2)] 25)] ∧ Mem.le F3 Fq ∧ SlA tTrack Fq (some ⟨b22, 0, none⟩) [({ Clock := ({ Slip := 10, Drift := 0, Jumps := ([] : List Int) } : Clock), Times := [100, 160] } : Track), ({ Clock := ({ Slip := 3, Drift := 0, Jumps := ([] : List Int) } : Clock), Times := [95, 158] } : Track)] := HS.freezeRow hs56 (k := 1) rfl (hr26.mono le34)
  have hfin := some_inj h40
  subst hfin
  exact ⟨e36, (.agg #[(.slice (some ⟨b22, 0, none⟩) [({ Clock := ({ Slip := 10, Drift := 0, Jumps := ([] : List Int) } : Clock), Times := [100, 160] } : Track), ({ Clock := ({ Slip := 3, Drift := 0, Jumps := ([] : List Int) } : Clock), Times := [95, 158] } : Track)].length 2), (.slice aj35_0 j35.length nj35_0), (vi 2)]), res_of (l := [.cell 2 25]) (by kernel_rfl) (vs := [(.agg #[(.slice (some ⟨b22, 0, none⟩) [({ Clock := ({ Slip := 10, Drift := 0, Jumps := ([] : List Int) } : Clock), Times := [100, 160] } : Track), ({ Clock := ({ Slip := 3, Drift := 0, Jumps := ([] : List Int) } : Clock), Times := [95, 158] } : Track)].length 2), (.slice aj35_0 j35.length nj35_0), (vi 2)])]) ⟨b1, 0, e37, run_loadVar' (t := 25) (g := true) (s := 3) (by kernel_rfl) (hs57.ownAt (k := 1) rfl) rfl (by decide), trivial⟩, (.agg #[(.slice (some ⟨b22, 0, none⟩) [({ Clock := ({ Slip := 10, Drift := 0, Jumps := ([] : List Int) } : Clock), Times := [100, 160] } : Track), ({ Clock := ({ Slip := 3, Drift := 0, Jumps := ([] : List Int) } : Clock), Times := [95, 158] } : Track)].length 2), (.slice aj35_0 j35.length nj35_0), (vi 2)]), F5, rfl, hs57.clear, ⟨(some ⟨b22, 0, none⟩), 2, aj35_0, nj35_0, rfl, hb60, hs59, hbj35_0, (SlA.mono hsj35_0 le58)⟩⟩
end Go.Proofs.Ythbcnabeabcmlaa
namespace Go.Proofs.Ythbcnabeabcmlaa
open Go.Proofs
def law03_awake (N : Nat)  : Option Bool :=
 ((law03_pair N true).bind fun r1 => ((clocks_Times N r1).bind fun r9 => ((law03_pair N true).bind fun r17 => ((clocks_Offset N r17 ({ Log := 0, Line := 0 } : Ref)).bind fun r25 => ((law03_pair N false).bind fun r38 => ((clocks_Accept N r38 ([({ A := ({ Log := 0, Line := 0 } : Ref), B := ({ Log := 1, Line := 1 } : Ref) } : Tie), ({ A := ({ Log := 0, Line := 0 } : Ref), B := ({ Log := 1, Line := 0 } : Ref) } : Tie)])).bind fun r55 => ((law03_pair N false).bind fun r63 => ((clocks_Before N r63 ({ Log := 1, Line := 0 } : Ref) ({ Log := 0, Line := 1 } : Ref)).bind fun r71 => ((bif (r9.2 != 0) then some true else (bif ((r9.1.length : Int) != 2) then some true else ((idx r9.1 0).bind fun x99 => (bif ((x99.length : Int) != 2) then some true else ((idx r9.1 0).bind fun x116 => ((idx x116 0).bind fun x122 => (bif (!((x122.Lo == 90) && ((x122.Hi == 100) && true))) then some true else ((idx r9.1 0).bind fun x139 => ((idx x139 1).bind fun x145 => some (!((x145.Lo == 150) && ((x145.Hi == 161) && true)))))))))))).bind fun j82 => (bif j82 then some false else ((bif (r25.2 == 0) then (bif ((r25.1.Lo == 0) && ((r25.1.Hi == 10) && true)) then (bif (r55.2 == 0) then (bif ((r55.1.length : Int) == 2) then ((idx r55.1 0).bind fun x178 => (bif (!x178) then ((idx r55.1 1).bind fun x194 => (bif x194 then (bif r71.1 then some (r71.2 == 0) else some false) else some false)) else some false)) else some false) else some false) else some false) else some false).bind fun j165 => some j165)))))))))))
theorem co_law03_awake : CallOk Try.prog 15 := fun _ _ => by kernel_rfl
set_option maxHeartbeats 4000000 in
set_option maxRecDepth 100000 in
theorem c_law03_awake (N : Nat) (w0 : World) (F0 : Mem) (hF : ∀ b o, F0 b = some o → w0.heap[b]? = some o)  (r : Bool) (h : law03_awake N  = some r) :
  Calls Try.prog 15 ([] : List Value).toArray w0 (FRet w0 F0 fun F' v => v = (.bool r)) := by
 have hs0 := HS.start hF
 refine calls_of (n := 105) (c := bodyOf Try.f15) Try.func15 (by kernel_rfl) (by kernel_rfl) (by kernel_rfl) ?_
 refine Sq (Rg [0] ?_)
 refine V 0 4 (mc (.bool false) (.bool false)) ?_
 refine Nss (Rg [0, 1, 2, 3, 4, 5, 6] ?_)
 obtain ⟨r1, hr2, h3⟩ := bind_some h
 refine Cl 10 25 64 #[(.const (.bool true))] #[4] co_law03_pair hs0 (c_law03_pair N w0 F0 hs0.pers (true) _ hr2) ?_
 intro v4 F1 w5 hs6 le7 hp8
 obtain ⟨ar1_0_0, nr1_0_0, ar1_0_1, nr1_0_1, rfl, hbr1_0_0, hsr1_0_0, hbr1_0_1, hsr1_0_1⟩ := hp8
 obtain ⟨r9, hr10, h11⟩ := bind_some h3
 refine Cl 11 34 19 #[(.tmp 10)] #[25] co_clocks_Times hs6 (c_clocks_Times N w5 F1 hs6.pers (r1) ar1_0_0 nr1_0_0 hbr1_0_0 hsr1_0_0 ar1_0_1 nr1_0_1 hbr1_0_1 hsr1_0_1 _ hr10) ?_
 intro v12 F2 w13 hs14 le15 hp16
 obtain ⟨ar9_0_0, nr9_0_0, rfl, hbr9_0_0, hsr9_0_0⟩ := hp16
 refine V 9 34 (mv 11 (.tuple #[(.slice ar9_0_0 r9.1.length nr9_0_0), (vi r9.2)])) ?_
 refine V 12 33 (ex 9 0 (.slice ar9_0_0 r9.1.length nr9_0_0) (vs := #[(.slice ar9_0_0 r9.1.length nr9_0_0), (vi r9.2)])) ?_
 refine V 13 30 (ex 9 1 (vi r9.2) (vs := #[(.slice ar9_0_0 r9.1.length nr9_0_0), (vi r9.2)])) ?_
 refine V 1 33 (ma 12 (.slice ar9_0_0 r9.1.length nr9_0_0)) ?_
 refine V 2 30 (ma 13 (vi r9.2)) ?_
 refine Nss (Rg [0, 1, 2, 3, 4, 5, 6, 7, 8] ?_)
 obtain ⟨r17, hr18, h19⟩ := bind_some h11
 refine Cl 15 25 64 #[(.const (.bool true))] #[4] co_law03_pair hs14 (c_law03_pair N w13 F2 hs14.pers (true) _ hr18) ?_
 intro v20 F3 w21 hs22 le23 hp24
 obtain ⟨ar17_0_0, nr17_0_0, ar17_0_1, nr17_0_1, rfl, hbr17_0_0, hsr17_0_0, hbr17_0_1, hsr17_0_1⟩ := hp24
 refine V 16 27 (run_build2 (t := 27) (parts := #[]) (vs := []) (rfl) (cs := [(vi 0), (vi 0)]) (by kernel_rfl)) ?_
 obtain ⟨r25, hr26, h27⟩ := bind_some h19
 refine Cl 17 39 24 #[(.tmp 15), (.tmp 16)] #[25, 27] co_clocks_Offset hs22 (c_clocks_Offset N w21 F3 hs22.pers (r17) ar17_0_0 nr17_0_0 hbr17_0_0 hsr17_0_0 ar17_0_1 nr17_0_1 hbr17_0_1 hsr17_0_1 (({ Log := 0, Line := 0 } : Ref)) _ hr26) ?_
 intro v28 F4 w29 hs30 le31 hp32
 obtain rfl := hp32
 refine V 14 39 (mv 17 (.tuple #[(.agg (kSpan r25.1)), (vi r25.2)])) ?_
 refine V 18 38 (ex 14 0 (.agg (kSpan r25.1)) (vs := #[(.agg (kSpan r25.1)), (vi r25.2)])) ?_
 refine V 19 30 (ex 14 1 (vi r25.2) (vs := #[(.agg (kSpan r25.1)), (vi r25.2)])) ?_
 refine Al 3 0 38 #[(vi 0), (vi 0)] hs30 (fun b33 w34 (hs35 : HS w0 F0 w34 F4 [(sb b33 #[(vi 0), (vi 0)] 38)]) => ?_)
 refine RWP.store (ty := 0) (g := none) (by kernel_rfl) rfl (x := (.tmp 3)) (y := (.tmp 18)) (t := 38) (gg := true) (s := 2) (v := (.agg (kSpan r25.1))) (b := b33) (o := 0) (C := #[(vi 0), (vi 0)]) rfl rfl (by kernel_rfl) hs35 (k := 0) rfl rfl rfl rfl (C' := (kSpan r25.1)) rfl (fun w36 (hs37 : HS w0 F0 w36 F4 [(sb b33 (kSpan r25.1) 38)]) => ?_)
 refine V 4 30 (ma 19 (vi r25.2)) ?_
 refine Nss (Rg [0, 1, 2, 3, 4, 5, 6, 7, 8, 9, 10, 11, 12, 13] ?_)
 obtain ⟨r38, hr39, h40⟩ := bind_some h27
 refine Cl 21 25 64 #[(.const (.bool false))] #[4] co_law03_pair hs37 (c_law03_pair N w36 F4 hs37.pers (false) _ hr39) ?_
 intro v41 F5 w42 hs43 le44 hp45
 obtain ⟨ar38_0_0, nr38_0_0, ar38_0_1, nr38_0_1, rfl, hbr38_0_0, hsr38_0_0, hbr38_0_1, hsr38_0_1⟩ := hp45
 refine V 22 27 (run_build2 (t := 27) (parts := #[]) (vs := []) (rfl) (cs := [(vi 0), (vi 0)]) (by kernel_rfl)) ?_
 refine V 23 27 (run_build2 (t := 27) (parts := #[(0, (.const (vi 1))), (1, (.const (vi 1)))]) (vs := [(0, (vi 1)), (1, (vi 1))]) (rfl) (cs := [(vi 1), (vi 1)]) (by kernel_rfl)) ?_
 refine V 24 46 (run_build2 (t := 46) (parts := #[(0, (.tmp 22)), (1, (.tmp 23))]) (vs := [(0, (.agg #[(vi 0), (vi 0)])), (1, (.agg #[(vi 1), (vi 1)]))]) (rfl) (cs := [(vi 0), (vi 0), (vi 1), (vi 1)]) (by kernel_rfl)) ?_
 refine V 25 27 (run_build2 (t := 27) (parts := #[]) (vs := []) (rfl) (cs := [(vi 0), (vi 0)]) (by kernel_rfl)) ?_
 refine V 26 27 (run_build2 (t := 27) (parts := #[(0, (.const (vi 1)))]) (vs := [(0, (vi 1))]) (rfl) (cs := [(vi 1), (vi 0)]) (by kernel_rfl)) ?_
 refine V 27 46 (run_build2 (t := 46) (parts := #[(0, (.tmp 25)), (1, (.tmp 26))]) (vs := [(0, (.agg #[(vi 0), (vi 0)])), (1, (.agg #[(vi 1), (vi 0)]))]) (rfl) (cs := [(vi 0), (vi 0), (vi 1), (vi 0)]) (by kernel_rfl)) ?_
 refine RWP.buildSlice (dst := (some 28)) (ty := 23) (g := none) (by kernel_rfl) rfl (t := 23) (len := 2) (parts := #[(0, (.tmp 24)), (1, (.tmp 27))]) (vs := [(0, (.agg #[(vi 0), (vi 0), (vi 1), (vi 1)])), (1, (.agg #[(vi 0), (vi 0), (vi 1), (vi 0)]))]) (rfl) (E := 46) (cs := [(vi 0), (vi 0), (vi 1), (vi 1), (vi 0), (vi 0), (vi 1), (vi 0)]) (by kernel_rfl) hs43 (fun b46 w47 (hs48 : HS w0 F0 w47 F5 [(some b46, .cells ([(vi 0), (vi 0), (vi 1), (vi 1), (vi 0), (vi 0), (vi 1), (vi 0)] : List Value).toArray 46 (0, 0)), (sb b33 (kSpan r25.1) 38)]) => ?_)
 have hr50 : RowR tTie 46 F5 (some ⟨b46, 0, none⟩) 2 [({ A := ({ Log := 0, Line := 0 } : Ref), B := ({ Log := 1, Line := 1 } : Ref) } : Tie), ({ A := ({ Log := 0, Line := 0 } : Ref), B := ({ Log := 1, Line := 0 } : Ref) } : Tie)] (some b46, .cells ([(vi 0), (vi 0), (vi 1), (vi 1), (vi 0), (vi 0), (vi 1), (vi 0)] : List Value).toArray 46 (0, 0)) := RowR.lit ⟨rfl, ⟨rfl, rfl⟩⟩ (by simp)
 have hb54 := RowR.bound hr50
 obtain ⟨F6, hs51, le52, hs53⟩ : ∃ Fq, HS w0 F0 w47 Fq [(sb b33 (kSpan r25.1) 38)] ∧ Mem.le F5 Fq ∧ SlA tTie Fq (some ⟨b46, 0, none⟩) [({ A := ({ Log := 0, Line := 0 } : Ref), B := ({ Log := 1, Line := 1 } : Ref) } : Tie), ({ A := ({ Log := 0, Line := 0 } : Ref), B := ({ Log := 1, Line := 0 } : Ref) } : Tie)] := HS.freezeRow hs48 (k := 0) rfl hr50
 obtain ⟨r55, hr56, h57⟩ := bind_some h40
 refine Cl 29 65 42 #[(.tmp 21), (.tmp 28)] #[25, 23] co_clocks_Accept hs51 (c_clocks_Accept N w47 F6 hs51.pers (r38) ar38_0_0 nr38_0_0 hbr38_0_0 (SlA.mono hsr38_0_0 le52) ar38_0_1 nr38_0_1 hbr38_0_1 (SlA.mono hsr38_0_1 le52) ([({ A := ({ Log := 0, Line := 0 } : Ref), B := ({ Log := 1, Line := 1 } : Ref) } : Tie), ({ A := ({ Log := 0, Line := 0 } : Ref), B := ({ Log := 1, Line := 0 } : Ref) } : Tie)]) (some ⟨b46, 0, none⟩) 2 hb54 hs53 _ hr56) ?_
 intro v58 F7 w59 hs60 le61 hp62
 obtain ⟨ar55_0_0, nr55_0_0, rfl, hbr55_0_0, hsr55_0_0⟩ := hp62
 refine V 20 65 (mv 29 (.tuple #[(.slice ar55_0_0 r55.1.length nr55_0_0), (vi r55.2)])) ?_
 refine V 30 64 (ex 20 0 (.slice ar55_0_0 r55.1.length nr55_0_0) (vs := #[(.slice ar55_0_0 r55.1.length nr55_0_0), (vi r55.2)])) ?_
 refine V 31 30 (ex 20 1 (vi r55.2) (vs := #[(.slice ar55_0_0 r55.1.length nr55_0_0), (vi r55.2)])) ?_
 refine V 5 64 (ma 30 (.slice ar55_0_0 r55.1.length nr55_0_0)) ?_
 refine V 6 30 (ma 31 (vi r55.2)) ?_
 refine Nss (Rg [0, 1, 2, 3, 4, 5, 6, 7, 8] ?_)
 obtain ⟨r63, hr64, h65⟩ := bind_some h57
 refine Cl 33 25 64 #[(.const (.bool false))] #[4] co_law03_pair hs60 (c_law03_pair N w59 F7 hs60.pers (false) _ hr64) ?_
 intro v66 F8 w67 hs68 le69 hp70
 obtain ⟨ar63_0_0, nr63_0_0, ar63_0_1, nr63_0_1, rfl, hbr63_0_0, hsr63_0_0, hbr63_0_1, hsr63_0_1⟩ := hp70
 refine V 34 27 (run_build2 (t := 27) (parts := #[(0, (.const (vi 1)))]) (vs := [(0, (vi 1))]) (rfl) (cs := [(vi 1), (vi 0)]) (by kernel_rfl)) ?_
 refine V 35 27 (run_build2 (t := 27) (parts := #[(1, (.const (vi 1)))]) (vs := [(1, (vi 1))]) (rfl) (cs := [(vi 0), (vi 1)]) (by kernel_rfl)) ?_
 obtain ⟨r71, hr72, h73⟩ := bind_some h65
 refine Cl 36 43 30 #[(.tmp 33), (.tmp 34), (.tmp 35)] #[25, 27, 27] co_clocks_Before hs68 (c_clocks_Before N w67 F8 hs68.pers (r63) ar63_0_0 nr63_0_0 hbr63_0_0 hsr63_0_0 ar63_0_1 nr63_0_1 hbr63_0_1 hsr63_0_1 (({ Log := 1, Line := 0 } : Ref)) (({ Log := 0, Line := 1 } : Ref)) _ hr72) ?_
 intro v74 F9 w75 hs76 le77 hp78
 obtain rfl := hp78
 refine V 32 43 (mv 36 (.tuple #[(.bool r71.1), (vi r71.2)])) ?_
 refine V 37 4 (ex 32 0 (.bool r71.1) (vs := #[(.bool r71.1), (vi r71.2)])) ?_
 refine V 38 30 (ex 32 1 (vi r71.2) (vs := #[(.bool r71.1), (vi r71.2)])) ?_
 refine V 7 4 (ma 37 (.bool r71.1)) ?_
 refine V 8 30 (ma 38 (vi r71.2)) ?_
 refine Nss ?_
 refine Sq (Rg [0, 1, 2, 3, 4, 5, 6, 7, 8, 9, 10, 11, 12, 13, 14, 15, 16, 17, 18, 19, 20, 21, 22, 23, 24, 25, 26, 27, 28, 29, 30, 31] ?_)
 obtain ⟨j82, hj91, h92⟩ := bind_some h73
 refine RWP.cut (fun f w => ∃ (F10 : Mem), HS w0 F0 w F10 [(sb b33 (kSpan r25.1) 38)] ∧ Mem.le F9 F10 ∧ f.d = [] ∧ f 3 = (.pointer (some ⟨b33, 0, none⟩)) ∧ f 4 = (vi r25.2) ∧ f 5 = (.slice ar55_0_0 r55.1.length nr55_0_0) ∧ f 6 = (vi r55.2) ∧ f 7 = (.bool r71.1) ∧ f 8 = (vi r71.2) ∧ f 70 = (.bool j82)) ?_ ?_
 ·refine V 39 30 (mv 2 (vi r9.2)) ?_
  refine V 40 4 (run_neq (t := 30) (t' := 30) (x := (.tmp 39)) (y := (.const (vi 0))) (k := .i64) (a := r9.2) (b := 0) rfl rfl) ?_
  refine V 41 4 (mv 40 (.bool (r9.2 != 0))) ?_
  refine RWP.split (r9.2 != 0) (fun hb93 => ?_) (fun hb93 => ?_)
  ·have h94 := cond_t hj91 hb93
   refine Sk [42, 43, 44] 2 false 41 hb93 ?_
   refine V 45 4 (p1 41 (.const (.bool true)) (.tmp 44) (.bool true) hb93) ?_
   refine V 46 4 (mv 45 (.bool true)) ?_
   refine Sk [47, 48, 49, 50, 51] 7 false 46 rfl ?_
   refine V 52 4 (p1 46 (.const (.bool true)) (.tmp 51) (.bool true) rfl) ?_
   refine V 53 4 (mv 52 (.bool true)) ?_
   refine Sk [54, 55, 56, 57, 58, 59, 60] 14 false 53 rfl ?_
   refine V 61 4 (p1 53 (.const (.bool true)) (.tmp 60) (.bool true) rfl) ?_
   refine V 62 4 (mv 61 (.bool true)) ?_
   refine Sk [63, 64, 65, 66, 67, 68, 69] 23 false 62 rfl ?_
   refine V 70 4 (p1 62 (.const (.bool true)) (.tmp 69) (.bool true) rfl) ?_
   obtain rfl := some_inj h94
   exact RWP.nil ⟨rfl, F9, hs76, (Mem.le.refl _), rfl, rfl, rfl, rfl, rfl, rfl, rfl, rfl⟩
  ·have h95 := cond_f hj91 hb93
   refine Vg 42 33 2 false 41 hb93 (mv 1 (.slice ar9_0_0 r9.1.length nr9_0_0)) ?_
   refine Vg 43 3 2 false 41 hb93 (ln 42 33 ar9_0_0 r9.1.length nr9_0_0 36 1 24) ?_
   refine Vg 44 4 2 false 41 hb93 (run_neq (t := 3) (t' := 3) (x := (.tmp 43)) (y := (.const (vi 2))) (k := .i64) (a := (r9.1.length : Int)) (b := 2) rfl rfl) ?_
   refine V 45 4 (p0 41 (.const (.bool true)) (.tmp 44) (.bool ((r9.1.length : Int) != 2)) hb93) ?_
   refine V 46 4 (mv 45 (.bool ((r9.1.length : Int) != 2))) ?_
   refine RWP.split ((r9.1.length : Int) != 2) (fun hb96 => ?_) (fun hb96 => ?_)
   ·have h97 := cond_t h95 hb96
    refine Sk [47, 48, 49, 50, 51] 7 false 46 hb96 ?_
    refine V 52 4 (p1 46 (.const (.bool true)) (.tmp 51) (.bool true) hb96) ?_
    refine V 53 4 (mv 52 (.bool true)) ?_
    refine Sk [54, 55, 56, 57, 58, 59, 60] 14 false 53 rfl ?_
    refine V 61 4 (p1 53 (.const (.bool true)) (.tmp 60) (.bool true) rfl) ?_
    refine V 62 4 (mv 61 (.bool true)) ?_
    refine Sk [63, 64, 65, 66, 67, 68, 69] 23 false 62 rfl ?_
    refine V 70 4 (p1 62 (.const (.bool true)) (.tmp 69) (.bool true) rfl) ?_
    obtain rfl := some_inj h97
    exact RWP.nil ⟨rfl, F9, hs76, (Mem.le.refl _), rfl, rfl, rfl, rfl, rfl, rfl, rfl, rfl⟩
   ·have h98 := cond_f h95 hb96
    refine Vg 47 33 7 false 46 hb96 (mv 1 (.slice ar9_0_0 r9.1.length nr9_0_0)) ?_
    obtain ⟨x99, hx100, h102⟩ := bind_some h98
    obtain ⟨hi101, hx100'⟩ := idx_spec hx100
    obtain ⟨b103, o104, C105, E106, fz107, rfl, hF109, hE110⟩ := SlA.open (SlA.mono hsr9_0_0 ((((((le23.trans le31).trans le44).trans le52).trans le61).trans le69).trans le77)) hx100'
    obtain ⟨ae111_0, ne111_0, hc112, hbe111_0, hse111_0⟩ := hE110 _ _ hx100'
    refine Vg 48 0 7 false 46 hb96 (run_index (t := 33) (x := (.tmp 47)) (y := (.const (vi 0))) (b := b103) (o := o104) (E := 36) (s := 1) (by_ := 24) rfl rfl (by kernel_rfl) hi101) ?_
    refine Vg 49 36 7 false 46 hb96 (lx 36 48 0 1 false 1 (.slice ae111_0 x99.length ne111_0) (hs76.pers _ _ hF109) hc112) ?_
    refine Vg 50 3 7 false 46 hb96 (ln 49 36 ae111_0 x99.length ne111_0 38 2 16) ?_
    refine Vg 51 4 7 false 46 hb96 (run_neq (t := 3) (t' := 3) (x := (.tmp 50)) (y := (.const (vi 2))) (k := .i64) (a := (x99.length : Int)) (b := 2) rfl rfl) ?_
    refine V 52 4 (p0 46 (.const (.bool true)) (.tmp 51) (.bool ((x99.length : Int) != 2)) hb96) ?_
    refine V 53 4 (mv 52 (.bool ((x99.length : Int) != 2))) ?_
    refine RWP.split ((x99.length : Int) != 2) (fun hb113 => ?_) (fun hb113 => ?_)
    ·have h114 := cond_t h102 hb113
     refine Sk [54, 55, 56, 57, 58, 59, 60] 14 false 53 hb113 ?_
     refine V 61 4 (p1 53 (.const (.bool true)) (.tmp 60) (.bool true) hb113) ?_
     refine V 62 4 (mv 61 (.bool true)) ?_
     refine Sk [63, 64, 65, 66, 67, 68, 69] 23 false 62 rfl ?_
     refine V 70 4 (p1 62 (.const (.bool true)) (.tmp 69) (.bool true) rfl) ?_
     obtain rfl := some_inj h114
     exact RWP.nil ⟨rfl, F9, hs76, (Mem.le.refl _), rfl, rfl, rfl, rfl, rfl, rfl, rfl, rfl⟩
    ·have h115 := cond_f h102 hb113
     refine Vg 54 33 14 false 53 hb113 (mv 1 (.slice (some ⟨b103, o104, none⟩) r9.1.length nr9_0_0)) ?_
     obtain ⟨x116, hx117, h119⟩ := bind_some h115
     obtain ⟨hi118, hx117'⟩ := idx_spec hx117
     obtain ⟨ae120_0, ne120_0, hc121, hbe120_0, hse120_0⟩ := hE110 _ _ hx117'
     refine Vg 55 0 14 false 53 hb113 (run_index (t := 33) (x := (.tmp 54)) (y := (.const (vi 0))) (b := b103) (o := o104) (E := 36) (s := 1) (by_ := 24) rfl rfl (by kernel_rfl) hi118) ?_
     refine Vg 56 36 14 false 53 hb113 (lx 36 55 0 1 false 1 (.slice ae120_0 x116.length ne120_0) (hs76.pers _ _ hF109) hc121) ?_
     obtain ⟨x122, hx123, h125⟩ := bind_some h119
     obtain ⟨hi124, hx123'⟩ := idx_spec hx123
     obtain ⟨b126, o127, C128, E129, fz130, rfl, hF132, hE133⟩ := SlA.open hse120_0 hx123'
     have hc135 := hE133 _ _ hx123'
     refine Vg 57 0 14 false 53 hb113 (run_index (t := 36) (x := (.tmp 56)) (y := (.const (vi 0))) (b := b126) (o := o127) (E := 38) (s := 2) (by_ := 16) rfl rfl (by kernel_rfl) hi124) ?_
     refine Vg 58 38 14 false 53 hb113 (lx 38 57 0 2 true 2 (.agg (kSpan x122)) (hs76.pers _ _ hF132) hc135) ?_
     refine Vg 59 38 14 false 53 hb113 (run_build2 (t := 38) (parts := #[(0, (.const (vi 90))), (1, (.const (vi 100)))]) (vs := [(0, (vi 90)), (1, (vi 100))]) (rfl) (cs := [(vi 90), (vi 100)]) (by kernel_rfl)) ?_
     refine Vg 60 4 14 false 53 hb113 (run_nes (t := 38) (t' := 38) (x := (.tmp 58)) (y := (.tmp 59)) (xs := (kSpan x122)) (ys := #[(vi 90), (vi 100)]) (b := ((x122.Lo == 90) && ((x122.Hi == 100) && true))) rfl rfl (by kernel_rfl) (by kernel_rfl)) ?_
     refine V 61 4 (p0 53 (.const (.bool true)) (.tmp 60) (.bool (!((x122.Lo == 90) && ((x122.Hi == 100) && true)))) hb113) ?_
     refine V 62 4 (mv 61 (.bool (!((x122.Lo == 90) && ((x122.Hi == 100) && true))))) ?_
     refine RWP.split (!((x122.Lo == 90) && ((x122.Hi == 100) && true))) (fun hb136 => ?_) (fun hb136 => ?_)
     ·have h137 := cond_t h125 hb136
      refine Sk [63, 64, 65, 66, 67, 68, 69] 23 false 62 hb136 ?_
      refine V 70 4 (p1 62 (.const (.bool true)) (.tmp 69) (.bool true) hb136) ?_
      obtain rfl := some_inj h137
      exact RWP.nil ⟨rfl, F9, hs76, (Mem.le.refl _), rfl, rfl, rfl, rfl, rfl, rfl, rfl, rfl⟩
     ·have h138 := cond_f h125 hb136
      refine Vg 63 33 23 false 62 hb136 (mv 1 (.slice (some ⟨b103, o104, none⟩) r9.1.length nr9_0_0)) ?_
      obtain ⟨x139, hx140, h142⟩ := bind_some h138
      obtain ⟨hi141, hx140'⟩ := idx_spec hx140
      obtain ⟨ae143_0, ne143_0, hc144, hbe143_0, hse143_0⟩ := hE110 _ _ hx140'
      refine Vg 64 0 23 false 62 hb136 (run_index (t := 33) (x := (.tmp 63)) (y := (.const (vi 0))) (b := b103) (o := o104) (E := 36) (s := 1) (by_ := 24) rfl rfl (by kernel_rfl) hi141) ?_
      refine Vg 65 36 23 false 62 hb136 (lx 36 64 0 1 false 1 (.slice ae143_0 x139.length ne143_0) (hs76.pers _ _ hF109) hc144) ?_
      obtain ⟨x145, hx146, h148⟩ := bind_some h142
      obtain ⟨hi147, hx146'⟩ := idx_spec hx146
      obtain ⟨b149, o150, C151, E152, fz153, rfl, hF155, hE156⟩ := SlA.open hse143_0 hx146'
      have hc158 := hE156 _ _ hx146'
      refine Vg 66 0 23 false 62 hb136 (run_index (t := 36) (x := (.tmp 65)) (y := (.const (vi 1))) (b := b149) (o := o150) (E := 38) (s := 2) (by_ := 16) rfl rfl (by kernel_rfl) hi147) ?_
      refine Vg 67 38 23 false 62 hb136 (lx 38 66 0 2 true 2 (.agg (kSpan x145)) (hs76.pers _ _ hF155) hc158) ?_
      refine Vg 68 38 23 false 62 hb136 (run_build2 (t := 38) (parts := #[(0, (.const (vi 150))), (1, (.const (vi 161)))]) (vs := [(0, (vi 150)), (1, (vi 161))]) (rfl) (cs := [(vi 150), (vi 161)]) (by kernel_rfl)) ?_
      refine Vg 69 4 23 false 62 hb136 (run_nes (t := 38) (t' := 38) (x := (.tmp 67)) (y := (.tmp 68)) (xs := (kSpan x145)) (ys := #[(vi 150), (vi 161)]) (b := ((x145.Lo == 150) && ((x145.Hi == 161) && true))) rfl rfl (by kernel_rfl) (by kernel_rfl)) ?_
      refine V 70 4 (p0 62 (.const (.bool true)) (.tmp 69) (.bool (!((x145.Lo == 150) && ((x145.Hi == 161) && true)))) hb136) ?_
      obtain rfl := some_inj h148
      exact RWP.nil ⟨rfl, F9, hs76, (Mem.le.refl _), rfl, rfl, rfl, rfl, rfl, rfl, rfl, rfl⟩
 ·rintro f w79 ⟨F10, hs80, le81, e83, e84, e85, e86, e87, e88, e89, e90⟩
  refine thenQ_nrm ?_
  refine CWP.cond (t := j82) (by kernel_rfl) e90 (fun hb159 => ?_) (fun hb159 => ?_)
  ·have h160 := cond_t h92 hb159
   refine Sq (Rg [0] ?_)
   refine V 0 4 (mc (.bool false) (.bool false)) ?_
   refine Nt ?_
   refine CWP.ret (by kernel_rfl) ?_
   refine thenQ_ret ?_
   have hfin := some_inj h160
   subst hfin
   exact ⟨e83, (.bool false), res_of (l := [.tmp 0]) (by kernel_rfl) (vs := [(.bool false)]) ⟨rfl, trivial⟩, (.bool false), F10, rfl, hs80.clear, rfl⟩
  ·have h161 := cond_f h92 hb159
   refine Sc ?_
   refine thenQ_nrm ?_
   refine Sq (Rg [0, 1, 2, 3, 4, 5, 6, 7, 8, 9, 10, 11, 12, 13, 14, 15, 16, 17, 18, 19, 20, 21, 22, 23, 24, 25, 26, 27, 28, 29, 30, 31, 32, 33, 34] ?_)
   obtain ⟨j165, hj168, h169⟩ := bind_some h161
   refine RWP.cut (fun f w => ∃ (F11 : Mem), HS w0 F0 w F11 [] ∧ Mem.le F10 F11 ∧ f.d = [] ∧ f 0 = (.bool j165)) ?_ ?_
   ·refine V 71 30 (mv 4 (vi r25.2) e85) ?_
    refine V 72 4 (run_eql (t := 30) (t' := 30) (x := (.tmp 71)) (y := (.const (vi 0))) (k := .i64) (a := r25.2) (b := 0) rfl rfl) ?_
    refine V 73 4 (mv 72 (.bool (r25.2 == 0))) ?_
    refine RWP.split (r25.2 == 0) (fun hb170 => ?_) (fun hb170 => ?_)
    ·have h171 := cond_t hj168 hb170
     refine Vg 74 38 2 true 73 hb170 (ld 38 3 b33 0 true 2 (.agg (kSpan r25.1)) (hs80.ownAt (k := 0) rfl) e84) ?_
     refine Vg 75 38 2 true 73 hb170 (run_build2 (t := 38) (parts := #[(0, (.const (vi 0))), (1, (.const (vi 10)))]) (vs := [(0, (vi 0)), (1, (vi 10))]) (rfl) (cs := [(vi 0), (vi 10)]) (by kernel_rfl)) ?_
     refine Vg 76 4 2 true 73 hb170 (run_eqs (t := 38) (t' := 38) (x := (.tmp 74)) (y := (.tmp 75)) (xs := (kSpan r25.1)) (ys := #[(vi 0), (vi 10)]) (b := ((r25.1.Lo == 0) && ((r25.1.Hi == 10) && true))) rfl rfl (by kernel_rfl) (by kernel_rfl)) ?_
     refine V 77 4 (p1 73 (.tmp 76) (.const (.bool false)) (.bool ((r25.1.Lo == 0) && ((r25.1.Hi == 10) && true))) hb170) ?_
     refine V 78 4 (mv 77 (.bool ((r25.1.Lo == 0) && ((r25.1.Hi == 10) && true)))) ?_
     refine RWP.split ((r25.1.Lo == 0) && ((r25.1.Hi == 10) && true)) (fun hb172 => ?_) (fun hb172 => ?_)
     ·have h173 := cond_t h171 hb172
      refine Vg 79 30 7 true 78 hb172 (mv 6 (vi r55.2) e87) ?_
      refine Vg 80 4 7 true 78 hb172 (run_eql (t := 30) (t' := 30) (x := (.tmp 79)) (y := (.const (vi 0))) (k := .i64) (a := r55.2) (b := 0) rfl rfl) ?_
      refine V 81 4 (p1 78 (.tmp 80) (.const (.bool false)) (.bool (r55.2 == 0)) hb172) ?_
      refine V 82 4 (mv 81 (.bool (r55.2 == 0))) ?_
      refine RWP.split (r55.2 == 0) (fun hb174 => ?_) (fun hb174 => ?_)
      ·have h175 := cond_t h173 hb174
       refine Vg 83 64 11 true 82 hb174 (mv 5 (.slice ar55_0_0 r55.1.length nr55_0_0) e86) ?_
       refine Vg 84 3 11 true 82 hb174 (ln 83 64 ar55_0_0 r55.1.length nr55_0_0 4 1 1) ?_
       refine Vg 85 4 11 true 82 hb174 (run_eql (t := 3) (t' := 3) (x := (.tmp 84)) (y := (.const (vi 2))) (k := .i64) (a := (r55.1.length : Int)) (b := 2) rfl rfl) ?_
       refine V 86 4 (p1 82 (.tmp 85) (.const (.bool false)) (.bool ((r55.1.length : Int) == 2)) hb174) ?_
       refine V 87 4 (mv 86 (.bool ((r55.1.length : Int) == 2))) ?_
       refine RWP.split ((r55.1.length : Int) == 2) (fun hb176 => ?_) (fun hb176 => ?_)
       ·have h177 := cond_t h175 hb176
        refine Vg 88 64 16 true 87 hb176 (mv 5 (.slice ar55_0_0 r55.1.length nr55_0_0) e86) ?_
        obtain ⟨x178, hx179, h181⟩ := bind_some h177
        obtain ⟨hi180, hx179'⟩ := idx_spec hx179
        obtain ⟨b182, o183, C184, E185, fz186, rfl, hF188, hE189⟩ := SlA.open (SlA.mono hsr55_0_0 ((le69.trans le77).trans le81)) hx179'
        have hc191 := hE189 _ _ hx179'
        refine Vg 89 0 16 true 87 hb176 (run_index (t := 64) (x := (.tmp 88)) (y := (.const (vi 0))) (b := b182) (o := o183) (E := 4) (s := 1) (by_ := 1) rfl rfl (by kernel_rfl) hi180) ?_
        refine Vg 90 4 16 true 87 hb176 (lx 4 89 0 1 false 1 (.bool x178) (hs80.pers _ _ hF188) hc191) ?_
        refine Vg 91 4 16 true 87 hb176 (run_not (t := 4) (x := (.tmp 90)) (a := x178) rfl) ?_
        refine V 92 4 (p1 87 (.tmp 91) (.const (.bool false)) (.bool (!x178)) hb176) ?_
        refine V 93 4 (mv 92 (.bool (!x178))) ?_
        refine RWP.split (!x178) (fun hb192 => ?_) (fun hb192 => ?_)
        ·have h193 := cond_t h181 hb192
         refine Vg 94 64 22 true 93 hb192 (mv 5 (.slice (some ⟨b182, o183, none⟩) r55.1.length nr55_0_0) e86) ?_
         obtain ⟨x194, hx195, h197⟩ := bind_some h193
         obtain ⟨hi196, hx195'⟩ := idx_spec hx195
         have hc199 := hE189 _ _ hx195'
         refine Vg 95 0 22 true 93 hb192 (run_index (t := 64) (x := (.tmp 94)) (y := (.const (vi 1))) (b := b182) (o := o183) (E := 4) (s := 1) (by_ := 1) rfl rfl (by kernel_rfl) hi196) ?_
         refine Vg 96 4 22 true 93 hb192 (lx 4 95 0 1 false 1 (.bool x194) (hs80.pers _ _ hF188) hc199) ?_
         refine V 97 4 (p1 93 (.tmp 96) (.const (.bool false)) (.bool x194) hb192) ?_
         refine V 98 4 (mv 97 (.bool x194)) ?_
         refine RWP.split x194 (fun hb200 => ?_) (fun hb200 => ?_)
         ·have h201 := cond_t h197 hb200
          refine Vg 99 4 27 true 98 hb200 (mv 7 (.bool r71.1) e88) ?_
          refine V 100 4 (p1 98 (.tmp 99) (.const (.bool false)) (.bool r71.1) hb200) ?_
          refine V 101 4 (mv 100 (.bool r71.1)) ?_
          refine RWP.split r71.1 (fun hb202 => ?_) (fun hb202 => ?_)
          ·have h203 := cond_t h201 hb202
           refine Vg 102 30 30 true 101 hb202 (mv 8 (vi r71.2) e89) ?_
           refine Vg 103 4 30 true 101 hb202 (run_eql (t := 30) (t' := 30) (x := (.tmp 102)) (y := (.const (vi 0))) (k := .i64) (a := r71.2) (b := 0) rfl rfl) ?_
           refine V 104 4 (p1 101 (.tmp 103) (.const (.bool false)) (.bool (r71.2 == 0)) hb202) ?_
           refine V 0 4 (ma 104 (.bool (r71.2 == 0))) ?_
           obtain rfl := some_inj h203
           have hs204 : HS w0 F0 w79 F10 [] := hs80.drop 0
           exact RWP.nil ⟨rfl, F10, hs204, (Mem.le.refl _), e83, rfl⟩
          ·have h205 := cond_f h201 hb202
           refine Sk [102, 103] 30 true 101 hb202 ?_
           refine V 104 4 (p0 101 (.tmp 103) (.const (.bool false)) (.bool false) hb202) ?_
           refine V 0 4 (ma 104 (.bool false)) ?_
           obtain rfl := some_inj h205
           have hs206 : HS w0 F0 w79 F10 [] := hs80.drop 0
           exact RWP.nil ⟨rfl, F10, hs206, (Mem.le.refl _), e83, rfl⟩
         ·have h207 := cond_f h197 hb200
          refine Sk [99] 27 true 98 hb200 ?_
          refine V 100 4 (p0 98 (.tmp 99) (.const (.bool false)) (.bool false) hb200) ?_
          refine V 101 4 (mv 100 (.bool false)) ?_
          refine Sk [102, 103] 30 true 101 rfl ?_
          refine V 104 4 (p0 101 (.tmp 103) (.const (.bool false)) (.bool false) rfl) ?_
          refine V 0 4 (ma 104 (.bool false)) ?_
          obtain rfl := some_inj h207
          have hs208 : HS w0 F0 w79 F10 [] := hs80.drop 0
          exact RWP.nil ⟨rfl, F10, hs208, (Mem.le.refl _), e83, rfl⟩
        ·have h209 := cond_f h181 hb192
         refine Sk [94, 95, 96] 22 true 93 hb192 ?_
         refine V 97 4 (p0 93 (.tmp 96) (.const (.bool false)) (.bool false) hb192) ?_
         refine V 98 4 (mv 97 (.bool false)) ?_
         refine Sk [99] 27 true 98 rfl ?_
         refine V 100 4 (p0 98 (.tmp 99) (.const (.bool false)) (.bool false) rfl) ?_
         refine V 101 4 (mv 100 (.bool false)) ?_
         refine Sk [102, 103] 30 true 101 rfl ?_
         refine V 104 4 (p0 101 (.tmp 103) (.const (.bool false)) (.bool false) rfl) ?_
         refine V 0 4 (ma 104 (.bool false)) ?_
         obtain rfl := some_inj h209
         have hs210 : HS w0 F0 w79 F10 [] := hs80.drop 0
         exact RWP.nil ⟨rfl, F10, hs210, (Mem.le.refl _), e83, rfl⟩
       ·have h211 := cond_f h175 hb176
        refine Sk [88, 89, 90, 91] 16 true 87 hb176 ?_
        refine V 92 4 (p0 87 (.tmp 91) (.const (.bool false)) (.bool false) hb176) ?_
        refine V 93 4 (mv 92 (.bool false)) ?_
        refine Sk [94, 95, 96] 22 true 93 rfl ?_
        refine V 97 4 (p0 93 (.tmp 96) (.const (.bool false)) (.bool false) rfl) ?_
        refine V 98 4 (mv 97 (.bool false)) ?_
        refine Sk [99] 27 true 98 rfl ?_
        refine V 100 4 (p0 98 (.tmp 99) (.const (.bool false)) (.bool false) rfl) ?_
        refine V 101 4 (mv 100 (.bool false)) ?_
        refine Sk [102, 103] 30 true 101 rfl ?_
        refine V 104 4 (p0 101 (.tmp 103) (.const (.bool false)) (.bool false) rfl) ?_
        refine V 0 4 (ma 104 (.bool false)) ?_
        obtain rfl := some_inj h211
        have hs212 : HS w0 F0 w79 F10 [] := hs80.drop 0
        exact RWP.nil ⟨rfl, F10, hs212, (Mem.le.refl _), e83, rfl⟩
      ·have h213 := cond_f h173 hb174
       refine Sk [83, 84, 85] 11 true 82 hb174 ?_
       refine V 86 4 (p0 82 (.tmp 85) (.const (.bool false)) (.bool false) hb174) ?_
       refine V 87 4 (mv 86 (.bool false)) ?_
       refine Sk [88, 89, 90, 91] 16 true 87 rfl ?_
       refine V 92 4 (p0 87 (.tmp 91) (.const (.bool false)) (.bool false) rfl) ?_
       refine V 93 4 (mv 92 (.bool false)) ?_
       refine Sk [94, 95, 96] 22 true 93 rfl ?_
       refine V 97 4 (p0 93 (.tmp 96) (.const (.bool false)) (.bool false) rfl) ?_
       refine V 98 4 (mv 97 (.bool false)) ?_
       refine Sk [99] 27 true 98 rfl ?_
       refine V 100 4 (p0 98 (.tmp 99) (.const (.bool false)) (.bool false) rfl) ?_
       refine V 101 4 (mv 100 (.bool false)) ?_
       refine Sk [102, 103] 30 true 101 rfl ?_
       refine V 104 4 (p0 101 (.tmp 103) (.const (.bool false)) (.bool false) rfl) ?_
       refine V 0 4 (ma 104 (.bool false)) ?_
       obtain rfl := some_inj h213
       have hs214 : HS w0 F0 w79 F10 [] := hs80.drop 0
       exact RWP.nil ⟨rfl, F10, hs214, (Mem.le.refl _), e83, rfl⟩
     ·have h215 := cond_f h171 hb172
      refine Sk [79, 80] 7 true 78 hb172 ?_
      refine V 81 4 (p0 78 (.tmp 80) (.const (.bool false)) (.bool false) hb172) ?_
      refine V 82 4 (mv 81 (.bool false)) ?_
      refine Sk [83, 84, 85] 11 true 82 rfl ?_
      refine V 86 4 (p0 82 (.tmp 85) (.const (.bool false)) (.bool false) rfl) ?_
      refine V 87 4 (mv 86 (.bool false)) ?_
      refine Sk [88, 89, 90, 91] 16 true 87 rfl ?_
      refine V 92 4 (p0 87 (.tmp 91) (.const (.bool false)) (.bool false) rfl) ?_
      refine V 93 4 (mv 92 (.bool false)) ?_
      refine Sk [94, 95, 96] 22 true 93 rfl ?_
      refine V 97 4 (p0 93 (.tmp 96) (.const (.bool false)) (.bool false) rfl) ?_
      refine V 98 4 (mv 97 (.bool false)) ?_
      refine Sk [99] 27 true 98 rfl ?_
      refine V 100 4 (p0 98 (.tmp 99) (.const (.bool false)) (.bool false) rfl) ?_
      refine V 101 4 (mv 100 (.bool false)) ?_
      refine Sk [102, 103] 30 true 101 rfl ?_
      refine V 104 4 (p0 101 (.tmp 103) (.const (.bool false)) (.bool false) rfl) ?_
      refine V 0 4 (ma 104 (.bool false)) ?_
      obtain rfl := some_inj h215
      have hs216 : HS w0 F0 w79 F10 [] := hs80.drop 0
      exact RWP.nil ⟨rfl, F10, hs216, (Mem.le.refl _), e83, rfl⟩
    ·have h217 := cond_f hj168 hb170
     refine Sk [74, 75, 76] 2 true 73 hb170 ?_
     refine V 77 4 (p0 73 (.tmp 76) (.const (.bool false)) (.bool false) hb170) ?_
     refine V 78 4 (mv 77 (.bool false)) ?_
     refine Sk [79, 80] 7 true 78 rfl ?_
     refine V 81 4 (p0 78 (.tmp 80) (.const (.bool false)) (.bool false) rfl) ?_
     refine V 82 4 (mv 81 (.bool false)) ?_
     refine Sk [83, 84, 85] 11 true 82 rfl ?_
     refine V 86 4 (p0 82 (.tmp 85) (.const (.bool false)) (.bool false) rfl) ?_
     refine V 87 4 (mv 86 (.bool false)) ?_
     refine Sk [88, 89, 90, 91] 16 true 87 rfl ?_
     refine V 92 4 (p0 87 (.tmp 91) (.const (.bool false)) (.bool false) rfl) ?_
     refine V 93 4 (mv 92 (.bool false)) ?_
     refine Sk [94, 95, 96] 22 true 93 rfl ?_
     refine V 97 4 (p0 93 (.tmp 96) (.const (.bool false)) (.bool false) rfl) ?_
     refine V 98 4 (mv 97 (.bool false)) ?_
     refine Sk [99] 27 true 98 rfl ?_
     refine V 100 4 (p0 98 (.tmp 99) (.const (.bool false)) (.bool false) rfl) ?_
     refine V 101 4 (mv 100 (.bool false)) ?_
     refine Sk [102, 103] 30 true 101 rfl ?_
     refine V 104 4 (p0 101 (.tmp 103) (.const (.bool false)) (.bool false) rfl) ?_
     refine V 0 4 (ma 104 (.bool false)) ?_
     obtain rfl := some_inj h217
     have hs218 : HS w0 F0 w79 F10 [] := hs80.drop 0
     exact RWP.nil ⟨rfl, F10, hs218, (Mem.le.refl _), e83, rfl⟩
   ·rintro f w162 ⟨F11, hs163, le164, e166, e167⟩
    refine thenQ_nrm ?_
    refine CWP.ret (by kernel_rfl) ?_
    have hfin := some_inj h169
    subst hfin
    exact ⟨e166, (.bool j165), res_of (l := [.tmp 0]) (by kernel_rfl) (vs := [(.bool j165)]) ⟨e167, trivial⟩, (.bool j165), F11, rfl, hs163.clear, rfl⟩
end Go.Proofs.Ythbcnabeabcmlaa
namespace Go.Proofs.Ythbcnabeabcmlaa
open Go.Proofs
def law03_few_L0 (N : Nat) (x0 : System) : (Int × Int) → Option (Flow Bool (Int × Int)) := fun s7 =>
 (bif (decide (s7.2 < (x0.Tracks.length : Int))) then ((idx x0.Tracks s7.2).bind fun x30 => ((idx x0.Tracks s7.2).bind fun x44 => (bif (decide ((x44.Clock.Jumps.length : Int) > 40)) then some (.ret false) else some (.next ((W64 (s7.1 + (x30.Times.length : Int))), (W64 (s7.2 + 1))))))) else some (.done (s7.1, s7.2)))
def law03_few (N : Nat) (x0 : System) : Option Bool :=
 ((iter (law03_few_L0 N x0) N (0, 0)).bind fun o => o.k (fun r => some r) (fun s15 => some ((decide (s15.1 ≤ 40)) && ((decide ((x0.Tracks.length : Int) ≤ 100)) && ((decide ((x0.Ties.length : Int) ≤ 30)) || ((decide ((x0.Ties.length : Int) > 400)) && (decide ((x0.Ties.length : Int) ≤ 500))))))))
theorem co_law03_few : CallOk Try.prog 16 := fun _ _ => by kernel_rfl
set_option maxHeartbeats 4000000 in
set_option maxRecDepth 100000 in
theorem c_law03_few (N : Nat) (w0 : World) (F0 : Mem) (hF : ∀ b o, F0 b = some o → w0.heap[b]? = some o) (x0 : System) (a0_0 : Option Addr) (n0_0 : Nat) (hb0_0 : LC x0.Tracks.length n0_0) (hs0_0 : SlA tTrack F0 a0_0 x0.Tracks) (a0_1 : Option Addr) (n0_1 : Nat) (hb0_1 : LC x0.Ties.length n0_1) (hs0_1 : SlA tTie F0 a0_1 x0.Ties) (r : Bool) (h : law03_few N x0 = some r) :
  Calls Try.prog 16 ([(.agg (kSystem x0 a0_0 n0_0 a0_1 n0_1))] : List Value).toArray w0 (FRet w0 F0 fun F' v => v = (.bool r)) := by
 have hs0 := HS.start hF
 refine calls_of (n := 56) (c := bodyOf Try.f16) Try.func16 (by kernel_rfl) (by kernel_rfl) (by kernel_rfl) ?_
 refine Sq (Rg [0, 1] ?_)
 refine Bx 1 0 0 25 (kSystem x0 a0_0 n0_0 a0_1 n0_1) hs0 (fun b1 w2 (hs3 : HS w0 F0 w2 F0 [(sb b1 (kSystem x0 a0_0 n0_0 a0_1 n0_1) 25)]) => ?_)
 refine V 2 4 (mc (.bool false) (.bool false)) ?_
 refine Nss (Rg [0] ?_)
 refine V 3 3 (mc (vi 0) (vi 0)) ?_
 refine Nss ?_
 refine Sq (Rg [0] ?_)
 refine V 4 3 (mc (vi 0) (vi 0)) ?_
 refine Nt ?_
 obtain ⟨o4, ho5, h6⟩ := bind_some h
 refine CWP.cut (fun f w => ∃ (s15 : (Int × Int)) (F2 : Mem), o4 = .done s15 ∧ HS w0 F0 w F2 [(sb b1 (kSystem x0 a0_0 n0_0 a0_1 n0_1) 25)] ∧ Mem.le F0 F2 ∧ f.d = [] ∧ f 1 = (.pointer (some ⟨b1, 0, none⟩)) ∧ f 3 = (vi s15.1)) ?_ ?_
 ·refine Bk ?_
  refine CWP.loop (by kernel_rfl) (fun m f w => ∃ (s7 : (Int × Int)) (F1 : Mem), iter (law03_few_L0 N x0) m s7 = some o4 ∧ HS w0 F0 w F1 [(sb b1 (kSystem x0 a0_0 n0_0 a0_1 n0_1) 25)] ∧ Mem.le F0 F1 ∧ f.d = [] ∧ f 1 = (.pointer (some ⟨b1, 0, none⟩)) ∧ f 3 = (vi s7.1) ∧ f 4 = (vi s7.2)) N ⟨(0, 0), F0, ho5, hs3, (Mem.le.refl _), rfl, rfl, rfl, rfl⟩ ?_
  rintro m22 f w8 ⟨s7, F1, hit23, hs9, le10, e11, e12, e13, e14⟩
  obtain ⟨m24, fl25, rfl, hb26, hnx27⟩ := iter_step hit23
  refine Sq ?_
  refine Sq (Rg [0, 1, 2, 3, 4] ?_)
  refine V 5 3 (mv 4 (vi s7.2) e14) ?_
  refine V 6 0 (fa 25 1 0 0 1 b1 0 0 e12) ?_
  refine V 7 22 (ld 22 6 b1 0 false 1 (.slice a0_0 x0.Tracks.length n0_0) (hs9.ownAt (k := 0) rfl)) ?_
  refine V 8 3 (ln 7 22 a0_0 x0.Tracks.length n0_0 54 4 64) ?_
  refine V 9 4 (run_lss (t := 3) (t' := 3) (x := (.tmp 5)) (y := (.tmp 8)) (k := .i64) (a := s7.2) (b := (x0.Tracks.length : Int)) rfl rfl) ?_
  refine Nt ?_
  refine CWP.cond (t := (decide (s7.2 < (x0.Tracks.length : Int)))) (by kernel_rfl) rfl (fun hb28 => ?_) (fun hb28 => ?_)
  ·have h29 := cond_t hb26 hb28
   refine Sc ?_
   refine thenQ_nrm ?_
   refine Sq ?_
   refine Bk ?_
   refine Sq (Rg [0, 1, 2, 3, 4, 5, 6, 7, 8, 9] ?_)
   refine V 12 3 (mv 3 (vi s7.1) e13) ?_
   refine V 13 0 (fa 25 1 0 0 1 b1 0 0 e12) ?_
   refine V 14 22 (ld 22 13 b1 0 false 1 (.slice a0_0 x0.Tracks.length n0_0) (hs9.ownAt (k := 0) rfl)) ?_
   refine V 15 3 (mv 4 (vi s7.2) e14) ?_
   obtain ⟨x30, hx31, h33⟩ := bind_some h29
   obtain ⟨hi32, hx31'⟩ := idx_spec hx31
   obtain ⟨b34, o35, C36, E37, fz38, rfl, hF40, hE41⟩ := SlA.open (SlA.mono hs0_0 le10) hx31'
   obtain ⟨ae42_2, ne42_2, ae42_3, ne42_3, hc43, hbe42_2, hse42_2, hbe42_3, hse42_3⟩ := hE41 _ _ hx31'
   refine V 16 0 (ix 22 14 15 b34 o35 54 4 64 hi32) ?_
   refine V 17 0 (fa 54 16 1 3 1 b34 (o35 + (s7.2 : Int).toNat * 4) ((o35 + (s7.2 : Int).toNat * 4) + 3)) ?_
   refine V 18 50 (lx 50 17 3 4 false 1 (.slice ae42_3 x30.Times.length ne42_3) (hs9.pers _ _ hF40) hc43) ?_
   refine V 19 3 (ln 18 50 ae42_3 x30.Times.length ne42_3 3 1 8) ?_
   refine V 20 3 (run_add (t := 3) (t' := 3) (x := (.tmp 12)) (y := (.tmp 19)) (k := .i64) (a := s7.1) (b := (x30.Times.length : Int)) rfl rfl) ?_
   refine V 3 3 (ma 20 (vi (W64 (s7.1 + (x30.Times.length : Int))))) ?_
   refine Nss (Rg [0, 1, 2, 3, 4, 5, 6, 7, 8] ?_)
   refine V 21 0 (fa 25 1 0 0 1 b1 0 0 e12) ?_
   refine V 22 22 (ld 22 21 b1 0 false 1 (.slice (some ⟨b34, o35, none⟩) x0.Tracks.length n0_0) (hs9.ownAt (k := 0) rfl)) ?_
   refine V 23 3 (mv 4 (vi s7.2) e14) ?_
   obtain ⟨x44, hx45, h47⟩ := bind_some h33
   obtain ⟨hi46, hx45'⟩ := idx_spec hx45
   obtain ⟨ae48_2, ne48_2, ae48_3, ne48_3, hc49, hbe48_2, hse48_2, hbe48_3, hse48_3⟩ := hE41 _ _ hx45'
   refine V 24 0 (ix 22 22 23 b34 o35 54 4 64 hi46) ?_
   refine V 25 0 (fa 54 24 0 0 3 b34 (o35 + (s7.2 : Int).toNat * 4) (o35 + (s7.2 : Int).toNat * 4)) ?_
   refine V 26 0 (fa 52 25 2 2 1 b34 (o35 + (s7.2 : Int).toNat * 4) ((o35 + (s7.2 : Int).toNat * 4) + 2)) ?_
   refine V 27 50 (lx 50 26 2 4 false 1 (.slice ae48_2 x44.Clock.Jumps.length ne48_2) (hs9.pers _ _ hF40) hc49) ?_
   refine V 28 3 (ln 27 50 ae48_2 x44.Clock.Jumps.length ne48_2 3 1 8) ?_
   refine V 29 4 (run_gtr (t := 3) (t' := 3) (x := (.tmp 28)) (y := (.const (vi 40))) (k := .i64) (a := (x44.Clock.Jumps.length : Int)) (b := 40) rfl rfl) ?_
   refine Nt ?_
   refine CWP.cond (t := (decide ((x44.Clock.Jumps.length : Int) > 40))) (by kernel_rfl) rfl (fun hb50 => ?_) (fun hb50 => ?_)
   ·have h51 := cond_t h47 hb50
    refine Sq (Rg [0] ?_)
    refine V 2 4 (mc (.bool false) (.bool false)) ?_
    refine Nt ?_
    refine CWP.ret (by kernel_rfl) ?_
    refine blockQ_ret ?_
    refine thenQ_ret ?_
    refine thenQ_ret ?_
    refine blockQ_ret ?_
    have hret := iter_ret h51 hnx27
    subst hret
    refine .inr ?_
    refine thenQ_ret ?_
    have hfin := some_inj h6
    subst hfin
    exact ⟨e11, (.bool false), res_of (l := [.tmp 2]) (by kernel_rfl) (vs := [(.bool false)]) ⟨rfl, trivial⟩, (.bool false), F1, rfl, hs9.clear, rfl⟩
   ·have h52 := cond_f h47 hb50
    refine Sc ?_
    refine blockQ_nrm ?_
    refine thenQ_nrm ?_
    refine Rg [0, 1, 2] ?_
    refine V 10 3 (mv 4 (vi s7.2) e14) ?_
    refine V 11 3 (run_add (t := 3) (t' := 3) (x := (.tmp 10)) (y := (.const (vi 1))) (k := .i64) (a := s7.2) (b := 1) rfl rfl) ?_
    refine V 4 3 (ma 11 (vi (W64 (s7.2 + 1)))) ?_
    refine RWP.nil ?_
    have hn53 := iter_next h52 hnx27
    exact ⟨m24, Nat.lt_succ_self _, ((W64 (s7.1 + (x30.Times.length : Int))), (W64 (s7.2 + 1))), F1, hn53, hs9, le10, e11, e12, rfl, rfl⟩
  ·have h54 := cond_f hb26 hb28
   refine CWP.exit (by kernel_rfl) ?_
   refine thenQ_ex ?_
   refine thenQ_ex ?_
   refine blockQ_hit rfl ?_
   have ho55 := iter_done h54 hnx27
   exact .inl ⟨rfl, (s7.1, s7.2), F1, ho55, hs9, le10, e11, e12, e13⟩
 ·rintro f w16 ⟨s15, F2, rfl, hs17, le18, e19, e20, e21⟩
  have h56 := k_done h6
  refine thenQ_nrm ?_
  refine Sq (Rg [0, 1, 2, 3, 4, 5, 6, 7, 8, 9, 10, 11, 12, 13, 14, 15, 16, 17, 18, 19, 20, 21, 22, 23, 24, 25, 26] ?_)
  refine RWP.cut (fun f w => ∃ (F3 : Mem), HS w0 F0 w F3 [] ∧ Mem.le F2 F3 ∧ f.d = [] ∧ f 2 = (.bool ((decide (s15.1 ≤ 40)) && ((decide ((x0.Tracks.length : Int) ≤ 100)) && ((decide ((x0.Ties.length : Int) ≤ 30)) || ((decide ((x0.Ties.length : Int) > 400)) && (decide ((x0.Ties.length : Int) ≤ 500)))))))) ?_ ?_
  ·refine V 30 3 (mv 3 (vi s15.1) e21) ?_
   refine V 31 4 (run_leq (t := 3) (t' := 3) (x := (.tmp 30)) (y := (.const (vi 40))) (k := .i64) (a := s15.1) (b := 40) rfl rfl) ?_
   refine V 32 4 (mv 31 (.bool (decide (s15.1 ≤ 40)))) ?_
   refine RWP.split (decide (s15.1 ≤ 40)) (fun hb62 => ?_) (fun hb62 => ?_)
   ·refine Vg 33 0 2 true 32 hb62 (fa 25 1 0 0 1 b1 0 0 e20) ?_
    refine Vg 34 22 2 true 32 hb62 (ld 22 33 b1 0 false 1 (.slice a0_0 x0.Tracks.length n0_0) (hs17.ownAt (k := 0) rfl)) ?_
    refine Vg 35 3 2 true 32 hb62 (ln 34 22 a0_0 x0.Tracks.length n0_0 54 4 64) ?_
    refine Vg 36 4 2 true 32 hb62 (run_leq (t := 3) (t' := 3) (x := (.tmp 35)) (y := (.const (vi 100))) (k := .i64) (a := (x0.Tracks.length : Int)) (b := 100) rfl rfl) ?_
    refine V 37 4 (p1 32 (.tmp 36) (.const (.bool false)) (.bool (decide ((x0.Tracks.length : Int) ≤ 100))) hb62) ?_
    refine V 38 4 (mv 37 (.bool (decide ((x0.Tracks.length : Int) ≤ 100)))) ?_
    refine RWP.split (decide ((x0.Tracks.length : Int) ≤ 100)) (fun hb63 => ?_) (fun hb63 => ?_)
    ·refine Vg 39 0 8 true 38 hb63 (fa 25 1 1 1 1 b1 0 1 e20) ?_
     refine Vg 40 23 8 true 38 hb63 (ld 23 39 b1 1 false 1 (.slice a0_1 x0.Ties.length n0_1) (hs17.ownAt (k := 0) rfl)) ?_
     refine Vg 41 3 8 true 38 hb63 (ln 40 23 a0_1 x0.Ties.length n0_1 46 4 32) ?_
     refine Vg 42 4 8 true 38 hb63 (run_leq (t := 3) (t' := 3) (x := (.tmp 41)) (y := (.const (vi 30))) (k := .i64) (a := (x0.Ties.length : Int)) (b := 30) rfl rfl) ?_
     refine Vg 43 4 8 true 38 hb63 (mv 42 (.bool (decide ((x0.Ties.length : Int) ≤ 30)))) ?_
     refine RWP.split (decide ((x0.Ties.length : Int) ≤ 30)) (fun hb64 => ?_) (fun hb64 => ?_)
     ·refine Sk [44, 45, 46, 47, 48] 13 false 43 hb64 ?_
      refine Su [49, 50, 51, 52] 18 true 48 ?_
      refine Sk [53] 13 false 43 hb64 ?_
      refine Vg 54 4 8 true 38 hb63 (p1 43 (.const (.bool true)) (.tmp 53) (.bool true) hb64) ?_
      refine V 55 4 (p1 38 (.tmp 54) (.const (.bool false)) (.bool true) hb63) ?_
      refine V 2 4 (ma 55 (.bool true)) ?_
      have hs65 : HS w0 F0 w16 F2 [] := hs17.drop 0
      exact RWP.nil ⟨rfl, F2, hs65, (Mem.le.refl _), e19, (congrArg Value.bool (and_t hb62 (and_t hb63 (or_t hb64 (rfl)))))⟩
     ·refine Vg 44 0 13 false 43 hb64 (fa 25 1 1 1 1 b1 0 1 e20) ?_
      refine Vg 45 23 13 false 43 hb64 (ld 23 44 b1 1 false 1 (.slice a0_1 x0.Ties.length n0_1) (hs17.ownAt (k := 0) rfl)) ?_
      refine Vg 46 3 13 false 43 hb64 (ln 45 23 a0_1 x0.Ties.length n0_1 46 4 32) ?_
      refine Vg 47 4 13 false 43 hb64 (run_gtr (t := 3) (t' := 3) (x := (.tmp 46)) (y := (.const (vi 400))) (k := .i64) (a := (x0.Ties.length : Int)) (b := 400) rfl rfl) ?_
      refine Vg 48 4 13 false 43 hb64 (mv 47 (.bool (decide ((x0.Ties.length : Int) > 400)))) ?_
      refine RWP.split (decide ((x0.Ties.length : Int) > 400)) (fun hb66 => ?_) (fun hb66 => ?_)
      ·refine Vg 49 0 18 true 48 hb66 (fa 25 1 1 1 1 b1 0 1 e20) ?_
       refine Vg 50 23 18 true 48 hb66 (ld 23 49 b1 1 false 1 (.slice a0_1 x0.Ties.length n0_1) (hs17.ownAt (k := 0) rfl)) ?_
       refine Vg 51 3 18 true 48 hb66 (ln 50 23 a0_1 x0.Ties.length n0_1 46 4 32) ?_
       refine Vg 52 4 18 true 48 hb66 (run_leq (t := 3) (t' := 3) (x := (.tmp 51)) (y := (.const (vi 500))) (k := .i64) (a := (x0.Ties.length : Int)) (b := 500) rfl rfl) ?_
       refine Vg 53 4 13 false 43 hb64 (p1 48 (.tmp 52) (.const (.bool false)) (.bool (decide ((x0.Ties.length : Int) ≤ 500))) hb66) ?_
       refine Vg 54 4 8 true 38 hb63 (p0 43 (.const (.bool true)) (.tmp 53) (.bool (decide ((x0.Ties.length : Int) ≤ 500))) hb64) ?_
       refine V 55 4 (p1 38 (.tmp 54) (.const (.bool false)) (.bool (decide ((x0.Ties.length : Int) ≤ 500))) hb63) ?_
       refine V 2 4 (ma 55 (.bool (decide ((x0.Ties.length : Int) ≤ 500)))) ?_
       have hs67 : HS w0 F0 w16 F2 [] := hs17.drop 0
       exact RWP.nil ⟨rfl, F2, hs67, (Mem.le.refl _), e19, (congrArg Value.bool (and_t hb62 (and_t hb63 (or_f hb64 (and_t hb66 (rfl))))))⟩
      ·refine Sk [49, 50, 51, 52] 18 true 48 hb66 ?_
       refine Vg 53 4 13 false 43 hb64 (p0 48 (.tmp 52) (.const (.bool false)) (.bool false) hb66) ?_
       refine Vg 54 4 8 true 38 hb63 (p0 43 (.const (.bool true)) (.tmp 53) (.bool false) hb64) ?_
       refine V 55 4 (p1 38 (.tmp 54) (.const (.bool false)) (.bool false) hb63) ?_
       refine V 2 4 (ma 55 (.bool false)) ?_
       have hs68 : HS w0 F0 w16 F2 [] := hs17.drop 0
       exact RWP.nil ⟨rfl, F2, hs68, (Mem.le.refl _), e19, (congrArg Value.bool (and_t hb62 (and_t hb63 (or_f hb64 (and_f hb66 (rfl))))))⟩
    ·refine Sk [39, 40, 41, 42, 43] 8 true 38 hb63 ?_
     refine Su [44, 45, 46, 47, 48] 13 false 43 ?_
     refine Su [49, 50, 51, 52] 18 true 48 ?_
     refine Su [53] 13 false 43 ?_
     refine Sk [54] 8 true 38 hb63 ?_
     refine V 55 4 (p0 38 (.tmp 54) (.const (.bool false)) (.bool false) hb63) ?_
     refine V 2 4 (ma 55 (.bool false)) ?_
     have hs69 : HS w0 F0 w16 F2 [] := hs17.drop 0
     exact RWP.nil ⟨rfl, F2, hs69, (Mem.le.refl _), e19, (congrArg Value.bool (and_t hb62 (and_f hb63 (rfl))))⟩
   ·refine Sk [33, 34, 35, 36] 2 true 32 hb62 ?_
    refine V 37 4 (p0 32 (.tmp 36) (.const (.bool false)) (.bool false) hb62) ?_
    refine V 38 4 (mv 37 (.bool false)) ?_
    refine Sk [39, 40, 41, 42, 43] 8 true 38 rfl ?_
    refine Su [44, 45, 46, 47, 48] 13 false 43 ?_
    refine Su [49, 50, 51, 52] 18 true 48 ?_
    refine Su [53] 13 false 43 ?_
    refine Sk [54] 8 true 38 rfl ?_
    refine V 55 4 (p0 38 (.tmp 54) (.const (.bool false)) (.bool false) rfl) ?_
    refine V 2 4 (ma 55 (.bool false)) ?_
    have hs70 : HS w0 F0 w16 F2 [] := hs17.drop 0
    exact RWP.nil ⟨rfl, F2, hs70, (Mem.le.refl _), e19, (congrArg Value.bool (and_f hb62 (rfl)))⟩
  ·rintro f w57 ⟨F3, hs58, le59, e60, e61⟩
   refine thenQ_nrm ?_
   refine CWP.ret (by kernel_rfl) ?_
   have hfin := some_inj h56
   subst hfin
   exact ⟨e60, (.bool ((decide (s15.1 ≤ 40)) && ((decide ((x0.Tracks.length : Int) ≤ 100)) && ((decide ((x0.Ties.length : Int) ≤ 30)) || ((decide ((x0.Ties.length : Int) > 400)) && (decide ((x0.Ties.length : Int) ≤ 500))))))), res_of (l := [.tmp 2]) (by kernel_rfl) (vs := [(.bool ((decide (s15.1 ≤ 40)) && ((decide ((x0.Tracks.length : Int) ≤ 100)) && ((decide ((x0.Ties.length : Int) ≤ 30)) || ((decide ((x0.Ties.length : Int) > 400)) && (decide ((x0.Ties.length : Int) ≤ 500)))))))]) ⟨e61, trivial⟩, (.bool ((decide (s15.1 ≤ 40)) && ((decide ((x0.Tracks.length : Int) ≤ 100)) && ((decide ((x0.Ties.length : Int) ≤ 30)) || ((decide ((x0.Ties.length : Int) > 400)) && (decide ((x0.Ties.length : Int) ≤ 500))))))), F3, rfl, hs58.clear, rfl⟩
end Go.Proofs.Ythbcnabeabcmlaa
namespace Go.Proofs.Ythbcnabeabcmlaa
set_option maxRecDepth 1000000 in
theorem awake_ok (m : Nat) : law03_awake (m + 100) = some true := by kernel_rfl
theorem awake_at {N : Nat} (h : 100 ≤ N) : law03_awake N = some true := by
 obtain ⟨m, rfl⟩ : ∃ m, N = m + 100 := ⟨N - 100, by omega⟩
 exact awake_ok m
theorem few_some {N : Nat} {s : System} (h : FitS N s) : ∃ b, law03_few N s = some b := by
 unfold law03_few
 have hn := h.n.1
 obtain ⟨o, ho, hR⟩ := iter_ex (body := law03_few_L0 N s) s.Tracks.length (fun i q => q.2 = (i : Int)) (fun o => ∀ q, o ≠ .next q) (by
  rintro i ⟨a, b⟩ hi hb
  simp only at hb
  subst hb
  unfold law03_few_L0
  simp only
  by_cases hlt : i < s.Tracks.length
  ·simp only [lt_t hlt, cond_true, idx_nat hlt, Option.bind_some]
   cases decide ((s.Tracks[i].Clock.Jumps.length : Int) > 40) with
   | true => exact .inr ⟨_, rfl, (fun _ h => by cases h), fun _ h => by cases h⟩
   | false => exact .inl ⟨_, rfl, by simp only; rw [W64_succ (by omega)], hlt⟩
  ·have : i = s.Tracks.length := by omega
   subst this
   simp only [lt_f, cond_false]
   exact .inr ⟨_, rfl, (fun _ h => by cases h), fun _ h => by cases h⟩) s.Tracks.length N 0 (0, 0) (by omega) rfl h.n.2
 rw [ho]
 cases o with
 | next q => exact absurd rfl (hR q)
 | done q => exact ⟨_, rfl⟩
 | ret r => exact ⟨_, rfl⟩
end Go.Proofs.Ythbcnabeabcmlaa
namespace Go.Proofs.Ythbcnabeabcmlaa
abbrev NN : Nat := 9223372036854775808
theorem fitL {α : Type} {l : List α} {Q : Prop} (h : l.length < 9223372036854775808 ∧ Q) : Fit NN l.length := ⟨h.1, h.1⟩
theorem fitT {t : Track} (q : qTrack t) : FitT NN t := ⟨fitL q.1.2.2, fitL q.2⟩
theorem fitS {s : System} (q : qSystem s) : FitS NN s := ⟨fitL q.1, fun t ht => fitT (q.1.2 t ht), fitL q.2.1⟩
end Go.Proofs.Ythbcnabeabcmlaa
namespace Go.Proofs.Ythbcnabeabcmlaa
open Go.Proofs
def law03_inside (N : Nat) (x0 : Int) (x1 : Span) : Option Bool :=
 some ((decide (x1.Lo ≤ x0)) && (decide (x0 ≤ x1.Hi)))
theorem co_law03_inside : CallOk Try.prog 56 := fun _ _ => by kernel_rfl
set_option maxHeartbeats 4000000 in
set_option maxRecDepth 100000 in
theorem c_law03_inside (N : Nat) (w0 : World) (F0 : Mem) (hF : ∀ b o, F0 b = some o → w0.heap[b]? = some o) (x0 : Int) (x1 : Span) (r : Bool) (h : law03_inside N x0 x1 = some r) :
  Calls Try.prog 56 ([(vi x0), (.agg (kSpan x1))] : List Value).toArray w0 (FRet w0 F0 fun F' v => v = (.bool r)) := by
 have hs0 := HS.start hF
 refine calls_of (n := 15) (c := bodyOf Try.f56) Try.func56 (by kernel_rfl) (by kernel_rfl) (by kernel_rfl) ?_
 refine Sq (Rg [0, 1] ?_)
 refine Bx 3 0 1 38 (kSpan x1) hs0 (fun b1 w2 (hs3 : HS w0 F0 w2 F0 [(sb b1 (kSpan x1) 38)]) => ?_)
 refine V 4 4 (mc (.bool false) (.bool false)) ?_
 refine Nss (Rg [0, 1, 2, 3, 4, 5, 6, 7, 8, 9, 10] ?_)
 refine RWP.cut (fun f w => ∃ (F1 : Mem), HS w0 F0 w F1 [] ∧ Mem.le F0 F1 ∧ f.d = [] ∧ f 4 = (.bool ((decide (x1.Lo ≤ x0)) && (decide (x0 ≤ x1.Hi))))) ?_ ?_
 ·refine V 5 0 (fa 38 3 0 0 1 b1 0 0) ?_
  refine V 6 3 (ld 3 5 b1 0 false 1 (vi x1.Lo) (hs3.ownAt (k := 0) rfl)) ?_
  refine V 7 3 (mv 0 (vi x0)) ?_
  refine V 8 4 (run_leq (t := 3) (t' := 3) (x := (.tmp 6)) (y := (.tmp 7)) (k := .i64) (a := x1.Lo) (b := x0) rfl rfl) ?_
  refine V 9 4 (mv 8 (.bool (decide (x1.Lo ≤ x0)))) ?_
  refine RWP.split (decide (x1.Lo ≤ x0)) (fun hb9 => ?_) (fun hb9 => ?_)
  ·refine Vg 10 3 4 true 9 hb9 (mv 0 (vi x0)) ?_
   refine Vg 11 0 4 true 9 hb9 (fa 38 3 1 1 1 b1 0 1) ?_
   refine Vg 12 3 4 true 9 hb9 (ld 3 11 b1 1 false 1 (vi x1.Hi) (hs3.ownAt (k := 0) rfl)) ?_
   refine Vg 13 4 4 true 9 hb9 (run_leq (t := 3) (t' := 3) (x := (.tmp 10)) (y := (.tmp 12)) (k := .i64) (a := x0) (b := x1.Hi) rfl rfl) ?_
   refine V 14 4 (p1 9 (.tmp 13) (.const (.bool false)) (.bool (decide (x0 ≤ x1.Hi))) hb9) ?_
   refine V 4 4 (ma 14 (.bool (decide (x0 ≤ x1.Hi)))) ?_
   have hs10 : HS w0 F0 w2 F0 [] := hs3.drop 0
   exact RWP.nil ⟨rfl, F0, hs10, (Mem.le.refl _), rfl, (congrArg Value.bool (and_t hb9 (rfl)))⟩
  ·refine Sk [10, 11, 12, 13] 4 true 9 hb9 ?_
   refine V 14 4 (p0 9 (.tmp 13) (.const (.bool false)) (.bool false) hb9) ?_
   refine V 4 4 (ma 14 (.bool false)) ?_
   have hs11 : HS w0 F0 w2 F0 [] := hs3.drop 0
   exact RWP.nil ⟨rfl, F0, hs11, (Mem.le.refl _), rfl, (congrArg Value.bool (and_f hb9 (rfl)))⟩
 ·rintro f w4 ⟨F1, hs5, le6, e7, e8⟩
  refine thenQ_nrm ?_
  refine CWP.ret (by kernel_rfl) ?_
  have hfin := some_inj h
  subst hfin
  exact ⟨e7, (.bool ((decide (x1.Lo ≤ x0)) && (decide (x0 ≤ x1.Hi)))), res_of (l := [.tmp 4]) (by kernel_rfl) (vs := [(.bool ((decide (x1.Lo ≤ x0)) && (decide (x0 ≤ x1.Hi))))]) ⟨e8, trivial⟩, (.bool ((decide (x1.Lo ≤ x0)) && (decide (x0 ≤ x1.Hi)))), F1, rfl, hs5.clear, rfl⟩
end Go.Proofs.Ythbcnabeabcmlaa
