/- Lemmas of the claim RulesBackUpto, printed by a program of the claimant and by hand. No statement of the seat is proved here. -/
import Derived.Test.YtaihlcdkcampbaaGreatDoorE11x4
set_option linter.unusedVariables false
set_option linter.unusedSimpArgs false
set_option linter.unusedSectionVars false
set_option maxHeartbeats 4000000
set_option maxRecDepth 100000
namespace Go.Proofs.YtaihlcdkcampbaaGreatDoor
def rk (op : Int) : Int := if op = 5 then 1 else if op = 4 then 2 else if op = 3 then 3 else if op = 6 \/ op = 7 then 4 else if op = 8 \/ op = 9 then 5 else if op = 10 then 6 else 7
def sgT (op : Int) : W4 := if op = 5 then [111, 114] else if op = 4 then [97, 110, 100] else if op = 6 then [61] else if op = 7 then [60] else if op = 8 then [43] else if op = 9 then [45] else [42]
def lf (op : Int) : Int := if op = 6 \/ op = 7 then 5 else rk op
def rt (op : Int) : Int := if op = 6 \/ op = 7 then 5 else rk op + 1
def par (asked op : Int) (t : W4) : W4 := if rk op < asked then [40] ++ t ++ [41] else t
def VU (op v : Int) (l : List (Int × W4)) : W4 :=
 let k := fun (i : Nat) => l[i]?.getD (0, [])
 if op = 1 then Go.Lib.itoa v else if op = 2 then NM[v.toNat]?.getD []
 else if op = 3 then [110, 111, 116, 32] ++ par 3 (k 0).1 (k 0).2
 else if op = 11 then [105, 102, 40] ++ (k 0).2 ++ [44, 32] ++ (k 1).2 ++ [44, 32] ++ (k 2).2 ++ [41]
 else par (lf op) (k 0).1 (k 0).2 ++ [32] ++ sgT op ++ [32] ++ par (rt op) (k 1).1 (k 1).2
def pr (e : Expr) : W4 := match e with
 | ⟨op, v, ks⟩ => VU op v (ks.map fun x => (x.Op, pr x))
theorem Ps (e : Expr) : pr e = VU e.Op e.Value (e.Kids.map fun x => (x.Op, pr x)) := by cases e; rw [pr]
theorem FP (a op : Int) (t : W4) : (par a op t).length <= t.length + 2 := by unfold par; split <;> simp <;> omega
theorem Og {e : Expr} (h : e.Op = 1) : pr e = Go.Lib.itoa e.Value := by rw [Ps, h]; rfl
theorem Oi {e : Expr} (h : e.Op = 2) : pr e = NM[e.Value.toNat]?.getD [] := by rw [Ps, h]; rfl
theorem Oh (x : Expr) : pr ⟨3, 0, [x]⟩ = [110, 111, 116, 32] ++ par 3 x.Op (pr x) := by rw [Ps]; rfl
theorem Rb (c x y : Expr) : pr ⟨11, 0, [c, x, y]⟩ = [105, 102, 40] ++ pr c ++ [44, 32] ++ pr x ++ [44, 32] ++ pr y ++ [41] := by rw [Ps]; rfl
theorem Of {op : Int} (h : op = 4 \/ op = 5 \/ op = 6 \/ op = 7 \/ op = 8 \/ op = 9 \/ op = 10) (x y : Expr) : pr ⟨op, 0, [x, y]⟩ = par (lf op) x.Op (pr x) ++ [32] ++ sgT op ++ [32] ++ par (rt op) y.Op (pr y) := by
 rw [Ps]; rcases h with rfl | rfl | rfl | rfl | rfl | rfl | rfl <;> rfl
theorem Vk (i : Nat) : (NM[i]?.getD []).length <= 30 := by
 by_cases h : i < 14
 ·have : ∀ i : Fin 14, (NM[i.val]?.getD []).length <= 30 := by decide
  exact this ⟨i, h⟩
 ·rw [List.getElem?_eq_none (by show 14 <= i; omega)]; simp
theorem P5 (op : Int) : (sgT op).length <= 3 := by
 unfold sgT
 by_cases h1 : op = 5
 ·rw [if_pos h1]; decide
 rw [if_neg h1]
 by_cases h2 : op = 4
 ·rw [if_pos h2]; decide
 rw [if_neg h2]
 by_cases h3 : op = 6
 ·rw [if_pos h3]; decide
 rw [if_neg h3]
 by_cases h4 : op = 7
 ·rw [if_pos h4]; decide
 rw [if_neg h4]
 by_cases h5 : op = 8
 ·rw [if_pos h5]; decide
 rw [if_neg h5]
 by_cases h6 : op = 9
 ·rw [if_pos h6]; decide
 rw [if_neg h6]; decide
theorem Ee {e : Expr} (h : kd e ≠ 0) : (e.Op = 1 /\ 0 <= e.Value /\ e.Value <= 1000000 /\ e.Kids = []) \/ (e.Op = 2 /\ 0 <= e.Value /\ e.Value <= 13 /\ e.Kids = []) \/ (∃ x, e = ⟨3, 0, [x]⟩ /\ kd x = 2) \/
  (∃ op x y, (op = 4 \/ op = 5 \/ op = 6 \/ op = 7 \/ op = 8 \/ op = 9 \/ op = 10) /\ e = ⟨op, 0, [x, y]⟩ /\ kd x ≠ 0 /\ kd y ≠ 0) \/ (∃ c x y, e = ⟨11, 0, [c, x, y]⟩ /\ kd c = 2 /\ kd x = 1 /\ kd y = 1) := by
 have hm := VX h
 generalize kd e = t at hm
 cases hm with
 | num h h1 h2 hk => exact .inl ⟨h, h1, h2, hk⟩
 | field h h1 h2 hk => exact .inr (.inl ⟨h, h1, h2, hk⟩)
 | deny h hv x hk h1 => exact .inr (.inr (.inl ⟨x, Fk h hv hk, h1⟩))
 | logic h hv x y hk h1 h2 =>
  obtain ⟨op, he⟩ : ∃ op, e.Op = op := ⟨_, rfl⟩
  exact .inr (.inr (.inr (.inl ⟨op, x, y, by rw [he] at h; rcases h with rfl | rfl <;> simp, Fk he hv hk, by rw [h1]; decide, by rw [h2]; decide⟩)))
 | test h hv x y hk h1 h2 =>
  obtain ⟨op, he⟩ : ∃ op, e.Op = op := ⟨_, rfl⟩
  exact .inr (.inr (.inr (.inl ⟨op, x, y, by rw [he] at h; rcases h with rfl | rfl <;> simp, Fk he hv hk, by rw [h1]; decide, by rw [h2]; decide⟩)))
 | sum h hv x y hk h1 h2 =>
  obtain ⟨op, he⟩ : ∃ op, e.Op = op := ⟨_, rfl⟩
  exact .inr (.inr (.inr (.inl ⟨op, x, y, by rw [he] at h; rcases h with rfl | rfl | rfl <;> simp, Fk he hv hk, by rw [h1]; decide, by rw [h2]; decide⟩)))
 | cond h hv c x y hk h0 h1 h2 => exact .inr (.inr (.inr (.inr ⟨c, x, y, Fk h hv hk, h0, h1, h2⟩)))
theorem N4 (op v : Int) (x : Expr) : sz ⟨op, v, [x]⟩ = 1 + sz x := by rw [L8]; simp
theorem Kp (op v : Int) (x y : Expr) : sz ⟨op, v, [x, y]⟩ = 1 + (sz x + sz y) := by rw [L8]; simp
theorem JK (op v : Int) (c x y : Expr) : sz ⟨op, v, [c, x, y]⟩ = 1 + (sz c + (sz x + sz y)) := by rw [L8]; simp
theorem D6 : ∀ (n : Nat) (e : Expr), sz e <= n -> kd e ≠ 0 -> (pr e).length <= 30 * sz e
 | 0, e, h, _ => by have := FV e; omega
 | n + 1, e, h, hk => by
  have hp := FV e
  rcases Ee hk with ⟨h1, h2, h3, _⟩ | ⟨h1, h2, h3, _⟩ | ⟨x, rfl, hx⟩ | ⟨op, x, y, hop, rfl, hx, hy⟩ | ⟨c, x, y, rfl, hc, hx, hy⟩
  ·rw [Og h1]
   have := Go.Lib.itoa_length_le e.Value (by omega) (by omega); omega
  ·rw [Oi h1]; have := Vk e.Value.toNat; omega
  ·rw [N4] at h ⊢
   have := D6 n x (by omega) (by rw [hx]; decide)
   have := FP 3 x.Op (pr x)
   rw [Oh]; simp only [List.length_append, List.length_cons, List.length_nil]; omega
  ·rw [Kp] at h ⊢
   have := D6 n x (by omega) hx
   have := D6 n y (by omega) hy
   have := FP (lf op) x.Op (pr x)
   have := FP (rt op) y.Op (pr y)
   have := P5 op
   rw [Of hop]; simp only [List.length_append, List.length_cons, List.length_nil]; omega
  ·rw [JK] at h ⊢
   have := D6 n c (by omega) (by rw [hc]; decide)
   have := D6 n x (by omega) (by rw [hx]; decide)
   have := D6 n y (by omega) (by rw [hy]; decide)
   rw [Rb]; simp only [List.length_append, List.length_cons, List.length_nil]; omega
theorem Cv {a b : W4} (h : a.length + b.length <= 9223372036854775807) : Fg a b = some (a ++ b) := by unfold Fg; rw [if_pos h]
theorem UA {N : Nat} {v : Int} (h0 : 0 <= v) (h1 : v <= 1000000) : strconv_Itoa N v = some (Go.Lib.itoa v) := by unfold strconv_Itoa; rw [if_pos ⟨by omega, by omega⟩]
theorem Mz {a op : Int} {t : W4} (h : t.length <= 9223372036854775800) : (bif (decide (rk op < a)) then ((Fg ([40] : W4) t).bind fun r312 => ((Fg r312 ([41] : W4)).bind fun r315 => some r315)) else some t) = some (par a op t) := by
 unfold par
 by_cases hc : rk op < a
 ·rw [decide_eq_true hc, cond_true, if_pos hc, Cv (by simp; omega), Option.bind_some, Cv (by simp; omega)]; rfl
 ·rw [decide_eq_false hc, cond_false, if_neg hc]
theorem E3 {N : Nat} : ∀ {n k : Nat} {e : Expr}, Ht N n e -> n <= k -> kd e ≠ 0 -> sz e <= 100000000 -> ∀ a, (NC N k).q97 e a = some (par a e.Op (pr e))
 | 0, _, _, h, _, _, _, _ => h.elim
 | n + 1, 0, _, _, h, _, _, _ => absurd h (by omega)
 | n + 1, k + 1, e, ⟨h1, h2, h3⟩, hk, h0, hs, a => by
  have hl := D6 _ e (Nat.le_refl _) h0
  show Ej N (NC N k).q97 e a = _
  unfold Ej
  rcases Ee h0 with ⟨h1, h2, h4, h5⟩ | ⟨h1, h2, h4, h5⟩ | ⟨x, rfl, hx⟩ | ⟨op, x, y, hop, rfl, hx, hy⟩ | ⟨c, x, y, rfl, hc, hx, hy⟩
  ·rw [h1, show Du N 1 = some (⟨[], 0, 0, 0⟩, false) from rfl]
   simp only [Option.bind_some, cond_false, show ((1 : Int) == 1) = true from rfl, cond_true]
   rw [UA h2 h4]
   simp only [Option.bind_some]
   rw [<- Og h1, show (7 : Int) = rk 1 from rfl]
   exact Mz (by omega)
  ·rw [h1, show Du N 2 = some (⟨[], 0, 0, 0⟩, false) from rfl]
   simp only [Option.bind_some, cond_false, show ((2 : Int) == 1) = false from rfl, show ((2 : Int) == 2) = true from rfl, cond_true]
   rw [Oo, Option.bind_some]
   obtain ⟨j, hj⟩ : ∃ j : Nat, e.Value = (j : Int) := ⟨e.Value.toNat, by omega⟩
   have hjl : j < NM.length := by show j < 14; omega
   have hp : pr e = NM[j] := by rw [Oi h1, hj, Int.toNat_natCast, List.getElem?_eq_getElem hjl]; rfl
   rw [hj, Dd hjl]
   simp only [Option.bind_some]
   rw [<- hp, show (7 : Int) = rk 2 from rfl]
   exact Mz (by omega)
  ·have hxm : x ∈ (⟨3, 0, [x]⟩ : Expr).Kids := by simp
   have sx := D7 hxm
   have lx := D6 _ x (Nat.le_refl _) (by rw [hx]; decide)
   have px := FP 3 x.Op (pr x)
   rw [show Du N (⟨3, 0, [x]⟩ : Expr).Op = some (⟨[], 0, 0, 0⟩, false) from rfl]
   simp only [Option.bind_some, cond_false, show ((3 : Int) == 1) = false from rfl, show ((3 : Int) == 2) = false from rfl, show ((3 : Int) == 3) = true from rfl, cond_true]
   rw [show idx [x] 0 = some x from rfl, Option.bind_some, E3 (h3 x hxm) (by omega) (by rw [hx]; decide) (by omega) 3, Option.bind_some, Cv (by simp; omega)]
   simp only [Option.bind_some]
   rw [<- Oh]
   have := Mz (a := a) (op := 3) (t := pr ⟨3, 0, [x]⟩) (by omega)
   exact this
  ·have hxm : x ∈ (⟨op, 0, [x, y]⟩ : Expr).Kids := by simp
   have hym : y ∈ (⟨op, 0, [x, y]⟩ : Expr).Kids := by simp
   have sx := D7 hxm
   have sy := D7 hym
   have lx := D6 _ x (Nat.le_refl _) hx
   have ly := D6 _ y (Nat.le_refl _) hy
   have px := FP (lf op) x.Op (pr x)
   have py := FP (rt op) y.Op (pr y)
   have sg := P5 op
   rw [show Du N (⟨op, 0, [x, y]⟩ : Expr).Op = some (⟨sgT op, rk op, lf op, rt op⟩, true) by rcases hop with rfl | rfl | rfl | rfl | rfl | rfl | rfl <;> rfl]
   simp only [Option.bind_some, cond_true]
   rw [show idx [x, y] 0 = some x from rfl, Option.bind_some, show idx [x, y] 1 = some y from rfl, Option.bind_some, E3 (h3 x hxm) (by omega) hx (by omega) _, Option.bind_some, Cv (by simp; omega), Option.bind_some, Cv (by simp; omega), Option.bind_some, Cv (by simp; omega), Option.bind_some, E3 (h3 y hym) (by omega) hy (by omega) _, Option.bind_some, Cv (by simp; omega)]
   simp only [Option.bind_some]
   rw [<- Of hop]
   exact Mz (by omega)
  ·have hcm : c ∈ (⟨11, 0, [c, x, y]⟩ : Expr).Kids := by simp
   have hxm : x ∈ (⟨11, 0, [c, x, y]⟩ : Expr).Kids := by simp
   have hym : y ∈ (⟨11, 0, [c, x, y]⟩ : Expr).Kids := by simp
   have sc := D7 hcm
   have sx := D7 hxm
   have sy := D7 hym
   have p1 : ∀ z : Expr, par 1 z.Op (pr z) = pr z := fun z => by unfold par; rw [if_neg]; unfold rk; repeat' split; all_goals omega
   have lc := D6 _ c (Nat.le_refl _) (by rw [hc]; decide)
   have lx := D6 _ x (Nat.le_refl _) (by rw [hx]; decide)
   have ly := D6 _ y (Nat.le_refl _) (by rw [hy]; decide)
   rw [show Du N (⟨11, 0, [c, x, y]⟩ : Expr).Op = some (⟨[], 0, 0, 0⟩, false) from rfl]
   simp only [Option.bind_some, cond_false, show ((11 : Int) == 1) = false from rfl, show ((11 : Int) == 2) = false from rfl, show ((11 : Int) == 3) = false from rfl, show ((11 : Int) == 11) = true from rfl, cond_true]
   rw [show idx [c, x, y] 0 = some c from rfl, Option.bind_some, show idx [c, x, y] 1 = some x from rfl, Option.bind_some, show idx [c, x, y] 2 = some y from rfl, Option.bind_some,
    E3 (h3 c hcm) (by omega) (by rw [hc]; decide) (by omega) 1, p1, Option.bind_some, Cv (by simp; omega), Option.bind_some, Cv (by simp; omega), Option.bind_some,
    E3 (h3 x hxm) (by omega) (by rw [hx]; decide) (by omega) 1, p1, Option.bind_some, Cv (by simp; omega), Option.bind_some, Cv (by simp; omega), Option.bind_some,
    E3 (h3 y hym) (by omega) (by rw [hy]; decide) (by omega) 1, p1, Option.bind_some, Cv (by simp; omega), Option.bind_some, Cv (by simp; omega)]
   simp only [Option.bind_some]
   rw [<- Rb]
   have := Mz (a := a) (op := 11) (t := pr ⟨11, 0, [c, x, y]⟩) (by omega)
   exact this
def A1 (N : Nat) (x0 : Aa) (x1 : Expr) (x2 : Int) (x3 : Int) : Option Aa :=
 (bif (x0.Bad != 0) then some x0 else ((K0 N x1).bind fun r27 => (bif (decide (r27 > 32)) then ((A5 N x0 2 x2).bind fun r38 => some r38) else ((Mr N x1).bind fun r45 => ((bif ((r45 == 0) || ((x3 != 0) && (r45 != x3))) then ((A5 N x0 61 x2).bind fun r72 => some (r72.L, r72.At, r72.Open, r72.Bad, r72.Where)) else some (x0.L, x0.At, x0.Open, x0.Bad, x0.Where)).bind fun j65 => some ({ L := j65.1, At := j65.2.1, Open := j65.2.2.1, Bad := j65.2.2.2.1, Where := j65.2.2.2.2 } : Aa))))))


section
variable {N n : Nat} {Lr : List Ah} {Lf : List Ae} (T : Gw n Lr Lf)
include T
theorem NQ (hN : 10 * n + 1000 <= N) {i : Nat} {o : Int} (hi : i < n) (h0 : 0 <= o) (h32 : o <= 32) : ∃ p r, Cw N (PS Lr i o) = some p /\ BI N (RS Lf i o) = some r /\ Out n Lr Lf i o p r :=
 (RC T (N := N) (by omega) N).1 i o hi h0 h32 (by omega)
theorem IR {i : Nat} {a : Ah} {b : Ae} (hi : i < n) (ha : Lr[i]? = some a) (hb : Lf[i]? = some b) : (a.kind_ != 0) = (b.Kind != 5) := by
 obtain ⟨a', b', h1, h2, _, _, h5, _⟩ := T.hd hi
 rw [h1] at ha; rw [h2] at hb
 cases ha; cases hb
 rcases h5 with ⟨h, _⟩ | ⟨h, _⟩
 ·rcases h.k with ⟨k1, k2, _⟩ | ⟨k1, k2, _⟩ | ⟨k1, k2, _⟩ | ⟨k1, k2, _⟩ | ⟨k1, k2⟩ <;> rw [k1, k2] <;> rfl
 ·rw [h.a0, h.b5]; rfl
omit T in
theorem UU {d : Nat} {x : Expr} (hx : Ht 10 d x) (hN : 2 * d + 1000 <= N) : Fit N x := ⟨d, hx.wide (by omega), by omega⟩
theorem Hx {i : Nat} {o : Int} {x : Expr} {q : Ab} (hf : Fit N x) (at_ t : Int) :
  (dp x > 32 /\ AE N q ⟨x, at_⟩ t = some (.inl ⟨2, at_⟩) /\ A1 N (RS Lf i o) x at_ t = some (RB Lf i o 2 at_)) \/
  (dp x <= 32 /\ (kd x = 0 \/ (t ≠ 0 /\ kd x ≠ t)) /\ AE N q ⟨x, at_⟩ t = some (.inl ⟨61, at_⟩) /\ A1 N (RS Lf i o) x at_ t = some (RB Lf i o 61 at_)) \/
  (dp x <= 32 /\ kd x ≠ 0 /\ (t ≠ 0 -> kd x = t) /\ AE N q ⟨x, at_⟩ t = some (.inr ()) /\ A1 N (RS Lf i o) x at_ t = some (RS Lf i o)) := by
 unfold AE A1
 simp only
 rw [Mg hf, Q6 hf, SV hf, Va hf, show ((RS Lf i o).Bad != 0) = false from rfl]
 simp only [cond_false, Option.bind_some]
 by_cases hd : dp x > 32
 ·left
  rw [decide_eq_true hd]
  exact ⟨hd, rfl, rfl⟩
 ·right
  rw [decide_eq_false hd]
  simp only [cond_false]
  by_cases hk : kd x = 0 \/ (t ≠ 0 /\ kd x ≠ t)
  ·left
   have e : ((kd x == 0) || ((t != 0) && (kd x != t))) = true := by
    rcases hk with h | ⟨h1, h2⟩
    ·simp [h]
    ·simp [h1, h2]
   rw [e]
   exact ⟨by omega, hk, rfl, rfl⟩
  ·right
   have hk1 : kd x ≠ 0 := fun h => hk (.inl h)
   have hk2 : t ≠ 0 -> kd x = t := fun h => Classical.byContradiction fun h' => hk (.inr ⟨h, h'⟩)
   have e : ((kd x == 0) || ((t != 0) && (kd x != t))) = false := by
    by_cases ht : t = 0
    ·simp [hk1, ht]
    ·simp [hk1, hk2 ht]; intro h; exact absurd h ht
   rw [e]
   exact ⟨by omega, hk1, hk2, rfl, rfl⟩
theorem EV {i : Nat} {o e w : Int} (he : e ≠ 0) (x : Expr) (at_ t : Int) : A1 N (RB Lf i o e w) x at_ t = some (RB Lf i o e w) := by
 unfold A1
 rw [show ((RB Lf i o e w).Bad != 0) = true by show (e != 0) = true; simpa using he]; rfl
theorem Ko {i : Nat} {o e w : Int} (he : e ≠ 0) (a b : Int) : A5 N (RB Lf i o e w) a b = some (RB Lf i o e w) := by
 unfold A5
 rw [show ((RB Lf i o e w).Bad == 0) = false by show (e == 0) = false; simpa using he]; rfl
end
abbrev Tks := List (Int × W4)
def sgK (op : Int) : Tks := if op = 5 \/ op = 4 then [(2, sgT op)] else [(3, sgT op)]
def BS (asked op : Int) (t : Tks) : Tks := if rk op < asked then [(3, [40])] ++ t ++ [(3, [41])] else t
def VN (op v : Int) (l : List (Int × Tks)) : Tks :=
 let k := fun (i : Nat) => l[i]?.getD (0, [])
 if op = 1 then [(1, Go.Lib.itoa v)] else if op = 2 then [(2, NM[v.toNat]?.getD [])]
 else if op = 3 then [(2, [110, 111, 116])] ++ BS 3 (k 0).1 (k 0).2
 else if op = 11 then [(2, [105, 102]), (3, [40])] ++ (k 0).2 ++ [(3, [44])] ++ (k 1).2 ++ [(3, [44])] ++ (k 2).2 ++ [(3, [41])]
 else BS (lf op) (k 0).1 (k 0).2 ++ sgK op ++ BS (rt op) (k 1).1 (k 1).2
def tk (e : Expr) : Tks := match e with
 | ⟨op, v, ks⟩ => VN op v (ks.map fun x => (x.Op, tk x))
theorem O7 (e : Expr) : tk e = VN e.Op e.Value (e.Kids.map fun x => (x.Op, tk x)) := by cases e; rw [tk]
theorem PZ {e : Expr} (h : e.Op = 1) : tk e = [(1, Go.Lib.itoa e.Value)] := by rw [O7, h]; rfl
theorem P3 {e : Expr} (h : e.Op = 2) : tk e = [(2, NM[e.Value.toNat]?.getD [])] := by rw [O7, h]; rfl
theorem SJ (x : Expr) : tk ⟨3, 0, [x]⟩ = [(2, [110, 111, 116])] ++ BS 3 x.Op (tk x) := by rw [O7]; rfl
theorem SK (c x y : Expr) : tk ⟨11, 0, [c, x, y]⟩ = [(2, [105, 102]), (3, [40])] ++ tk c ++ [(3, [44])] ++ tk x ++ [(3, [44])] ++ tk y ++ [(3, [41])] := by rw [O7]; rfl
def Bin (op : Int) : Prop := op = 4 \/ op = 5 \/ op = 6 \/ op = 7 \/ op = 8 \/ op = 9 \/ op = 10
theorem N0 {op : Int} (h : Bin op) (x y : Expr) : tk ⟨op, 0, [x, y]⟩ = BS (lf op) x.Op (tk x) ++ sgK op ++ BS (rt op) y.Op (tk y) := by
 rw [O7]; rcases h with rfl | rfl | rfl | rfl | rfl | rfl | rfl <;> rfl
theorem PV {a op : Int} {t : W4} {l : Tks} (h : TzK t l) : TzK (par a op t) (BS a op l) := by
 unfold par BS
 by_cases hc : rk op < a
 ·rw [if_pos hc, if_pos hc]
  exact (((TzS.sign (c := 40) (by decide) (by decide)).appK h).app (TzS.sign (c := 41) (by decide) (by decide)) (by decide) (by decide)).k
 ·rw [if_neg hc, if_neg hc]; exact h
theorem TP (u : Nat) : ∀ c, c ∈ Go.Lib.decDigits u -> 48 <= c.toNat /\ c.toNat <= 57 := by
 induction u using Nat.strongRecOn with
 | _ u ih =>
  have one : ∀ d : Nat, d < 10 -> 48 <= (UInt8.ofNat (48 + d)).toNat /\ (UInt8.ofNat (48 + d)).toNat <= 57 /\ (UInt8.ofNat (48 + d)).toNat - 48 = d := by
   intro d hd
   have : ∀ d : Fin 10, 48 <= (UInt8.ofNat (48 + d.val)).toNat /\ (UInt8.ofNat (48 + d.val)).toNat <= 57 /\ (UInt8.ofNat (48 + d.val)).toNat - 48 = d.val := by decide
   exact this ⟨d, hd⟩
  intro c hc
  rw [Go.Lib.decDigits] at hc
  by_cases h : u < 10
  ·rw [dif_pos h, List.mem_singleton] at hc
   subst hc; exact ⟨(one u h).1, (one u h).2.1⟩
  ·rw [dif_neg h] at hc
   rcases List.mem_append.1 hc with hc | hc
   ·exact ih (u / 10) (by omega) c hc
   ·rw [List.mem_singleton] at hc
    have := one (u % 10) (Nat.mod_lt _ (by decide))
    subst hc; exact ⟨this.1, this.2.1⟩
theorem Wa (u : Nat) : Go.Lib.decDigits u ≠ [] := by
 rw [Go.Lib.decDigits]
 by_cases h : u < 10
 ·rw [dif_pos h]; simp
 ·rw [dif_neg h]; simp
theorem OL : ∀ (k u : Nat), u < 10 ^ (k + 1) -> (Go.Lib.decDigits u).length <= k + 1
 | 0, u, h => by rw [Go.Lib.decDigits, dif_pos (by simpa using h)]; simp
 | k + 1, u, h => by
  rw [Go.Lib.decDigits]
  by_cases hu : u < 10
  ·rw [dif_pos hu]; simp
  ·rw [dif_neg hu, List.length_append]
   have := OL k (u / 10) (by rw [Nat.pow_succ] at h; omega)
   simp; omega
theorem TJ : ∀ (l r : W4) (a : Nat), dv a (l ++ r) = dv (dv a l) r
 | [], _, _ => rfl
 | c :: l, r, a => TJ l r _
theorem Wb (u : Nat) : dv 0 (Go.Lib.decDigits u) = u := by
 have one : ∀ d : Nat, d < 10 -> (UInt8.ofNat (48 + d)).toNat - 48 = d := by
  intro d hd
  have : ∀ d : Fin 10, (UInt8.ofNat (48 + d.val)).toNat - 48 = d.val := by decide
  exact this ⟨d, hd⟩
 induction u using Nat.strongRecOn with
 | _ u ih =>
  rw [Go.Lib.decDigits]
  by_cases h : u < 10
  ·rw [dif_pos h]
   show 10 * 0 + ((UInt8.ofNat (48 + u)).toNat - 48) = u
   rw [one u h]; omega
  ·rw [dif_neg h, TJ, ih (u / 10) (by omega)]
   show 10 * (u / 10) + ((UInt8.ofNat (48 + u % 10)).toNat - 48) = u
   rw [one (u % 10) (Nat.mod_lt _ (by decide))]; omega
theorem J3 {v : Int} (h0 : 0 <= v) : Go.Lib.itoa v = Go.Lib.decDigits v.toNat := by unfold Go.Lib.itoa; rw [if_neg (by omega)]
theorem TB {v : Int} (h0 : 0 <= v) (h1 : v <= 1000000) : fig (Go.Lib.itoa v) = v := by
 rw [J3 h0]
 unfold fig
 have := OL 6 v.toNat (by simp; omega)
 rw [if_neg (by omega), Wb, if_neg (by omega)]; omega
theorem Ri {i : Nat} (h : i < 14) : NM[i]?.getD [] ≠ [] /\ (∀ c, c ∈ NM[i]?.getD [] -> EJ c = true) /\ (∀ j, j < 14 -> NM[j]?.getD [] = NM[i]?.getD [] -> j = i) /\ NM[i]?.getD [] ≠ [110, 111, 116] /\ NM[i]?.getD [] ≠ [105, 102] := by
 have : ∀ i : Fin 14, NM[i.val]?.getD [] ≠ [] /\ (∀ c, c ∈ NM[i.val]?.getD [] -> EJ c = true) /\ (∀ j : Fin 14, NM[j.val]?.getD [] = NM[i.val]?.getD [] -> j = i) /\ NM[i.val]?.getD [] ≠ [110, 111, 116] /\ NM[i.val]?.getD [] ≠ [105, 102] := by decide
 obtain ⟨h1, h2, h3, h4, h5⟩ := this ⟨i, h⟩
 exact ⟨h1, h2, fun j hj e => congrArg Fin.val (h3 ⟨j, hj⟩ e), h4, h5⟩
theorem VM {op : Int} (h : Bin op) : TzS ([32] ++ sgT op ++ [32]) (sgK op) := by
 have w : ∀ (t : W4), t ≠ [] -> (∀ c, c ∈ t -> EJ c = true) -> TzS ([32] ++ t ++ [32]) [(2, t)] := fun t hn hw =>
  ((TzS.ws (c := 32) (by decide)).appK (TzK.word hn hw)).app (TzS.ws (by decide)) (by decide) (by decide)
 have s : ∀ (c : UInt8), sg9.contains c = true -> c ≠ 61 -> TzS ([32] ++ [c] ++ [32]) [(3, [c])] := fun c h1 h2 =>
  ((TzS.ws (c := 32) (by decide)).app (TzS.sign h1 h2)).app (TzS.ws (by decide))
 rcases h with rfl | rfl | rfl | rfl | rfl | rfl | rfl
 ·exact w _ (by decide) (by decide)
 ·exact w _ (by decide) (by decide)
 ·exact (TzS.ws (c := 32) (by decide)).app TzS.eq
 ·exact s 60 (by decide) (by decide)
 ·exact s 43 (by decide) (by decide)
 ·exact s 45 (by decide) (by decide)
 ·exact s 42 (by decide) (by decide)
theorem Ja : ∀ (n : Nat) (e : Expr), sz e <= n -> kd e ≠ 0 -> TzK (pr e) (tk e)
 | 0, e, h, _ => by have := FV e; omega
 | n + 1, e, h, hk => by
  have hp := FV e
  rcases Ee hk with ⟨h1, h2, h3, _⟩ | ⟨h1, h2, h3, _⟩ | ⟨x, rfl, hx⟩ | ⟨op, x, y, hop, rfl, hx, hy⟩ | ⟨c, x, y, rfl, hc, hx, hy⟩
  ·rw [Og h1, PZ h1, J3 h2]
   exact TzK.num (Wa _) (fun c hc => by have := TP _ c hc; simp [ER]; omega)
  ·rw [Oi h1, P3 h1]
   have := Ri (i := e.Value.toNat) (by omega)
   exact TzK.word this.1 this.2.1
  ·rw [N4] at h
   rw [Oh, SJ]
   exact ((TzK.word (w := [110, 111, 116]) (by decide) (by decide)).app (TzS.ws (c := 32) (by decide)) (by decide) (by decide)).appK (PV (Ja n x (by omega) (by rw [hx]; decide)))
  ·rw [Kp] at h
   have e1 : par (lf op) x.Op (pr x) ++ [32] ++ sgT op ++ [32] ++ par (rt op) y.Op (pr y) = par (lf op) x.Op (pr x) ++ ([32] ++ sgT op ++ [32]) ++ par (rt op) y.Op (pr y) := by simp
   rw [Of hop, N0 hop, e1]
   exact ((PV (Ja n x (by omega) hx)).app (VM hop) rfl (by simp)).appK (PV (Ja n y (by omega) hy))
  ·rw [JK] at h
   have c0 := Ja n c (by omega) (by rw [hc]; decide)
   have x0 := Ja n x (by omega) (by rw [hx]; decide)
   have y0 := Ja n y (by omega) (by rw [hy]; decide)
   have cm : TzS [44, 32] [(3, [44])] := (TzS.sign (c := 44) (by decide) (by decide)).app (TzS.ws (c := 32) (by decide))
   have hd : TzS [105, 102, 40] [(2, [105, 102]), (3, [40])] := (TzK.word (w := [105, 102]) (by decide) (by decide)).app (TzS.sign (c := 40) (by decide) (by decide)) (by decide) (by decide)
   rw [Rb, SK]
   exact ((((((hd.appK c0).app cm (by decide) (by decide)).appK x0).app cm (by decide) (by decide)).appK y0).app (TzS.sign (c := 41) (by decide) (by decide)) (by decide) (by decide)).k
def EA (Lf : List Ae) (i : Nat) : Tks -> Prop
 | [] => True
 | a :: l => Lf[i]?.map kt = some a /\ EA Lf (i + 1) l
theorem Bo {Lf : List Ae} : ∀ {a b : Tks} {i : Nat}, EA Lf i (a ++ b) -> EA Lf i a /\ EA Lf (i + a.length) b
 | [], b, i, h => ⟨trivial, h⟩
 | x :: a, b, i, h => by
  obtain ⟨h1, h2⟩ := h
  obtain ⟨h3, h4⟩ := Bo (a := a) h2
  refine ⟨⟨h1, h3⟩, ?_⟩
  rw [List.length_cons, show i + (a.length + 1) = i + 1 + a.length by omega]; exact h4
theorem T8 {Lf : List Ae} {l m : Tks} : ∀ {p : Tks}, Lf.map kt = p ++ l ++ m -> EA Lf p.length l := by
 induction l with
 | nil => intro p _; exact trivial
 | cons a l ih =>
  intro p h
  refine ⟨?_, ?_⟩
  ·rw [<- List.getElem?_map, h, List.append_assoc, List.getElem?_append_right (Nat.le_refl _), Nat.sub_self]; rfl
  ·have := ih (p := p ++ [a]) (by rw [h]; simp)
   rw [List.length_append] at this; exact this
theorem CJ {Lf : List Ae} {i : Nat} {k : Int} {t : W4} (h : Lf[i]?.map kt = some (k, t)) (u : W4) : Se Lf i u = ((k == 2 || k == 3) && t == u) := by
 unfold Se
 cases hb : Lf[i]? with
 | none => rw [hb] at h; cases h
 | some b =>
  rw [hb] at h
  simp only [Option.map_some, Option.some.injEq, kt, Prod.mk.injEq] at h
  simp only [seeF, h.1, h.2]
def Off (Lf : List Ae) (q : Nat) (r : Int) : Prop := ∀ op, Bin op -> r <= rk op -> Se Lf q (sgT op) = false
theorem Off.le {Lf : List Ae} {q : Nat} {r s : Int} (h : Off Lf q r) (hs : r <= s) : Off Lf q s := fun op hb hr => h op hb (by omega)
theorem U9 {a b : Int} (ha : Bin a) (hb : Bin b) (h : sgT a = sgT b) : a = b := by
 rcases ha with rfl | rfl | rfl | rfl | rfl | rfl | rfl <;> rcases hb with rfl | rfl | rfl | rfl | rfl | rfl | rfl <;> first | rfl | exact absurd h (by decide)
theorem Th {Lf : List Ae} {q : Nat} {op r : Int} (ho : Bin op) (h : EA Lf q (sgK op)) (hr : rk op < r) : Off Lf q r := by
 intro p hp h2
 obtain ⟨k, hk⟩ : ∃ k : Int, sgK op = [(k, sgT op)] := by unfold sgK; split <;> exact ⟨_, rfl⟩
 rw [hk] at h
 rw [CJ h.1]
 cases hs : (sgT op == sgT p) with
 | false => simp
 | true =>
  have := U9 ho hp (by simpa using hs)
  subst this; omega
theorem Ky {Lf : List Ae} {q : Nat} {k : Int} {t : W4} (h : Lf[q]?.map kt = some (k, t)) (hn : ∀ op, Bin op -> t ≠ sgT op) (r : Int) : Off Lf q r := by
 intro p hp _
 rw [CJ h]
 have : (t == sgT p) = false := by simpa using hn p hp
 rw [this]; simp
theorem Ny {t : W4} (h : t = [41] \/ t = [44] \/ t = [] \/ t = [10] \/ t = [61, 62]) : ∀ op, Bin op -> t ≠ sgT op := by
 intro op hop
 rcases h with rfl | rfl | rfl | rfl | rfl <;> rcases hop with rfl | rfl | rfl | rfl | rfl | rfl | rfl <;> decide
theorem Q3 {Lf : List Ae} {q : Nat} {op : Int} (h : EA Lf q (sgK op)) : Se Lf q (sgT op) = true := by
 unfold sgK at h
 split at h
 ·rw [CJ h.1]; simp
 ·rw [CJ h.1]; simp
theorem QZ (op : Int) : (sgK op).length = 1 := by unfold sgK; split <;> rfl
theorem S2 {op : Int} (h : Bin op) : 1 <= rk op /\ rk op <= 6 /\ rk op ≠ 3 := by rcases h with rfl | rfl | rfl | rfl | rfl | rfl | rfl <;> decide
theorem Ok {a op : Int} (h : rk op ≠ a) (t : Tks) : BS a op t = BS (a + 1) op t := by
 unfold BS
 by_cases hc : rk op < a
 ·rw [if_pos hc, if_pos (by omega)]
 ·rw [if_neg hc, if_neg (by omega)]
theorem Gh {a op : Int} (h : a <= rk op) (t : Tks) : BS a op t = t := by unfold BS; rw [if_neg (by omega)]
theorem O6 : ∀ (n : Nat) (e : Expr), sz e <= n -> kd e ≠ 0 -> ∀ a : Int, 4 <= a -> ∃ k t l, BS a e.Op (tk e) = (k, t) :: l /\ t ≠ [110, 111, 116]
 | 0, e, h, _ => by have := FV e; omega
 | n + 1, e, h, hk => by
  intro a ha
  unfold BS
  by_cases hc : rk e.Op < a
  ·rw [if_pos hc]; exact ⟨3, [40], _, rfl, by decide⟩
  rw [if_neg hc]
  rcases Ee hk with ⟨h1, h2, h3, _⟩ | ⟨h1, h2, h3, _⟩ | ⟨x, rfl, hx⟩ | ⟨op, x, y, hop, rfl, hx, hy⟩ | ⟨c, x, y, rfl, hc', hx, hy⟩
  ·rw [PZ h1]
   refine ⟨_, _, _, rfl, fun e1 => ?_⟩
   rw [J3 h2] at e1
   have := TP e.Value.toNat 110 (by rw [e1]; decide)
   exact absurd this (by decide)
  ·rw [P3 h1]; exact ⟨_, _, _, rfl, (Ri (by omega)).2.2.2.1⟩
  ·exact absurd (show rk 3 < a by show (3 : Int) < a; omega) hc
  ·rw [N0 hop]
   rw [Kp] at h
   have hl : 4 <= lf op := by
    rcases hop with rfl | rfl | rfl | rfl | rfl | rfl | rfl
    ·exact absurd (show rk 4 < a by show (2 : Int) < a; omega) hc
    ·exact absurd (show rk 5 < a by show (1 : Int) < a; omega) hc
    all_goals decide
   obtain ⟨k, t, l, h1, h2⟩ := O6 n x (by omega) hx (lf op) hl
   rw [h1]; exact ⟨k, t, _, rfl, h2⟩
  ·rw [SK]; exact ⟨_, _, _, rfl, by decide⟩
theorem MS {e x : Expr} (h : x ∈ e.Kids) : dN x < dN e := by
 have he := Ry e
 have : ∀ (l : List Nat) (a d : Nat), d ∈ l \/ d <= a -> d <= l.foldl max a := by
  intro l
  induction l with
  | nil => intro a d h; rcases h with h | h; exact absurd h (by simp); exact h
  | cons b l ih =>
   intro a d h
   rw [List.foldl_cons]
   apply ih
   rcases h with h | h
   ·rcases List.mem_cons.1 h with rfl | h
    ·right; omega
    ·exact .inl h
   ·right; omega
 have := this (e.Kids.map dN) 0 (dN x) (.inl (List.mem_map_of_mem h))
 omega
def Cdx (e : Expr) (r : Nat) (o : Int) : Prop := o + dN e <= 33 \/ ((r : Int) <= rk e.Op /\ rk e.Op <= 6 /\ o + dN e <= 34)
section
variable {N n : Nat} {Lr : List Ah} {Lf : List Ae}
abbrev PF : Type := Ab -> Option (Ag ⊕ (Ab × Expr))
def Fw (n : Nat) (Lr : List Ah) (Lf : List Ae) (f : PF) (k r : Nat) : Prop :=
 ∀ (x : Expr) (i : Nat) (o : Int), 16 * sz x + (if rk x.Op < r then 16 else 8) <= k + r -> kd x ≠ 0 -> Cdx x r o -> 0 <= o -> o <= 32 -> EA Lf i (BS r x.Op (tk x)) -> i + (BS r x.Op (tk x)).length < n -> Off Lf (i + (BS r x.Op (tk x)).length) r ->
  f (PS Lr i o) = some (.inr (PS Lr (i + (BS r x.Op (tk x)).length) o, x))
theorem Cdx.kid {e x : Expr} {r : Nat} {o : Int} (h : Cdx e r o) (hx : x ∈ e.Kids) : o + dN x <= 33 := by
 have := MS hx
 rcases h with h | ⟨_, _, h⟩ <;> omega
variable (T : Gw n Lr Lf)
include T
theorem K6 {f : PF} {k r : Nat} (hr6 : r <= 6) (hF : Fw n Lr Lf f k (r + 1)) {ops : List (W4 × Int)} {Aq : Nat -> Option Int}
  (hops : ∀ i a, i < n -> Lr[i]? = some a -> (HZ ops a.text_ && seeR a a.text_) = (Aq i).isSome /\ ∀ z, Aq i = some z -> FF ops a.text_ 0 = z)
  (ho : ∀ q op, Bin op -> rk op = r -> EA Lf q (sgK op) -> Aq q = some op) (hl : ∀ op, Bin op -> rk op = r -> lf op = r /\ rt op = r + 1) (h3 : r ≠ 3) :
  ∀ (s : Nat) (x : Expr) (i : Nat) (o : Int), sz x <= s -> 16 * sz x + (if rk x.Op < r then 16 else 8) <= k + 1 + r -> kd x ≠ 0 -> Cdx x r o -> 0 <= o -> o <= 32 -> EA Lf i (BS r x.Op (tk x)) -> i + (BS r x.Op (tk x)).length < n -> Off Lf (i + (BS r x.Op (tk x)).length) (r + 1) ->
   ∃ j0 x0 d, f (PS Lr i o) = some (.inr (PS Lr j0 o, x0)) /\ d <= (BS r x.Op (tk x)).length /\
    ∀ M, AL (Aw N (PS Lr i o) f ops (PS Lr j0 o, x0)) (M + d) (x0.Op, x0.Value, x0.Kids, Lr.drop j0, o) = AL (Aw N (PS Lr i o) f ops (PS Lr j0 o, x0)) M (x.Op, x.Value, x.Kids, Lr.drop (i + (BS r x.Op (tk x)).length), o)
 | 0, x, _, _, h, _, _, _, _, _, _, _, _ => by have := FV x; omega
 | s + 1, x, i, o, hs, hk, hx, hc, h0, h32, hS, hn, hO => by
  by_cases hrk : rk x.Op = r
  ·have hop : ∃ op u v, Bin op /\ x = ⟨op, 0, [u, v]⟩ /\ kd u ≠ 0 /\ kd v ≠ 0 := by
    rcases Ee hx with ⟨h1, _⟩ | ⟨h1, _⟩ | ⟨u, rfl, _⟩ | ⟨op, u, v, hop, rfl, hu, hv⟩ | ⟨c, u, v, rfl, _⟩
    ·rw [h1] at hrk; exact absurd hrk (by show ¬ (7 : Int) = r; omega)
    ·rw [h1] at hrk; exact absurd hrk (by show ¬ (7 : Int) = r; omega)
    ·exact absurd hrk (by show ¬ (3 : Int) = r; omega)
    ·exact ⟨op, u, v, hop, rfl, hu, hv⟩
    ·exact absurd hrk (by show ¬ (7 : Int) = r; omega)
   obtain ⟨op, u, v, hop, rfl, hu, hv⟩ := hop
   have hrk' : rk op = r := hrk
   obtain ⟨l1, l2⟩ := hl op hop hrk'
   have hum : u ∈ (⟨op, 0, [u, v]⟩ : Expr).Kids := by simp
   have hvm : v ∈ (⟨op, 0, [u, v]⟩ : Expr).Kids := by simp
   have su := D7 hum
   have sv := D7 hvm
   have cu := hc.kid hum
   have cv := hc.kid hvm
   have etk : BS r (⟨op, 0, [u, v]⟩ : Expr).Op (tk ⟨op, 0, [u, v]⟩) = BS r u.Op (tk u) ++ sgK op ++ BS ((r + 1 : Nat) : Int) v.Op (tk v) := by
    show BS r op _ = _
    rw [Gh (by omega), N0 hop, l1, l2]; rfl
   rw [etk] at hS hn hO ⊢
   obtain ⟨hS1, hSv⟩ := Bo hS
   obtain ⟨hSu, hSo⟩ := Bo hS1
   simp only [List.length_append, QZ] at hn hO hSv ⊢
   have hk' : 16 * sz (⟨op, 0, [u, v]⟩ : Expr) + 8 <= k + 1 + r := by
    rw [if_neg (by show ¬ rk op < r; omega)] at hk; exact hk
   obtain ⟨j0, x0, d, e1, e2, e3⟩ := K6 hr6 hF hops ho hl h3 s u i o (by omega) (by split <;> omega) hu (.inl (by omega)) h0 h32 hSu (by omega) (Th hop hSo (by omega))
   refine ⟨j0, x0, d + 1, e1, by omega, fun M => ?_⟩
   rw [show M + (d + 1) = (M + 1) + d by omega, e3]
   generalize hq : i + (BS r u.Op (tk u)).length = q at *
   have hq2 : q < n := by omega
   obtain ⟨a, b, ha, hb, hcd, _, _, _⟩ := T.hd hq2
   obtain ⟨ho1, ho2⟩ := hops q a hq2 ha
   have hacc := CT T (N := N) hq2 o a.text_ ha
   have hz := ho q op hop hrk' hSo
   rw [hz] at ho1
   simp only [Option.isSome_some, Bool.and_eq_true] at ho1
   rw [ho1.2] at hacc
   have hz2 := ho2 op hz
   have hv1 := hF v (q + 1) o (by split <;> omega) hv (.inl (by omega)) h0 h32 (by rw [show q + 1 = i + ((BS r u.Op (tk u)).length + 1) by omega]; exact hSv) (by omega) (by rw [show q + 1 + (BS ((r + 1 : Nat) : Int) v.Op (tk v)).length = i + ((BS r u.Op (tk u)).length + 1 + (BS ((r + 1 : Nat) : Int) v.Op (tk v)).length) by omega]; exact hO)
   have hb1 : Aw N (PS Lr i o) f ops (PS Lr j0 o, x0) (u.Op, u.Value, u.Kids, Lr.drop q, o) = some (.next (op, 0, [u, v], Lr.drop (i + ((BS r u.Op (tk u)).length + 1 + (BS ((r + 1 : Nat) : Int) v.Op (tk v)).length)), o)) := by
    unfold Aw
    simp only [hcd, Option.bind_some, ho1.1, Bool.not_true, cond_false]
    rw [show (⟨Lr.drop q, o⟩ : Ab) = PS Lr q o from rfl, hacc]
    simp only [cond_true, Option.bind_some, Bool.not_true, cond_false]
    rw [show (⟨(PS Lr (q + 1) o).l_, (PS Lr (q + 1) o).open_⟩ : Ab) = PS Lr (q + 1) o from rfl, hv1]
    simp only [Option.bind_some, sk, hz2]
    rw [show q + 1 + (BS ((r + 1 : Nat) : Int) v.Op (tk v)).length = i + ((BS r u.Op (tk u)).length + 1 + (BS ((r + 1 : Nat) : Int) v.Op (tk v)).length) by omega]
    cases u; rfl
   rw [AL, hb1]
  ·have e1 : BS r x.Op (tk x) = BS ((r + 1 : Nat) : Int) x.Op (tk x) := Ok hrk _
   rw [e1] at hS hn hO ⊢
   refine ⟨_, _, 0, hF x i o ?_ hx ?_ h0 h32 hS hn hO, Nat.zero_le _, fun M => rfl⟩
   ·split at hk <;> split <;> omega
   ·rcases hc with hc | ⟨c1, c2, c3⟩
    ·exact .inl hc
    ·exact .inr ⟨by omega, c2, c3⟩
theorem Hv (hN : n + 200 <= N) {f : PF} {k r : Nat} (hr6 : r <= 6) (hF : Fw n Lr Lf f k (r + 1)) {ops : List (W4 × Int)} {Aq : Nat -> Option Int}
  (hops : ∀ i a, i < n -> Lr[i]? = some a -> (HZ ops a.text_ && seeR a a.text_) = (Aq i).isSome /\ ∀ z, Aq i = some z -> FF ops a.text_ 0 = z)
  (ho : ∀ q op, Bin op -> rk op = r -> EA Lf q (sgK op) -> Aq q = some op) (hno : ∀ q, Off Lf q r -> Aq q = none) (hl : ∀ op, Bin op -> rk op = r -> lf op = r /\ rt op = r + 1) (h3 : r ≠ 3) :
  Fw n Lr Lf (fun p => AR N p f ops) (k + 1) r := by
 intro x i o hk hx hc h0 h32 hS hn hO
 obtain ⟨j0, x0, d, e1, e2, e3⟩ := K6 T (N := N) hr6 hF hops ho hl h3 _ x i o (Nat.le_refl _) hk hx hc h0 h32 hS hn (hO.le (by omega))
 generalize hq : i + (BS r x.Op (tk x)).length = q at *
 show AR N (PS Lr i o) f ops = _
 unfold AR
 rw [e1]
 simp only [Option.bind_some, sk]
 rw [show (PS Lr j0 o).l_ = Lr.drop j0 from rfl, show (PS Lr j0 o).open_ = o from rfl]
 obtain ⟨M, hM⟩ : ∃ M, N = M + 1 + d := ⟨N - 1 - d, by omega⟩
 have e4 := e3 (M + 1)
 rw [<- hM] at e4
 rw [e4]
 obtain ⟨a, b, ha, hb, hcd, _, _, _⟩ := T.hd hn
 obtain ⟨ho1, ho2⟩ := hops q a hn ha
 have hacc := CT T (N := N) hn o a.text_ ha
 rw [hno q hO] at ho1
 have hb1 : Aw N (PS Lr i o) f ops (PS Lr j0 o, x0) (x.Op, x.Value, x.Kids, Lr.drop q, o) = some (.ret (.inr (PS Lr q o, x))) := by
  unfold Aw
  simp only [hcd, Option.bind_some]
  cases hm : HZ ops a.text_ with
  | false => simp only [Bool.not_false, cond_true, Option.bind_some]; cases x; rfl
  | true =>
   rw [hm] at ho1
   have hs : seeR a a.text_ = false := by simpa using ho1
   rw [hs] at hacc
   simp only [Bool.not_true, cond_false]
   rw [show (⟨Lr.drop q, o⟩ : Ab) = PS Lr q o from rfl, hacc]
   cases x; rfl
 rw [AL, hb1]
 rfl
theorem TN {k : Nat} {fd ft : PF} (hd : Fw n Lr Lf fd k 3) (ht : Fw n Lr Lf ft k 4) : Fw n Lr Lf (BF N fd ft) (k + 1) 3 := by
 intro x i o hk hx hc h0 h32 hS hn hO
 unfold BF
 have hi : i < n := by omega
 rw [Bg T hi o (by decide)]
 by_cases hrk : rk x.Op = 3
 ·have hop : ∃ u, x = ⟨3, 0, [u]⟩ /\ kd u = 2 := by
   rcases Ee hx with ⟨h1, _⟩ | ⟨h1, _⟩ | ⟨u, rfl, h⟩ | ⟨op, u, v, hop, rfl, hu, hv⟩ | ⟨c, u, v, rfl, _⟩
   ·rw [h1] at hrk; exact absurd hrk (by decide)
   ·rw [h1] at hrk; exact absurd hrk (by decide)
   ·exact ⟨u, rfl, h⟩
   ·exact absurd hrk (S2 hop).2.2
   ·exact absurd hrk (show ¬ rk 11 = 3 by decide)
  obtain ⟨u, rfl, hu⟩ := hop
  have hum : u ∈ (⟨3, 0, [u]⟩ : Expr).Kids := by simp
  have su := D7 hum
  have cu := hc.kid hum
  have etk : BS ((3 : Nat) : Int) (⟨3, 0, [u]⟩ : Expr).Op (tk ⟨3, 0, [u]⟩) = [(2, [110, 111, 116])] ++ BS ((3 : Nat) : Int) u.Op (tk u) := by
   show BS 3 3 _ = _
   rw [Gh (by decide), SJ]; rfl
  rw [etk] at hS hn hO ⊢
  obtain ⟨hS1, hSu⟩ := Bo hS
  have hse : Se Lf i [110, 111, 116] = true := by rw [CJ hS1.1]; rfl
  simp only [List.length_append, List.length_cons, List.length_nil, Nat.zero_add] at hn hO hSu ⊢
  rw [hse]
  simp only [Option.bind_some, cond_true]
  rw [if_neg (show ¬ rk 3 < ((3 : Nat) : Int) by decide)] at hk
  rw [hd u (i + 1) o (by split <;> omega) (by rw [hu]; decide) (.inl (by omega)) h0 h32 hSu (by omega) (by rw [Nat.add_assoc]; exact hO)]
  simp only [Option.bind_some, sk]
  rw [Nat.add_assoc]
 ·have e1 : BS ((3 : Nat) : Int) x.Op (tk x) = BS ((4 : Nat) : Int) x.Op (tk x) := Ok hrk _
  rw [e1] at hS hn hO ⊢
  obtain ⟨kk, t, l, h1, h2⟩ := O6 _ x (Nat.le_refl _) hx 4 (by omega)
  have hse : Se Lf i [110, 111, 116] = false := by
   rw [show ((4 : Nat) : Int) = 4 from rfl, h1] at hS
   rw [CJ hS.1]
   have : (t == [110, 111, 116]) = false := by simpa using h2
   rw [this]; simp
  rw [hse]
  simp only [Option.bind_some, cond_false]
  rw [ht x i o (by split at hk <;> split <;> omega) hx (by
   rcases hc with hc | ⟨c1, c2, c3⟩
   ·exact .inl hc
   ·exact .inr ⟨by omega, c2, c3⟩) h0 h32 hS hn (hO.le (by omega))]
  rfl
theorem SO {k : Nat} {fs : PF} (hs : Fw n Lr Lf fs k 5) : Fw n Lr Lf (BE N fs) (k + 1) 4 := by
 intro x i o hk hx hc h0 h32 hS hn hO
 unfold BE
 by_cases hrk : rk x.Op = 4
 ·have hop : ∃ op u v, (op = 6 \/ op = 7) /\ x = ⟨op, 0, [u, v]⟩ /\ kd u ≠ 0 /\ kd v ≠ 0 := by
   rcases Ee hx with ⟨h1, _⟩ | ⟨h1, _⟩ | ⟨u, rfl, _⟩ | ⟨op, u, v, hop, rfl, hu, hv⟩ | ⟨c, u, v, rfl, _⟩
   ·rw [h1] at hrk; exact absurd hrk (by decide)
   ·rw [h1] at hrk; exact absurd hrk (by decide)
   ·exact absurd hrk (show ¬ rk 3 = 4 by decide)
   ·refine ⟨op, u, v, ?_, rfl, hu, hv⟩
    rcases hop with rfl | rfl | rfl | rfl | rfl | rfl | rfl
    ·exact absurd hrk (show ¬ rk 4 = 4 by decide)
    ·exact absurd hrk (show ¬ rk 5 = 4 by decide)
    ·exact .inl rfl
    ·exact .inr rfl
    ·exact absurd hrk (show ¬ rk 8 = 4 by decide)
    ·exact absurd hrk (show ¬ rk 9 = 4 by decide)
    ·exact absurd hrk (show ¬ rk 10 = 4 by decide)
   ·exact absurd hrk (show ¬ rk 11 = 4 by decide)
  obtain ⟨op, u, v, hop, rfl, hu, hv⟩ := hop
  have hbin : Bin op := by rcases hop with rfl | rfl <;> simp [Bin]
  have hrk' : rk op = 4 := hrk
  have hum : u ∈ (⟨op, 0, [u, v]⟩ : Expr).Kids := by simp
  have hvm : v ∈ (⟨op, 0, [u, v]⟩ : Expr).Kids := by simp
  have su := D7 hum
  have sv := D7 hvm
  have cu := hc.kid hum
  have cv := hc.kid hvm
  have etk : BS ((4 : Nat) : Int) (⟨op, 0, [u, v]⟩ : Expr).Op (tk ⟨op, 0, [u, v]⟩) = BS ((5 : Nat) : Int) u.Op (tk u) ++ sgK op ++ BS ((5 : Nat) : Int) v.Op (tk v) := by
   show BS 4 op _ = _
   rw [Gh (by omega), N0 hbin]
   rcases hop with rfl | rfl <;> rfl
  rw [etk] at hS hn hO ⊢
  obtain ⟨hS1, hSv⟩ := Bo hS
  obtain ⟨hSu, hSo⟩ := Bo hS1
  simp only [List.length_append, QZ] at hn hO hSv ⊢
  rw [if_neg (by show ¬ rk op < ((4 : Nat) : Int); omega)] at hk
  rw [hs u i o (by split <;> omega) hu (.inl (by omega)) h0 h32 hSu (by omega) (Th hbin hSo (by rw [hrk']; decide))]
  simp only [Option.bind_some, sk]
  have hse := Q3 hSo
  generalize hq : i + (BS ((5 : Nat) : Int) u.Op (tk u)).length = q at *
  have hv1 := hs v (q + 1) o (by split <;> omega) hv (.inl (by omega)) h0 h32 (by rw [show q + 1 = i + ((BS ((5 : Nat) : Int) u.Op (tk u)).length + 1) by omega]; exact hSv) (by omega) (by rw [show q + 1 + (BS ((5 : Nat) : Int) v.Op (tk v)).length = i + ((BS ((5 : Nat) : Int) u.Op (tk u)).length + 1 + (BS ((5 : Nat) : Int) v.Op (tk v)).length) by omega]; exact hO.le (by omega))
  have hqn : q < n := by omega
  rw [Bg T hqn o (by decide)]
  rw [show i + ((BS ((5 : Nat) : Int) u.Op (tk u)).length + 1 + (BS ((5 : Nat) : Int) v.Op (tk v)).length) = q + 1 + (BS ((5 : Nat) : Int) v.Op (tk v)).length by omega]
  rcases hop with rfl | rfl
  ·rw [show Se Lf q [61] = true from hse]
   simp only [Option.bind_some, cond_true, hv1, sk]
  ·have hno : Se Lf q [61] = false := by rw [CJ hSo.1]; rfl
   rw [hno]
   simp only [Option.bind_some, cond_false]
   rw [Bg T hqn o (by decide), show Se Lf q [60] = true from hse]
   simp only [Option.bind_some, cond_true, cond_false, hv1, sk]
 ·have e1 : BS ((4 : Nat) : Int) x.Op (tk x) = BS ((5 : Nat) : Int) x.Op (tk x) := Ok hrk _
  rw [e1] at hS hn hO ⊢
  rw [hs x i o (by split at hk <;> split <;> omega) hx (by
   rcases hc with hc | ⟨c1, c2, c3⟩
   ·exact .inl hc
   ·exact .inr ⟨by omega, c2, c3⟩) h0 h32 hS hn (hO.le (by omega))]
  simp only [Option.bind_some, sk]
  generalize i + (BS ((5 : Nat) : Int) x.Op (tk x)).length = q at *
  have h6 : Se Lf q [61] = false := hO 6 (by simp [Bin]) (by decide)
  have h7 : Se Lf q [60] = false := hO 7 (by simp [Bin]) (by decide)
  rw [Bg T hn o (by decide), h6]
  simp only [Option.bind_some, cond_false]
  rw [Bg T hn o (by decide), h7]
  rfl
end
theorem S1 (op : Int) : 1 <= rk op /\ rk op <= 7 := by unfold rk; repeat' split
                                                       all_goals omega
theorem V6 {j : Nat} (h : j < 14) : fi (fun x => NM[j]?.getD [] == x) NM = j := by
 have : ∀ j : Fin 14, fi (fun x => NM[j.val]?.getD [] == x) NM = j.val := by decide
 exact this ⟨j, h⟩
section
variable {N n : Nat} {Lr : List Ah} {Lf : List Ae} (T : Gw n Lr Lf)
include T
theorem J4 (hN : 100 < N) (f : PF) {i : Nat} {o : Int} (hi : i < n) {a : Ah} (ha : Lr[i]? = some a) : A6 N f (PS Lr i o) =
   bif (a.kind_ == 1) then ((Cm N a.text_).bind fun r74 => (bif (r74.2 || ((decide ((a.text_.length : Int) > 7)) || (decide (r74.1 > 1000000)))) then some (.inl ⟨60, a.at_⟩) else some (.inr (PS Lr (i + 1) o, ⟨1, r74.1, []⟩))))
   else bif ((a.kind_ == 2) && decide (fi (fun x => a.text_ == x) NM >= 0)) then some (.inr (PS Lr (i + 1) o, ⟨2, fi (fun x => a.text_ == x) NM, []⟩))
   else ((Ap N (PS Lr i o) [105, 102]).bind fun r157 => bif r157.2 then H0 N f r157.1 else ((AH N r157.1 [40]).bind fun r348 => bif r348 then Q0 N f r157.1 else some (.inl ⟨60, a.at_⟩))) := by
 obtain ⟨a', b, ha', hb, hc, hd, he, hat⟩ := T.hd hi
 rw [ha'] at ha; cases ha
 have hR : ∀ v : Int, fi (fun x => a.text_ == x) NM = v -> A6 N f (PS Lr i o) =
   bif (a.kind_ == 1) then ((Cm N a.text_).bind fun r74 => (bif (r74.2 || ((decide ((a.text_.length : Int) > 7)) || (decide (r74.1 > 1000000)))) then some (.inl ⟨60, a.at_⟩) else some (.inr (PS Lr (i + 1) o, ⟨1, r74.1, []⟩))))
   else bif ((a.kind_ == 2) && decide (v >= 0)) then some (.inr (PS Lr (i + 1) o, ⟨2, v, []⟩))
   else ((Ap N (PS Lr i o) [105, 102]).bind fun r157 => bif r157.2 then H0 N f r157.1 else ((AH N r157.1 [40]).bind fun r348 => bif r348 then Q0 N f r157.1 else some (.inl ⟨60, a.at_⟩))) := by
  intro v hv
  unfold A6
  rw [show (PS Lr i o).l_ = Lr.drop i from rfl, hc, Option.bind_some, Oo, Option.bind_some, Rj hN, Option.bind_some, Option.bind_some, hv, L9 T hi]
  rfl
 exact hR _ rfl
theorem L7 {i : Nat} (hi : i < n) {k : Int} {t : W4} (h : Lf[i]?.map kt = some (k, t)) (hk : k = 1 \/ k = 2 \/ k = 3) : ∃ a, Lr[i]? = some a /\ a.kind_ = k /\ a.text_ = t /\ (k = 1 -> t ≠ [] /\ t.length <= 1000000 /\ Dig t) := by
 obtain ⟨a, b, ha, hb, hc, hd, he, hat⟩ := T.hd hi
 rw [hb] at h
 simp only [Option.map_some, Option.some.injEq, kt, Prod.mk.injEq] at h
 obtain ⟨h1, h2⟩ := h
 refine ⟨a, ha, ?_⟩
 rcases he with ⟨hcc, _⟩ | ⟨hee, _⟩
 ·rcases hcc.k with ⟨k1, k2, k3, k4, k5, k6⟩ | ⟨k1, k2, k3, _⟩ | ⟨k1, k2, k3, _⟩ | ⟨k1, k2, _⟩ | ⟨k1, k2⟩
  ·refine ⟨by omega, by rw [k3, h2], fun _ => ?_⟩
   rw [<- h2]; exact ⟨k4, k5, k6⟩
  ·exact ⟨by omega, by rw [k3, h2], fun e => by omega⟩
  ·exact ⟨by omega, by rw [k3, h2], fun e => by omega⟩
  ·omega
  ·omega
 ·have := hee.b5; omega
theorem Qo (hN : 100 < N) {f : PF} {i j : Nat} {o : Int} {x : Expr} (hi : i < n) (hj : j < n) (h0 : 0 <= o) (h31 : o <= 31) (hl : Lf[i]?.map kt = some (3, [40])) (hr : Lf[j]?.map kt = some (3, [41])) (hf : f (PS Lr (i + 1) (o + 1)) = some (.inr (PS Lr j (o + 1), x))) :
  A6 N f (PS Lr i o) = some (.inr (PS Lr (j + 1) o, x)) := by
 obtain ⟨a, ha, k1, k2, _⟩ := L7 T hi hl (by omega)
 have s1 : Se Lf i [105, 102] = false := by rw [CJ hl]; rfl
 have s2 : Se Lf i [40] = true := by rw [CJ hl]; rfl
 have s3 : Se Lf j [41] = true := by rw [CJ hr]; rfl
 rw [J4 T hN f hi ha, k1]
 simp only [show ((3 : Int) == 1) = false from rfl, show ((3 : Int) == 2) = false from rfl, Bool.false_and, cond_false]
 rw [Bg T hi o (by decide), s1]
 simp only [Option.bind_some, cond_false]
 rw [On T hi o (by decide), s2]
 simp only [Option.bind_some, cond_true]
 unfold Q0
 rw [J0 T hi h0 (by omega), s2]
 simp only [Option.bind_some, cond_true]
 rw [if_neg (by omega)]
 show Q1 N f (PS Lr (i + 1) (o + 1)) = _
 unfold Q1
 rw [hf]
 show Q2 N (PS Lr j (o + 1), x) = _
 unfold Q2
 rw [JZ T hj (by omega) (by omega), s3]
 have e : o + 1 - 1 = o := by omega
 simp only [Option.bind_some, cond_true, sk, e]
theorem Tu (hN : 100 < N) {f : PF} {k : Nat} (hF : Fw n Lr Lf f k 1) : Fw n Lr Lf (A6 N f) (k + 1) 7 := by
 intro x i o hk hx hc h0 h32 hS hn hO
 have hi : i < n := by omega
 have hrl := S1 x.Op
 by_cases hrk : rk x.Op = 7
 ·have hp7 : BS ((7 : Nat) : Int) x.Op (tk x) = tk x := Gh (by omega) _
  rw [hp7] at hS hn hO ⊢
  rw [if_neg (by omega)] at hk
  have hc' : o + dN x <= 33 := by
   rcases hc with hc | ⟨_, c2, _⟩
   ·exact hc
   ·omega
  rcases Ee hx with ⟨h1, h2, h3, h4⟩ | ⟨h1, h2, h3, h4⟩ | ⟨u, rfl, _⟩ | ⟨op, u, v, hop, rfl, hu, hv⟩ | ⟨c, u, v, rfl, hcc, hu, hv⟩
  ·rw [PZ h1] at hS hn ⊢
   obtain ⟨a, ha, k1, k2, k3⟩ := L7 T hi hS.1 (by omega)
   obtain ⟨d1, d2, d3⟩ := k3 rfl
   obtain ⟨r, hr, hbad, hgood⟩ := Tp (N := N) d3 d1 d2
   rw [TB h2 h3] at hbad hgood
   rw [J4 T hN f hi ha, k1, k2]
   simp only [show ((1 : Int) == 1) = true from rfl, cond_true, hr, Option.bind_some, hbad]
   rw [decide_eq_false (by omega), cond_false, hgood h2]
   have : x = ⟨1, x.Value, []⟩ := Fk h1 rfl h4
   rw [List.length_singleton, <- this]
  ·rw [P3 h1] at hS hn ⊢
   obtain ⟨a, ha, k1, k2, _⟩ := L7 T hi hS.1 (by omega)
   rw [J4 T hN f hi ha, k1, k2]
   rw [V6 (by omega)]
   simp only [show ((2 : Int) == 1) = false from rfl, show ((2 : Int) == 2) = true from rfl, cond_false, Bool.true_and]
   rw [decide_eq_true (by omega), cond_true]
   have : x = ⟨2, ((x.Value.toNat : Nat) : Int), []⟩ := Fk h1 (by show x.Value = ((x.Value.toNat : Nat) : Int); omega) h4
   rw [List.length_singleton, <- this]
  ·exact absurd hrk (show ¬ rk 3 = 7 by decide)
  ·have := S2 hop
   have : rk op = 7 := hrk
   omega
  ·have hcm : c ∈ (⟨11, 0, [c, u, v]⟩ : Expr).Kids := by simp
   have hum : u ∈ (⟨11, 0, [c, u, v]⟩ : Expr).Kids := by simp
   have hvm : v ∈ (⟨11, 0, [c, u, v]⟩ : Expr).Kids := by simp
   have sc := D7 hcm
   have su := D7 hum
   have sv := D7 hvm
   have dc := MS hcm
   have du := MS hum
   have dv := MS hvm
   have dp := TQ c
   rw [SK] at hS hn hO ⊢
   obtain ⟨hS, z7⟩ := Bo hS
   obtain ⟨hS, z6⟩ := Bo hS
   obtain ⟨hS, z5⟩ := Bo hS
   obtain ⟨hS, z4⟩ := Bo hS
   obtain ⟨hS, z3⟩ := Bo hS
   obtain ⟨z1, z2⟩ := Bo hS
   simp only [List.length_append, List.length_cons, List.length_nil, Nat.zero_add] at hn z2 z3 z4 z5 z6 z7 ⊢
   obtain ⟨a, ha, k1, k2, _⟩ := L7 T hi z1.1 (by omega)
   have s1 : Se Lf i [105, 102] = true := by rw [CJ z1.1]; rfl
   have s2 : Se Lf (i + 1) [40] = true := by rw [CJ z1.2.1]; rfl
   have one : ∀ y : Expr, BS ((1 : Nat) : Int) y.Op (tk y) = tk y := fun y => Gh (by have := S1 y.Op; omega) _
   have sub : ∀ (y : Expr) (q : Nat) (t : W4), sz y < sz (⟨11, 0, [c, u, v]⟩ : Expr) -> dN y < dN (⟨11, 0, [c, u, v]⟩ : Expr) -> kd y ≠ 0 -> EA Lf q (tk y) -> q + (tk y).length < n -> Lf[q + (tk y).length]?.map kt = some (3, t) -> (t = [41] \/ t = [44]) ->
     f (PS Lr q (o + 1)) = some (.inr (PS Lr (q + (tk y).length) (o + 1), y)) := by
    intro y q t hs hd hk0 hS hq ht htt
    have := hF y q (o + 1) (by split <;> omega) hk0 (.inl (by omega)) (by omega) (by omega) (by rw [one]; exact hS) (by rw [one]; exact hq) (by rw [one]; exact Ky ht (Ny (by rcases htt with h | h <;> simp [h])) _)
    rw [one] at this; exact this
   have exc : ∀ q, q < n -> Lf[q]?.map kt = some (3, [44]) -> Ax N (PS Lr q (o + 1)) [44] = some (.inr (PS Lr (q + 1) (o + 1))) := by
    intro q hq h
    rw [DA T hq _ (by decide), show Se Lf q [44] = true by rw [CJ h]; rfl, cond_true]
   have q3 : Lf[i + 2 + (tk c).length]?.map kt = some (3, [44]) := by rw [show i + 2 + (tk c).length = i + (1 + 1 + (tk c).length) by omega]; exact z3.1
   have q4 : EA Lf (i + 2 + (tk c).length + 1) (tk u) := by rw [show i + 2 + (tk c).length + 1 = i + (1 + 1 + (tk c).length + 1) by omega]; exact z4
   have q5 : Lf[i + 2 + (tk c).length + 1 + (tk u).length]?.map kt = some (3, [44]) := by rw [show i + 2 + (tk c).length + 1 + (tk u).length = i + (1 + 1 + (tk c).length + 1 + (tk u).length) by omega]; exact z5.1
   have q6 : EA Lf (i + 2 + (tk c).length + 1 + (tk u).length + 1) (tk v) := by rw [show i + 2 + (tk c).length + 1 + (tk u).length + 1 = i + (1 + 1 + (tk c).length + 1 + (tk u).length + 1) by omega]; exact z6
   have q7 : Lf[i + 2 + (tk c).length + 1 + (tk u).length + 1 + (tk v).length]?.map kt = some (3, [41]) := by rw [show i + 2 + (tk c).length + 1 + (tk u).length + 1 + (tk v).length = i + (1 + 1 + (tk c).length + 1 + (tk u).length + 1 + (tk v).length) by omega]; exact z7.1
   have f2 := sub c (i + 2) [44] (by omega) (by omega) (by rw [hcc]; decide) z2 (by omega) q3 (.inr rfl)
   have f4 := sub u _ [44] (by omega) (by omega) (by rw [hu]; decide) q4 (by omega) q5 (.inr rfl)
   have f6 := sub v _ [41] (by omega) (by omega) (by rw [hv]; decide) q6 (by omega) q7 (.inl rfl)
   rw [J4 T hN f hi ha, k1, k2]
   rw [show fi (fun x => ([105, 102] : W4) == x) NM = -1 from by decide]
   simp only [show ((2 : Int) == 1) = false from rfl, show ((2 : Int) == 2) = true from rfl, show decide ((-1 : Int) >= 0) = false from rfl, Bool.true_and, cond_false]
   rw [Bg T hi o (by decide), s1]
   simp only [Option.bind_some, cond_true]
   unfold H0
   rw [J0 T (by omega) h0 (by omega), s2]
   simp only [Option.bind_some, cond_true]
   rw [if_neg (by omega)]
   show H1 N f (PS Lr (i + 2) (o + 1)) = _
   unfold H1
   rw [f2]
   show H2 N f (PS Lr (i + 2 + (tk c).length) (o + 1), c) = _
   unfold H2
   rw [exc _ (by omega) q3]
   show H3 N f c (PS Lr (i + 2 + (tk c).length + 1) (o + 1)) = _
   unfold H3
   rw [f4]
   show H4 N f c (PS Lr (i + 2 + (tk c).length + 1 + (tk u).length) (o + 1), u) = _
   unfold H4
   rw [exc _ (by omega) q5]
   show H5 N f c u (PS Lr (i + 2 + (tk c).length + 1 + (tk u).length + 1) (o + 1)) = _
   unfold H5
   rw [f6]
   show H6 N c u (PS Lr (i + 2 + (tk c).length + 1 + (tk u).length + 1 + (tk v).length) (o + 1), v) = _
   unfold H6
   rw [JZ T (by omega) (by omega) (by omega), show Se Lf (i + 2 + (tk c).length + 1 + (tk u).length + 1 + (tk v).length) [41] = true by rw [CJ q7]; rfl]
   have e : o + 1 - 1 = o := by omega
   simp only [Option.bind_some, cond_true, sk, e]
   rw [show i + 2 + (tk c).length + 1 + (tk u).length + 1 + (tk v).length + 1 = i + (1 + 1 + (tk c).length + 1 + (tk u).length + 1 + (tk v).length + 1) by omega]
 ·have hp7 : BS ((7 : Nat) : Int) x.Op (tk x) = [(3, [40])] ++ tk x ++ [(3, [41])] := by unfold BS; rw [if_pos (by omega)]
  rw [hp7] at hS hn hO ⊢
  rw [if_pos (by omega)] at hk
  have hc' : o + dN x <= 33 := by
   rcases hc with hc | ⟨c1, c2, _⟩
   ·exact hc
   ·omega
  have hd2 : 2 <= dN x := by
   have : ∀ u, u ∈ x.Kids -> 2 <= dN x := fun u hu => by have := MS hu; have := TQ u; omega
   rcases Ee hx with ⟨h1, _⟩ | ⟨h1, _⟩ | ⟨u, rfl, _⟩ | ⟨op, u, v, hop, rfl, hu, hv⟩ | ⟨c, u, v, rfl, hcc, hu, hv⟩
   ·rw [h1] at hrk; exact absurd rfl hrk
   ·rw [h1] at hrk; exact absurd rfl hrk
   ·exact this u (by simp)
   ·exact this u (by simp)
   ·exact this u (by simp)
  obtain ⟨hS1, z3⟩ := Bo hS
  obtain ⟨z1, z2⟩ := Bo hS1
  simp only [List.length_append, List.length_cons, List.length_nil, Nat.zero_add] at hn hO z2 z3 ⊢
  have one : BS ((1 : Nat) : Int) x.Op (tk x) = tk x := Gh (by omega) _
  have hf := hF x (i + 1) (o + 1) (by rw [if_neg (by omega)]; omega) hx (.inr ⟨by omega, by omega, by omega⟩) (by omega) (by omega) (by rw [one]; exact z2) (by rw [one]; omega) (by
   rw [one, show i + 1 + (tk x).length = i + (1 + (tk x).length) by omega]
   exact Ky z3.1 (Ny (.inl rfl)) _)
  rw [one] at hf
  rw [Qo T hN hi (j := i + 1 + (tk x).length) (by omega) h0 (by omega) z1.1 (by rw [show i + 1 + (tk x).length = i + (1 + (tk x).length) by omega]; exact z3.1) hf]
  rw [show i + 1 + (tk x).length + 1 = i + (1 + (tk x).length + 1) by omega]
end
section
open Go.Proofs Go.Lib
def T5 (a : W5) (cap : Nat) (t : W4) (e : Option Nat × Obj) : Prop :=
 (a = none /\ cap = 0 /\ t = [] /\ e.1 = none) \/ ∃ g cur, a = some ⟨g, 0, none⟩ /\ e = (some g, .cells cur 5 (0, 0)) /\ t ≠ [] /\ t.length <= cap /\ cap <= maxLen /\ cur.size = cap /\ cur.toList.take t.length = byteCells t
def ON (t s : W4) : Option W4 := if t.length + s.length <= 140737488355328 then some (t ++ s) else none
theorem Sz {t s r : W4} (h : ON t s = some r) : t.length + s.length <= 140737488355328 /\ r = t ++ s := by
 unfold ON at h; split at h
 ·rename_i h1; exact ⟨h1, by cases h; rfl⟩
 ·cases h
theorem Rz {t s : W4} (h : t.length + s.length <= 140737488355328) : ON t s = some (t ++ s) := by unfold ON; rw [if_pos h]
section
variable {w w0 : World} {F0 F : Mem} {L : Own}
theorem EP (l : W4) : (byteCells l).length = l.length := by simp [byteCells]
theorem TW (l m : W4) : byteCells (l ++ m) = byteCells l ++ byteCells m := by simp [byteCells]
theorem P6 {g : Nat} {cur cs : Array Value} {e : TypeId} {fz : Nat × Nat} (hg : w.heap[g]? = some (.cells cur e fz)) : w.setRow g cs = Do w g (.cells cs e fz) := by
 have hlt : g < w.heap.size := (Array.getElem?_eq_some_iff.1 hg).1
 have hv : w.heap[g] = .cells cur e fz := (Array.getElem?_eq_some_iff.1 hg).2
 unfold World.setRow Do
 congr 1
 apply Array.ext_getElem?
 intro i
 rw [Array.getElem?_modify, Array.getElem?_setIfInBounds]
 by_cases hi : g = i
 ·subst hi; simp [hlt, hv]
 ·simp [hi]
theorem Mo {ty : TypeId} (hs : HS w0 F0 w F L) {k : Nat} {e : Option Nat × Obj} (hk : L[k]? = some e) {a : W5} {cap : Nat} {t s r : W4} (hr : T5 a cap t e) (hap : ON t s = some r) :
  ∃ a' cap' e' w', (Builtin.append_ #[42, 9] ty #[.slice a t.length cap, .string ⟨s.toArray⟩]).run Tryz.prog w = .ok (.slice a' r.length cap') w' /\ HS w0 F0 w' F (L.set k e') /\ T5 a' cap' r e' := by
 obtain ⟨hlen, rfl⟩ := Sz hap
 have hu9 : Tryz.prog.underlying 9 = some .string := Tryz.underlying9
 have hu42 : Tryz.prog.underlying 42 = some (.slice 5) := Tryz.underlying42
 obtain ⟨i0, hi, hz0, hz1, hz2⟩ := info_parts (show (Tryz.prog.info? 5).map (fun i => (i.zero, i.size, i.bytes)) = some (some (.int .u8 0), 1, 1) by kernel_rfl)
 have hss : (⟨s.toArray⟩ : ByteArray).size = s.length := by simp [ByteArray.size]
 have hsc : strCells ⟨s.toArray⟩ = byteCells s := by simp [strCells, byteCells]
 have hm : maxLen = 9223372036854775807 := rfl
 rcases hr with ⟨rfl, rfl, rfl, he⟩ | ⟨g, cur, rfl, rfl, hne, hlc, hcm, hcs, htk⟩
 ·by_cases h0 : s = []
  ·subst h0
   refine ⟨none, 0, e, w, ?_, by rw [Md hk]; exact hs, .inl ⟨rfl, rfl, rfl, he⟩⟩
   simp [Builtin.append_, run_underlying hu42, run_underlying hu9, sizeOf, typeInfo, hi, hz1, Builtin.lenOf, Builtin.firstCells, ByteArray.size]
  ·have hpos : 0 < s.length := List.length_pos_iff.2 h0
   have hrun := run_append_nil_string (P := Tryz.prog) w 42 9 ty 5 i0 (.int .u8 0) hu42 hu9 hi hz0 ⟨s.toArray⟩ (by rw [hss]; exact hpos) (by rw [hss]; simp at hlen; omega) (by rw [hss, hz2]; simp at hlen; omega)
   rw [hss] at hrun
   refine ⟨_, _, _, _, hrun, (hs.heap (w' := w.drew) rfl).renew k _, .inr ⟨_, _, rfl, rfl, by simpa using h0, by simpa using grownCap_ge w s.length 0 5, grownCap_le_maxLen w s.length 0 5 (by rw [hm]; simp at hlen; omega), ?_, ?_⟩⟩
   ·have := grownCap_ge w s.length 0 5
    simp [Builtin.zeroCells, Value.cells]; omega
   ·rw [List.nil_append]
    have e1 : (s.toArray.map fun b => Value.int .u8 (b.toNat : Int)).toList = byteCells s := by simp [byteCells]
    rw [Array.toList_append, e1, List.take_append_of_le_length (by rw [EP]; exact Nat.le_refl _), <- EP s, List.take_length]
 ·have hg : w.heap[g]? = some (.cells cur 5 (0, 0)) := hs.ownAt hk
  by_cases hfit : t.length + s.length <= cap
  ·have hrun := run_append_room_string (P := Tryz.prog) w 42 9 ty 5 i0 hu42 hu9 hi hz1 g t.length cap cur hg ⟨s.toArray⟩ (by rw [hss]; exact hfit) (by rw [hss, hcs]; exact hfit)
   rw [hss, hsc, P6 hg] at hrun
   refine ⟨some ⟨g, 0, none⟩, cap, _, _, by rw [List.length_append]; exact hrun, hs.put hk _, .inr ⟨g, _, rfl, rfl, by simp [hne], by simpa using hfit, hcm, ?_, ?_⟩⟩
   ·simp [EP, hcs]; omega
   ·rw [htk, List.length_append, TW]
    rw [List.take_append_of_le_length (by simp [EP])]
    have : t.length + s.length = (byteCells t ++ byteCells s).length := by simp [EP]
    rw [this, List.take_length]
  ·have hholds : ∀ j v, (byteCells t)[j]? = some v -> w.cell? ((⟨g, 0, none⟩ : Addr).add j) = some v := fun j v hj => by
    have hjl : j < t.length := by
     rcases Nat.lt_or_ge j t.length with h' | h'
     ·exact h'
     ·rw [List.getElem?_eq_none (by rw [EP]; exact h')] at hj; cases hj
    have : cur[j]? = some v := by
     rw [<- htk, List.getElem?_take_of_lt hjl, Array.getElem?_toList] at hj; exact hj
    rw [Addr.add_lit]; simp [World.cell?, hg, this]
   have hrun := run_append_grow_string (P := Tryz.prog) w 42 9 ty 5 i0 (.int .u8 0) hu42 hu9 hi hz0 ⟨g, 0, none⟩ t.length cap (byteCells t) (by rw [EP, hz1, Nat.mul_one]) hholds ⟨s.toArray⟩ (by rw [hss]; omega) (by rw [hss]; omega) (by rw [hss, hz2]; exact growslice_fits (by omega) (by omega))
   rw [hss, hsc] at hrun
   refine ⟨_, _, _, _, by rw [List.length_append]; exact hrun, (hs.heap (w' := w.drew) rfl).renew k _, .inr ⟨_, _, rfl, rfl, by simp [hne], by simpa using grownCap_ge w (t.length + s.length) cap 5, grownCap_le_maxLen w (t.length + s.length) cap 5 (by rw [hm]; omega), ?_, ?_⟩⟩
   ·have := grownCap_ge w (t.length + s.length) cap 5
    simp [Builtin.zeroCells, Value.cells, EP]; omega
   ·rw [Array.toList_append, Array.toList_append, TW, List.length_append]
    have : t.length + s.length = (byteCells t ++ byteCells s).length := by simp [EP]
    rw [List.take_append_of_le_length (by simp [EP]), this]
    simp only [List.take_length]
end
section
variable {ρ : Operand -> Value} {w : World}
theorem Ib (op : BinOp) (t : TypeId) (x y : Operand) (p q : W5) : (eqGuard op t x y (.pointer p) (.pointer q)).run Tryz.prog w = .ok () w := by
 unfold eqGuard; cases op <;> simp
theorem Oa (p : W5) (d : Nat) : (Op.equalIn (d + 1) 128 (.pointer p) (.pointer none)).run Tryz.prog w = .ok p.isNone w := by
 unfold Op.equalIn
 simp only [Sem.run_bind, run_underlying Tryz.underlying128, Result.andThen_ok]
 cases p <;> rfl
theorem Pg {x y : Operand} {p : W5} {ty : TypeId} (hx : ρ x = .pointer p) (hy : ρ y = .pointer none) : (Ar ρ (.binOp .eql 128 x y 128) ty).run Tryz.prog w = .ok (.value (.bool p.isNone)) w := by
 have e : Ar ρ (.binOp .eql 128 x y 128) ty = (do pure (Next.value (<- (do eqGuard .eql 128 x y (ρ x) (ρ y); binOp .eql 128 (ρ x) (ρ y))))) := rfl
 have e2 : binOp .eql 128 (.pointer p) (.pointer none) = (do pure (Value.bool (<- Op.equalIn (9999 + 1) 128 (.pointer p) (.pointer none)))) := rfl
 rw [e, hx, hy, e2]
 simp only [Sem.run_bind, Ib, Result.andThen_ok, Oa, Sem.run_pure]
theorem N9 {x y : Operand} {a : Addr} {ty : TypeId} (hx : ρ x = .pointer (some a)) (hy : ρ y = .pointer (some a)) : (Ar ρ (.binOp .neq 128 x y 128) ty).run Tryz.prog w = .ok (.value (.bool false)) w := by
 have e : Ar ρ (.binOp .neq 128 x y 128) ty = (do pure (Next.value (<- (do eqGuard .neq 128 x y (ρ x) (ρ y); binOp .neq 128 (ρ x) (ρ y))))) := rfl
 obtain ⟨j, hj, _⟩ := Option.map_eq_some_iff.1 (show (Tryz.prog.info? 130).map (·.size) = some 2 by kernel_rfl)
 rw [e, hx, hy]
 simp only [Sem.run_bind, Ib, Result.andThen_ok, run_neq_ptr_same w a Tryz.underlying128 hj, Sem.run_pure]
theorem Pi {x : Operand} {v u : Value} {s d ty : TypeId} (hx : ρ x = v) (h : (convert s d v).run Tryz.prog w = .ok u w) : (Ar ρ (.convert s d x) ty).run Tryz.prog w = .ok (.value u) w := by
 have e : Ar ρ (.convert s d x) ty = (do pure (Next.value (<- convert s d (ρ x)))) := rfl
 rw [e, hx, Sem.run_bind, h]; rfl
theorem RO {x : Operand} {v : Value} {ty : TypeId} (hx : ρ x = v) (hf : ρ (.func 198) = .func (.func 198) #[] #[]) : (Ar ρ (.call { callee := .value (.func 198), args := #[x], argTypes := #[204] }) ty).run Tryz.prog w = .ok (.value v) w := by
 have e : Ar ρ (.call { callee := .value (.func 198), args := #[x], argTypes := #[204] }) ty = (do let d <- Deferred.ofValue (ρ (.func 198)) (#[x].map ρ); invoke d.target d.args) := rfl
 rw [e, hf]
 simp only [Deferred.ofValue, Sem.run_bind, Sem.run_pure, Result.andThen_ok, invoke]
 rw [run_callFunc_extern Tryz.func198 (by kernel_rfl) (by kernel_rfl) (by kernel_rfl) (e := Extern.AbiNoEscape.same) (by kernel_rfl)]
 have : (#[] ++ Array.map ρ #[x] ++ #[] : Array Value) = #[v] := by simp [hx]
 rw [this, run_noEscape]; rfl
end
theorem OM : As Tryz.prog 164 := fun _ _ => by kernel_rfl
theorem PK {wb w0 : World} {Fb F0 : Mem} {Lf : Own} (b : Nat) (p : W5) (hp : p = none \/ p = some ⟨b, 0, none⟩) (v : Value) (hv : v.oneCell' = true) (hs0 : HS wb Fb w0 F0 ((some b, .cells #[.pointer p, v] 130 (0, 0)) :: Lf)) :
  Calls Tryz.prog 164 ([(.pointer (some ⟨b, 0, none⟩))] : List Value).toArray w0 (Nb wb Fb F0 fun _ r L' => r = .tuple #[] /\ L' = (some b, .cells #[.pointer (some ⟨b, 0, none⟩), v] 130 (0, 0)) :: Lf) := by
 have hsh : w0.shape? b = some (130, 2) := by simp [World.shape?, hs0.at0]
 refine Go 20 Tryz.func164 ?_
 refine Sq ?_
 refine Rg [0, 1, 2, 3, 4] ?_
 refine Vs 3 ?_
 refine Ld hs0.at0 ?_
 refine V 6 4 (Pg (x := .tmp 5) (y := .const (.pointer none)) (p := p) rfl rfl) ?_
 refine WE ?_
 refine Ad ?_
 rcases hp with rfl | rfl
 ·refine C1 (t := true) rfl ?_
  refine Rg [0, 1, 2, 3, 4, 5, 6, 7] ?_
  obtain ⟨j, hj, hjs⟩ := Option.map_eq_some_iff.1 (show (Tryz.prog.info? 130).map (·.size) = some 2 by kernel_rfl)
  refine Vs 2 ?_
  refine V 9 204 (Pi (s := 128) (d := 204) (x := .tmp 8) rfl (run_to_unsafe w0 ⟨b, 0, none⟩ Tryz.underlying128 Tryz.underlying204 hj (by rw [hjs]; decide) hsh (Nat.zero_lt_succ 1))) ?_
  refine V 10 204 (RO (x := .tmp 9) rfl rfl) ?_
  refine V 11 128 (Pi (s := 204) (d := 128) (x := .tmp 10) rfl (run_from_unsafe w0 ⟨b, 0, none⟩ Tryz.underlying204 Tryz.underlying128 hj hsh (by kernel_rfl))) ?_
  refine Vs 2 ?_
  refine St0 #[.pointer (some ⟨b, 0, none⟩), v] hs0 (fun w1 hs1 => ?_)
  refine WE ?_
  exact ReB [] hs1 (WJ _) ⟨rfl, rfl⟩
 ·refine C0 (t := false) rfl ?_
  refine Sq ?_
  refine Rg [0, 1, 2, 3, 4, 5] ?_
  refine Vs 3 ?_
  refine Ld hs0.at0 ?_
  refine Vs 1 ?_
  refine V 19 4 (N9 (x := .tmp 17) (y := .tmp 18) rfl rfl) ?_
  refine WE ?_
  refine Ad ?_
  refine C0 (t := false) rfl ?_
  refine CWP.skip (by kernel_rfl) ?_
  exact ReB [] hs0 (WJ _) ⟨rfl, rfl⟩
theorem Ir : As Tryz.prog 108 := fun _ _ => by kernel_rfl
theorem Nr {wb w0 : World} {Fb F0 : Mem} {Lf : Own} (b : Nat) (p : W5) (hp : p = none \/ p = some ⟨b, 0, none⟩) (a : W5) (cap : Nat) (e : Option Nat × Obj) (t s r : W4) (hb : T5 a cap t e) (hap : ON t s = some r)
  (hs0 : HS wb Fb w0 F0 ((some b, .cells #[.pointer p, .slice a t.length cap] 130 (0, 0)) :: e :: Lf)) :
  Calls Tryz.prog 108 ([(.pointer (some ⟨b, 0, none⟩)), (.string ⟨s.toArray⟩)] : List Value).toArray w0 (Nb wb Fb F0 fun _ v L' => v = .tuple #[.int .i64 (s.length : Int), .nilIface] /\ ∃ a' cap' e', L' = (some b, .cells #[.pointer (some ⟨b, 0, none⟩), .slice a' r.length cap'] 130 (0, 0)) :: e' :: Lf /\ T5 a' cap' r e') := by
 refine Go 19 Tryz.func108 ?_
 refine Sq ?_
 refine Rg [0, 1] ?_
 refine Vs 2 ?_
 refine WE ?_
 refine Ad ?_
 refine Sq ?_
 refine Rg [0, 1] ?_
 refine Vs 1 ?_
 refine CB OM (PK b p hp (.slice a t.length cap) rfl hs0) ?_
 rintro _ F1 w1 _ hs1 le1 ⟨rfl, rfl⟩
 refine WE ?_
 refine Ad ?_
 refine Sq ?_
 refine Rg [0, 1, 2, 3, 4, 5, 6, 7, 8, 9] ?_
 refine Vs 4 ?_
 refine Ld hs1.at0 ?_
 refine Vs 1 ?_
 obtain ⟨a', cap', e', w2, hrun, hs2, hb2⟩ := Mo (ty := 42) hs1 (k := 1) rfl hb hap
 refine WF (dst := some 14) (ty := 42) (g := none) (v := .slice a' r.length cap') (by kernel_rfl) rfl (by
  have e : ∀ ρ : Operand -> Value, Ar ρ (.call { callee := .builtin .append, args := #[.tmp 12, .tmp 13], argTypes := #[42, 9] }) 42 = (do pure (Next.value (<- Builtin.append_ #[42, 9] 42 (#[.tmp 12, .tmp 13].map ρ)))) := fun _ => rfl
  rw [e]
  simp only [List.map_toArray, List.map_cons, List.map_nil]
  rw [Sem.run_bind]
  refine Eq.trans (congrArg (fun x => Result.andThen x _) (show _ = _ from hrun)) rfl) ?_
 have hs2 : HS wb Fb w2 F1 ((some b, .cells #[.pointer (some ⟨b, 0, none⟩), .slice a t.length cap] 130 (0, 0)) :: e' :: Lf) := hs2
 refine Vs 2 ?_
 refine St0 #[.pointer (some ⟨b, 0, none⟩), .slice a' r.length cap'] hs2 (fun w3 hs3 => ?_)
 refine WE ?_
 refine Ad ?_
 refine Sq ?_
 refine Rg [0, 1, 2, 3] ?_
 refine Vs 4 ?_
 refine WE ?_
 refine Ad ?_
 refine Rt ?_
 exact ReB [.int .i64 (s.length : Int), .nilIface] hs3 le1 ⟨rfl, a', cap', e', rfl, hb2⟩
def ID (b : Nat) (t : W4) (_ : Mem) (Lf : Own) : Prop := ∃ p a n e, (p = none \/ p = some ⟨b, 0, none⟩) /\ Lf = [e, (some b, .cells #[.pointer p, .slice a t.length n] 130 (0, 0))] /\ T5 a n t e
theorem ID.mono {b : Nat} : PT (ID b) := fun _ _ _ _ h _ => h
section
variable {w w0 : World} {F0 F : Mem} {L : Own} {b : Nat}
theorem ID.new (hs : HS w0 F0 w F ((some b, .cells #[.pointer none, .slice none 0 0] 130 (0, 0)) :: L)) : ∃ Lf, HS w0 F0 w F (L ++ Lf) /\ ID b [] F Lf :=
 ⟨_, HS.swap (A := [(none, .cells #[] 0 (0, 0)), _]) (hs.dummy (.cells #[] 0 (0, 0))), none, none, 0, _, .inl rfl, rfl, .inl ⟨rfl, rfl, rfl, rfl⟩⟩
theorem PL {Lf : Own} {t s r : W4} (hap : ON t s = some r) (hJ : ID b t F Lf) (hs : HS w0 F0 w F (L ++ Lf)) :
  Calls Tryz.prog 108 ([(.pointer (some ⟨b, 0, none⟩)), (.string ⟨s.toArray⟩)] : List Value).toArray w (Nb w0 F0 F fun F' v L' => v = .tuple #[.int .i64 (s.length : Int), .nilIface] /\ ∃ Lf', L' = L ++ Lf' /\ ID b r F' Lf') := by
 obtain ⟨p, a, n, e, hp, rfl, hb⟩ := hJ
 have h1 : HS w0 F0 w F (e :: (some b, .cells #[.pointer p, .slice a t.length n] 130 (0, 0)) :: L) := HS.swap hs
 refine (Nr b p hp a n e t s r hb hap h1.pk1).mono ?_
 rintro _ w' ⟨F', v, _, rfl, h2, h3, rfl, a', n', e', rfl, hb'⟩
 exact ⟨F', _, L ++ [e', _], rfl, HS.swap (A := [e', _]) h2.pk1, h3, rfl, _, rfl, _, a', n', e', .inr rfl, rfl, hb'⟩
theorem QE : As Tryz.prog 109 := fun _ _ => by kernel_rfl
theorem So {Lf : Own} {t : W4} (hJ : ID b t F Lf) (hs : HS w0 F0 w F (L ++ Lf)) : Calls Tryz.prog 109 ([(.pointer (some ⟨b, 0, none⟩))] : List Value).toArray w (Nb w0 F0 F0 fun F' v L' => v = .string ⟨t.toArray⟩ /\ L' = [] /\ F' = F0) := by
 obtain ⟨p, a, n, e, hp, rfl, hb⟩ := hJ
 have h1 : HS w0 F0 w F (e :: (some b, .cells #[.pointer p, .slice a t.length n] 130 (0, 0)) :: L) := HS.swap hs
 have hB : w0.heap.size <= b := (h1.own b _ (.tail _ (.head _))).2.2
 have hbk := h1.at1
 have hbuf : IsBuilder 130 5 w0.heap.size b (byteCells t) w := by
  have : BuilderAt 130 5 w0.heap.size b (.pointer p) (byteCells t) w := by
   refine ⟨hB, .slice a t.length n, hbk, ?_, ?_⟩
   ·rcases hb with ⟨rfl, rfl, rfl, _⟩ | ⟨g, cur, rfl, rfl, hne, hlc, hcm, hcs, htk⟩
    ·exact ⟨rfl, .inl ⟨rfl, rfl⟩⟩
    ·exact ⟨by simp [EP], .inr ⟨g, n, cur, by rw [EP], (h1.own g _ (.head _)).2.2, h1.at0, by rw [EP]; exact hlc, hcm, by simpa using hcs, by rw [EP, Nat.mul_one]; exact htk⟩⟩
   ·rcases hb with ⟨rfl, rfl, rfl, _⟩ | ⟨g, cur, rfl, rfl, hne, hlc, hcm, hcs, htk⟩
    ·simp [Value.ownBlock]
    ·have := h1.nd
     simp only [Value.ownBlock]
     intro e
     simp at e
     subst e
     simp at this
  rcases hp with rfl | rfl
  ·exact .inl this
  ·exact .inr this
 refine (Tryz.Builder_String_any w0.heap.size b t w hbuf h1.size).mono ?_
 rintro _ w' ⟨rfl, hbel⟩
 refine ⟨F0, _, [], rfl, ?_, WJ _, rfl, rfl, rfl⟩
 exact ⟨h1.base, h1.fix.trans ⟨hbel.os, hbel.output, hbel.tape⟩, Nat.le_trans h1.size hbel.size, fun c hc => (hbel.block c hc).trans (h1.keep c hc), fun _ _ => rfl, fun c o hc => (hbel.block c (Cc (h1.base c o hc))).trans ((h1.keep c (Cc (h1.base c o hc))).trans (h1.base c o hc)), fun _ _ h => (by cases h), List.nodup_nil⟩
end
end
def Dh (N : Nat) (x0 : AM) (r24 : Bool) (s50 : (Int × W4)) (x80 : CV) : (Int × W4) -> Option (Be (W4 × Int) (Int × W4)) := fun s99 =>
 (bif (decide (s99.1 < (x80.l_.length : Int))) then ((idx x80.l_ s99.1).bind fun x136 => (((Fg x80.word_ ([58, 32] : W4)).bind fun r175 => ((C8 N x136.When 1).bind fun r178 => ((Fg r175 r178).bind fun r186 => ((Fg r186 ([32, 61, 62, 32] : W4)).bind fun r189 => ((C8 N x136.Then 1).bind fun r192 => ((Fg r189 r192).bind fun r200 => ((Fg r200 ([10] : W4)).bind fun r203 => ((ON s99.2 r203).bind fun t209 => some t209)))))))).bind fun j160 => some (.next ((W64 (s99.1 + 1)), j160)))) else some (.done (s99.1, s99.2)))
def Dm (N : Nat) (x0 : AM) (r24 : Bool) : (Int × W4) -> Option (Be (W4 × Int) (Int × W4)) := fun s50 =>
 (bif (decide (s50.1 < ([({ word_ := ([112, 111, 105, 110, 116, 115] : W4), l_ := x0.Points } : CV), ({ word_ := ([109, 117, 108, 116, 105, 112, 108, 105, 101, 114] : W4), l_ := x0.Multipliers } : CV), ({ word_ := ([112, 101, 110, 97, 108, 116, 121] : W4), l_ := x0.Penalties } : CV)].length : Int))) then ((idx [({ word_ := ([112, 111, 105, 110, 116, 115] : W4), l_ := x0.Points } : CV), ({ word_ := ([109, 117, 108, 116, 105, 112, 108, 105, 101, 114] : W4), l_ := x0.Multipliers } : CV), ({ word_ := ([112, 101, 110, 97, 108, 116, 121] : W4), l_ := x0.Penalties } : CV)] s50.1).bind fun x80 => ((AL (Dh N x0 r24 s50 x80) N (0, s50.2)).bind fun o => o.k (fun r => some (.ret r)) (fun s115 => some (.next ((W64 (s50.1 + 1)), s115.2))))) else some (.done (s50.1, s50.2)))
def DM (N : Nat) (x0 : AM) (r24 : Bool) (s62 : (Int × W4)) : (Int × W4) -> Option (Be (W4 × Int) (Int × W4)) := fun s224 =>
 (bif (decide (s224.1 < (x0.Repeats.length : Int))) then ((idx x0.Repeats s224.1).bind fun x252 => ((C8 N x252 1).bind fun r271 => ((Fg ([114, 101, 112, 101, 97, 116, 58, 32] : W4) r271).bind fun r279 => ((Fg r279 ([10] : W4)).bind fun r282 => ((ON s224.2 r282).bind fun t288 => some (.next ((W64 (s224.1 + 1)), t288))))))) else some (.done (s224.1, s224.2)))
def CM (N : Nat) (x0 : AM) : Option (W4 × Int) :=
 ((Cj N x0).bind fun r24 => (bif (!r24) then some (([] : W4), 62) else ((AL (Dm N x0 r24) N (0, ([] : W4))).bind fun o => o.k (fun r => some r) (fun s62 => ((AL (DM N x0 r24 s62) N (0, s62.2)).bind fun o => o.k (fun r => some r) (fun s235 => some (s235.2, 0)))))))
theorem DU : As Tryz.prog 51 := fun _ _ => by kernel_rfl
theorem Eh (N : Nat) (w0 : World) (F0 : Mem) (hF : W6 w0 F0) (hG : DD F0) (x0 : AM) (a0_0 : W5) (n0_0 : Nat) (hb0_0 : LC x0.Points.length n0_0) (hs0_0 : SlA Av F0 a0_0 x0.Points) (a0_1 : W5) (n0_1 : Nat) (hb0_1 : LC x0.Multipliers.length n0_1) (hs0_1 : SlA Av F0 a0_1 x0.Multipliers) (a0_2 : W5) (n0_2 : Nat) (hb0_2 : LC x0.Penalties.length n0_2) (hs0_2 : SlA Av F0 a0_2 x0.Penalties) (a0_3 : W5) (n0_3 : Nat) (hb0_3 : LC x0.Repeats.length n0_3) (hs0_3 : SlA Au F0 a0_3 x0.Repeats) (r : (W4 × Int)) (h : CM N x0 = some r) :
  Calls Tryz.prog 51 ([(.agg (AP x0 a0_0 n0_0 a0_1 n0_1 a0_2 n0_2 a0_3 n0_3))] : List Value).toArray w0 (Bh w0 F0 fun F' v => v = (.tuple #[(.string ⟨(r.1).toArray⟩), (vi r.2)])) := by
 have hs0 := WK hF
 refine Go 66 Tryz.func51 ?_
 refine Sq (Rg [0, 1, 2] ?_)
 refine Bx' 26 (AP x0 a0_0 n0_0 a0_1 n0_1 a0_2 n0_2 a0_3 n0_3) hs0 (fun b21 w22 hs23 => ?_)
 refine Vs 2 ?_
 refine Nss ?_
 refine Sq (Rg [0, 1, 2] ?_)
 refine Ld hs23.at0 ?_
 obtain ⟨r24, hr25, h26⟩ := bind_some h
 refine Cl' CR hs23 (Da N w22 F0 hs23.pers x0 a0_0 n0_0 hb0_0 hs0_0 a0_1 n0_1 hb0_1 hs0_1 a0_2 n0_2 hb0_2 hs0_2 a0_3 n0_3 hb0_3 hs0_3 _ hr25) ?_
 rintro _ F1 w28 hs29 le30 rfl
 refine Vs 1 ?_
 refine Nt ?_
 refine Cd h26 (fun hb32 h33 => ?_) (fun hb32 h34 => ?_)
 ·refine Sq (Rg [0, 1] ?_)
  refine Vs 2 ?_
  refine Nt ?_
  refine Rt ?_
  refine Aj ?_
  obtain rfl := Ac h33
  exact Re [(.string ⟨(([] : W4)).toArray⟩), (vi 62)] hs29 rfl
 ·refine Sc ?_
  refine Ad ?_
  refine Sq (Rg [0] ?_)
  refine Al' 130 #[.pointer none, .slice none 0 0] hs29 (fun b35 w36 hs37 => ?_)
  obtain ⟨Lf38, hs39, hJ40⟩ := ID.new hs37
  have hs41 : HS w0 F0 w36 F1 ((sb b21 (AP x0 a0_0 n0_0 a0_1 n0_1 a0_2 n0_2 a0_3 n0_3) 26) :: Lf38) := hs39
  refine Nss ?_
  refine Sq (Rg [0, 1, 2, 3, 4, 5, 6, 7, 8, 9, 10, 11] ?_)
  refine Vs 1 ?_
  refine Ld hs41.at0 ?_
  refine Vs 2 ?_
  refine Ld hs41.at0 ?_
  refine Vs 2 ?_
  refine Ld hs41.at0 ?_
  refine Vs 1 ?_
  refine Bs 131 [(.string ⟨(([112, 111, 105, 110, 116, 115] : W4)).toArray⟩), (.slice a0_0 x0.Points.length n0_0), (.string ⟨(([109, 117, 108, 116, 105, 112, 108, 105, 101, 114] : W4)).toArray⟩), (.slice a0_1 x0.Multipliers.length n0_1), (.string ⟨(([112, 101, 110, 97, 108, 116, 121] : W4)).toArray⟩), (.slice a0_2 x0.Penalties.length n0_2)] hs41 (fun b42 w43 hs44 => ?_)
  have hr46 : AC VO 131 F1 (some ⟨b42, 0, none⟩) 3 [({ word_ := ([112, 111, 105, 110, 116, 115] : W4), l_ := x0.Points } : CV), ({ word_ := ([109, 117, 108, 116, 105, 112, 108, 105, 101, 114] : W4), l_ := x0.Multipliers } : CV), ({ word_ := ([112, 101, 110, 97, 108, 116, 121] : W4), l_ := x0.Penalties } : CV)] (some b42, .cells ([(.string ⟨(([112, 111, 105, 110, 116, 115] : W4)).toArray⟩), (.slice a0_0 x0.Points.length n0_0), (.string ⟨(([109, 117, 108, 116, 105, 112, 108, 105, 101, 114] : W4)).toArray⟩), (.slice a0_1 x0.Multipliers.length n0_1), (.string ⟨(([112, 101, 110, 97, 108, 116, 121] : W4)).toArray⟩), (.slice a0_2 x0.Penalties.length n0_2)] : List Value).toArray 131 (0, 0)) := W0 ⟨⟨a0_0, n0_0, rfl, hb0_0, (WL hs0_0 le30)⟩, ⟨⟨a0_1, n0_1, rfl, hb0_1, (WL hs0_1 le30)⟩, ⟨⟨a0_2, n0_2, rfl, hb0_2, (WL hs0_2 le30)⟩, rfl⟩⟩⟩ (by simp)
  refine Vs 2 ?_
  refine Nt ?_
  obtain ⟨o47, ho48, h49⟩ := bind_some h34
  refine WP (fun f w => ∃ (s62 : (Int × W4)) (F3 : Mem) (Lf66 : Own), o47 = .done s62 /\ HS w0 F0 w F3 ((sb b21 (AP x0 a0_0 n0_0 a0_1 n0_1 a0_2 n0_2 a0_3 n0_3) 26) :: Lf66) /\ WI F1 F3 /\ FI f [] [(1, (pt b21 0)), (4, (pt b35 0))] /\ ID b35 s62.2 F3 Lf66) ?_ ?_
  ·refine Bk ?_
   refine WH (by kernel_rfl) (fun m f w => ∃ (s50 : (Int × W4)) (F2 : Mem) (Lf54 : Own), AL (Dm N x0 r24) m s50 = some o47 /\ HS w0 F0 w F2 ((some b42, .cells ([(.string ⟨(([112, 111, 105, 110, 116, 115] : W4)).toArray⟩), (.slice a0_0 x0.Points.length n0_0), (.string ⟨(([109, 117, 108, 116, 105, 112, 108, 105, 101, 114] : W4)).toArray⟩), (.slice a0_1 x0.Multipliers.length n0_1), (.string ⟨(([112, 101, 110, 97, 108, 116, 121] : W4)).toArray⟩), (.slice a0_2 x0.Penalties.length n0_2)] : List Value).toArray 131 (0, 0)) :: (sb b21 (AP x0 a0_0 n0_0 a0_1 n0_1 a0_2 n0_2 a0_3 n0_3) 26) :: Lf54) /\ WI F1 F2 /\ FI f [] [(1, (pt b21 0)), (4, (pt b35 0)), (23, (.slice (some ⟨b42, 0, none⟩) [({ word_ := ([112, 111, 105, 110, 116, 115] : W4), l_ := x0.Points } : CV), ({ word_ := ([109, 117, 108, 116, 105, 112, 108, 105, 101, 114] : W4), l_ := x0.Multipliers } : CV), ({ word_ := ([112, 101, 110, 97, 108, 116, 121] : W4), l_ := x0.Penalties } : CV)].length 3)), (24, (vi ([({ word_ := ([112, 111, 105, 110, 116, 115] : W4), l_ := x0.Points } : CV), ({ word_ := ([109, 117, 108, 116, 105, 112, 108, 105, 101, 114] : W4), l_ := x0.Multipliers } : CV), ({ word_ := ([112, 101, 110, 97, 108, 116, 121] : W4), l_ := x0.Penalties } : CV)].length : Int))), (25, (vi s50.1))] /\ ID b35 s50.2 F2 Lf54) N ⟨(0, ([] : W4)), F1, Lf38, ho48, hs44, (WJ _), fI, hJ40⟩ ?_
   rintro m71 f w51 ⟨s50, F2, Lf54, hit72, hs52, le53, ⟨_, rfl⟩, hJ55⟩
   obtain ⟨m73, fl74, rfl, hb75, hnx76⟩ := Bn hit72
   refine Sq (Rg [0] ?_)
   refine Vs 1 ?_
   refine Nss ?_
   refine Cd hb75 (fun hb77 h78 => ?_) (fun hb77 h79 => ?_)
   ·refine Sc ?_
    refine Ad ?_
    refine Sq ?_
    refine Bk ?_
    refine Sq (Rg [0, 1, 2, 3] ?_)
    obtain ⟨x80, hx81, h83⟩ := bind_some h78
    obtain ⟨hi82, hx81'⟩ := Ay hx81
    obtain ⟨b84, C85, ha86, he87, hE88⟩ := AC.open (hr46.mono le53) hx81'
    cases ha86
    cases he87
    obtain ⟨ae89_1, ne89_1, hc90, hbe89_1, hse89_1⟩ := hE88 _ _ hx81'
    refine Ix0 hi82 ?_
    refine Lx 0 hs52.at0 hc90 ?_
    refine Al' 131 #[(.string ⟨(([] : W4)).toArray⟩), (.slice none ([] : List Clause).length 0)] hs52 (fun b91 w92 hs93 => ?_)
    refine St0 (NN x80 ae89_1 ne89_1) hs93 (fun w94 hs95 => ?_)
    refine Nss (Rg [0, 1, 2, 3] ?_)
    refine Vs 1 ?_
    refine Ld hs95.at0 ?_
    refine Vs 2 ?_
    refine Nt ?_
    obtain ⟨o96, ho97, h98⟩ := bind_some h83
    refine WP (fun f w => ∃ (s115 : (Int × W4)) (F5 : Mem) (Lf119 : Own), o96 = .done s115 /\ HS w0 F0 w F5 ((some b42, .cells ([(.string ⟨(([112, 111, 105, 110, 116, 115] : W4)).toArray⟩), (.slice a0_0 x0.Points.length n0_0), (.string ⟨(([109, 117, 108, 116, 105, 112, 108, 105, 101, 114] : W4)).toArray⟩), (.slice a0_1 x0.Multipliers.length n0_1), (.string ⟨(([112, 101, 110, 97, 108, 116, 121] : W4)).toArray⟩), (.slice a0_2 x0.Penalties.length n0_2)] : List Value).toArray 131 (0, 0)) :: (sb b21 (AP x0 a0_0 n0_0 a0_1 n0_1 a0_2 n0_2 a0_3 n0_3) 26) :: Lf119) /\ WI F2 F5 /\ FI f [] [(1, (pt b21 0)), (4, (pt b35 0)), (23, (.slice (some ⟨b42, 0, none⟩) [({ word_ := ([112, 111, 105, 110, 116, 115] : W4), l_ := x0.Points } : CV), ({ word_ := ([109, 117, 108, 116, 105, 112, 108, 105, 101, 114] : W4), l_ := x0.Multipliers } : CV), ({ word_ := ([112, 101, 110, 97, 108, 116, 121] : W4), l_ := x0.Penalties } : CV)].length 3)), (24, (vi ([({ word_ := ([112, 111, 105, 110, 116, 115] : W4), l_ := x0.Points } : CV), ({ word_ := ([109, 117, 108, 116, 105, 112, 108, 105, 101, 114] : W4), l_ := x0.Multipliers } : CV), ({ word_ := ([112, 101, 110, 97, 108, 116, 121] : W4), l_ := x0.Penalties } : CV)].length : Int))), (25, (vi s50.1))] /\ ID b35 s115.2 F5 Lf119) ?_ ?_
    ·refine Bk ?_
     refine WH (by kernel_rfl) (fun m f w => ∃ (s99 : (Int × W4)) (F4 : Mem) (Lf103 : Own), AL (Dh N x0 r24 s50 x80) m s99 = some o96 /\ HS w0 F0 w F4 ((sb b91 (NN x80 ae89_1 ne89_1) 131) :: (some b42, .cells ([(.string ⟨(([112, 111, 105, 110, 116, 115] : W4)).toArray⟩), (.slice a0_0 x0.Points.length n0_0), (.string ⟨(([109, 117, 108, 116, 105, 112, 108, 105, 101, 114] : W4)).toArray⟩), (.slice a0_1 x0.Multipliers.length n0_1), (.string ⟨(([112, 101, 110, 97, 108, 116, 121] : W4)).toArray⟩), (.slice a0_2 x0.Penalties.length n0_2)] : List Value).toArray 131 (0, 0)) :: (sb b21 (AP x0 a0_0 n0_0 a0_1 n0_1 a0_2 n0_2 a0_3 n0_3) 26) :: Lf103) /\ WI F2 F4 /\ FI f [] [(1, (pt b21 0)), (4, (pt b35 0)), (6, (pt b91 0)), (23, (.slice (some ⟨b42, 0, none⟩) [({ word_ := ([112, 111, 105, 110, 116, 115] : W4), l_ := x0.Points } : CV), ({ word_ := ([109, 117, 108, 116, 105, 112, 108, 105, 101, 114] : W4), l_ := x0.Multipliers } : CV), ({ word_ := ([112, 101, 110, 97, 108, 116, 121] : W4), l_ := x0.Penalties } : CV)].length 3)), (24, (vi ([({ word_ := ([112, 111, 105, 110, 116, 115] : W4), l_ := x0.Points } : CV), ({ word_ := ([109, 117, 108, 116, 105, 112, 108, 105, 101, 114] : W4), l_ := x0.Multipliers } : CV), ({ word_ := ([112, 101, 110, 97, 108, 116, 121] : W4), l_ := x0.Penalties } : CV)].length : Int))), (25, (vi s50.1)), (30, (.slice ae89_1 x80.l_.length ne89_1)), (31, (vi (x80.l_.length : Int))), (32, (vi s99.1))] /\ ID b35 s99.2 F4 Lf103) N ⟨(0, s50.2), F2, Lf54, ho97, hs95, (WJ _), fI, hJ55⟩ ?_
     rintro m127 f w100 ⟨s99, F4, Lf103, hit128, hs101, le102, ⟨_, rfl⟩, hJ104⟩
     obtain ⟨m129, fl130, rfl, hb131, hnx132⟩ := Bn hit128
     refine Sq (Rg [0] ?_)
     refine Vs 1 ?_
     refine Nss ?_
     refine Cd hb131 (fun hb133 h134 => ?_) (fun hb133 h135 => ?_)
     ·refine Sc ?_
      refine Ad ?_
      refine Sq ?_
      refine Bk ?_
      refine Sq (Rg [0, 1, 2, 3] ?_)
      obtain ⟨x136, hx137, h139⟩ := bind_some h134
      obtain ⟨hi138, hx137'⟩ := Ay hx137
      obtain ⟨b140, o141, C142, E143, fz144, rfl, hF146, hE147⟩ := WT (WL hse89_1 le102) hx137'
      obtain ⟨ae148_2, ne148_2, ae148_5, ne148_5, hc149, hbe148_2, hse148_2, hbe148_5, hse148_5⟩ := hE147 _ _ hx137'
      refine Ix hi138 ?_
      refine Lx 0 (hs101.pers _ _ hF146) hc149 ?_
      refine Al' 56 #[(vi 0), (vi 0), (.slice none ([] : List Expr).length 0), (vi 0), (vi 0), (.slice none ([] : List Expr).length 0)] hs101 (fun b150 w151 hs152 => ?_)
      refine St0 (FQ x136 ae148_2 ne148_2 ae148_5 ne148_5) hs152 (fun w153 hs154 => ?_)
      refine Nt ?_
      obtain ⟨j160, hj173, h174⟩ := bind_some h139
      refine RD 14 14 [(sb b150 (FQ x136 ae148_2 ne148_2 ae148_5 ne148_5) 56), (sb b91 (NN x80 (some ⟨b140, o141, none⟩) ne89_1) 131), (some b42, .cells ([(.string ⟨(([112, 111, 105, 110, 116, 115] : W4)).toArray⟩), (.slice a0_0 x0.Points.length n0_0), (.string ⟨(([109, 117, 108, 116, 105, 112, 108, 105, 101, 114] : W4)).toArray⟩), (.slice a0_1 x0.Multipliers.length n0_1), (.string ⟨(([112, 101, 110, 97, 108, 116, 121] : W4)).toArray⟩), (.slice a0_2 x0.Penalties.length n0_2)] : List Value).toArray 131 (0, 0)), (sb b21 (AP x0 a0_0 n0_0 a0_1 n0_1 a0_2 n0_2 a0_3 n0_3) 26)] [] hs154 (fun f w => ∃ (F6 : Mem) (Lf161 : Own), HS w0 F0 w F6 ((sb b91 (NN x80 (some ⟨b140, o141, none⟩) ne89_1) 131) :: (some b42, .cells ([(.string ⟨(([112, 111, 105, 110, 116, 115] : W4)).toArray⟩), (.slice a0_0 x0.Points.length n0_0), (.string ⟨(([109, 117, 108, 116, 105, 112, 108, 105, 101, 114] : W4)).toArray⟩), (.slice a0_1 x0.Multipliers.length n0_1), (.string ⟨(([112, 101, 110, 97, 108, 116, 121] : W4)).toArray⟩), (.slice a0_2 x0.Penalties.length n0_2)] : List Value).toArray 131 (0, 0)) :: (sb b21 (AP x0 a0_0 n0_0 a0_1 n0_1 a0_2 n0_2 a0_3 n0_3) 26) :: Lf161) /\ WI F4 F6 /\ FI f [] [(1, (pt b21 0)), (4, (pt b35 0)), (6, (pt b91 0)), (23, (.slice (some ⟨b42, 0, none⟩) [({ word_ := ([112, 111, 105, 110, 116, 115] : W4), l_ := x0.Points } : CV), ({ word_ := ([109, 117, 108, 116, 105, 112, 108, 105, 101, 114] : W4), l_ := x0.Multipliers } : CV), ({ word_ := ([112, 101, 110, 97, 108, 116, 121] : W4), l_ := x0.Penalties } : CV)].length 3)), (24, (vi ([({ word_ := ([112, 111, 105, 110, 116, 115] : W4), l_ := x0.Points } : CV), ({ word_ := ([109, 117, 108, 116, 105, 112, 108, 105, 101, 114] : W4), l_ := x0.Multipliers } : CV), ({ word_ := ([112, 101, 110, 97, 108, 116, 121] : W4), l_ := x0.Penalties } : CV)].length : Int))), (25, (vi s50.1)), (30, (.slice (some ⟨b140, o141, none⟩) x80.l_.length ne89_1)), (31, (vi (x80.l_.length : Int))), (32, (vi s99.1))] /\ ID b35 j160 F6 Lf161) (fun wd155 hw156 => ?_) ?_
      ·refine Dv [0] ?_
       refine Dl 1 (fun _ hq => (hq.1.2 1 _ _ rfl)) ?_
       obtain ⟨r175, hr176, h177⟩ := bind_some hj173
       refine Dt 2 38 9 (.string ⟨(r175).toArray⟩) (fun _ hq => B2 (t := 9) (t' := 9) (x := (.tmp 37)) (y := (.const (.string ⟨([58, 32] : W4).toArray⟩))) (a := x80.word_) (b := ([58, 32] : W4)) (v := r175) rfl rfl hr176) ?_
       refine Dv [3] ?_
       refine Dl 4 (fun _ hq => (hq.1.2 0 _ _ rfl)) ?_
       refine Dv [8] ?_
       refine Dl 9 (fun _ hq => (hq.1.2 0 _ _ rfl)) ?_
       refine D1 5 ?_
       obtain ⟨r178, hr179, h180⟩ := bind_some h177
       refine DCl BD hw156 (Eo N wd155 F4 hw156.pers (hG.mono ((le30.trans le53).trans le102)) x136.When ae148_2 ne148_2 hbe148_2 hse148_2 1 _ hr179) ?_
       rintro _ F7 w182 hs183 le184 rfl
       obtain ⟨r186, hr187, h188⟩ := bind_some h180
       refine Dt 6 42 9 (.string ⟨(r186).toArray⟩) (fun _ hq => B2 (t := 9) (t' := 9) (x := (.tmp 38)) (y := (.tmp 41)) (a := r175) (b := r178) (v := r186) rfl rfl hr187) ?_
       obtain ⟨r189, hr190, h191⟩ := bind_some h188
       refine Dt 7 43 9 (.string ⟨(r189).toArray⟩) (fun _ hq => B2 (t := 9) (t' := 9) (x := (.tmp 42)) (y := (.const (.string ⟨([32, 61, 62, 32] : W4).toArray⟩))) (a := r186) (b := ([32, 61, 62, 32] : W4)) (v := r189) rfl rfl hr190) ?_
       refine D1 10 ?_
       obtain ⟨r192, hr193, h194⟩ := bind_some h191
       refine DCl BD hs183 (Eo N w182 F7 hs183.pers (hG.mono (((le30.trans le53).trans le102).trans le184)) x136.Then ae148_5 ne148_5 hbe148_5 (WL hse148_5 le184) 1 _ hr193) ?_
       rintro _ F8 w196 hs197 le198 rfl
       obtain ⟨r200, hr201, h202⟩ := bind_some h194
       refine Dt 11 47 9 (.string ⟨(r200).toArray⟩) (fun _ hq => B2 (t := 9) (t' := 9) (x := (.tmp 43)) (y := (.tmp 46)) (a := r189) (b := r192) (v := r200) rfl rfl hr201) ?_
       obtain ⟨r203, hr204, h205⟩ := bind_some h202
       refine Dt 12 48 9 (.string ⟨(r203).toArray⟩) (fun _ hq => B2 (t := 9) (t' := 9) (x := (.tmp 47)) (y := (.const (.string ⟨([10] : W4).toArray⟩))) (a := r200) (b := ([10] : W4)) (v := r203) rfl rfl hr204) ?_
       refine D1 13 ?_
       obtain ⟨t209, ht210, h211⟩ := bind_some h205
       refine DCB Ir (PL (L := [(sb b150 (FQ x136 ae148_2 ne148_2 ae148_5 ne148_5) 56), (sb b91 (NN x80 (some ⟨b140, o141, none⟩) ne89_1) 131), (some b42, .cells ([(.string ⟨(([112, 111, 105, 110, 116, 115] : W4)).toArray⟩), (.slice a0_0 x0.Points.length n0_0), (.string ⟨(([109, 117, 108, 116, 105, 112, 108, 105, 101, 114] : W4)).toArray⟩), (.slice a0_1 x0.Multipliers.length n0_1), (.string ⟨(([112, 101, 110, 97, 108, 116, 121] : W4)).toArray⟩), (.slice a0_2 x0.Penalties.length n0_2)] : List Value).toArray 131 (0, 0)), (sb b21 (AP x0 a0_0 n0_0 a0_1 n0_1 a0_2 n0_2 a0_3 n0_3) 26)]) ht210 (ID.mono _ _ _ _ hJ104 (le184.trans le198)) hs197) ?_
       rintro _ F9 w206 _ hs207 le208 ⟨rfl, Lf212, rfl, hJ213⟩
       have hs214 : HS w0 F0 w206 F9 ((sb b150 (FQ x136 ae148_2 ne148_2 ae148_5 ne148_5) 56) :: (sb b91 (NN x80 (some ⟨b140, o141, none⟩) ne89_1) 131) :: (some b42, .cells ([(.string ⟨(([112, 111, 105, 110, 116, 115] : W4)).toArray⟩), (.slice a0_0 x0.Points.length n0_0), (.string ⟨(([109, 117, 108, 116, 105, 112, 108, 105, 101, 114] : W4)).toArray⟩), (.slice a0_1 x0.Multipliers.length n0_1), (.string ⟨(([112, 101, 110, 97, 108, 116, 121] : W4)).toArray⟩), (.slice a0_2 x0.Penalties.length n0_2)] : List Value).toArray 131 (0, 0)) :: (sb b21 (AP x0 a0_0 n0_0 a0_1 n0_1 a0_2 n0_2 a0_3 n0_3) 26) :: Lf212) := hs207
       refine ⟨Ck hs214 ((le184.trans le198).trans le208) (by simp) (zdT (by kernel_rfl)), ?_⟩
       obtain rfl := Ac h211
       exact WY (by kernel_rfl) ⟨F9, Lf212, hs214.dr0, ((le184.trans le198).trans le208), fI, hJ213⟩
      ·rintro f w157 ⟨F6, Lf161, hs158, le159, ⟨_, rfl⟩, hJ162⟩
       refine AB ?_
       refine Ad ?_
       refine Rg [0, 1] ?_
       refine Vs 2 ?_
       refine WE ?_
       have hn215 := Bi h174 hnx132
       exact ⟨m129, Nat.lt_succ_self _, ((W64 (s99.1 + 1)), j160), F6, Lf161, hn215, hs158, (le102.trans le159), fI, hJ162⟩
     ·refine Ex ?_
      refine AJ ?_
      refine AJ ?_
      refine Bb rfl ?_
      have ho216 := Bt h135 hnx132
      exact .inl ⟨rfl, (s99.1, s99.2), F4, Lf103, ho216, hs101.dr0, le102, fI, hJ104⟩
    ·rintro f w116 ⟨s115, F5, Lf119, rfl, hs117, le118, ⟨_, rfl⟩, hJ120⟩
     have h217 := CK h98
     refine AB ?_
     refine Ad ?_
     refine Rg [0, 1] ?_
     refine Vs 2 ?_
     refine WE ?_
     have hn218 := Bi h217 hnx76
     exact ⟨m73, Nat.lt_succ_self _, ((W64 (s50.1 + 1)), s115.2), F5, Lf119, hn218, hs117, (le53.trans le118), fI, hJ120⟩
   ·refine Ex ?_
    refine AJ ?_
    refine AJ ?_
    refine Bb rfl ?_
    have ho219 := Bt h79 hnx76
    exact .inl ⟨rfl, (s50.1, s50.2), F2, Lf54, ho219, hs52.dr0, le53, fI, hJ55⟩
  ·rintro f w63 ⟨s62, F3, Lf66, rfl, hs64, le65, ⟨_, rfl⟩, hJ67⟩
   have h220 := CK h49
   refine Ad ?_
   refine Sq ?_
   refine Sq (Rg [0, 1, 2, 3] ?_)
   refine Vs 1 ?_
   refine Ld hs64.at0 ?_
   refine Vs 2 ?_
   refine Nt ?_
   obtain ⟨o221, ho222, h223⟩ := bind_some h220
   refine WP (fun f w => ∃ (s235 : (Int × W4)) (F11 : Mem) (Lf239 : Own), o221 = .done s235 /\ HS w0 F0 w F11 Lf239 /\ WI F3 F11 /\ FI f [] [(4, (pt b35 0))] /\ ID b35 s235.2 F11 Lf239) ?_ ?_
   ·refine Bk ?_
    refine WH (by kernel_rfl) (fun m f w => ∃ (s224 : (Int × W4)) (F10 : Mem) (Lf228 : Own), AL (DM N x0 r24 s62) m s224 = some o221 /\ HS w0 F0 w F10 Lf228 /\ WI F3 F10 /\ FI f [] [(4, (pt b35 0)), (53, (.slice a0_3 x0.Repeats.length n0_3)), (54, (vi (x0.Repeats.length : Int))), (55, (vi s224.1))] /\ ID b35 s224.2 F10 Lf228) N ⟨(0, s62.2), F3, Lf66, ho222, hs64.dr0, (WJ _), fI, hJ67⟩ ?_
    rintro m243 f w225 ⟨s224, F10, Lf228, hit244, hs226, le227, ⟨_, rfl⟩, hJ229⟩
    obtain ⟨m245, fl246, rfl, hb247, hnx248⟩ := Bn hit244
    refine Sq (Rg [0] ?_)
    refine Vs 1 ?_
    refine Nss ?_
    refine Cd hb247 (fun hb249 h250 => ?_) (fun hb249 h251 => ?_)
    ·refine Sc ?_
     refine Ad ?_
     refine Sq ?_
     refine Bk ?_
     refine Sq (Rg [0, 1, 2, 3] ?_)
     obtain ⟨x252, hx253, h255⟩ := bind_some h250
     obtain ⟨hi254, hx253'⟩ := Ay hx253
     obtain ⟨b256, o257, C258, E259, fz260, rfl, hF262, hE263⟩ := WT (WL hs0_3 ((le30.trans le65).trans le227)) hx253'
     obtain ⟨ae264_2, ne264_2, hc265, hbe264_2, hse264_2⟩ := (AZ (hE263 _ _ hx253'))
     refine Ix hi254 ?_
     refine Lx 0 (hs226.pers _ _ hF262) hc265 ?_
     refine Al' 33 #[(vi 0), (vi 0), (.slice none ([] : List Expr).length 0)] hs226 (fun b266 w267 hs268 => ?_)
     refine St0 (Ak x252 ae264_2 ne264_2) hs268 (fun w269 hs270 => ?_)
     refine Nt ?_
     refine Rg [0, 1, 2, 3, 4] ?_
     refine Ld hs270.at0 ?_
     obtain ⟨r271, hr272, h273⟩ := bind_some h255
     refine Cl' BD hs270 (Eo N w269 F10 hs270.pers (hG.mono ((le30.trans le65).trans le227)) x252 ae264_2 ne264_2 hbe264_2 hse264_2 1 _ hr272) ?_
     rintro _ F12 w275 hs276 le277 rfl
     obtain ⟨r279, hr280, h281⟩ := bind_some h273
     refine V 61 9 (B2 (t := 9) (t' := 9) (x := (.const (.string ⟨([114, 101, 112, 101, 97, 116, 58, 32] : W4).toArray⟩))) (y := (.tmp 60)) (a := ([114, 101, 112, 101, 97, 116, 58, 32] : W4)) (b := r271) (v := r279) rfl rfl hr280) ?_
     obtain ⟨r282, hr283, h284⟩ := bind_some h281
     refine V 62 9 (B2 (t := 9) (t' := 9) (x := (.tmp 61)) (y := (.const (.string ⟨([10] : W4).toArray⟩))) (a := r279) (b := ([10] : W4)) (v := r282) rfl rfl hr283) ?_
     obtain ⟨t288, ht289, h290⟩ := bind_some h284
     refine CB Ir (PL (L := [(sb b266 (Ak x252 ae264_2 ne264_2) 33)]) ht289 (ID.mono _ _ _ _ hJ229 le277) hs276) ?_
     rintro _ F13 w285 _ hs286 le287 ⟨rfl, Lf291, rfl, hJ292⟩
     have hs293 : HS w0 F0 w285 F13 ((sb b266 (Ak x252 ae264_2 ne264_2) 33) :: Lf291) := hs286
     refine WE ?_
     refine AB ?_
     refine Ad ?_
     refine Rg [0, 1] ?_
     refine Vs 2 ?_
     refine WE ?_
     have hn294 := Bi h290 hnx248
     exact ⟨m245, Nat.lt_succ_self _, ((W64 (s224.1 + 1)), t288), F13, Lf291, hn294, hs293.dr0, ((le227.trans le277).trans le287), fI, hJ292⟩
    ·refine Ex ?_
     refine AJ ?_
     refine AJ ?_
     refine Bb rfl ?_
     have ho295 := Bt h251 hnx248
     exact .inl ⟨rfl, (s224.1, s224.2), F10, Lf228, ho295, hs226, le227, fI, hJ229⟩
   ·rintro f w236 ⟨s235, F11, Lf239, rfl, hs237, le238, ⟨_, rfl⟩, hJ240⟩
    have h296 := CK h223
    refine Ad ?_
    refine Sq (Rg [0, 1, 2] ?_)
    refine CB QE (So (L := []) hJ240 hs237) ?_
    rintro _ _ w297 _ hs298 _ ⟨rfl, rfl, rfl⟩
    refine Vs 2 ?_
    refine Nt ?_
    refine Rt ?_
    obtain rfl := Ac h296
    exact Re [(.string ⟨(s235.2).toArray⟩), (vi 0)] hs298 rfl





section
variable {N : Nat}
theorem Uv (z : Expr) : par 1 z.Op (pr z) = pr z := by unfold par; rw [if_neg]; unfold rk; repeat' split; all_goals omega
theorem IH {e : Expr} (h : Fit N e) (hk : kd e ≠ 0) (hs : sz e <= 100000000) : C8 N e 1 = some (pr e) := by
 obtain ⟨n, h1, h2⟩ := h
 have : C8 N e 1 = some (par 1 e.Op (pr e)) := E3 h1 (by omega) hk hs 1
 rw [this, Uv]
noncomputable def prx (e : Expr) : W4 × Int := if HM e = true then (pr e, 0) else ([], 61)
theorem Pb {e : Expr} (h : Fit N e) (hs : sz e <= 100000000) : CD N e = some (prx e) := by
 unfold CD prx
 rw [Q4 h, Option.bind_some]
 cases h0 : HM e with
 | false => rfl
 | true => rw [Bool.not_true, cond_false, IH h (IG h0) hs, if_pos rfl]; rfl
def lnT (w : W4) (c : Clause) : W4 := w ++ [58, 32] ++ pr c.When ++ [32, 61, 62, 32] ++ pr c.Then ++ [10]
def lrT (e : Expr) : W4 := [114, 101, 112, 101, 97, 116, 58, 32] ++ pr e ++ [10]
def wP : W4 := [112, 111, 105, 110, 116, 115]
def wM : W4 := [109, 117, 108, 116, 105, 112, 108, 105, 101, 114]
def wE : W4 := [112, 101, 110, 97, 108, 116, 121]
def lns (w : W4) (l : List Clause) : W4 := l.flatMap (lnT w)
theorem NO {α σ ρ : Type} (l : List α) (g : α -> W4) (mk : Nat -> W4 -> σ) {body : σ -> Option (Be ρ σ)} (hl : l.length <= 100) (hg : ∀ x, x ∈ l -> (g x).length <= 10000000000) {s0 : W4} (h0 : s0.length <= 20000000000000)
  (hb : ∀ (i : Nat) (h : i < l.length) (s : W4), s.length <= 30000000000000 -> body (mk i s) = some (.next (mk (i + 1) (s ++ g l[i])))) (hd : ∀ s, body (mk l.length s) = some (.done (mk l.length s))) (hN : 1000 < N) :
  AL body N (mk 0 s0) = some (.done (mk l.length (s0 ++ l.flatMap g))) := by
 have hlen : ∀ i, i <= l.length -> ((l.take i).flatMap g).length <= i * 10000000000 := by
  intro i
  induction i with
  | zero => intro _; simp
  | succ i ih =>
   intro hi
   rw [List.take_succ_eq_append_getElem (by omega), List.flatMap_append, List.length_append]
   have := ih (by omega)
   have := hg _ (List.getElem_mem (by omega : i < l.length))
   simp only [List.flatMap_cons, List.flatMap_nil, List.append_nil]; omega
 obtain ⟨o, ho, rfl⟩ := GF (body := body) l.length (fun i s => s = mk i (s0 ++ (l.take i).flatMap g)) (fun o => o = .done (mk l.length (s0 ++ l.flatMap g))) (by
  rintro i s hi rfl
  by_cases h : i < l.length
  ·left
   have := hlen i hi
   refine ⟨_, hb i h _ (by rw [List.length_append]; omega), ?_, h⟩
   rw [List.take_succ_eq_append_getElem h, List.flatMap_append, List.append_assoc]; simp
  ·have : i = l.length := by omega
   subst this
   right
   exact ⟨_, hd _, fun _ h => (by cases h), by rw [List.take_length]⟩) l.length N 0 (mk 0 s0) (by omega) (by simp) (by omega)
 exact ho
theorem Ou {w : W4} (hw : w.length <= 10) {c : Clause} (h : Ep c = true) (hs : szC c <= 100000000) : (lnT w c).length <= 10000000000 /\ (pr c.When).length <= 3000000000 /\ (pr c.Then).length <= 3000000000 := by
 unfold szC at hs
 have a := D6 _ c.When (Nat.le_refl _) (by rw [Mb h]; decide)
 have b := D6 _ c.Then (Nat.le_refl _) (by rw [Mc h]; decide)
 unfold lnT
 simp only [List.length_append, List.length_cons, List.length_nil]
 omega
theorem Rk {e : Expr} (h : kd e ≠ 0) (hs : sz e <= 100000000) : (lrT e).length <= 10000000000 /\ (pr e).length <= 3000000000 := by
 have a := D6 _ e (Nat.le_refl _) h
 unfold lrT
 simp only [List.length_append, List.length_cons, List.length_nil]
 omega
theorem IF {α : Type} (f : α -> Nat) : ∀ {l : List α} {x : α}, x ∈ l -> f x <= (l.map f).sum
 | a :: l, x, h => by
  rcases List.mem_cons.1 h with rfl | h
  ·simp
  ·have := IF f h; simp; omega
structure SmL (N : Nat) (l : List Clause) : Prop where
 f : QT N l
 s : Kq l = true
 z : szL l <= 100000000
theorem SmL.c {l : List Clause} (h : SmL N l) {c : Clause} (hc : c ∈ l) : szC c <= 100000000 := by
 have := IF szC hc
 have := h.z
 unfold szL at this; omega
noncomputable def prb (b : AM) : W4 := lns wP b.Points ++ lns wM b.Multipliers ++ lns wE b.Penalties ++ b.Repeats.flatMap lrT
noncomputable def prB (b : AM) : W4 × Int := if vld b = true then (prb b, 0) else ([], 62)
theorem Ot {w : W4} (hw : w.length <= 10) {l : List Clause} (h : SmL N l) : (lns w l).length <= 1000000000000 := by
 have hl := FY h.s
 have : ∀ m : List Clause, (∀ c, c ∈ m -> c ∈ l) -> (lns w m).length <= m.length * 10000000000 := by
  intro m
  induction m with
  | nil => intro _; simp [lns]
  | cons a m ih =>
   intro hm
   have a1 := ih (fun c hc => hm c (List.mem_cons_of_mem _ hc))
   have hma := hm a (List.mem_cons_self ..)
   have := (Ou hw (HL h.s hma) (h.c hma)).1
   unfold lns at a1 ⊢
   rw [List.flatMap_cons, List.length_append, List.length_cons]; omega
 have := this l (fun _ h => h)
 omega
theorem Q5 (hN : 1000 < N) {b : AM} (h : O2 N b) (hs : szB b <= 10000000) : CM N b = some (prB b) := by
 unfold CM prB
 rw [N8 hN h, Option.bind_some]
 cases hv : vld b with
 | false => rfl
 | true =>
  obtain ⟨v1, v2, v3, v4, v5⟩ := IE.1 hv
  unfold szB at hs
  have p1 : SmL N b.Points := ⟨h.p, v1, by omega⟩
  have p2 : SmL N b.Multipliers := ⟨h.m, v2, by omega⟩
  have p3 : SmL N b.Penalties := ⟨h.e, v3, by omega⟩
  have m1 := Ot (w := wP) (by decide) p1
  have m2 := Ot (w := wM) (by decide) p2
  have m3 := Ot (w := wE) (by decide) p3
  rw [Bool.not_true, cond_false, if_pos rfl]
  have inner : ∀ (sx : Int × W4) (w : W4) (l : List Clause) (s0 : W4), w.length <= 10 -> SmL N l -> s0.length <= 20000000000000 -> AL (Dh N b true sx ⟨w, l⟩) N (0, s0) = some (.done ((l.length : Int), s0 ++ lns w l)) := by
   intro sx w l s0 hw h h0
   exact NO (body := Dh N b true sx ⟨w, l⟩) l (lnT w) (fun i s => ((i : Int), s)) (by have := FY h.s; omega) (fun x hx => (Ou hw (HL h.s hx) (h.c hx)).1) h0 (fun i hi s hs => by
    have hm := List.getElem_mem hi
    have hc := HL h.s hm
    have hz := h.c hm
    obtain ⟨l0, l1, l2⟩ := Ou hw hc hz
    unfold szC at hz
    unfold Dh
    simp only
    rw [Gu hi, cond_true, Dd hi, Option.bind_some, Cv (by simp; omega), Option.bind_some, IH (h.f.c _ hm).1 (by rw [Mb hc]; decide) (by omega), Option.bind_some,
     Cv (by simp; omega), Option.bind_some, Cv (by simp; omega), Option.bind_some, IH (h.f.c _ hm).2 (by rw [Mc hc]; decide) (by omega), Option.bind_some, Cv (by simp; omega), Option.bind_some, Cv (by simp; omega), Option.bind_some,
     Rz (by have : (lnT w l[i]).length <= 10000000000 := l0; unfold lnT at this; omega), Option.bind_some, Option.bind_some, B7 (by have := h.f.w; omega)]
    rfl) (fun s => by unfold Dh; simp only; rw [Gv, cond_false]) hN
  have outer : AL (Dm N b true) N (0, []) = some (.done (3, lns wP b.Points ++ lns wM b.Multipliers ++ lns wE b.Penalties)) := by
   obtain ⟨m, rfl⟩ : ∃ m, N = m + 4 := ⟨N - 4, by omega⟩
   have st : ∀ (k : Nat) (w : W4) (l : List Clause) (s0 : W4), k < 3 -> ([({ word_ := ([112, 111, 105, 110, 116, 115] : W4), l_ := b.Points } : CV), ({ word_ := ([109, 117, 108, 116, 105, 112, 108, 105, 101, 114] : W4), l_ := b.Multipliers } : CV), ({ word_ := ([112, 101, 110, 97, 108, 116, 121] : W4), l_ := b.Penalties } : CV)])[k]? = some ⟨w, l⟩ -> w.length <= 10 -> SmL (m + 4) l -> s0.length <= 20000000000000 ->
     Dm (m + 4) b true ((k : Int), s0) = some (.next (((k + 1 : Nat) : Int), s0 ++ lns w l)) := by
    intro k w l s0 hk hg hw hl h0
    unfold Dm
    simp only
    rw [show ((List.length [({ word_ := ([112, 111, 105, 110, 116, 115] : W4), l_ := b.Points } : CV), ({ word_ := ([109, 117, 108, 116, 105, 112, 108, 105, 101, 114] : W4), l_ := b.Multipliers } : CV), ({ word_ := ([112, 101, 110, 97, 108, 116, 121] : W4), l_ := b.Penalties } : CV)] : Nat) : Int) = ((3 : Nat) : Int) from rfl, Gu hk, cond_true, EK, hg, Option.bind_some, inner _ _ _ _ hw hl h0, Option.bind_some]
    simp only [Be.k]
    rw [B7 (by omega)]
   rw [AL, show ((0 : Int), ([] : W4)) = (((0 : Nat) : Int), ([] : W4)) from rfl, st 0 wP b.Points [] (by omega) rfl (by decide) p1 (by simp)]
   simp only
   rw [AL, st _ wM b.Multipliers _ (by omega) rfl (by decide) p2 (by simp; omega)]
   simp only
   rw [AL, st _ wE b.Penalties _ (by omega) rfl (by decide) p3 (by simp; omega)]
   simp only
   rw [AL]
   unfold Dm
   simp only
   rw [show ((List.length [({ word_ := ([112, 111, 105, 110, 116, 115] : W4), l_ := b.Points } : CV), ({ word_ := ([109, 117, 108, 116, 105, 112, 108, 105, 101, 114] : W4), l_ := b.Multipliers } : CV), ({ word_ := ([112, 101, 110, 97, 108, 116, 121] : W4), l_ := b.Penalties } : CV)] : Nat) : Int) = ((2 + 1 : Nat) : Int) from rfl, Gv, cond_false, List.nil_append]
   rfl
  rw [outer, Option.bind_some]
  simp only [Be.k]
  have rep := NO (body := DM N b true (3, lns wP b.Points ++ lns wM b.Multipliers ++ lns wE b.Penalties)) b.Repeats lrT (fun i s => ((i : Int), s)) (by omega) (fun e he => (Rk (by rw [Jq (v5 e he)]; decide) (by have := IF sz he; unfold szX at hs; omega)).1) (s0 := lns wP b.Points ++ lns wM b.Multipliers ++ lns wE b.Penalties) (by simp; omega) (fun i hi s hs' => by
    have hm := List.getElem_mem hi
    have hk := Jq (v5 _ hm)
    have hz : sz b.Repeats[i] <= 100000000 := by have := IF sz hm; unfold szX at hs; omega
    obtain ⟨l0, l1⟩ := Rk (e := b.Repeats[i]) (by rw [hk]; decide) hz
    unfold DM
    simp only
    rw [Gu hi, cond_true, Dd hi, Option.bind_some, IH (h.r.c _ hm) (by rw [hk]; decide) hz, Option.bind_some, Cv (by simp; omega), Option.bind_some, Cv (by simp; omega), Option.bind_some,
     Rz (by have : (lrT b.Repeats[i]).length <= 10000000000 := l0; unfold lrT at this; omega), Option.bind_some, B7 (by omega)]
    rfl) (fun s => by unfold DM; simp only; rw [Gv, cond_false]) hN
  rw [show ((0 : Int), lns wP b.Points ++ lns wM b.Multipliers ++ lns wE b.Penalties) = (((0 : Nat) : Int), lns wP b.Points ++ lns wM b.Multipliers ++ lns wE b.Penalties) from rfl, rep]
  rfl
end
section
variable {N n : Nat} {Lr : List Ah} {Lf : List Ae} (T : Gw n Lr Lf)
include T
theorem QV {P : Option (Ag ⊕ (Ab × Expr))} {p} (h : P = some p) : (P.bind fun r39 => sk r39 (fun b52 => some (.inl b52)) (fun r42 => some (.inr (r42.1, r42.2)))) = some p := by
 subst h
 cases p <;> rfl
theorem Qq {k : W4} {z r : Int} (hz : Bin z) (hk : sgT z = k) (hr : rk z = r) (hu : ∀ op, Bin op -> rk op = r -> op = z) :
  (∀ q op, Bin op -> rk op = r -> EA Lf q (sgK op) -> (if Se Lf q k then some z else none : Option Int) = some op) /\ (∀ q, Off Lf q r -> (if Se Lf q k then some z else none : Option Int) = none) := by
 refine ⟨fun q op ho hr' hs => ?_, fun q h => ?_⟩
 ·obtain rfl := hu op ho hr'
  rw [<- hk, if_pos (Q3 hs)]
 ·rw [<- hk, if_neg (by rw [h z hz (by omega)]; decide)]
theorem RF (hN : n + 200 <= N) : ∀ k, Fw n Lr Lf (Bj N k).q145 k 1 /\ Fw n Lr Lf (Bj N k).q185 k 2 /\ Fw n Lr Lf (Bj N k).q212 k 3 /\ Fw n Lr Lf (Bj N k).q226 k 4 /\ Fw n Lr Lf (Bj N k).q233 k 5 /\ Fw n Lr Lf (Bj N k).q239 k 6 /\ Fw n Lr Lf (Bj N k).q243 k 7
 | 0 => by
  have no : ∀ {f : PF} {r : Nat}, r <= 7 -> Fw n Lr Lf f 0 r := fun hr x i o hk => by
   have := FV x
   split at hk <;> omega
  exact ⟨no (by omega), no (by omega), no (by omega), no (by omega), no (by omega), no (by omega), no (by omega)⟩
 | k + 1 => by
  obtain ⟨a1, a2, a3, a4, a5, a6, a7⟩ := RF hN k
  refine ⟨?_, ?_, TN T a3 a4, SO T a5, ?_, ?_, Tu T (by omega) a1⟩
  ·obtain ⟨o1, o2⟩ := Qq T (k := [111, 114]) (z := 5) (r := 1) (by simp [Bin]) rfl rfl (fun op h hr => by rcases h with rfl | rfl | rfl | rfl | rfl | rfl | rfl <;> first | rfl | exact absurd hr (by decide))
   have := Hv T hN (r := 1) (by omega) a2 (R3 T (k := [111, 114]) (by decide) (z := 5)) o1 o2 (fun op h hr => by rcases h with rfl | rfl | rfl | rfl | rfl | rfl | rfl <;> first | exact absurd hr (by decide) | decide) (by omega)
   exact fun x i o hk hx hc h0 h32 hS hn hO => QV T (this x i o hk hx hc h0 h32 hS hn hO)
  ·obtain ⟨o1, o2⟩ := Qq T (k := [97, 110, 100]) (z := 4) (r := 2) (by simp [Bin]) rfl rfl (fun op h hr => by rcases h with rfl | rfl | rfl | rfl | rfl | rfl | rfl <;> first | rfl | exact absurd hr (by decide))
   have := Hv T hN (r := 2) (by omega) a3 (R3 T (k := [97, 110, 100]) (by decide) (z := 4)) o1 o2 (fun op h hr => by rcases h with rfl | rfl | rfl | rfl | rfl | rfl | rfl <;> first | exact absurd hr (by decide) | decide) (by omega)
   exact fun x i o hk hx hc h0 h32 hS hn hO => QV T (this x i o hk hx hc h0 h32 hS hn hO)
  ·have := Hv T hN (r := 5) (by omega) a6 (VV T (k1 := [43]) (k2 := [45]) (by decide) (by decide) (by decide) (z1 := 8) (z2 := 9)) (fun q op h hr hs => by
    rcases h with rfl | rfl | rfl | rfl | rfl | rfl | rfl
    ·exact absurd hr (by decide)
    ·exact absurd hr (by decide)
    ·exact absurd hr (by decide)
    ·exact absurd hr (by decide)
    ·rw [if_pos (show Se Lf q [43] = true from Q3 (op := 8) hs)]
    ·rw [if_neg (by rw [CJ (show Lf[q]?.map kt = some (3, [45]) from hs.1)]; decide), if_pos (show Se Lf q [45] = true from Q3 (op := 9) hs)]
    ·exact absurd hr (by decide)) (fun q h => by
    rw [if_neg (by rw [show Se Lf q [43] = false from h 8 (by simp [Bin]) (by decide)]; decide), if_neg (by rw [show Se Lf q [45] = false from h 9 (by simp [Bin]) (by decide)]; decide)])
    (fun op h hr => by rcases h with rfl | rfl | rfl | rfl | rfl | rfl | rfl <;> first | exact absurd hr (by decide) | decide) (by omega)
   exact fun x i o hk hx hc h0 h32 hS hn hO => QV T (this x i o hk hx hc h0 h32 hS hn hO)
  ·obtain ⟨o1, o2⟩ := Qq T (k := [42]) (z := 10) (r := 6) (by simp [Bin]) rfl rfl (fun op h hr => by rcases h with rfl | rfl | rfl | rfl | rfl | rfl | rfl <;> first | rfl | exact absurd hr (by decide))
   have := Hv T hN (r := 6) (by omega) a7 (R3 T (k := [42]) (by decide) (z := 10)) o1 o2 (fun op h hr => by rcases h with rfl | rfl | rfl | rfl | rfl | rfl | rfl <;> first | exact absurd hr (by decide) | decide) (by omega)
   exact fun x i o hk hx hc h0 h32 hS hn hO => QV T (this x i o hk hx hc h0 h32 hS hn hO)
theorem PE (hN : n + 200 <= N) {x : Expr} {i : Nat} (hz : 16 * sz x + 16 <= N) (hx : kd x ≠ 0) (hd : dN x <= 32) (hS : EA Lf i (tk x)) (hn : i + (tk x).length < n) (hO : Off Lf (i + (tk x).length) 1) : Cw N (PS Lr i 0) = some (.inr (PS Lr (i + (tk x).length) 0, x)) := by
 have one : BS ((1 : Nat) : Int) x.Op (tk x) = tk x := Gh (by have := S1 x.Op; omega) _
 have := (RF T hN N).1 x i 0 (by split <;> omega) hx (.inl (by omega)) (by omega) (by omega) (by rw [one]; exact hS) (by rw [one]; exact hn) (by rw [one]; exact hO)
 rw [one] at this; exact this
theorem RV {s : W4} (hl : s.length <= 65536) (ht : DL N s = some Lr) {j : Nat} {x : Expr} (hp : Cw N (PS Lr 0 0) = some (.inr (PS Lr j 0, x))) (hj : j < n) (he : Lf[j]?.map kt = some (5, [])) (hf : Fit N x) (hs : HM x = true) : BB N s = some (x, 0, 0) := by
 unfold BB GR
 rw [decide_eq_false (by omega)]
 simp only [cond_false]
 rw [ht]
 simp only [Option.bind_some]
 obtain ⟨a0, b0, ha0, hb0, hc0, hd0, _, hat0⟩ := T.hd T.pos
 rw [List.drop_zero] at hc0
 unfold EH AD
 rw [show (⟨Lr, 0⟩ : Ab) = PS Lr 0 0 from by unfold PS; rw [List.drop_zero], hp, show (PS Lr 0 0).l_ = Lr from by unfold PS; rw [List.drop_zero], hc0]
 simp only [Option.bind_some]
 obtain ⟨a, b, ha, hb, hc, hd, _, hat⟩ := T.hd hj
 have hk := IR T hj ha hb
 rw [hb] at he
 simp only [Option.map_some, Option.some.injEq, kt, Prod.mk.injEq] at he
 simp only [sk, Option.bind_some]
 rw [show (PS Lr j 0).l_ = Lr.drop j from rfl, hc]
 simp only [Option.bind_some, hk, he.1]
 simp only [show ((5 : Int) != 5) = false from rfl, cond_false, Option.bind_some]
 have h1 : dp x <= 32 := by unfold HM at hs; simp at hs; exact hs.1
 rcases Hx T (N := N) (i := j) (o := 0) (q := PS Lr j 0) hf a0.at_ 0 with ⟨h, _⟩ | ⟨_, h, _⟩ | ⟨_, _, _, c1, c2⟩
 ·omega
 ·rcases h with h | h
  ·exact absurd h (IG hs)
  ·exact absurd rfl h.1
 ·rw [c1]; rfl
end
theorem O9 {Lf : List Ae} {l : Tks} (h : Lf.map kt = l ++ [(5, [])]) : EA Lf 0 l /\ Lf[l.length]?.map kt = some (5, []) /\ Lf.length = l.length + 1 := by
 refine ⟨T8 (p := []) (m := [(5, [])]) (by rw [h]; rfl), ?_, ?_⟩
 ·rw [<- List.getElem?_map, h, List.getElem?_append_right (Nat.le_refl _), Nat.sub_self]; rfl
 ·have := congrArg List.length h
  simpa using this
theorem SS {x : Expr} (h : HM x = true) (hz : sz x <= 10000000) : dN x <= 32 := by
 unfold HM at h
 simp at h
 have := UX _ x (Nat.le_refl _) (by omega)
 omega
theorem SL {N : Nat} (hN : 200000000 <= N) {x : Expr} (hf : Fit N x) (hs : HM x = true) (hz : sz x <= 10000000) {s : W4} (hl : s.length <= 65536) (h : Tz s (tk x)) : BB N s = some (x, 0, 0) := by
 obtain ⟨n, Lr, Lf, e1, T, hn, e2⟩ := QX (N := N) (by omega) (by omega) h
 obtain ⟨h1, h2, h3⟩ := O9 e2
 have hn2 := T.lf
 have hd := SS hs hz
 refine RV T hl e1 (j := 0 + (tk x).length) (PE T (by omega) (by omega) (IG hs) hd h1 (by omega) ?_) (by omega) ?_ hf hs
 ·rw [Nat.zero_add]; exact Ky h2 (Ny (.inr (.inr (.inl rfl)))) _
 ·rw [Nat.zero_add]; exact h2
def BM (N : Nat) (x0 : Aa) : Option Aa :=
 (((idx x0.L x0.At).bind fun x32 => some x32.Kind).bind fun j26 => ((bif ((j26 != 4) && (j26 != 5)) then (((idx x0.L x0.At).bind fun x72 => ((A5 N x0 60 x72.At).bind fun r86 => some (r86.L, r86.At, r86.Open, r86.Bad, r86.Where))).bind fun j68 => some (j68.1, j68.2.1, j68.2.2.1, j68.2.2.2.1, j68.2.2.2.2)) else some (x0.L, x0.At, x0.Open, x0.Bad, x0.Where)).bind fun j56 => some ({ L := j56.1, At := j56.2.1, Open := j56.2.2.1, Bad := j56.2.2.2.1, Where := j56.2.2.2.2 } : Aa)))
def DH (N : Nat) (x0 : Aa) (x1 : AM) : Option (Aa × AM) :=
 (((idx x0.L x0.At).bind fun x34 => some (x34.Kind, x34.At, x34.Text)).bind fun j27 => (((AF N x0 ([112, 111, 105, 110, 116, 115] : W4)).bind fun r65 => (bif (!r65) then ((AF N x0 ([109, 117, 108, 116, 105, 112, 108, 105, 101, 114] : W4)).bind fun r75 => (bif (!r75) then ((AF N x0 ([112, 101, 110, 97, 108, 116, 121] : W4)).bind fun r85 => (bif (!r85) then ((AF N x0 ([114, 101, 112, 101, 97, 116] : W4)).bind fun r95 => some (!r95)) else some false)) else some false)) else some false)).bind fun j56 => (bif j56 then ((A5 N x0 60 j27.2.1).bind fun r110 => some (r110, x1)) else ((Az N ({ L := x0.L, At := (W64 (x0.At + 1)), Open := x0.Open, Bad := x0.Bad, Where := x0.Where } : Aa) ([58] : W4)).bind fun r120 => (((idx r120.L r120.At).bind fun x140 => some x140.At).bind fun j132 => ((BI N r120).bind fun r154 => (bif (j27.2.2 == ([114, 101, 112, 101, 97, 116] : W4)) then ((BM N r154.1).bind fun r170 => ((bif ((x1.Repeats.length : Int) == 64) then ((A5 N r170 2 j27.2.1).bind fun r191 => some (r191.L, r191.At, r191.Open, r191.Bad, r191.Where)) else some (r170.L, r170.At, r170.Open, r170.Bad, r170.Where)).bind fun j180 => ((A1 N ({ L := j180.1, At := j180.2.1, Open := j180.2.2.1, Bad := j180.2.2.2.1, Where := j180.2.2.2.2 } : Aa) r154.2 j132 1).bind fun r198 => (((Dc x1.Repeats [({ Op := 0, Value := 0, Kids := ([] : List Expr) } : Expr)]).bind fun r219 => ((idx r219 (x1.Repeats.length : Int)).bind fun x228 => some (r219.set ((x1.Repeats.length : Int) : Int).toNat r154.2))).bind fun j210 => some (r198, ({ Points := x1.Points, Multipliers := x1.Multipliers, Penalties := x1.Penalties, Repeats := j210 } : AM)))))) else ((Az N r154.1 ([61, 62] : W4)).bind fun r293 => (((idx r293.L r293.At).bind fun x315 => some x315.At).bind fun j305 => ((BI N r293).bind fun r329 => ((BM N r329.1).bind fun r349 => ((bif (bif (j27.2.2 == ([112, 111, 105, 110, 116, 115] : W4)) then (((x1.Points.length : Int) == 64) || (bif (j27.2.2 == ([109, 117, 108, 116, 105, 112, 108, 105, 101, 114] : W4)) then (((x1.Multipliers.length : Int) == 64) || ((j27.2.2 == ([112, 101, 110, 97, 108, 116, 121] : W4)) && ((x1.Penalties.length : Int) == 64))) else ((j27.2.2 == ([112, 101, 110, 97, 108, 116, 121] : W4)) && ((x1.Penalties.length : Int) == 64)))) else (bif (j27.2.2 == ([109, 117, 108, 116, 105, 112, 108, 105, 101, 114] : W4)) then (((x1.Multipliers.length : Int) == 64) || ((j27.2.2 == ([112, 101, 110, 97, 108, 116, 121] : W4)) && ((x1.Penalties.length : Int) == 64))) else ((j27.2.2 == ([112, 101, 110, 97, 108, 116, 121] : W4)) && ((x1.Penalties.length : Int) == 64)))) then ((A5 N r349 2 j27.2.1).bind fun r395 => some (r395.L, r395.At, r395.Open, r395.Bad, r395.Where)) else some (r349.L, r349.At, r349.Open, r349.Bad, r349.Where)).bind fun j381 => ((A1 N ({ L := j381.1, At := j381.2.1, Open := j381.2.2.1, Bad := j381.2.2.2.1, Where := j381.2.2.2.2 } : Aa) r154.2 j132 2).bind fun r402 => ((A1 N r402 r329.2 j305 1).bind fun r409 => ((bif (j27.2.2 == ([112, 111, 105, 110, 116, 115] : W4)) then (((Dc x1.Points [({ When := r154.2, Then := r329.2 } : Clause)]).bind fun r445 => some r445).bind fun j436 => some (j436, x1.Multipliers, x1.Penalties)) else ((bif (j27.2.2 == ([109, 117, 108, 116, 105, 112, 108, 105, 101, 114] : W4)) then (((Dc x1.Multipliers [({ When := r154.2, Then := r329.2 } : Clause)]).bind fun r481 => some r481).bind fun j472 => some (j472, x1.Penalties)) else ((bif (j27.2.2 == ([112, 101, 110, 97, 108, 116, 121] : W4)) then (((Dc x1.Penalties [({ When := r154.2, Then := r329.2 } : Clause)]).bind fun r517 => some r517).bind fun j508 => some j508) else some x1.Penalties).bind fun j496 => some (x1.Multipliers, j496))).bind fun j460 => some (x1.Points, j460.1, j460.2))).bind fun j424 => some (r409, ({ Points := j424.1, Multipliers := j424.2.1, Penalties := j424.2.2, Repeats := x1.Repeats } : AM)))))))))))))))))
def ClR (N : Nat) (q : Ab) (l : List Clause) (at_ : Int) (fin : Ab -> List Clause -> Ag ⊕ (Ab × AM)) : Option (Ag ⊕ (Ab × AM)) :=
 (Ax N q ([58] : W4)).bind fun r286 => sk r286 (fun b489 => some (.inl b489)) (fun r289 => ((AD N r289).bind fun r296 => sk r296 (fun b482 => some (.inl b482)) (fun r299 => ((Ax N r299.1 ([61, 62] : W4)).bind fun r319 => sk r319 (fun b475 => some (.inl b475)) (fun r322 => ((AD N r322).bind fun r329 => sk r329 (fun b468 => some (.inl b468)) (fun r332 => ((Bz N r332.1).bind fun r354 => sk r354 (fun b461 => some (.inl b461)) (fun _ => (((Bp N r332.1 l at_).bind fun r378 => sk r378 (fun b388 => some (.inl b388)) (fun _ => some (.inr ()))).bind fun j369 => sk j369 (fun b455 => some (.inl b455)) (fun _ => ((AE N r332.1 r299.2 2).bind fun r396 => sk r396 (fun b448 => some (.inl b448)) (fun _ => ((AE N r332.1 r332.2 1).bind fun r406 => sk r406 (fun b441 => some (.inl b441)) (fun _ => (((Dc l [({ When := r299.2.Expr, Then := r332.2.Expr } : Clause)]).bind fun r430 => some r430).bind fun j421 => some (fin r332.1 j421)))))))))))))))))
def Fz4 {β : Type} (N : Nat) (q : Aa) (full : Bool) (at_ : Int) (x : Expr) (jx : Int) (y : Expr) (jy : Int) (fin : Aa -> Expr -> Expr -> Option β) : Option β :=
 (bif full then ((A5 N q 2 at_).bind fun r395 => some (r395.L, r395.At, r395.Open, r395.Bad, r395.Where)) else some (q.L, q.At, q.Open, q.Bad, q.Where)).bind fun j381 => ((A1 N ({ L := j381.1, At := j381.2.1, Open := j381.2.2.1, Bad := j381.2.2.2.1, Where := j381.2.2.2.2 } : Aa) x jx 2).bind fun r402 => ((A1 N r402 y jy 1).bind fun r409 => fin r409 x y))
def Fz3 {β : Type} (N : Nat) (q : Aa) (full : Bool) (at_ : Int) (x : Expr) (jx : Int) (fin : Aa -> Expr -> Expr -> Option β) : Option β :=
 ((idx q.L q.At).bind fun x315 => some x315.At).bind fun j305 => ((BI N q).bind fun r329 => ((BM N r329.1).bind fun r349 => Fz4 N r349 full at_ x jx r329.2 j305 fin))
def Fz2 {β : Type} (N : Nat) (q : Aa) (full : Bool) (at_ : Int) (x : Expr) (jx : Int) (fin : Aa -> Expr -> Expr -> Option β) : Option β :=
 (Az N q ([61, 62] : W4)).bind fun r293 => Fz3 N r293 full at_ x jx fin
def Fz1 {β : Type} (N : Nat) (q : Aa) (full : Bool) (at_ : Int) (fin : Aa -> Expr -> Expr -> Option β) : Option β :=
 ((idx q.L q.At).bind fun x140 => some x140.At).bind fun j132 => ((BI N q).bind fun r154 => Fz2 N r154.1 full at_ r154.2 j132 fin)
def ClF {β : Type} (N : Nat) (q : Aa) (full : Bool) (at_ : Int) (fin : Aa -> Expr -> Expr -> Option β) : Option β :=
 (Az N q ([58] : W4)).bind fun r120 => Fz1 N r120 full at_ fin
def RpR (N : Nat) (q : Ab) (l : List Expr) (at_ : Int) (fin : Ab -> List Expr -> Ag ⊕ (Ab × AM)) : Option (Ag ⊕ (Ab × AM)) :=
 (Ax N q ([58] : W4)).bind fun r51 => sk r51 (fun b242 => some (.inl b242)) (fun r54 => ((AD N r54).bind fun r61 => sk r61 (fun b235 => some (.inl b235)) (fun r64 => ((Bz N r64.1).bind fun r77 => sk r77 (fun b228 => some (.inl b228)) (fun _ => (((Ce N r64.1 l at_).bind fun r100 => sk r100 (fun b110 => some (.inl b110)) (fun _ => some (.inr ()))).bind fun j92 => sk j92 (fun b222 => some (.inl b222)) (fun _ => ((AE N r64.1 r64.2 1).bind fun r118 => sk r118 (fun b215 => some (.inl b215)) (fun _ => (((Dc l [({ Op := 0, Value := 0, Kids := ([] : List Expr) } : Expr)]).bind fun r142 => ((idx r142 (l.length : Int)).bind fun x151 => some (r142.set ((l.length : Int) : Int).toNat (r64.2.Expr)))).bind fun j133 => some (fin r64.1 j133)))))))))))
def Pz2 {β : Type} (N : Nat) (q : Aa) (full : Bool) (at_ : Int) (x : Expr) (jx : Int) (fin : Aa -> Expr -> Option β) : Option β :=
 (BM N q).bind fun r170 => ((bif full then ((A5 N r170 2 at_).bind fun r191 => some (r191.L, r191.At, r191.Open, r191.Bad, r191.Where)) else some (r170.L, r170.At, r170.Open, r170.Bad, r170.Where)).bind fun j180 => ((A1 N ({ L := j180.1, At := j180.2.1, Open := j180.2.2.1, Bad := j180.2.2.2.1, Where := j180.2.2.2.2 } : Aa) x jx 1).bind fun r198 => fin r198 x))
def Pz1 {β : Type} (N : Nat) (q : Aa) (full : Bool) (at_ : Int) (fin : Aa -> Expr -> Option β) : Option β :=
 ((idx q.L q.At).bind fun x140 => some x140.At).bind fun j132 => ((BI N q).bind fun r154 => Pz2 N r154.1 full at_ r154.2 j132 fin)
def RpF {β : Type} (N : Nat) (q : Aa) (full : Bool) (at_ : Int) (fin : Aa -> Expr -> Option β) : Option β :=
 (Az N q ([58] : W4)).bind fun r120 => Pz1 N r120 full at_ fin
def En (Lf : List Ae) (i : Nat) : Bool := match Lf[i]? with
 | some b => (b.Kind == 4) || (b.Kind == 5)
 | none => false
section
variable {N n : Nat} {Lr : List Ah} {Lf : List Ae} (T : Gw n Lr Lf)
include T
theorem IM {i : Nat} {a : Ah} {b : Ae} (hi : i < n) (ha : Lr[i]? = some a) (hb : Lf[i]? = some b) : seeR a [10] = (b.Kind == 4) := by
 obtain ⟨a', b', h1, h2, _, _, h5, _⟩ := T.hd hi
 rw [h1] at ha; rw [h2] at hb
 cases ha; cases hb
 unfold seeR
 rcases h5 with ⟨h, _⟩ | ⟨h, _⟩
 ·rcases h.k with ⟨k1, k2, _⟩ | ⟨k1, k2, k3, k4⟩ | ⟨k1, k2, k3, k4⟩ | ⟨k1, k2, k3, _⟩ | ⟨k1, k2⟩ <;> rw [k1, k2]
  ·rfl
  ·rw [k3, show (b.Text == [10]) = false by simpa using k4]; rfl
  ·rw [k3, show (b.Text == [10]) = false by simpa using k4]; rfl
  ·rw [k3]; rfl
  ·rfl
 ·rw [h.a0, h.b5]; rfl
theorem NJ {i : Nat} (hi : i < n) : ((idx Lf (i : Int)).bind fun x => some x.At) = some (atI Lf i) := by
 obtain ⟨a, b, _, h2, _, h4, _⟩ := T.hd hi
 rw [h4]; unfold atI; rw [h2]; rfl
theorem LY {i : Nat} (hi : i < n) (o : Int) : Bz N (PS Lr i o) = some (bif En Lf i then .inr () else .inl ⟨60, atI Lf i⟩) := by
 obtain ⟨a, b, ha, hb, h3, h4, h5, hat⟩ := T.hd hi
 have e1 := IR T hi ha hb
 have e2 := IM T hi ha hb
 unfold Bz
 rw [show (PS Lr i o).l_ = Lr.drop i from rfl, h3]
 simp only [Option.bind_some, e1, Mx T hi o [10] ha, e2, hat]
 unfold En atI
 rw [hb]
 simp only
 cases h4 : (b.Kind == 4) <;> cases h5 : (b.Kind == 5) <;> simp [bne, h5, AV, sk]
theorem Pz {i : Nat} (hi : i < n) (o : Int) : BM N (RS Lf i o) = some (bif En Lf i then RS Lf i o else RB Lf i o 60 (atI Lf i)) := by
 obtain ⟨a, b, ha, hb, h3, h4, h5, hat⟩ := T.hd hi
 unfold BM
 rw [show (RS Lf i o).L = Lf from rfl, show (RS Lf i o).At = (i : Int) from rfl, h4]
 simp only [Option.bind_some, JY T]
 unfold En atI
 rw [hb]
 simp only
 cases h4 : (b.Kind == 4) <;> cases h5 : (b.Kind == 5) <;> simp [bne, h4, h5] <;> rfl
theorem IQ {i : Nat} (hi : i < n) {o e w : Int} (he : e ≠ 0) : BM N (RB Lf i o e w) = some (RB Lf i o e w) := by
 obtain ⟨a, b, ha, hb, h3, h4, h5, hat⟩ := T.hd hi
 unfold BM
 rw [show (RB Lf i o e w).L = Lf from rfl, show (RB Lf i o e w).At = (i : Int) from rfl, h4]
 simp only [Option.bind_some, Ko T he]
 cases ((b.Kind != 4) && (b.Kind != 5)) <;> rfl
theorem MP {i : Nat} {o e w : Int} (hN : 100 < N) (he : e ≠ 0) : BI N (RB Lf i o e w) = some (RB Lf i o e w, zE) := by
 obtain ⟨k, rfl⟩ : ∃ k, N = k + 7 := ⟨N - 7, by omega⟩
 exact NT (by omega) he k
section
variable {β : Type} {fin : Aa -> Expr -> Expr -> Option β} {full : Bool} {at_ : Int}
theorem O1 {i : Nat} {o e w : Int} (he : e ≠ 0) (x : Expr) (jx : Int) (y : Expr) (jy : Int) : Fz4 N (RB Lf i o e w) full at_ x jx y jy fin = fin (RB Lf i o e w) x y := by
 unfold Fz4
 rw [Ko T he]
 have : (bif full then ((some (RB Lf i o e w)).bind fun r395 => some (r395.L, r395.At, r395.Open, r395.Bad, r395.Where)) else some ((RB Lf i o e w).L, (RB Lf i o e w).At, (RB Lf i o e w).Open, (RB Lf i o e w).Bad, (RB Lf i o e w).Where)) = some (Lf, (i : Int), o, e, w) := by cases full <;> rfl
 rw [this]
 simp only [Option.bind_some]
 rw [show (⟨Lf, (i : Int), o, e, w⟩ : Aa) = RB Lf i o e w from rfl, EV T he, Option.bind_some, EV T he, Option.bind_some]
theorem RH {i : Nat} (hi : i < n) {o e w : Int} (hN : 100 < N) (he : e ≠ 0) (x : Expr) (jx : Int) : Fz3 N (RB Lf i o e w) full at_ x jx fin = fin (RB Lf i o e w) x zE := by
 unfold Fz3
 rw [show ((idx (RB Lf i o e w).L (RB Lf i o e w).At).bind fun x315 => some x315.At) = _ from NJ T hi, Option.bind_some, MP T hN he, Option.bind_some]
 simp only
 rw [IQ T hi he, Option.bind_some, O1 T he]
theorem RI {i : Nat} (hi : i < n) {o e w : Int} (hN : 100 < N) (he : e ≠ 0) (x : Expr) (jx : Int) : Fz2 N (RB Lf i o e w) full at_ x jx fin = fin (RB Lf i o e w) x zE := by
 unfold Fz2
 rw [E1 T he, Option.bind_some, RH T hi hN he]
theorem UN {i : Nat} (hi : i < n) {o e w : Int} (hN : 100 < N) (he : e ≠ 0) : Fz1 N (RB Lf i o e w) full at_ fin = fin (RB Lf i o e w) zE zE := by
 unfold Fz1
 rw [show ((idx (RB Lf i o e w).L (RB Lf i o e w).At).bind fun x315 => some x315.At) = _ from NJ T hi, Option.bind_some, MP T hN he, Option.bind_some]
 simp only
 rw [RI T hi hN he]
end
section
variable {β : Type} {fin : Aa -> Expr -> Option β} {full : Bool} {at_ : Int}
theorem O0 {i : Nat} (hi : i < n) {o e w : Int} (he : e ≠ 0) (x : Expr) (jx : Int) : Pz2 N (RB Lf i o e w) full at_ x jx fin = fin (RB Lf i o e w) x := by
 unfold Pz2
 rw [IQ T hi he, Option.bind_some, Ko T he]
 have : (bif full then ((some (RB Lf i o e w)).bind fun r395 => some (r395.L, r395.At, r395.Open, r395.Bad, r395.Where)) else some ((RB Lf i o e w).L, (RB Lf i o e w).At, (RB Lf i o e w).Open, (RB Lf i o e w).Bad, (RB Lf i o e w).Where)) = some (Lf, (i : Int), o, e, w) := by cases full <;> rfl
 rw [this]
 simp only [Option.bind_some]
 rw [show (⟨Lf, (i : Int), o, e, w⟩ : Aa) = RB Lf i o e w from rfl, EV T he, Option.bind_some]
theorem UM {i : Nat} (hi : i < n) {o e w : Int} (hN : 100 < N) (he : e ≠ 0) : Pz1 N (RB Lf i o e w) full at_ fin = fin (RB Lf i o e w) zE := by
 unfold Pz1
 rw [show ((idx (RB Lf i o e w).L (RB Lf i o e w).At).bind fun x315 => some x315.At) = _ from NJ T hi, Option.bind_some, MP T hN he, Option.bind_some]
 simp only
 rw [O0 T hi he]
end
end
def DP (N : Nat) (x0 : W4) (r29 : (List Ae)) : (List Ae × Int × Int × Int × Int × List Clause × List Clause × List Clause × List Expr) -> Option (Be (AM × Int × Int) (List Ae × Int × Int × Int × Int × List Clause × List Clause × List Clause × List Expr)) := fun s56 =>
 ((bif (s56.2.2.2.1 == 0) then ((idx s56.1 s56.2.1).bind fun x94 => some (x94.Kind != 5)) else some false).bind fun j83 => (bif j83 then (((idx s56.1 s56.2.1).bind fun x124 => some (x124.Kind == 4)).bind fun j116 => (bif j116 then some (.next (s56.1, (W64 (s56.2.1 + 1)), s56.2.2.1, s56.2.2.2.1, s56.2.2.2.2.1, s56.2.2.2.2.2.1, s56.2.2.2.2.2.2.1, s56.2.2.2.2.2.2.2.1, s56.2.2.2.2.2.2.2.2)) else ((DH N ({ L := s56.1, At := s56.2.1, Open := s56.2.2.1, Bad := s56.2.2.2.1, Where := s56.2.2.2.2.1 } : Aa) ({ Points := s56.2.2.2.2.2.1, Multipliers := s56.2.2.2.2.2.2.1, Penalties := s56.2.2.2.2.2.2.2.1, Repeats := s56.2.2.2.2.2.2.2.2 } : AM)).bind fun r145 => some (.next (r145.1.L, r145.1.At, r145.1.Open, r145.1.Bad, r145.1.Where, r145.2.Points, r145.2.Multipliers, r145.2.Penalties, r145.2.Repeats))))) else some (.done (s56.1, s56.2.1, s56.2.2.1, s56.2.2.2.1, s56.2.2.2.2.1, s56.2.2.2.2.2.1, s56.2.2.2.2.2.2.1, s56.2.2.2.2.2.2.2.1, s56.2.2.2.2.2.2.2.2))))
def KZ (N : Nat) (x0 : W4) : Option (AM × Int × Int) :=
 (bif (decide ((x0.length : Int) > 65536)) then some (({ Points := ([] : List Clause), Multipliers := ([] : List Clause), Penalties := ([] : List Clause), Repeats := ([] : List Expr) } : AM), 2, 0) else ((FN N x0).bind fun r29 => ((AL (DP N x0 r29) N (r29, 0, 0, 0, 0, ([] : List Clause), ([] : List Clause), ([] : List Clause), ([] : List Expr))).bind fun o => o.k (fun r => some r) (fun s64 => (bif (s64.2.2.2.1 != 0) then some (({ Points := ([] : List Clause), Multipliers := ([] : List Clause), Penalties := ([] : List Clause), Repeats := ([] : List Expr) } : AM), s64.2.2.2.1, s64.2.2.2.2.1) else some (({ Points := s64.2.2.2.2.2.1, Multipliers := s64.2.2.2.2.2.2.1, Penalties := s64.2.2.2.2.2.2.2.1, Repeats := s64.2.2.2.2.2.2.2.2 } : AM), 0, 0))))))
def CY (N : Nat) (x0 : (List Clause)) (x1 : (List Clause)) : Int -> Option (Be Bool Int) := fun s27 =>
 (bif (decide (s27 < (x0.length : Int))) then (((idx x0 s27).bind fun x62 => ((idx x1 s27).bind fun x76 => ((Ds N x62.When x76.When).bind fun r90 => (bif (!r90) then some true else ((idx x0 s27).bind fun x101 => ((idx x1 s27).bind fun x107 => ((Ds N x101.Then x107.Then).bind fun r113 => some (!r113)))))))).bind fun j54 => (bif j54 then some (.ret false) else some (.next (W64 (s27 + 1))))) else some (.done s27))
def Cx (N : Nat) (x0 : (List Clause)) (x1 : (List Clause)) : Option Bool :=
 (bif ((x0.length : Int) != (x1.length : Int)) then some false else ((AL (CY N x0 x1) N 0).bind fun o => o.k (fun r => some r) (fun s35 => some true)))
theorem DV : As Tryz.prog 84 := fun _ _ => by kernel_rfl
theorem D9 (N : Nat) (w0 : World) (F0 : Mem) (hF : W6 w0 F0) (x0 : (List Clause)) (a0_0 : W5) (n0_0 : Nat) (hb0_0 : LC x0.length n0_0) (hs0_0 : SlA Av F0 a0_0 x0) (x1 : (List Clause)) (a1_0 : W5) (n1_0 : Nat) (hb1_0 : LC x1.length n1_0) (hs1_0 : SlA Av F0 a1_0 x1) (r : Bool) (h : Cx N x0 x1 = some r) :
  Calls Tryz.prog 84 ([(.slice a0_0 x0.length n0_0), (.slice a1_0 x1.length n1_0)] : List Value).toArray w0 (Bh w0 F0 fun F' v => v = (.bool r)) := by
 have hs0 := WK hF
 refine Go 43 Tryz.func84 ?_
 refine Sq (Rg [0] ?_)
 refine Vs 1 ?_
 refine Nss ?_
 refine Sq (Rg [0, 1, 2, 3, 4] ?_)
 refine Vs 5 ?_
 refine Nt ?_
 refine Cd h (fun hb21 h22 => ?_) (fun hb21 h23 => ?_)
 ·refine Sq (Rg [0] ?_)
  refine Vs 1 ?_
  refine Nt ?_
  refine Rt ?_
  refine Aj ?_
  obtain rfl := Ac h22
  exact Re [(.bool false)] hs0 rfl
 ·refine Sc ?_
  refine Ad ?_
  refine Sq ?_
  refine Sq (Rg [0] ?_)
  refine Vs 1 ?_
  refine Nt ?_
  obtain ⟨o24, ho25, h26⟩ := bind_some h23
  refine WP (fun f w => ∃ (s35 : Int) (F2 : Mem), o24 = .done s35 /\ HS w0 F0 w F2 [] /\ WI F0 F2 /\ FI f [] []) ?_ ?_
  ·refine Bk ?_
   refine WH (by kernel_rfl) (fun m f w => ∃ (s27 : Int) (F1 : Mem), AL (CY N x0 x1) m s27 = some o24 /\ HS w0 F0 w F1 [] /\ WI F0 F1 /\ FI f [] [(0, (.slice a0_0 x0.length n0_0)), (1, (.slice a1_0 x1.length n1_0)), (5, (vi s27))]) N ⟨0, F0, ho25, hs0, (WJ _), fI⟩ ?_
   rintro m40 f w28 ⟨s27, F1, hit41, hs29, le30, ⟨_, rfl⟩⟩
   obtain ⟨m42, fl43, rfl, hb44, hnx45⟩ := Bn hit41
   refine Sq ?_
   refine Sq (Rg [0, 1, 2, 3] ?_)
   refine Vs 4 ?_
   refine Nt ?_
   refine Cd hb44 (fun hb46 h47 => ?_) (fun hb46 h48 => ?_)
   ·refine Sc ?_
    refine Ad ?_
    refine Sq ?_
    refine Bk ?_
    refine Sq ?_
    obtain ⟨j54, hj60, h61⟩ := bind_some h47
    refine RD 26 26 [] [] hs29 (fun f w => ∃ (F3 : Mem), HS w0 F0 w F3 [] /\ WI F1 F3 /\ FI f [] [(0, (.slice a0_0 x0.length n0_0)), (1, (.slice a1_0 x1.length n1_0)), (5, (vi s27)), (42, (.bool j54))]) (fun wd49 hw50 => ?_) ?_
    ·refine Dvl [0, 1] [tt, tt, ff, ff, ff, ff, ff, ff, ff, ff, ff, ff, ff, ff, ff, ff, ff, ff, ff, ff, ff, ff, ff, ff, ff, ff] ?_
     obtain ⟨x62, hx63, h65⟩ := bind_some hj60
     obtain ⟨hi64, hx63'⟩ := Ay hx63
     obtain ⟨b66, o67, C68, E69, fz70, rfl, hF72, hE73⟩ := WT (WL hs0_0 le30) hx63'
     obtain ⟨ae74_2, ne74_2, ae74_5, ne74_5, hc75, hbe74_2, hse74_2, hbe74_5, hse74_5⟩ := hE73 _ _ hx63'
     refine Di 2 hi64 ?_
     refine Dvl [3] [tt, tt, tt, tt, ff, ff, ff, ff, ff, ff, ff, ff, ff, ff, ff, ff, ff, ff, ff, ff, ff, ff, ff, ff, ff, ff] ?_
     refine Dx 4 0 (fun _ hq => hq.1.1 _ _ hF72) hc75 ?_
     refine Dvl [5, 6] [tt, tt, tt, tt, tt, tt, tt, ff, ff, ff, ff, ff, ff, ff, ff, ff, ff, ff, ff, ff, ff, ff, ff, ff, ff, ff] ?_
     obtain ⟨x76, hx77, h79⟩ := bind_some h65
     obtain ⟨hi78, hx77'⟩ := Ay hx77
     obtain ⟨b80, o81, C82, E83, fz84, rfl, hF86, hE87⟩ := WT (WL hs1_0 le30) hx77'
     obtain ⟨ae88_2, ne88_2, ae88_5, ne88_5, hc89, hbe88_2, hse88_2, hbe88_5, hse88_5⟩ := hE87 _ _ hx77'
     refine Di 7 hi78 ?_
     refine Dvl [8] [tt, tt, tt, tt, tt, tt, tt, tt, tt, ff, ff, ff, ff, ff, ff, ff, ff, ff, ff, ff, ff, ff, ff, ff, ff, ff] ?_
     refine Dx 9 0 (fun _ hq => hq.1.1 _ _ hF86) hc89 ?_
     refine D1 10 ?_
     obtain ⟨r90, hr91, h92⟩ := bind_some h79
     refine DCl Dp hw50 (Ei N wd49 F1 hw50.pers x62.When ae74_2 ne74_2 hbe74_2 hse74_2 x76.When ae88_2 ne88_2 hbe88_2 hse88_2 _ hr91) ?_
     rintro _ F4 w94 hs95 le96 rfl
     refine Dvl [11, 12] [tt, tt, tt, tt, tt, tt, tt, tt, tt, tt, tt, tt, tt, ff, ff, ff, ff, ff, ff, ff, ff, ff, ff, ff, ff, ff] ?_
     refine Sd h92 (fun hb98 h99 => ?_) (fun hb98 h100 => ?_)
     ·refine Dkl [(13, 30), (14, 31), (15, 32), (16, 33), (17, 34), (18, 35)] 12 false 29 hb98 [tt, tt, tt, tt, tt, tt, tt, tt, tt, tt, tt, tt, tt, tt, tt, tt, tt, tt, tt, ff, ff, ff, ff, ff, ff, ff] ?_
      refine Dkl [(19, 36), (20, 37), (21, 38), (22, 39), (23, 40), (24, 41)] 12 false 29 hb98 [tt, tt, tt, tt, tt, tt, tt, tt, tt, tt, tt, tt, tt, tt, tt, tt, tt, tt, tt, tt, tt, tt, tt, tt, tt, ff] ?_
      refine Dtl 25 42 4 _ [tt, tt, tt, tt, tt, tt, tt, tt, tt, tt, tt, tt, tt, tt, tt, tt, tt, tt, tt, tt, tt, tt, tt, tt, tt, tt] (fun _ hq => p1 29 (.const (.bool true)) (.tmp 41) (.bool true) hb98) ?_
      obtain rfl := Ac h99
      exact WY (by kernel_rfl) ⟨F4, hs95, le96, fI⟩
     ·refine Dgl 13 30 23 _ [tt, tt, tt, tt, tt, tt, tt, tt, tt, tt, tt, tt, tt, tt, ff, ff, ff, ff, ff, ff, ff, ff, ff, ff, ff, ff] 12 false 29 hb98 (fun _ hq => mv 0 (.slice (some ⟨b66, o67, none⟩) x0.length n0_0)) ?_
      refine Dgl 14 31 3 _ [tt, tt, tt, tt, tt, tt, tt, tt, tt, tt, tt, tt, tt, tt, tt, ff, ff, ff, ff, ff, ff, ff, ff, ff, ff, ff] 12 false 29 hb98 (fun _ hq => mv 5 (vi s27)) ?_
      obtain ⟨x101, hx102, h104⟩ := bind_some h100
      obtain ⟨hi103, hx102'⟩ := Ay hx102
      obtain ⟨ae105_2, ne105_2, ae105_5, ne105_5, hc106, hbe105_2, hse105_2, hbe105_5, hse105_5⟩ := hE73 _ _ hx102'
      refine Dgl 15 32 0 (.pointer (some ⟨b66, (o67 + (s27 : Int).toNat * 6), none⟩)) [tt, tt, tt, tt, tt, tt, tt, tt, tt, tt, tt, tt, tt, tt, tt, tt, ff, ff, ff, ff, ff, ff, ff, ff, ff, ff] 12 false 29 hb98 (fun _ hq => ix 23 30 31 b66 o67 56 6 80 hi103) ?_
      refine Dgl 16 33 0 (.pointer (some ⟨b66, ((o67 + (s27 : Int).toNat * 6) + 3), none⟩)) [tt, tt, tt, tt, tt, tt, tt, tt, tt, tt, tt, tt, tt, tt, tt, tt, tt, ff, ff, ff, ff, ff, ff, ff, ff, ff] 12 false 29 hb98 (fun _ hq => fa 56 32 1 3 3 b66 (o67 + (s27 : Int).toNat * 6) ((o67 + (s27 : Int).toNat * 6) + 3)) ?_
      refine Dgl 17 34 33 _ [tt, tt, tt, tt, tt, tt, tt, tt, tt, tt, tt, tt, tt, tt, tt, tt, tt, tt, ff, ff, ff, ff, ff, ff, ff, ff] 12 false 29 hb98 (fun _ hq => lx 33 33 3 6 true 3 (.agg (Ak x101.Then ae105_5 ne105_5)) (hq.1.1 _ _ hF72) hc106) ?_
      refine Dgl 18 35 23 _ [tt, tt, tt, tt, tt, tt, tt, tt, tt, tt, tt, tt, tt, tt, tt, tt, tt, tt, tt, ff, ff, ff, ff, ff, ff, ff] 12 false 29 hb98 (fun _ hq => mv 1 (.slice (some ⟨b80, o81, none⟩) x1.length n1_0)) ?_
      refine Dgl 19 36 3 _ [tt, tt, tt, tt, tt, tt, tt, tt, tt, tt, tt, tt, tt, tt, tt, tt, tt, tt, tt, tt, ff, ff, ff, ff, ff, ff] 12 false 29 hb98 (fun _ hq => mv 5 (vi s27)) ?_
      obtain ⟨x107, hx108, h110⟩ := bind_some h104
      obtain ⟨hi109, hx108'⟩ := Ay hx108
      obtain ⟨ae111_2, ne111_2, ae111_5, ne111_5, hc112, hbe111_2, hse111_2, hbe111_5, hse111_5⟩ := hE87 _ _ hx108'
      refine Dgl 20 37 0 (.pointer (some ⟨b80, (o81 + (s27 : Int).toNat * 6), none⟩)) [tt, tt, tt, tt, tt, tt, tt, tt, tt, tt, tt, tt, tt, tt, tt, tt, tt, tt, tt, tt, tt, ff, ff, ff, ff, ff] 12 false 29 hb98 (fun _ hq => ix 23 35 36 b80 o81 56 6 80 hi109) ?_
      refine Dgl 21 38 0 (.pointer (some ⟨b80, ((o81 + (s27 : Int).toNat * 6) + 3), none⟩)) [tt, tt, tt, tt, tt, tt, tt, tt, tt, tt, tt, tt, tt, tt, tt, tt, tt, tt, tt, tt, tt, tt, ff, ff, ff, ff] 12 false 29 hb98 (fun _ hq => fa 56 37 1 3 3 b80 (o81 + (s27 : Int).toNat * 6) ((o81 + (s27 : Int).toNat * 6) + 3)) ?_
      refine Dgl 22 39 33 _ [tt, tt, tt, tt, tt, tt, tt, tt, tt, tt, tt, tt, tt, tt, tt, tt, tt, tt, tt, tt, tt, tt, tt, ff, ff, ff] 12 false 29 hb98 (fun _ hq => lx 33 38 3 6 true 3 (.agg (Ak x107.Then ae111_5 ne111_5)) (hq.1.1 _ _ hF86) hc112) ?_
      refine D1 23 ?_
      obtain ⟨r113, hr114, h115⟩ := bind_some h110
      refine AG.call (l' := [true, true, true, true, true, true, true, true, true, true, true, true, true, true, true, true, true, true, true, true, true, true, true, true, false, false]) (zd := true) (by kernel_rfl) (by kernel_rfl) (by kernel_rfl) (dst := (some 40)) (ty := 4) (g := (some (12, false))) (by kernel_rfl) (MN (d := 29) (by kernel_rfl) rfl hb98) (f0 := (.func 27)) (aos := #[(.tmp 34), (.tmp 39)]) (ats := #[33, 33]) (fid := 27) (first := #[]) (cap := #[]) (args := [(.agg (Ak x101.Then ae105_5 ne105_5)), (.agg (Ak x107.Then ae111_5 ne111_5))]) rfl Dp rfl hs95 (Ei N w94 F4 hs95.pers x101.Then ae105_5 ne105_5 hbe105_5 (WL hse105_5 le96) x107.Then ae111_5 ne111_5 hbe111_5 (WL hse111_5 le96) _ hr114) ?_
      rintro _ F5 w117 hs118 le119 rfl
      refine Dgl 24 41 4 (.bool (!r113)) [tt, tt, tt, tt, tt, tt, tt, tt, tt, tt, tt, tt, tt, tt, tt, tt, tt, tt, tt, tt, tt, tt, tt, tt, tt, ff] 12 false 29 hb98 (fun _ hq => II (t := 4) (x := (.tmp 40)) (a := r113) rfl) ?_
      refine Dtl 25 42 4 _ [tt, tt, tt, tt, tt, tt, tt, tt, tt, tt, tt, tt, tt, tt, tt, tt, tt, tt, tt, tt, tt, tt, tt, tt, tt, tt] (fun _ hq => p0 29 (.const (.bool true)) (.tmp 41) (.bool (!r113)) hb98) ?_
      obtain rfl := Ac h115
      exact WY (by kernel_rfl) ⟨F5, hs118, (le96.trans le119), fI⟩
    ·rintro f w51 ⟨F3, hs52, le53, ⟨_, rfl⟩⟩
     refine Ad ?_
     refine Cd h61 (fun hb121 h122 => ?_) (fun hb121 h123 => ?_)
     ·refine Sq (Rg [0] ?_)
      refine Vs 1 ?_
      refine Nt ?_
      refine Rt ?_
      refine An ?_
      refine Aj ?_
      refine Aj ?_
      refine An ?_
      have hret := C4 h122 hnx45
      subst hret
      refine .inr ?_
      refine Aj ?_
      obtain rfl := Ac h26
      exact Re [(.bool false)] hs52 rfl
     ·refine Sc ?_
      refine AB ?_
      refine Ad ?_
      refine Rg [0, 1, 2] ?_
      refine Vs 3 ?_
      refine WE ?_
      have hn124 := Bi h123 hnx45
      exact ⟨m42, Nat.lt_succ_self _, (W64 (s27 + 1)), F3, hn124, hs52, (le30.trans le53), fI⟩
   ·refine Ex ?_
    refine AJ ?_
    refine AJ ?_
    refine Bb rfl ?_
    have ho125 := Bt h48 hnx45
    exact .inl ⟨rfl, s27, F1, ho125, hs29, le30, fI⟩
  ·rintro f w36 ⟨s35, F2, rfl, hs37, le38, ⟨_, rfl⟩⟩
   have h126 := CK h26
   refine Ad ?_
   refine Sq (Rg [0] ?_)
   refine Vs 1 ?_
   refine Nt ?_
   refine Rt ?_
   obtain rfl := Ac h126
   exact Re [(.bool true)] hs37 rfl
def Dw (N : Nat) (x0 : AM) (x1 : AM) (j30 : Bool) : Int -> Option (Be Bool Int) := fun s76 =>
 (bif (decide (s76 < (x0.Repeats.length : Int))) then (((idx x0.Repeats s76).bind fun x111 => ((idx x1.Repeats s76).bind fun x125 => ((Ds N x111 x125).bind fun r139 => some (!r139)))).bind fun j103 => (bif j103 then some (.ret false) else some (.next (W64 (s76 + 1))))) else some (.done s76))
def BO (N : Nat) (x0 : AM) (x1 : AM) : Option Bool :=
 (((Cx N x0.Points x1.Points).bind fun r37 => (bif (!r37) then some true else ((Cx N x0.Multipliers x1.Multipliers).bind fun r48 => (bif (!r48) then some true else ((Cx N x0.Penalties x1.Penalties).bind fun r59 => (bif (!r59) then some true else some ((x0.Repeats.length : Int) != (x1.Repeats.length : Int)))))))).bind fun j30 => (bif j30 then some false else ((AL (Dw N x0 x1 j30) N 0).bind fun o => o.k (fun r => some r) (fun s84 => some true))))
theorem CS : As Tryz.prog 24 := fun _ _ => by kernel_rfl
theorem C7 (N : Nat) (w0 : World) (F0 : Mem) (hF : W6 w0 F0) (x0 : AM) (a0_0 : W5) (n0_0 : Nat) (hb0_0 : LC x0.Points.length n0_0) (hs0_0 : SlA Av F0 a0_0 x0.Points) (a0_1 : W5) (n0_1 : Nat) (hb0_1 : LC x0.Multipliers.length n0_1) (hs0_1 : SlA Av F0 a0_1 x0.Multipliers) (a0_2 : W5) (n0_2 : Nat) (hb0_2 : LC x0.Penalties.length n0_2) (hs0_2 : SlA Av F0 a0_2 x0.Penalties) (a0_3 : W5) (n0_3 : Nat) (hb0_3 : LC x0.Repeats.length n0_3) (hs0_3 : SlA Au F0 a0_3 x0.Repeats) (x1 : AM) (a1_0 : W5) (n1_0 : Nat) (hb1_0 : LC x1.Points.length n1_0) (hs1_0 : SlA Av F0 a1_0 x1.Points) (a1_1 : W5) (n1_1 : Nat) (hb1_1 : LC x1.Multipliers.length n1_1) (hs1_1 : SlA Av F0 a1_1 x1.Multipliers) (a1_2 : W5) (n1_2 : Nat) (hb1_2 : LC x1.Penalties.length n1_2) (hs1_2 : SlA Av F0 a1_2 x1.Penalties) (a1_3 : W5) (n1_3 : Nat) (hb1_3 : LC x1.Repeats.length n1_3) (hs1_3 : SlA Au F0 a1_3 x1.Repeats) (r : Bool) (h : BO N x0 x1 = some r) :
  Calls Tryz.prog 24 ([(.agg (AP x0 a0_0 n0_0 a0_1 n0_1 a0_2 n0_2 a0_3 n0_3)), (.agg (AP x1 a1_0 n1_0 a1_1 n1_1 a1_2 n1_2 a1_3 n1_3))] : List Value).toArray w0 (Bh w0 F0 fun F' v => v = (.bool r)) := by
 have hs0 := WK hF
 refine Go 56 Tryz.func24 ?_
 refine Sq (Rg [0, 1, 2] ?_)
 refine Bx' 26 (AP x0 a0_0 n0_0 a0_1 n0_1 a0_2 n0_2 a0_3 n0_3) hs0 (fun b21 w22 hs23 => ?_)
 refine Bx' 26 (AP x1 a1_0 n1_0 a1_1 n1_1 a1_2 n1_2 a1_3 n1_3) hs23 (fun b24 w25 hs26 => ?_)
 refine Vs 1 ?_
 refine Nss ?_
 refine Sq (Rg [0, 1, 2, 3, 4, 5, 6, 7, 8, 9, 10, 11, 12, 13, 14, 15, 16, 17, 18, 19, 20, 21, 22, 23, 24, 25, 26, 27, 28, 29, 30] ?_)
 obtain ⟨j30, hj35, h36⟩ := bind_some h
 refine WO (fun f w => ∃ (F1 : Mem), HS w0 F0 w F1 [(sb b24 (AP x1 a1_0 n1_0 a1_1 n1_1 a1_2 n1_2 a1_3 n1_3) 26), (sb b21 (AP x0 a0_0 n0_0 a0_1 n0_1 a0_2 n0_2 a0_3 n0_3) 26)] /\ WI F0 F1 /\ FI f [] [(2, (pt b21 0)), (3, (pt b24 0)), (36, (.bool j30))]) ?_ ?_
 ·refine Vs 1 ?_
  refine Ld hs26.at1 ?_
  refine Vs 1 ?_
  refine Ld hs26.at0 ?_
  obtain ⟨r37, hr38, h39⟩ := bind_some hj35
  refine Cl' DV hs26 (D9 N w25 F0 hs26.pers x0.Points a0_0 n0_0 hb0_0 hs0_0 x1.Points a1_0 n1_0 hb1_0 hs1_0 _ hr38) ?_
  rintro _ F2 w41 hs42 le43 rfl
  refine Vs 2 ?_
  refine Sp h39 (fun hb45 h46 => ?_) (fun hb45 h47 => ?_)
  ·refine Ss hb45 6 ?_
   refine Pk1 hb45 ?_
   refine Vs 1 ?_
   refine Ss (rfl : true = true) 6 ?_
   refine Pk1 (rfl : true = true) ?_
   refine Vs 1 ?_
   refine Ss (rfl : true = true) 7 ?_
   refine Pk1 (rfl : true = true) ?_
   obtain rfl := Ac h46
   exact WE ⟨rfl, F2, hs42, le43, fI⟩
  ·refine Vgs hb45 1 ?_
   refine Lg hb45 hs42.at1 ?_
   refine Vgs hb45 1 ?_
   refine Lg hb45 hs42.at0 ?_
   obtain ⟨r48, hr49, h50⟩ := bind_some h47
   refine Cg hb45 DV hs42 (D9 N w41 F2 hs42.pers x0.Multipliers a0_1 n0_1 hb0_1 (WL hs0_1 le43) x1.Multipliers a1_1 n1_1 hb1_1 (WL hs1_1 le43) _ hr49) ?_
   rintro _ F3 w52 hs53 le54 rfl
   refine Vgs hb45 1 ?_
   refine Pk0 hb45 ?_
   refine Vs 1 ?_
   refine Sp h50 (fun hb56 h57 => ?_) (fun hb56 h58 => ?_)
   ·refine Ss hb56 6 ?_
    refine Pk1 hb56 ?_
    refine Vs 1 ?_
    refine Ss (rfl : true = true) 7 ?_
    refine Pk1 (rfl : true = true) ?_
    obtain rfl := Ac h57
    exact WE ⟨rfl, F3, hs53, (le43.trans le54), fI⟩
   ·refine Vgs hb56 1 ?_
    refine Lg hb56 hs53.at1 ?_
    refine Vgs hb56 1 ?_
    refine Lg hb56 hs53.at0 ?_
    obtain ⟨r59, hr60, h61⟩ := bind_some h58
    refine Cg hb56 DV hs53 (D9 N w52 F3 hs53.pers x0.Penalties a0_2 n0_2 hb0_2 (WL hs0_2 (le43.trans le54)) x1.Penalties a1_2 n1_2 hb1_2 (WL hs1_2 (le43.trans le54)) _ hr60) ?_
    rintro _ F4 w63 hs64 le65 rfl
    refine Vgs hb56 1 ?_
    refine Pk0 hb56 ?_
    refine Vs 1 ?_
    refine Sp h61 (fun hb67 h68 => ?_) (fun hb67 h69 => ?_)
    ·refine Ss hb67 7 ?_
     refine Pk1 hb67 ?_
     obtain rfl := Ac h68
     exact WE ⟨rfl, F4, hs64, ((le43.trans le54).trans le65), fI⟩
    ·refine Vgs hb67 1 ?_
     refine Lg hb67 hs64.at1 ?_
     refine Vgs hb67 2 ?_
     refine Lg hb67 hs64.at0 ?_
     refine Vgs hb67 2 ?_
     refine Pk0 hb67 ?_
     obtain rfl := Ac h69
     exact WE ⟨rfl, F4, hs64, ((le43.trans le54).trans le65), fI⟩
 ·rintro f w27 ⟨F1, hs28, le29, ⟨_, rfl⟩⟩
  refine Ad ?_
  refine Cd h36 (fun hb70 h71 => ?_) (fun hb70 h72 => ?_)
  ·refine Sq (Rg [0] ?_)
   refine Vs 1 ?_
   refine Nt ?_
   refine Rt ?_
   refine Aj ?_
   obtain rfl := Ac h71
   exact Re [(.bool false)] hs28 rfl
  ·refine Sc ?_
   refine Ad ?_
   refine Sq ?_
   refine Sq (Rg [0] ?_)
   refine Vs 1 ?_
   refine Nt ?_
   obtain ⟨o73, ho74, h75⟩ := bind_some h72
   refine WP (fun f w => ∃ (s84 : Int) (F6 : Mem), o73 = .done s84 /\ HS w0 F0 w F6 [] /\ WI F1 F6 /\ FI f [] []) ?_ ?_
   ·refine Bk ?_
    refine WH (by kernel_rfl) (fun m f w => ∃ (s76 : Int) (F5 : Mem), AL (Dw N x0 x1 j30) m s76 = some o73 /\ HS w0 F0 w F5 [(sb b24 (AP x1 a1_0 n1_0 a1_1 n1_1 a1_2 n1_2 a1_3 n1_3) 26), (sb b21 (AP x0 a0_0 n0_0 a0_1 n0_1 a0_2 n0_2 a0_3 n0_3) 26)] /\ WI F1 F5 /\ FI f [] [(2, (pt b21 0)), (3, (pt b24 0)), (5, (vi s76))]) N ⟨0, F1, ho74, hs28, (WJ _), fI⟩ ?_
    rintro m89 f w77 ⟨s76, F5, hit90, hs78, le79, ⟨_, rfl⟩⟩
    obtain ⟨m91, fl92, rfl, hb93, hnx94⟩ := Bn hit90
    refine Sq ?_
    refine Sq (Rg [0, 1, 2, 3, 4] ?_)
    refine Vs 2 ?_
    refine Ld hs78.at1 ?_
    refine Vs 2 ?_
    refine Nt ?_
    refine Cd hb93 (fun hb95 h96 => ?_) (fun hb95 h97 => ?_)
    ·refine Sc ?_
     refine Ad ?_
     refine Sq ?_
     refine Bk ?_
     refine Sq ?_
     obtain ⟨j103, hj109, h110⟩ := bind_some h96
     refine RD 12 12 [(sb b24 (AP x1 a1_0 n1_0 a1_1 n1_1 a1_2 n1_2 a1_3 n1_3) 26), (sb b21 (AP x0 a0_0 n0_0 a0_1 n0_1 a0_2 n0_2 a0_3 n0_3) 26)] [] hs78 (fun f w => ∃ (F7 : Mem), HS w0 F0 w F7 [(sb b24 (AP x1 a1_0 n1_0 a1_1 n1_1 a1_2 n1_2 a1_3 n1_3) 26), (sb b21 (AP x0 a0_0 n0_0 a0_1 n0_1 a0_2 n0_2 a0_3 n0_3) 26)] /\ WI F5 F7 /\ FI f [] [(2, (pt b21 0)), (3, (pt b24 0)), (5, (vi s76)), (55, (.bool j103))]) (fun wd98 hw99 => ?_) ?_
     ·refine Dv [0] ?_
      refine Dl 1 (fun _ hq => (hq.1.2 1 _ _ rfl)) ?_
      refine Dv [2] ?_
      obtain ⟨x111, hx112, h114⟩ := bind_some hj109
      obtain ⟨hi113, hx112'⟩ := Ay hx112
      obtain ⟨b115, o116, C117, E118, fz119, rfl, hF121, hE122⟩ := WT (WL hs0_3 (le29.trans le79)) hx112'
      obtain ⟨ae123_2, ne123_2, hc124, hbe123_2, hse123_2⟩ := (AZ (hE122 _ _ hx112'))
      refine Di 3 hi113 ?_
      refine Dx 4 0 (fun _ hq => hq.1.1 _ _ hF121) hc124 ?_
      refine Dv [5] ?_
      refine Dl 6 (fun _ hq => (hq.1.2 0 _ _ rfl)) ?_
      refine Dv [7] ?_
      obtain ⟨x125, hx126, h128⟩ := bind_some h114
      obtain ⟨hi127, hx126'⟩ := Ay hx126
      obtain ⟨b129, o130, C131, E132, fz133, rfl, hF135, hE136⟩ := WT (WL hs1_3 (le29.trans le79)) hx126'
      obtain ⟨ae137_2, ne137_2, hc138, hbe137_2, hse137_2⟩ := (AZ (hE136 _ _ hx126'))
      refine Di 8 hi127 ?_
      refine Dx 9 0 (fun _ hq => hq.1.1 _ _ hF135) hc138 ?_
      refine D1 10 ?_
      obtain ⟨r139, hr140, h141⟩ := bind_some h128
      refine DCl Dp hw99 (Ei N wd98 F5 hw99.pers x111 ae123_2 ne123_2 hbe123_2 hse123_2 x125 ae137_2 ne137_2 hbe137_2 hse137_2 _ hr140) ?_
      rintro _ F8 w143 hs144 le145 rfl
      refine Dv [11] ?_
      obtain rfl := Ac h141
      exact WY (by kernel_rfl) ⟨F8, hs144, le145, fI⟩
     ·rintro f w100 ⟨F7, hs101, le102, ⟨_, rfl⟩⟩
      refine Ad ?_
      refine Cd h110 (fun hb147 h148 => ?_) (fun hb147 h149 => ?_)
      ·refine Sq (Rg [0] ?_)
       refine Vs 1 ?_
       refine Nt ?_
       refine Rt ?_
       refine An ?_
       refine Aj ?_
       refine Aj ?_
       refine An ?_
       have hret := C4 h148 hnx94
       subst hret
       refine .inr ?_
       refine Aj ?_
       obtain rfl := Ac h75
       exact Re [(.bool false)] hs101 rfl
      ·refine Sc ?_
       refine AB ?_
       refine Ad ?_
       refine Rg [0, 1, 2] ?_
       refine Vs 3 ?_
       refine WE ?_
       have hn150 := Bi h149 hnx94
       exact ⟨m91, Nat.lt_succ_self _, (W64 (s76 + 1)), F7, hn150, hs101, (le79.trans le102), fI⟩
    ·refine Ex ?_
     refine AJ ?_
     refine AJ ?_
     refine Bb rfl ?_
     have ho151 := Bt h97 hnx94
     exact .inl ⟨rfl, s76, F5, ho151, hs78.dr0.dr0, le79, fI⟩
   ·rintro f w85 ⟨s84, F6, rfl, hs86, le87, ⟨_, rfl⟩⟩
    have h152 := CK h75
    refine Ad ?_
    refine Sq (Rg [0] ?_)
    refine Vs 1 ?_
    refine Nt ?_
    refine Rt ?_
    obtain rfl := Ac h152
    exact Re [(.bool true)] hs86 rfl

section
variable {N n : Nat} {Lr : List Ah} {Lf : List Ae} (T : Gw n Lr Lf)
include T
theorem HX (hN : 10 * n + 1000 <= N) {i : Nat} (hi : i < n) :
  (∃ j x, i < j /\ j < n /\ Fit N x /\ AD N (PS Lr i 0) = some (.inr (PS Lr j 0, ⟨x, atI Lf i⟩)) /\ BI N (RS Lf i 0) = some (RS Lf j 0, x)) \/
  (∃ e w j o' x, e ≠ 0 /\ j < n /\ AD N (PS Lr i 0) = some (.inl ⟨e, w⟩) /\ BI N (RS Lf i 0) = some (RB Lf j o' e w, x)) := by
 obtain ⟨p, r, p1, r1, h⟩ := NQ T hN hi (o := 0) (by omega) (by omega)
 obtain ⟨a, b, ha, hb, hc, hd, _, hat⟩ := T.hd hi
 unfold AD
 rw [show (PS Lr i 0).l_ = Lr.drop i from rfl, hc, p1, r1]
 simp only [Option.bind_some]
 cases h with
 | err e w j o' x he hj => exact .inr ⟨e, w, j, o', x, he, hj, rfl, rfl⟩
 | ok j x h1 h2 hx =>
  refine .inl ⟨j, x, h1, h2, UU hx (by omega), ?_, rfl⟩
  rw [hat]; unfold atI; rw [hb]; rfl
theorem KA {i j : Nat} {x : Expr} {q : Ab} (hf : Fit N x) (at_ t : Int) :
  (AE N q ⟨x, at_⟩ t = some (.inr ()) /\ A1 N (RS Lf i 0) x at_ t = some (RS Lf i 0)) \/
  (∃ e, e ≠ 0 /\ AE N q ⟨x, at_⟩ t = some (.inl ⟨e, at_⟩) /\ A1 N (RS Lf i 0) x at_ t = some (RB Lf i 0 e at_)) := by
 rcases Hx T (N := N) (i := i) (o := 0) (q := q) hf at_ t with ⟨_, c1, c2⟩ | ⟨_, _, c1, c2⟩ | ⟨_, _, _, c1, c2⟩
 ·exact .inr ⟨2, by decide, c1, c2⟩
 ·exact .inr ⟨61, by decide, c1, c2⟩
 ·exact .inl ⟨c1, c2⟩
theorem Is {β : Type} (hN : 10 * n + 1000 <= N) {i : Nat} (hi : i < n) {l : List Clause} (hl : l.length <= 64) (at_ : Int) (fin : Ab -> List Clause -> Ag ⊕ (Ab × AM)) (finF : Aa -> Expr -> Expr -> Option β) :
  (∃ j x y, i < j /\ j < n /\ Fit N x /\ Fit N y /\ l.length < 64 /\ ClR N (PS Lr i 0) l at_ fin = some (fin (PS Lr j 0) (l ++ [⟨x, y⟩])) /\ ClF N (RS Lf i 0) ((l.length : Int) == 64) at_ finF = finF (RS Lf j 0) x y) \/
  (∃ e w j o' x y, e ≠ 0 /\ ClR N (PS Lr i 0) l at_ fin = some (.inl ⟨e, w⟩) /\ ClF N (RS Lf i 0) ((l.length : Int) == 64) at_ finF = finF (RB Lf j o' e w) x y) := by
 unfold ClR ClF
 rw [DA T hi 0 (by decide), GS T hi]
 cases hs : Se Lf i [58] with
 | false => exact .inr ⟨60, atI Lf i, i, 0, zE, zE, by decide, rfl, UN T hi (by omega) (by decide)⟩
 | true =>
  have hi1 := T.lt hi hs
  simp only [cond_true, Option.bind_some, sk]
  unfold Fz1
  rw [show (RS Lf (i + 1) 0).L = Lf from rfl, show (RS Lf (i + 1) 0).At = ((i + 1 : Nat) : Int) from rfl, NJ T hi1, Option.bind_some]
  rcases HX T hN hi1 with ⟨j, x, h1, h2, hx, e1, e2⟩ | ⟨e, w, j, o', x, he, hj, e1, e2⟩
  ·rw [e1, e2, Option.bind_some, Option.bind_some]
   simp only
   unfold Fz2
   rw [DA T h2 0 (by decide), GS T h2]
   cases hs2 : Se Lf j [61, 62] with
   | false => exact .inr ⟨60, atI Lf j, j, 0, x, zE, by decide, rfl, RH T h2 (by omega) (by decide) x _⟩
   | true =>
    have hj1 := T.lt h2 hs2
    simp only [cond_true, Option.bind_some, sk]
    unfold Fz3
    rw [show (RS Lf (j + 1) 0).L = Lf from rfl, show (RS Lf (j + 1) 0).At = ((j + 1 : Nat) : Int) from rfl, NJ T hj1, Option.bind_some]
    rcases HX T hN hj1 with ⟨k, y, k1, k2, hy, f1, f2⟩ | ⟨e, w, k, o', y, he, hk, f1, f2⟩
    ·rw [f1, f2, Option.bind_some, Option.bind_some]
     simp only
     rw [LY T k2, Pz T k2]
     cases hen : En Lf k with
     | false => exact .inr ⟨60, atI Lf k, k, 0, x, y, by decide, rfl, O1 T (by decide) x _ y _⟩
     | true =>
      simp only [cond_true, Option.bind_some, sk]
      unfold Bp Fz4
      by_cases hr : l.length = 64
      ·rw [show ((l.length : Int) == 64) = true by rw [hr]; rfl]
       refine .inr ⟨2, at_, k, 0, x, y, by decide, rfl, ?_⟩
       simp only [cond_true, JY T, Option.bind_some]
       rw [show (⟨(RB Lf k 0 2 at_).L, (RB Lf k 0 2 at_).At, (RB Lf k 0 2 at_).Open, (RB Lf k 0 2 at_).Bad, (RB Lf k 0 2 at_).Where⟩ : Aa) = RB Lf k 0 2 at_ from rfl, EV T (by decide), Option.bind_some, EV T (by decide), Option.bind_some]
      ·rw [show ((l.length : Int) == 64) = false by simp; omega]
       simp only [cond_false, Option.bind_some, sk]
       rw [show (⟨(RS Lf k 0).L, (RS Lf k 0).At, (RS Lf k 0).Open, (RS Lf k 0).Bad, (RS Lf k 0).Where⟩ : Aa) = RS Lf k 0 from rfl]
       rcases KA T (i := k) (j := 0) (q := PS Lr k 0) hx (atI Lf (i + 1)) 2 with ⟨c1, c2⟩ | ⟨e, he, c1, c2⟩
       ·rw [c1, c2, Option.bind_some, Option.bind_some]
        simp only
        rcases KA T (i := k) (j := 0) (q := PS Lr k 0) hy (atI Lf (j + 1)) 1 with ⟨d1, d2⟩ | ⟨e, he, d1, d2⟩
        ·rw [d1, d2, Option.bind_some, Option.bind_some]
         simp only
         rw [CA (by simp; omega)]
         exact .inl ⟨k, x, y, by omega, k2, hx, hy, by omega, rfl, rfl⟩
        ·rw [d1, d2]
         exact .inr ⟨e, _, k, 0, x, y, he, rfl, rfl⟩
       ·rw [c1, c2]
        refine .inr ⟨e, _, k, 0, x, y, he, rfl, ?_⟩
        rw [Option.bind_some, EV T he]; rfl
    ·rw [f1, f2, Option.bind_some, Option.bind_some]
     simp only
     rw [IQ T hk he, Option.bind_some, O1 T he]
     exact .inr ⟨e, w, k, o', x, y, he, rfl, rfl⟩
  ·rw [e1, e2, Option.bind_some, Option.bind_some]
   simp only
   rw [RI T hj (by omega) he]
   exact .inr ⟨e, w, j, o', x, zE, he, rfl, rfl⟩
theorem Pj {β : Type} (hN : 10 * n + 1000 <= N) {i : Nat} (hi : i < n) {l : List Expr} (hl : l.length <= 64) (at_ : Int) (fin : Ab -> List Expr -> Ag ⊕ (Ab × AM)) (finF : Aa -> Expr -> Option β) :
  (∃ j x, i < j /\ j < n /\ Fit N x /\ l.length < 64 /\ RpR N (PS Lr i 0) l at_ fin = some (fin (PS Lr j 0) (l ++ [x])) /\ RpF N (RS Lf i 0) ((l.length : Int) == 64) at_ finF = finF (RS Lf j 0) x) \/
  (∃ e w j o' x, e ≠ 0 /\ RpR N (PS Lr i 0) l at_ fin = some (.inl ⟨e, w⟩) /\ RpF N (RS Lf i 0) ((l.length : Int) == 64) at_ finF = finF (RB Lf j o' e w) x) := by
 unfold RpR RpF
 rw [DA T hi 0 (by decide), GS T hi]
 cases hs : Se Lf i [58] with
 | false => exact .inr ⟨60, atI Lf i, i, 0, zE, by decide, rfl, UM T hi (by omega) (by decide)⟩
 | true =>
  have hi1 := T.lt hi hs
  simp only [cond_true, Option.bind_some, sk]
  unfold Pz1
  rw [show (RS Lf (i + 1) 0).L = Lf from rfl, show (RS Lf (i + 1) 0).At = ((i + 1 : Nat) : Int) from rfl, NJ T hi1, Option.bind_some]
  rcases HX T hN hi1 with ⟨k, x, h1, k2, hx, e1, e2⟩ | ⟨e, w, j, o', x, he, hj, e1, e2⟩
  ·rw [e1, e2, Option.bind_some, Option.bind_some]
   simp only
   unfold Pz2
   rw [LY T k2, Pz T k2]
   cases hen : En Lf k with
   | false =>
    refine .inr ⟨60, atI Lf k, k, 0, x, by decide, rfl, ?_⟩
    rw [cond_false, Option.bind_some]
    have := O0 T (N := N) (fin := finF) (full := ((l.length : Int) == 64)) (at_ := at_) k2 (o := 0) (w := atI Lf k) (e := 60) (by decide) x (atI Lf (i + 1))
    unfold Pz2 at this
    rw [IQ T k2 (by decide), Option.bind_some] at this
    exact this
   | true =>
    simp only [cond_true, Option.bind_some, sk]
    unfold Ce
    by_cases hr : l.length = 64
    ·rw [show ((l.length : Int) == 64) = true by rw [hr]; rfl]
     refine .inr ⟨2, at_, k, 0, x, by decide, rfl, ?_⟩
     simp only [cond_true, JY T, Option.bind_some]
     rw [show (⟨(RB Lf k 0 2 at_).L, (RB Lf k 0 2 at_).At, (RB Lf k 0 2 at_).Open, (RB Lf k 0 2 at_).Bad, (RB Lf k 0 2 at_).Where⟩ : Aa) = RB Lf k 0 2 at_ from rfl, EV T (by decide), Option.bind_some]
    ·rw [show ((l.length : Int) == 64) = false by simp; omega]
     simp only [cond_false, Option.bind_some, sk]
     rw [show (⟨(RS Lf k 0).L, (RS Lf k 0).At, (RS Lf k 0).Open, (RS Lf k 0).Bad, (RS Lf k 0).Where⟩ : Aa) = RS Lf k 0 from rfl]
     rcases KA T (i := k) (j := 0) (q := PS Lr k 0) hx (atI Lf (i + 1)) 1 with ⟨c1, c2⟩ | ⟨e, he, c1, c2⟩
     ·rw [c1, c2, Option.bind_some, Option.bind_some]
      simp only
      rw [CA (by simp; omega)]
      refine .inl ⟨k, x, by omega, k2, hx, by omega, ?_, rfl⟩
      simp only [Option.bind_some]
      rw [EK, List.getElem?_append_right (Nat.le_refl _), Nat.sub_self]
      simp
     ·rw [c1, c2]
      exact .inr ⟨e, _, k, 0, x, he, rfl, rfl⟩
  ·rw [e1, e2, Option.bind_some, Option.bind_some]
   simp only
   rw [O0 T hj he]
   exact .inr ⟨e, w, j, o', x, he, rfl, rfl⟩
structure Nv (N : Nat) (b : AM) : Prop where
 p : b.Points.length <= 64 /\ ∀ c, c ∈ b.Points -> Fit N c.When /\ Fit N c.Then
 m : b.Multipliers.length <= 64 /\ ∀ c, c ∈ b.Multipliers -> Fit N c.When /\ Fit N c.Then
 e : b.Penalties.length <= 64 /\ ∀ c, c ∈ b.Penalties -> Fit N c.When /\ Fit N c.Then
 r : b.Repeats.length <= 64 /\ ∀ x, x ∈ b.Repeats -> Fit N x
omit T in
theorem IK {l : List Clause} {x y : Expr} (h : l.length <= 64 /\ ∀ c, c ∈ l -> Fit N c.When /\ Fit N c.Then) (hl : l.length < 64) (hx : Fit N x) (hy : Fit N y) : (l ++ [(⟨x, y⟩ : Clause)]).length <= 64 /\ ∀ c, c ∈ l ++ [(⟨x, y⟩ : Clause)] -> Fit N c.When /\ Fit N c.Then := by
 refine ⟨by simp; omega, fun c hc => ?_⟩
 rcases List.mem_append.1 hc with hc | hc
 ·exact h.2 c hc
 ·rw [List.mem_singleton.1 hc]; exact ⟨hx, hy⟩
theorem JH {i : Nat} {a : Ah} {b : Ae} (hi : i < n) (ha : Lr[i]? = some a) (hb : Lf[i]? = some b) {t : W4} (ht : t ≠ [10]) : (Se Lf i t = true -> a.text_ = t /\ b.Text = t) /\ (a.text_ ≠ t -> Se Lf i t = false) := by
 refine ⟨fun h => ⟨?_, ?_⟩, fun h => ?_⟩
 ·have := T.see ha hi ht
  rw [h] at this
  unfold seeR at this
  simp at this; exact this.2
 ·unfold Se at h; rw [hb] at h
  simp only at h
  unfold seeF at h
  simp at h; exact h.2
 ·rw [<- T.see ha hi ht]
  unfold seeR
  simp [h]
end
abbrev Bf : W4 := [112, 111, 105, 110, 116, 115]
abbrev Ch : W4 := [109, 117, 108, 116, 105, 112, 108, 105, 101, 114]
abbrev DJ : W4 := [112, 101, 110, 97, 108, 116, 121]
abbrev FJ : W4 := [114, 101, 112, 101, 97, 116]
section
variable {N n : Nat} {Lr : List Ah} {Lf : List Ae} (T : Gw n Lr Lf)
include T
theorem RY (hN : 10 * n + 1000 <= N) {i : Nat} (hi : i < n) {B : AM} (hB : Nv N B) :
  (∃ j B', i < j /\ j < n /\ Nv N B' /\ A0 N (PS Lr i 0) B = some (.inr (PS Lr j 0, B')) /\ DH N (RS Lf i 0) B = some (RS Lf j 0, B')) \/
  (∃ e w j o' B', e ≠ 0 /\ A0 N (PS Lr i 0) B = some (.inl ⟨e, w⟩) /\ DH N (RS Lf i 0) B = some (RB Lf j o' e w, B')) := by
 obtain ⟨a, b, ha, hb, hc, hd, hcc, hat⟩ := T.hd hi
 have wp := JH T hi ha hb (t := Bf) (by decide)
 have wm := JH T hi ha hb (t := Ch) (by decide)
 have wn := JH T hi ha hb (t := DJ) (by decide)
 have wr := JH T hi ha hb (t := FJ) (by decide)
 unfold A0 DH
 rw [show (PS Lr i 0).l_ = Lr.drop i from rfl, hc, show (RS Lf i 0).L = Lf from rfl, show (RS Lf i 0).At = (i : Int) from rfl, hd, zW1 T hi]
 simp only [Option.bind_some, ES T hi, Bg T hi 0 (t := FJ) (by decide)]
 rw [show (⟨Lf, ((i + 1 : Nat) : Int), (RS Lf i 0).Open, (RS Lf i 0).Bad, (RS Lf i 0).Where⟩ : Aa) = RS Lf (i + 1) 0 from rfl]
 cases hr : Se Lf i FJ with
 | true =>
  obtain ⟨h1, h2⟩ := wr.1 hr
  have hp : Se Lf i Bf = false := wp.2 (by rw [h1]; decide)
  have hm : Se Lf i Ch = false := wm.2 (by rw [h1]; decide)
  have hn : Se Lf i DJ = false := wn.2 (by rw [h1]; decide)
  simp only [hp, hm, hn, h2, Bool.not_false, Bool.not_true, cond_true, cond_false, Option.bind_some, show (FJ == FJ) = true from rfl]
  rcases Pj T hN (T.lt hi hr) hB.r.1 a.at_ (fun q l => .inr (q, ({ Points := B.Points, Multipliers := B.Multipliers, Penalties := B.Penalties, Repeats := l } : AM)))
   (fun r x => (((Dc B.Repeats [({ Op := 0, Value := 0, Kids := ([] : List Expr) } : Expr)]).bind fun r219 => ((idx r219 (B.Repeats.length : Int)).bind fun x228 => some (r219.set ((B.Repeats.length : Int) : Int).toNat x))).bind fun j210 => some (r, ({ Points := B.Points, Multipliers := B.Multipliers, Penalties := B.Penalties, Repeats := j210 } : AM)))) with ⟨j, x, g1, g2, g3, g4, g5, g6⟩ | ⟨e, w, j, o', x, he, g5, g6⟩
  ·left
   refine ⟨j, ⟨B.Points, B.Multipliers, B.Penalties, B.Repeats ++ [x]⟩, by omega, g2, ?_, g5, ?_⟩
   rotate_left
   ·rw [<- hat]
    refine Eq.trans g6 ?_
    rw [CA (by simp; omega)]
    simp only [Option.bind_some]
    rw [EK, List.getElem?_append_right (Nat.le_refl _), Nat.sub_self]
    simp
   ·refine ⟨hB.p, hB.m, hB.e, by simp; omega, fun y hy => ?_⟩
    rcases List.mem_append.1 hy with hy | hy
    ·exact hB.r.2 y hy
    ·rw [List.mem_singleton.1 hy]; exact g3
  ·refine .inr ⟨e, w, j, o', ⟨B.Points, B.Multipliers, B.Penalties, B.Repeats ++ [x]⟩, he, g5, ?_⟩
   rw [<- hat]
   refine Eq.trans g6 ?_
   rw [CA (by simp; have := hB.r.1; omega)]
   simp only [Option.bind_some]
   rw [EK, List.getElem?_append_right (Nat.le_refl _), Nat.sub_self]
   simp
 | false =>
  simp only [cond_false, Bool.not_false, Bool.not_true, Option.bind_some]
  have hfail : Se Lf i Bf = false -> Se Lf i Ch = false -> Se Lf i DJ = false ->
    ((bif !Se Lf i Bf then ((bif !Se Lf i Ch then ((bif !Se Lf i DJ then some true else some false) : Option Bool) else some false)) else some false) : Option Bool) = some true := by
   intro h1 h2 h3; rw [h1, h2, h3]; rfl
  by_cases t1 : a.text_ = Bf
  ·rw [t1]
   simp only [show (Bf == Bf) = true from rfl, cond_true, Bg T hi 0 (t := Bf) (by decide), Option.bind_some]
   cases hp : Se Lf i Bf with
   | false =>
    rw [wm.2 (by rw [t1]; decide), wn.2 (by rw [t1]; decide)]
    exact .inr ⟨60, b.At, i, 0, B, by decide, by rw [<- hat]; rfl, rfl⟩
   | true =>
    obtain ⟨_, h2⟩ := wp.1 hp
    simp only [h2, Bool.not_false, Bool.not_true, cond_true, cond_false, Option.bind_some, show (Bf == Bf) = true from rfl, show (Bf == FJ) = false from rfl, show (Bf == Ch) = false from rfl, show (Bf == DJ) = false from rfl, Bool.false_and, Bool.or_false]
    rcases Is T hN (T.lt hi hp) hB.p.1 a.at_ (fun q l => .inr (q, ({ Points := l, Multipliers := B.Multipliers, Penalties := B.Penalties, Repeats := B.Repeats } : AM)))
     (fun r x y => (((Dc B.Points [({ When := x, Then := y } : Clause)]).bind fun r445 => some r445).bind fun j436 => some (j436, B.Multipliers, B.Penalties)).bind fun j424 => some (r, ({ Points := j424.1, Multipliers := j424.2.1, Penalties := j424.2.2, Repeats := B.Repeats } : AM))) with ⟨j, x, y, g1, g2, gx, gy, g4, g5, g6⟩ | ⟨e, w, j, o', x, y, he, g5, g6⟩
    ·refine .inl ⟨j, ⟨B.Points ++ [({ When := x, Then := y } : Clause)], B.Multipliers, B.Penalties, B.Repeats⟩, by omega, g2, ⟨IK hB.p g4 gx gy, hB.m, hB.e, hB.r⟩, g5, ?_⟩
     rw [<- hat]
     refine Eq.trans g6 ?_
     rw [CA (by simp; omega)]; rfl
    ·refine .inr ⟨e, w, j, o', ⟨B.Points ++ [({ When := x, Then := y } : Clause)], B.Multipliers, B.Penalties, B.Repeats⟩, he, g5, ?_⟩
     rw [<- hat]
     refine Eq.trans g6 ?_
     rw [CA (by simp; have := hB.p.1; omega)]; rfl
  rw [show (a.text_ == Bf) = false by simpa using t1, wp.2 t1]
  simp only [cond_false, cond_true, Bool.not_false]
  by_cases t2 : a.text_ = Ch
  ·rw [t2]
   simp only [show (Ch == Ch) = true from rfl, cond_true, Bg T hi 0 (t := Ch) (by decide), Option.bind_some]
   cases hp : Se Lf i Ch with
   | false =>
    rw [wn.2 (by rw [t2]; decide)]
    exact .inr ⟨60, b.At, i, 0, B, by decide, by rw [<- hat]; rfl, rfl⟩
   | true =>
    obtain ⟨_, h2⟩ := wm.1 hp
    simp only [h2, Bool.not_false, Bool.not_true, cond_true, cond_false, Option.bind_some, show (Ch == Ch) = true from rfl, show (Ch == FJ) = false from rfl, show (Ch == Bf) = false from rfl, show (Ch == DJ) = false from rfl, Bool.false_and, Bool.or_false]
    rcases Is T hN (T.lt hi hp) hB.m.1 a.at_ (fun q l => .inr (q, ({ Points := B.Points, Multipliers := l, Penalties := B.Penalties, Repeats := B.Repeats } : AM)))
     (fun r x y => ((((Dc B.Multipliers [({ When := x, Then := y } : Clause)]).bind fun r481 => some r481).bind fun j472 => some (j472, B.Penalties)).bind fun j460 => some (B.Points, j460.1, j460.2)).bind fun j424 => some (r, ({ Points := j424.1, Multipliers := j424.2.1, Penalties := j424.2.2, Repeats := B.Repeats } : AM))) with ⟨j, x, y, g1, g2, gx, gy, g4, g5, g6⟩ | ⟨e, w, j, o', x, y, he, g5, g6⟩
    ·refine .inl ⟨j, ⟨B.Points, B.Multipliers ++ [({ When := x, Then := y } : Clause)], B.Penalties, B.Repeats⟩, by omega, g2, ⟨hB.p, IK hB.m g4 gx gy, hB.e, hB.r⟩, g5, ?_⟩
     rw [<- hat]
     refine Eq.trans g6 ?_
     rw [CA (by simp; omega)]; rfl
    ·refine .inr ⟨e, w, j, o', ⟨B.Points, B.Multipliers ++ [({ When := x, Then := y } : Clause)], B.Penalties, B.Repeats⟩, he, g5, ?_⟩
     rw [<- hat]
     refine Eq.trans g6 ?_
     rw [CA (by simp; have := hB.m.1; omega)]; rfl
  rw [show (a.text_ == Ch) = false by simpa using t2, wm.2 t2]
  simp only [cond_false, cond_true, Bool.not_false]
  by_cases t3 : a.text_ = DJ
  ·rw [t3]
   simp only [show (DJ == DJ) = true from rfl, cond_true, Bg T hi 0 (t := DJ) (by decide), Option.bind_some]
   cases hp : Se Lf i DJ with
   | false => exact .inr ⟨60, b.At, i, 0, B, by decide, by rw [<- hat]; rfl, rfl⟩
   | true =>
    obtain ⟨_, h2⟩ := wn.1 hp
    simp only [h2, Bool.not_false, Bool.not_true, cond_true, cond_false, Option.bind_some, show (DJ == DJ) = true from rfl, show (DJ == FJ) = false from rfl, show (DJ == Bf) = false from rfl, show (DJ == Ch) = false from rfl, Bool.true_and]
    rcases Is T hN (T.lt hi hp) hB.e.1 a.at_ (fun q l => .inr (q, ({ Points := B.Points, Multipliers := B.Multipliers, Penalties := l, Repeats := B.Repeats } : AM)))
     (fun r x y => (((((Dc B.Penalties [({ When := x, Then := y } : Clause)]).bind fun r517 => some r517).bind fun j508 => some j508).bind fun j496 => some (B.Multipliers, j496)).bind fun j460 => some (B.Points, j460.1, j460.2)).bind fun j424 => some (r, ({ Points := j424.1, Multipliers := j424.2.1, Penalties := j424.2.2, Repeats := B.Repeats } : AM))) with ⟨j, x, y, g1, g2, gx, gy, g4, g5, g6⟩ | ⟨e, w, j, o', x, y, he, g5, g6⟩
    ·refine .inl ⟨j, ⟨B.Points, B.Multipliers, B.Penalties ++ [({ When := x, Then := y } : Clause)], B.Repeats⟩, by omega, g2, ⟨hB.p, hB.m, IK hB.e g4 gx gy, hB.r⟩, g5, ?_⟩
     rw [<- hat]
     refine Eq.trans g6 ?_
     rw [CA (by simp; omega)]; rfl
    ·refine .inr ⟨e, w, j, o', ⟨B.Points, B.Multipliers, B.Penalties ++ [({ When := x, Then := y } : Clause)], B.Repeats⟩, he, g5, ?_⟩
     rw [<- hat]
     refine Eq.trans g6 ?_
     rw [CA (by simp; have := hB.e.1; omega)]; rfl
  rw [show (a.text_ == DJ) = false by simpa using t3, wn.2 t3]
  exact .inr ⟨60, b.At, i, 0, B, by decide, by rw [<- hat]; rfl, rfl⟩
end
section
variable {N n : Nat} {Lr : List Ah} {Lf : List Ae} (T : Gw n Lr Lf)
include T
theorem Qm (hN : 10 * n + 1000 <= N) (x0 : W4) :
  (∃ q B, Nv N B /\ AL (Bc N (PS Lr 0 0) Df) N (Lr, 0, [], [], [], []) = some (.done (Lr.drop q, 0, B.Points, B.Multipliers, B.Penalties, B.Repeats)) /\
   AL (DP N x0 Lf) N (Lf, 0, 0, 0, 0, [], [], [], []) = some (.done (Lf, (q : Int), 0, 0, 0, B.Points, B.Multipliers, B.Penalties, B.Repeats))) \/
  (∃ e w, ∃ (L : List Ae) (q o : Int) (B : AM), e ≠ 0 /\ AL (Bc N (PS Lr 0 0) Df) N (Lr, 0, [], [], [], []) = some (.ret (.inl ⟨e, w⟩)) /\
   AL (DP N x0 Lf) N (Lf, 0, 0, 0, 0, [], [], [], []) = some (.done (L, q, o, e, w, B.Points, B.Multipliers, B.Penalties, B.Repeats))) := by
 obtain ⟨o1, o2, r1, r2, hR⟩ := MJ (b1 := Bc N (PS Lr 0 0) Df) (b2 := DP N x0 Lf)
  (fun m s t => ∃ (q : Nat) (B : AM), m = n - q /\ q < n /\ Nv N B /\ s = (Lr.drop q, 0, B.Points, B.Multipliers, B.Penalties, B.Repeats) /\ t = (Lf, (q : Int), 0, 0, 0, B.Points, B.Multipliers, B.Penalties, B.Repeats))
  (fun a b => (∃ (q : Nat) (B : AM), Nv N B /\ a = .done (Lr.drop q, 0, B.Points, B.Multipliers, B.Penalties, B.Repeats) /\ b = .done (Lf, (q : Int), 0, 0, 0, B.Points, B.Multipliers, B.Penalties, B.Repeats)) \/
   (∃ (e w : Int) (L : List Ae) (q o : Int) (B : AM), e ≠ 0 /\ a = .ret (.inl ⟨e, w⟩) /\ b = .done (L, q, o, e, w, B.Points, B.Multipliers, B.Penalties, B.Repeats)))
  (by
   rintro m s t ⟨q, B, rfl, hq, hB, rfl, rfl⟩
   obtain ⟨a, b, ha, hb, hc, hd, _, _⟩ := T.hd hq
   have e1 := IR T hq ha hb
   have e2 := IM T hq ha hb
   unfold Bc DP
   rw [hc, hd]
   simp only [Option.bind_some, e1, show (((0 : Int)) == 0) = true from rfl, cond_true]
   rw [show (⟨Lr.drop q, 0⟩ : Ab) = PS Lr q 0 from rfl, CT T hq 0 [10] ha, e2]
   cases h5 : b.Kind != 5 with
   | false =>
    right; left
    exact ⟨_, _, rfl, (fun _ h => by cases h), rfl, (fun _ h => by cases h), .inl ⟨q, B, hB, rfl, rfl⟩⟩
   | true =>
    simp only [cond_true]
    cases h4 : b.Kind == 4 with
    | true =>
     have hlt : q + 1 < n := by
      rcases Nat.lt_or_ge (q + 1) n with h | h
      ·exact h
      ·obtain ⟨a', b', h1, h2, _, _, h6, _⟩ := T.hd hq
       rw [h2] at hb; cases hb
       rcases h6 with ⟨_, h6⟩ | ⟨h6, _⟩
       ·exact h6
       ·rw [h6.b5] at h4; cases h4
     left
     refine ⟨n - (q + 1), _, _, by omega, rfl, ?_, q + 1, B, rfl, hlt, hB, rfl, rfl⟩
     simp only [cond_true]
     rw [zW1 T hq]
    | false =>
     simp only [cond_false, Bool.not_false, cond_true, Option.bind_some]
     rw [show (⟨Lf, (q : Int), 0, 0, 0⟩ : Aa) = RS Lf q 0 from rfl]
     rcases RY T hN hq hB with ⟨j, B', g1, g2, gB, g3, g4⟩ | ⟨e, w, j, o', B', he, g3, g4⟩
     ·left
      rw [show (⟨B.Points, B.Multipliers, B.Penalties, B.Repeats⟩ : AM) = B from rfl, g3, g4]
      exact ⟨n - j, _, _, by omega, rfl, rfl, j, B', rfl, g2, gB, rfl, rfl⟩
     ·right; right
      rw [show (⟨B.Points, B.Multipliers, B.Penalties, B.Repeats⟩ : AM) = B from rfl, g3, g4]
      refine ⟨_, _, _, rfl, (fun _ h => by cases h), rfl, ?_, (fun _ h => by cases h), .inr ⟨e, w, Lf, j, o', B', he, rfl, rfl⟩⟩
      show ((bif (e == 0) then _ else some false).bind _) = _
      rw [e0 he]; rfl)
  n N N _ _ ⟨0, Df, rfl, T.pos, ⟨⟨by show 0 <= 64; omega, fun c hc => by cases hc⟩, ⟨by show 0 <= 64; omega, fun c hc => by cases hc⟩, ⟨by show 0 <= 64; omega, fun c hc => by cases hc⟩, ⟨by show 0 <= 64; omega, fun c hc => by cases hc⟩⟩, rfl, rfl⟩ (by omega) (by omega)
 rw [List.drop_zero] at r1
 rcases hR with ⟨q, B, hB, rfl, rfl⟩ | ⟨e, w, L, q, o, B, he, rfl, rfl⟩
 ·exact .inl ⟨q, B, hB, r1, r2⟩
 ·exact .inr ⟨e, w, L, q, o, B, he, r1, r2⟩
end
theorem Hl {N : Nat} {l : List Clause} (hN : 1000 < N) (h : l.length <= 64 /\ ∀ c, c ∈ l -> Fit N c.When /\ Fit N c.Then) : Cx N l l = some true := by
 unfold Cx
 rw [show (((l.length : Int)) != (l.length : Int)) = false by simp, cond_false]
 rw [K4 (n := l.length) (fun _ => true) false (fun i hi => by
  unfold CY
  have hg := h.2 _ (List.getElem_mem hi)
  rw [Gu hi, cond_true, Dd hi]
  simp only [Option.bind_some]
  rw [LW hg.1, LW hg.2, Ia, Ia]
  simp only [Option.bind_some, Bool.not_true, cond_false]
  rw [B7 (by omega)]; rfl) (by unfold CY; rw [Gv, cond_false]) (by omega)]
 rw [show KS l.length (fun _ => true) = true from OO fun _ _ => rfl]; rfl
theorem Nz {N : Nat} {B : AM} (hN : 1000 < N) (h : Nv N B) : BO N B B = some true := by
 unfold BO
 rw [Hl hN h.p, Hl hN h.m, Hl hN h.e]
 simp only [Option.bind_some, Bool.not_true, cond_false]
 rw [show (((B.Repeats.length : Int)) != (B.Repeats.length : Int)) = false by simp, cond_false]
 have hl := h.r.1
 rw [K4 (n := B.Repeats.length) (fun _ => true) false (fun i hi => by
  unfold Dw
  have hg := h.r.2 _ (List.getElem_mem hi)
  rw [Gu hi, cond_true, Dd hi]
  simp only [Option.bind_some]
  rw [LW hg, Ia]
  simp only [Option.bind_some, Bool.not_true, cond_false]
  rw [B7 (by omega)]; rfl) (by unfold Dw; rw [Gv, cond_false]) (by omega)]
 rw [show KS B.Repeats.length (fun _ => true) = true from OO fun _ _ => rfl]; rfl
theorem L3 {N : Nat} : Nv N Df := ⟨⟨by show 0 <= 64; omega, fun c hc => by cases hc⟩, ⟨by show 0 <= 64; omega, fun c hc => by cases hc⟩, ⟨by show 0 <= 64; omega, fun c hc => by cases hc⟩, ⟨by show 0 <= 64; omega, fun c hc => by cases hc⟩⟩
theorem Pt {N : Nat} (s : W4) (hN : 4000000 <= N) : ∃ B e w, Ba N s = some (B, e, w) /\ KZ N s = some (B, e, w) /\ Nv N B := by
 unfold Ba GR KZ
 by_cases hl : s.length > 65536
 ·rw [decide_eq_true (by omega)]
  exact ⟨Df, 2, 0, rfl, rfl, L3⟩
 rw [decide_eq_false (by omega)]
 simp only [cond_false]
 obtain ⟨n, Lr, Lf, e1, e2, T, hn⟩ := NY (N := N) (s := s) (by omega) (by omega)
 rw [e1, e2]
 simp only [Option.bind_some]
 unfold Ed
 rw [show (⟨Lr, 0⟩ : Ab) = PS Lr 0 0 from by unfold PS; rw [List.drop_zero]]
 rw [show (((PS Lr 0 0).l_, (PS Lr 0 0).open_, Df.Points, Df.Multipliers, Df.Penalties, Df.Repeats) : List Ah × Int × List Clause × List Clause × List Clause × List Expr) = (Lr, 0, [], [], [], []) from by unfold PS; rw [List.drop_zero]; rfl]
 rcases Qm T (N := N) (by omega) s with ⟨q, B, hB, h1, h2⟩ | ⟨e, w, L, q, o, B, he, h1, h2⟩
 ·rw [h1, h2]
  exact ⟨B, 0, 0, rfl, rfl, hB⟩
 ·rw [h1, h2]
  refine ⟨Df, e, w, ?_, ?_, L3⟩
  ·show (bif (e != 0) then _ else none) = _
   rw [show (e != 0) = true by simpa using he]; rfl
  ·show (bif (e != 0) then _ else _) = _
   rw [show (e != 0) = true by simpa using he]; rfl
def lnK (w : W4) (c : Clause) : Tks := [(2, w), (3, [58])] ++ tk c.When ++ [(3, [61, 62])] ++ tk c.Then ++ [(4, [10])]
def lrK (e : Expr) : Tks := [(2, FJ), (3, [58])] ++ tk e ++ [(4, [10])]
def bkK (b : AM) : Tks := b.Points.flatMap (lnK Bf) ++ b.Multipliers.flatMap (lnK Ch) ++ b.Penalties.flatMap (lnK DJ) ++ b.Repeats.flatMap lrK
theorem PW {w : W4} (hw : w ≠ []) (hs : ∀ c, c ∈ w -> EJ c = true) {c : Clause} (h : Ep c = true) : TzS (lnT w c) (lnK w c) := by
 have e1 : lnT w c = ((((w ++ [58, 32]) ++ pr c.When) ++ [32, 61, 62, 32]) ++ pr c.Then) ++ [10] := by unfold lnT; simp
 rw [e1]
 have a : TzS (w ++ [58, 32]) [(2, w), (3, [58])] := (TzK.word hw hs).app ((TzS.sign (c := 58) (by decide) (by decide)).app (TzS.ws (c := 32) (by decide))) (by decide) (by simp)
 have ar : TzS [32, 61, 62, 32] [(3, [61, 62])] := ((TzS.ws (c := 32) (by decide)).app TzS.arrow).app (TzS.ws (c := 32) (by decide))
 exact (((a.appK (Ja _ c.When (Nat.le_refl _) (by rw [Mb h]; decide))).app ar (by decide) (by simp)).appK (Ja _ c.Then (Nat.le_refl _) (by rw [Mc h]; decide))).app TzS.line (by decide) (by simp)
theorem U5 {e : Expr} (h : kd e ≠ 0) : TzS (lrT e) (lrK e) := by
 have e1 : lrT e = ((FJ ++ [58, 32]) ++ pr e) ++ [10] := by unfold lrT; simp
 rw [e1]
 have a : TzS (FJ ++ [58, 32]) [(2, FJ), (3, [58])] := (TzK.word (w := FJ) (by decide) (by decide)).app ((TzS.sign (c := 58) (by decide) (by decide)).app (TzS.ws (c := 32) (by decide))) (by decide) (by simp)
 exact (a.appK (Ja _ e (Nat.le_refl _) h)).app TzS.line (by decide) (by simp)
theorem JI {α : Type} {f : α -> W4} {g : α -> Tks} : ∀ {l : List α}, (∀ x, x ∈ l -> TzS (f x) (g x)) -> TzS (l.flatMap f) (l.flatMap g)
 | [], _ => TzS.nil
 | a :: l, h => by
  rw [List.flatMap_cons, List.flatMap_cons]
  exact (h a (List.mem_cons_self ..)).app (JI fun x hx => h x (List.mem_cons_of_mem _ hx))
theorem U4 {b : AM} (h : vld b = true) : Tz (prb b) (bkK b) := by
 obtain ⟨v1, v2, v3, v4, v5⟩ := IE.1 h
 unfold prb bkK lns
 exact ((((JI fun c hc => PW (w := wP) (by decide) (by decide) (HL v1 hc)).app (JI fun c hc => PW (w := wM) (by decide) (by decide) (HL v2 hc))).app (JI fun c hc => PW (w := wE) (by decide) (by decide) (HL v3 hc))).app (JI fun e he => U5 (by rw [Jq (v5 e he)]; decide))).tz
structure Sml (N : Nat) (x : Expr) : Prop where
 f : Fit N x
 z : sz x <= 10000000
 s : HM x = true
section
variable {N n : Nat} {Lr : List Ah} {Lf : List Ae} (T : Gw n Lr Lf)
include T
theorem Jw (hN : n + 200000000 <= N) {x : Expr} (hx : Sml N x) {i : Nat} (hS : EA Lf i (tk x)) (hn : i + (tk x).length < n) (hO : Off Lf (i + (tk x).length) 1) : AD N (PS Lr i 0) = some (.inr (PS Lr (i + (tk x).length) 0, ⟨x, atI Lf i⟩)) := by
 have p1 := PE T (N := N) (by omega) (by have := hx.z; omega) (IG hx.s) (SS hx.s hx.z) hS hn hO
 obtain ⟨a, b, ha, hb, hc, hd, _, hat⟩ := T.hd (show i < n by omega)
 unfold AD
 rw [show (PS Lr i 0).l_ = Lr.drop i from rfl, hc, p1]
 simp only [Option.bind_some, sk]
 rw [hat]; unfold atI; rw [hb]
theorem KI {x : Expr} (hx : Sml N x) {q : Ab} {at_ t : Int} (ht : kd x = t) : AE N q ⟨x, at_⟩ t = some (.inr ()) := by
 have h1 : dp x <= 32 := by have := hx.s; unfold HM at this; simp at this; exact this.1
 have h0 := IG hx.s
 rcases Hx T (N := N) (i := 0) (o := 0) (q := q) hx.f at_ t with ⟨h, _⟩ | ⟨_, h, _⟩ | ⟨_, _, _, c1, c2⟩
 ·omega
 ·rcases h with h | h
  ·exact absurd h h0
  ·exact absurd ht h.2
 ·exact c1
theorem QF (hN : n + 200000000 <= N) {x y : Expr} (hx : Sml N x) (hy : Sml N y) (kx : kd x = 2) (ky : kd y = 1) {i : Nat} {l : List Clause} (hl : l.length < 64) (at_ : Int) (fin : Ab -> List Clause -> Ag ⊕ (Ab × AM))
  (hS : EA Lf i ([(3, [58])] ++ tk x ++ [(3, [61, 62])] ++ tk y ++ [(4, [10])])) (hn : i + 1 + (tk x).length + 1 + (tk y).length < n) :
  ClR N (PS Lr i 0) l at_ fin = some (fin (PS Lr (i + 1 + (tk x).length + 1 + (tk y).length) 0) (l ++ [⟨x, y⟩])) := by
 obtain ⟨hS, z5⟩ := Bo hS
 obtain ⟨hS, z4⟩ := Bo hS
 obtain ⟨hS, z3⟩ := Bo hS
 obtain ⟨z1, z2⟩ := Bo hS
 simp only [List.length_append, List.length_cons, List.length_nil, Nat.zero_add] at z2 z3 z4 z5
 have q3 : Lf[i + 1 + (tk x).length]?.map kt = some (3, [61, 62]) := by rw [Nat.add_assoc]; exact z3.1
 have q4 : EA Lf (i + 1 + (tk x).length + 1) (tk y) := by rw [show i + 1 + (tk x).length + 1 = i + (1 + (tk x).length + 1) by omega]; exact z4
 have q5 : Lf[i + 1 + (tk x).length + 1 + (tk y).length]?.map kt = some (4, [10]) := by rw [show i + 1 + (tk x).length + 1 + (tk y).length = i + (1 + (tk x).length + 1 + (tk y).length) by omega]; exact z5.1
 unfold ClR
 rw [DA T (by omega) 0 (by decide), show Se Lf i [58] = true by rw [CJ z1.1]; rfl]
 simp only [cond_true, Option.bind_some, sk]
 rw [Jw T hN hx z2 (by omega) (Ky q3 (Ny (by simp)) _)]
 simp only [Option.bind_some]
 rw [DA T (by omega) 0 (by decide), show Se Lf (i + 1 + (tk x).length) [61, 62] = true by rw [CJ q3]; rfl]
 simp only [cond_true, Option.bind_some]
 rw [Jw T hN hy q4 (by omega) (Ky q5 (Ny (by simp)) _)]
 simp only [Option.bind_some]
 rw [LY T (by omega)]
 have hen : En Lf (i + 1 + (tk x).length + 1 + (tk y).length) = true := by
  unfold En
  cases hb : Lf[i + 1 + (tk x).length + 1 + (tk y).length]? with
  | none => rw [hb] at q5; cases q5
  | some b =>
   rw [hb] at q5
   simp only [Option.map_some, Option.some.injEq, kt, Prod.mk.injEq] at q5
   simp [q5.1]
 rw [hen]
 simp only [cond_true, Option.bind_some]
 unfold Bp
 rw [show ((l.length : Int) == 64) = false by simp; omega]
 simp only [cond_false, Option.bind_some]
 rw [KI T hx kx]
 simp only [Option.bind_some]
 rw [KI T hy ky]
 simp only [Option.bind_some]
 rw [CA (by simp; omega)]
 rfl
theorem Qh (hN : n + 200000000 <= N) {x : Expr} (hx : Sml N x) (kx : kd x = 1) {i : Nat} {l : List Expr} (hl : l.length < 64) (at_ : Int) (fin : Ab -> List Expr -> Ag ⊕ (Ab × AM))
  (hS : EA Lf i ([(3, [58])] ++ tk x ++ [(4, [10])])) (hn : i + 1 + (tk x).length < n) :
  RpR N (PS Lr i 0) l at_ fin = some (fin (PS Lr (i + 1 + (tk x).length) 0) (l ++ [x])) := by
 obtain ⟨hS, z3⟩ := Bo hS
 obtain ⟨z1, z2⟩ := Bo hS
 simp only [List.length_append, List.length_cons, List.length_nil, Nat.zero_add] at z2 z3
 have q3 : Lf[i + 1 + (tk x).length]?.map kt = some (4, [10]) := by rw [Nat.add_assoc]; exact z3.1
 unfold RpR
 rw [DA T (by omega) 0 (by decide), show Se Lf i [58] = true by rw [CJ z1.1]; rfl]
 simp only [cond_true, Option.bind_some, sk]
 rw [Jw T hN hx z2 (by omega) (Ky q3 (Ny (by simp)) _)]
 simp only [Option.bind_some]
 rw [LY T (by omega)]
 have hen : En Lf (i + 1 + (tk x).length) = true := by
  unfold En
  cases hb : Lf[i + 1 + (tk x).length]? with
  | none => rw [hb] at q3; cases q3
  | some b =>
   rw [hb] at q3
   simp only [Option.map_some, Option.some.injEq, kt, Prod.mk.injEq] at q3
   simp [q3.1]
 rw [hen]
 simp only [cond_true, Option.bind_some]
 unfold Ce
 rw [show ((l.length : Int) == 64) = false by simp; omega]
 simp only [cond_false, Option.bind_some]
 rw [KI T hx kx]
 simp only [Option.bind_some]
 rw [CA (by simp; omega)]
 simp only [Option.bind_some]
 rw [EK, List.getElem?_append_right (Nat.le_refl _), Nat.sub_self]
 simp
abbrev StB : Type := List Ah × Int × List Clause × List Clause × List Clause × List Expr
def stB (Lr : List Ah) (q : Nat) (B : AM) : StB := (Lr.drop q, 0, B.Points, B.Multipliers, B.Penalties, B.Repeats)
abbrev GI (N : Nat) (Lr : List Ah) := Bc N (PS Lr 0 0) Df
def RuB (N : Nat) (Lr : List Ah) (d : Nat) (s t : StB) : Prop := ∀ M, AL (GI N Lr) (M + d) s = AL (GI N Lr) M t
omit T in
theorem RuB.trans {d e : Nat} {s t u : StB} (h : RuB N Lr d s t) (k : RuB N Lr e t u) : RuB N Lr (d + e) s u := fun M => by rw [show M + (d + e) = (M + e) + d by omega, h, k]
theorem NK {q j : Nat} {w : W4} {B B' : AM} (hq : q < n) (hj : j + 1 < n) (hw : Lf[q]?.map kt = some (2, w)) (he : Lf[j]?.map kt = some (4, [10])) (hp : A0 N (PS Lr q 0) B = some (.inr (PS Lr j 0, B'))) : RuB N Lr 2 (stB Lr q B) (stB Lr (j + 1) B') := by
 intro M
 obtain ⟨a, b, ha, hb, hc, hd, _, _⟩ := T.hd hq
 have e1 := IR T hq ha hb
 have e2 := IM T hq ha hb
 rw [hb] at hw
 simp only [Option.map_some, Option.some.injEq, kt, Prod.mk.injEq] at hw
 rw [hw.1] at e1 e2
 have s1 : GI N Lr (stB Lr q B) = some (.next (stB Lr j B')) := by
  unfold GI Bc stB
  simp only
  rw [hc]
  simp only [Option.bind_some, e1, show ((2 : Int) != 5) = true from rfl, cond_true]
  rw [show (⟨Lr.drop q, 0⟩ : Ab) = PS Lr q 0 from rfl, CT T hq 0 [10] ha, e2]
  simp only [show ((2 : Int) == 4) = false from rfl, cond_false, Bool.not_false, cond_true, Option.bind_some]
  rw [show (⟨B.Points, B.Multipliers, B.Penalties, B.Repeats⟩ : AM) = B from rfl, hp]
  rfl
 obtain ⟨a', b', ha', hb', hc', hd', _, _⟩ := T.hd (show j < n by omega)
 have e1' := IR T (show j < n by omega) ha' hb'
 have e2' := IM T (show j < n by omega) ha' hb'
 rw [hb'] at he
 simp only [Option.map_some, Option.some.injEq, kt, Prod.mk.injEq] at he
 rw [he.1] at e1' e2'
 have s2 : GI N Lr (stB Lr j B') = some (.next (stB Lr (j + 1) B')) := by
  unfold GI Bc stB
  simp only
  rw [hc']
  simp only [Option.bind_some, e1', show ((4 : Int) != 5) = true from rfl, cond_true]
  rw [show (⟨Lr.drop j, 0⟩ : Ab) = PS Lr j 0 from rfl, CT T (show j < n by omega) 0 [10] ha', e2']
  rfl
 rw [show M + 2 = (M + 1) + 1 from rfl, AL, s1]
 simp only
 rw [AL, s2]
theorem Me {q : Nat} {w : W4} (hw : Lf[q]?.map kt = some (2, w)) (t : W4) : Se Lf q t = (w == t) := by rw [CJ hw]; rfl
theorem Ta (hN : n + 200000000 <= N) {B : AM} {x : Expr} (hx : Sml N x) (kx : kd x = 1) (hl : B.Repeats.length < 64) {q : Nat} (hS : EA Lf q (lrK x)) (hn : q + (lrK x).length < n) :
  RuB N Lr 2 (stB Lr q B) (stB Lr (q + (lrK x).length) { B with Repeats := B.Repeats ++ [x] }) := by
 have hlen : (lrK x).length = 2 + (tk x).length + 1 := by unfold lrK; simp; omega
 have hS' : EA Lf q ([(2, FJ)] ++ ([(3, [58])] ++ tk x ++ [(4, [10])])) := by unfold lrK at hS; simpa using hS
 obtain ⟨z1, z2⟩ := Bo hS'
 simp only [List.length_cons, List.length_nil, Nat.zero_add] at z2
 have hq : q < n := by omega
 have q5 : Lf[q + 1 + 1 + (tk x).length]?.map kt = some (4, [10]) := by
  have := (Bo z2).2
  simp only [List.length_append, List.length_cons, List.length_nil, Nat.zero_add] at this
  rw [show q + 1 + 1 + (tk x).length = q + 1 + (1 + (tk x).length) by omega]; exact this.1
 rw [hlen, show q + (2 + (tk x).length + 1) = (q + 1 + 1 + (tk x).length) + 1 by omega]
 refine NK T hq (by omega) z1.1 q5 ?_
 obtain ⟨a, b, ha, hb, hc, hd, hcc, hat⟩ := T.hd hq
 unfold A0
 rw [show (PS Lr q 0).l_ = Lr.drop q from rfl, hc]
 simp only [Option.bind_some, Bg T hq 0 (t := FJ) (by decide)]
 rw [Me T z1.1, show (FJ == FJ) = true from rfl]
 simp only [cond_true, Option.bind_some]
 exact Qh T hN hx kx hl a.at_ (fun q l => .inr (q, ({ Points := B.Points, Multipliers := B.Multipliers, Penalties := B.Penalties, Repeats := l } : AM))) z2 (by omega)
section
variable (hN : n + 200000000 <= N) {x y : Expr} (hx : Sml N x) (hy : Sml N y) (kx : kd x = 2) (ky : kd y = 1) {q : Nat}
include hN hx hy kx ky
theorem Oj {B B' : AM} {w : W4} (hw : w ≠ [10]) (hw2 : w ≠ FJ) (L : List Clause) (hl : L.length < 64) (fin : Ab -> List Clause -> Ag ⊕ (Ab × AM)) (hB : ∀ r, fin r (L ++ [⟨x, y⟩]) = .inr (r, B'))
  (hp : ∀ a : Ah, Lr[q]? = some a -> a.text_ = w -> q < n -> idx (Lr.drop q) 0 = some a -> Se Lf q FJ = false -> Se Lf q w = true -> A0 N (PS Lr q 0) B = ClR N (PS Lr (q + 1) 0) L a.at_ fin)
  (hS : EA Lf q (lnK w ⟨x, y⟩)) (hn : q + (lnK w ⟨x, y⟩).length < n) : RuB N Lr 2 (stB Lr q B) (stB Lr (q + (lnK w ⟨x, y⟩).length) B') := by
 have hlen : (lnK w ⟨x, y⟩).length = 2 + (tk x).length + 1 + (tk y).length + 1 := by unfold lnK; simp; omega
 have hS' : EA Lf q ([(2, w)] ++ ([(3, [58])] ++ tk x ++ [(3, [61, 62])] ++ tk y ++ [(4, [10])])) := by unfold lnK at hS; simpa using hS
 obtain ⟨z1, z2⟩ := Bo hS'
 simp only [List.length_cons, List.length_nil, Nat.zero_add] at z2
 have hq : q < n := by omega
 have q5 : Lf[q + 1 + 1 + (tk x).length + 1 + (tk y).length]?.map kt = some (4, [10]) := by
  have := (Bo z2).2
  simp only [List.length_append, List.length_cons, List.length_nil, Nat.zero_add] at this
  rw [show q + 1 + 1 + (tk x).length + 1 + (tk y).length = q + 1 + (1 + (tk x).length + 1 + (tk y).length) by omega]; exact this.1
 rw [hlen, show q + (2 + (tk x).length + 1 + (tk y).length + 1) = (q + 1 + 1 + (tk x).length + 1 + (tk y).length) + 1 by omega]
 refine NK T hq (by omega) z1.1 q5 ?_
 obtain ⟨a, ha, _, k2, _⟩ := L7 T hq z1.1 (by omega)
 obtain ⟨a', b, ha', hb, hc, hd, hcc, hat⟩ := T.hd hq
 rw [ha'] at ha; cases ha
 rw [hp a ha' k2 hq hc (by rw [Me T z1.1]; simpa using hw2) (by rw [Me T z1.1]; simp), QF T hN hx hy kx ky hl a.at_ fin z2 (by omega), hB]
theorem Tb {B : AM} (hl : B.Points.length < 64) (hS : EA Lf q (lnK Bf ⟨x, y⟩)) (hn : q + (lnK Bf ⟨x, y⟩).length < n) :
  RuB N Lr 2 (stB Lr q B) (stB Lr (q + (lnK Bf ⟨x, y⟩).length) { B with Points := B.Points ++ [⟨x, y⟩] }) :=
 Oj T hN hx hy kx ky (by decide) (by decide) B.Points hl (fun q l => .inr (q, ({ Points := l, Multipliers := B.Multipliers, Penalties := B.Penalties, Repeats := B.Repeats } : AM))) (fun _ => rfl) (fun a ha t1 hq hc hr hs => by
  unfold A0
  rw [show (PS Lr q 0).l_ = Lr.drop q from rfl, hc]
  simp only [Option.bind_some, Bg T hq 0 (t := FJ) (by decide), hr, cond_false, Bool.not_false, Bool.not_true]
  rw [t1]
  simp only [show (Bf == Bf) = true from rfl, cond_true, Bg T hq 0 (t := Bf) (by decide), Option.bind_some, hs, Bool.not_true, cond_false]
  rfl) hS hn
theorem Td {B : AM} (hl : B.Multipliers.length < 64) (hS : EA Lf q (lnK Ch ⟨x, y⟩)) (hn : q + (lnK Ch ⟨x, y⟩).length < n) :
  RuB N Lr 2 (stB Lr q B) (stB Lr (q + (lnK Ch ⟨x, y⟩).length) { B with Multipliers := B.Multipliers ++ [⟨x, y⟩] }) :=
 Oj T hN hx hy kx ky (by decide) (by decide) B.Multipliers hl (fun q l => .inr (q, ({ Points := B.Points, Multipliers := l, Penalties := B.Penalties, Repeats := B.Repeats } : AM))) (fun _ => rfl) (fun a ha t1 hq hc hr hs => by
  unfold A0
  rw [show (PS Lr q 0).l_ = Lr.drop q from rfl, hc]
  simp only [Option.bind_some, Bg T hq 0 (t := FJ) (by decide), hr, cond_false, Bool.not_false, Bool.not_true]
  rw [t1]
  simp only [show (Ch == Bf) = false from rfl, show (Ch == Ch) = true from rfl, cond_true, Bg T hq 0 (t := Ch) (by decide), Option.bind_some, hs, Bool.not_true, cond_false]
  rfl) hS hn
theorem Tc {B : AM} (hl : B.Penalties.length < 64) (hS : EA Lf q (lnK DJ ⟨x, y⟩)) (hn : q + (lnK DJ ⟨x, y⟩).length < n) :
  RuB N Lr 2 (stB Lr q B) (stB Lr (q + (lnK DJ ⟨x, y⟩).length) { B with Penalties := B.Penalties ++ [⟨x, y⟩] }) :=
 Oj T hN hx hy kx ky (by decide) (by decide) B.Penalties hl (fun q l => .inr (q, ({ Points := B.Points, Multipliers := B.Multipliers, Penalties := l, Repeats := B.Repeats } : AM))) (fun _ => rfl) (fun a ha t1 hq hc hr hs => by
  unfold A0
  rw [show (PS Lr q 0).l_ = Lr.drop q from rfl, hc]
  simp only [Option.bind_some, Bg T hq 0 (t := FJ) (by decide), hr, cond_false, Bool.not_false, Bool.not_true]
  rw [t1]
  simp only [show (DJ == Bf) = false from rfl, show (DJ == Ch) = false from rfl, show (DJ == DJ) = true from rfl, cond_true, Bg T hq 0 (t := DJ) (by decide), Option.bind_some, hs, Bool.not_true, cond_false]
  rfl) hS hn
end
theorem H7 {α : Type} {g : α -> Tks} {mk : List α -> AM} (ok : α -> Prop) (h : ∀ (L : List α) (x : α) (q : Nat), L.length < 64 -> ok x -> EA Lf q (g x) -> q + (g x).length < n -> RuB N Lr 2 (stB Lr q (mk L)) (stB Lr (q + (g x).length) (mk (L ++ [x])))) :
  ∀ (l L : List α) (q : Nat), (L ++ l).length <= 64 -> (∀ x, x ∈ l -> ok x) -> EA Lf q (l.flatMap g) -> q + (l.flatMap g).length < n -> ∃ d, d <= 2 * l.length /\ RuB N Lr d (stB Lr q (mk L)) (stB Lr (q + (l.flatMap g).length) (mk (L ++ l)))
 | [], L, q, _, _, _, _ => ⟨0, Nat.zero_le _, fun M => by rw [List.append_nil]; rfl⟩
 | x :: l, L, q, hl, hx, hS, hn => by
  rw [List.flatMap_cons] at hS hn ⊢
  obtain ⟨s1, s2⟩ := Bo hS
  rw [List.length_append] at hn ⊢
  rw [List.length_append, List.length_cons] at hl
  have r1 := h L x q (by omega) (hx x (List.mem_cons_self ..)) s1 (by omega)
  obtain ⟨d, hd, r2⟩ := H7 ok h l (L ++ [x]) (q + (g x).length) (by simp; omega) (fun y hy => hx y (List.mem_cons_of_mem _ hy)) s2 (by omega)
  refine ⟨2 + d, by simp; omega, ?_⟩
  have := r1.trans r2
  rw [<- Nat.add_assoc, show L ++ x :: l = L ++ [x] ++ l by simp]
  exact this
end
theorem PM {N : Nat} (hN : 300000000 <= N) {b : AM} (hf : O2 N b) (hz : szB b <= 10000000) (hv : vld b = true) (hl : (prb b).length <= 65536) : Ba N (prb b) = some (b, 0, 0) := by
 obtain ⟨v1, v2, v3, v4, v5⟩ := IE.1 hv
 obtain ⟨n, Lr, Lf, e1, T, hn, e2⟩ := QX (N := N) (by omega) (by omega) (U4 hv)
 obtain ⟨h1, h2, h3⟩ := O9 e2
 have hn2 := T.lf
 have hs0 : ∀ e t, FX e t = true -> t ≠ 0 -> HM e = true := fun e t h ht => by
  unfold FX at h; unfold HM; simp at h ⊢; exact ⟨h.1, by rw [h.2]; exact ht⟩
 have cl : ∀ (l : List Clause), QT N l -> szL l <= 10000000 -> Kq l = true -> ∀ c, c ∈ l -> Sml N c.When /\ Sml N c.Then /\ kd c.When = 2 /\ kd c.Then = 1 := by
  intro l hf hz hs c hc
  have h1 := HL hs hc
  have h2 : sz c.When + sz c.Then <= (l.map szC).sum := IF szC hc
  unfold szL at hz
  have h3 : FX c.When 2 = true /\ FX c.Then 1 = true := by unfold Ep at h1; simpa using h1
  have := hf.c _ hc
  exact ⟨⟨this.1, by omega, hs0 _ _ h3.1 (by decide)⟩, ⟨this.2, by omega, hs0 _ _ h3.2 (by decide)⟩, Mb h1, Mc h1⟩
 unfold szB at hz
 have c1 := cl _ hf.p (by omega) v1
 have c2 := cl _ hf.m (by omega) v2
 have c3 := cl _ hf.e (by omega) v3
 have c4 : ∀ e, e ∈ b.Repeats -> Sml N e /\ kd e = 1 := fun e he => by
  have := IF sz he
  unfold szX at hz
  exact ⟨⟨hf.r.c _ he, by omega, hs0 _ _ (v5 e he) (by decide)⟩, Jq (v5 e he)⟩
 unfold bkK at h1 h2 h3
 obtain ⟨h1, z4⟩ := Bo h1
 obtain ⟨h1, z3⟩ := Bo h1
 obtain ⟨z1, z2⟩ := Bo h1
 simp only [List.length_append] at h2 h3 z2 z3 z4
 obtain ⟨d1, k1, r1⟩ := H7 T (N := N) (g := lnK Bf) (mk := fun l => ⟨l, [], [], []⟩) (fun c => Sml N c.When /\ Sml N c.Then /\ kd c.When = 2 /\ kd c.Then = 1)
  (fun L c q hL hc hS hq => Tb T (by omega) hc.1 hc.2.1 hc.2.2.1 hc.2.2.2 (B := ⟨L, [], [], []⟩) hL hS hq) b.Points [] 0 (FY v1) c1 z1 (by omega)
 obtain ⟨d2, k2, r2⟩ := H7 T (N := N) (g := lnK Ch) (mk := fun l => ⟨b.Points, l, [], []⟩) (fun c => Sml N c.When /\ Sml N c.Then /\ kd c.When = 2 /\ kd c.Then = 1)
  (fun L c q hL hc hS hq => Td T (by omega) hc.1 hc.2.1 hc.2.2.1 hc.2.2.2 (B := ⟨b.Points, L, [], []⟩) hL hS hq) b.Multipliers [] _ (FY v2) c2 z2 (by omega)
 obtain ⟨d3, k3, r3⟩ := H7 T (N := N) (g := lnK DJ) (mk := fun l => ⟨b.Points, b.Multipliers, l, []⟩) (fun c => Sml N c.When /\ Sml N c.Then /\ kd c.When = 2 /\ kd c.Then = 1)
  (fun L c q hL hc hS hq => Tc T (by omega) hc.1 hc.2.1 hc.2.2.1 hc.2.2.2 (B := ⟨b.Points, b.Multipliers, L, []⟩) hL hS hq) b.Penalties [] _ (FY v3) c3 z3 (by omega)
 obtain ⟨d4, k4, r4⟩ := H7 T (N := N) (g := lrK) (mk := fun l => ⟨b.Points, b.Multipliers, b.Penalties, l⟩) (fun e => Sml N e /\ kd e = 1)
  (fun L e q hL he hS hq => Ta T (by omega) he.1 he.2 (B := ⟨b.Points, b.Multipliers, b.Penalties, L⟩) hL hS hq) b.Repeats [] _ v4 c4 z4 (by omega)
 have n1 := FY v1
 have n2 := FY v2
 have n3 := FY v3
 simp only [List.nil_append] at r1 r2 r3 r4
 rw [show 0 + (b.Points.flatMap (lnK Bf)).length + (b.Multipliers.flatMap (lnK Ch)).length = 0 + ((b.Points.flatMap (lnK Bf)).length + (b.Multipliers.flatMap (lnK Ch)).length) by omega] at r2
 rw [show 0 + ((b.Points.flatMap (lnK Bf)).length + (b.Multipliers.flatMap (lnK Ch)).length) + (b.Penalties.flatMap (lnK DJ)).length = 0 + ((b.Points.flatMap (lnK Bf)).length + (b.Multipliers.flatMap (lnK Ch)).length + (b.Penalties.flatMap (lnK DJ)).length) by omega] at r3
 have r := ((r1.trans r2).trans r3).trans r4
 generalize hq : 0 + ((b.Points.flatMap (lnK Bf)).length + (b.Multipliers.flatMap (lnK Ch)).length + (b.Penalties.flatMap (lnK DJ)).length) + (b.Repeats.flatMap lrK).length = q at r
 have hqn : q < n := by omega
 have hend : Lf[q]?.map kt = some (5, []) := by
  rw [<- h2]; congr 2; omega
 obtain ⟨a, b', ha, hb, hc, hd, _, _⟩ := T.hd hqn
 have e3 := IR T hqn ha hb
 rw [hb] at hend
 simp only [Option.map_some, Option.some.injEq, kt, Prod.mk.injEq] at hend
 rw [hend.1] at e3
 have stop : GI N Lr (stB Lr q b) = some (.done (stB Lr q b)) := by
  unfold GI Bc stB
  simp only
  rw [hc]
  simp only [Option.bind_some, e3, show ((5 : Int) != 5) = false from rfl, cond_false]
 have fin : AL (GI N Lr) N (stB Lr 0 ⟨[], [], [], []⟩) = some (.done (stB Lr q b)) := by
  obtain ⟨M, hM⟩ : ∃ M, N = M + 1 + (d1 + d2 + d3 + d4) := ⟨N - 1 - (d1 + d2 + d3 + d4), by omega⟩
  have := r (M + 1)
  rw [<- hM] at this
  rw [this, show (⟨b.Points, b.Multipliers, b.Penalties, b.Repeats⟩ : AM) = b from rfl, AL, stop]
 unfold Ba GR
 rw [decide_eq_false (by omega)]
 simp only [cond_false]
 rw [e1]
 simp only [Option.bind_some]
 unfold Ed
 rw [show (⟨Lr, 0⟩ : Ab) = PS Lr 0 0 from by unfold PS; rw [List.drop_zero]]
 rw [show (((PS Lr 0 0).l_, (PS Lr 0 0).open_, Df.Points, Df.Multipliers, Df.Penalties, Df.Repeats) : List Ah × Int × List Clause × List Clause × List Clause × List Expr) = stB Lr 0 ⟨[], [], [], []⟩ from rfl, fin]
 rfl
theorem OC {ρ σ : Type} {body : σ -> Option (Be ρ σ)} (I : σ -> Prop) (R : Be ρ σ -> Prop) (hn : ∀ s s', I s -> body s = some (.next s') -> I s') (hr : ∀ s o, I s -> body s = some o -> (∀ s', o ≠ .next s') -> R o) :
  ∀ (N : Nat) (s : σ) (o : Be ρ σ), I s -> AL body N s = some o -> R o
 | 0, s, o, _, h => by cases h
 | N + 1, s, o, hI, h => by
  rw [AL] at h
  cases hb : body s with
  | none => rw [hb] at h; cases h
  | some f =>
   rw [hb] at h
   cases f with
   | next s' => exact OC I R hn hr N s' o (hn s s' hI hb) h
   | done s' => cases h; exact hr s _ hI hb (fun _ h => by cases h)
   | ret r => cases h; exact hr s _ hI hb (fun _ h => by cases h)
theorem Cl {α β : Type} {P : Option (Ag ⊕ α)} {k : α -> Option (Ag ⊕ β)} {r : β} (h : (P.bind fun q => sk q (fun b => some (.inl b)) k) = some (.inr r)) : ∃ a, P = some (.inr a) /\ k a = some (.inr r) := by
 cases P with
 | none => cases h
 | some q =>
  cases q with
  | inl b => simp [sk] at h
  | inr a => exact ⟨a, rfl, by simpa [sk] using h⟩
section
variable {N n : Nat} {Lr : List Ah} {Lf : List Ae}
def Inv (n : Nat) (Lr : List Ah) (f : PF) : Prop := ∀ (i : Nat) (o : Int) (p : Ab) (x : Expr), i < n -> 0 <= o -> o <= 32 -> f (PS Lr i o) = some (.inr (p, x)) -> ∃ j, p = PS Lr j o /\ i < j /\ j < n /\ sz x <= j - i
variable (T : Gw n Lr Lf)
include T
theorem SU {q : Nat} {a : Ah} (hq : q < n) (ha : Lr[q]? = some a) {t : W4} (h : seeR a t = true) : q + 1 < n := by
 obtain ⟨a', b, ha', hb, hc, hd, he, _⟩ := T.hd hq
 rw [ha'] at ha; cases ha
 rcases he with ⟨_, he⟩ | ⟨he, _⟩
 ·exact he
 ·rw [he.seeR] at h; cases h
theorem Hu {f : PF} (hf : Inv n Lr f) (ops : List (W4 × Int)) : Inv n Lr (fun p => AR N p f ops) := by
 intro i o p x hi h0 h32 h
 have h : AR N (PS Lr i o) f ops = some (.inr (p, x)) := h
 unfold AR at h
 cases e1 : f (PS Lr i o) with
 | none => rw [e1] at h; cases h
 | some q =>
  rw [e1] at h
  cases q with
  | inl b => simp [sk] at h
  | inr r0 =>
   obtain ⟨p0, x0⟩ := r0
   obtain ⟨j, rfl, hij, hj, hs⟩ := hf i o p0 x0 hi h0 h32 e1
   simp only [Option.bind_some, sk] at h
   rw [show (PS Lr j o).l_ = Lr.drop j from rfl, show (PS Lr j o).open_ = o from rfl] at h
   cases e2 : AL (Aw N (PS Lr i o) f ops (PS Lr j o, x0)) N (x0.Op, x0.Value, x0.Kids, Lr.drop j, o) with
   | none => rw [e2] at h; cases h
   | some fl =>
    rw [e2] at h
    have key := OC (body := Aw N (PS Lr i o) f ops (PS Lr j o, x0)) (fun s => ∃ (q : Nat) (e : Expr), s = (e.Op, e.Value, e.Kids, Lr.drop q, o) /\ i < q /\ q < n /\ sz e <= q - i)
     (fun fl => ∃ r, fl = .ret r /\ ∀ p x, r = .inr (p, x) -> ∃ j, p = PS Lr j o /\ i < j /\ j < n /\ sz x <= j - i) (by
      rintro s s' ⟨q, e, rfl, hq, hq2, hse⟩ hb
      obtain ⟨a, b, ha, hb', hc, hd, _, _⟩ := T.hd hq2
      have hacc := CT T (N := N) hq2 o a.text_ ha
      unfold Aw at hb
      simp only [hc, Option.bind_some] at hb
      cases hm : HZ ops a.text_ with
      | false => rw [hm] at hb; simp at hb
      | true =>
       rw [hm] at hb
       simp only [Bool.not_true, cond_false] at hb
       rw [show (⟨Lr.drop q, o⟩ : Ab) = PS Lr q o from rfl, hacc] at hb
       cases hse2 : seeR a a.text_ with
       | false => rw [hse2] at hb; simp at hb
       | true =>
        have hq3 := SU T hq2 ha hse2
        rw [hse2] at hb
        simp only [cond_true, Option.bind_some, Bool.not_true, cond_false] at hb
        rw [show (⟨(PS Lr (q + 1) o).l_, (PS Lr (q + 1) o).open_⟩ : Ab) = PS Lr (q + 1) o from rfl] at hb
        cases e3 : f (PS Lr (q + 1) o) with
        | none => rw [e3] at hb; cases hb
        | some r1 =>
         rw [e3] at hb
         cases r1 with
         | inl b1 => simp [sk] at hb
         | inr r2 =>
          obtain ⟨p2, y⟩ := r2
          obtain ⟨j2, rfl, hj1, hj2, hsy⟩ := hf (q + 1) o p2 y hq3 h0 h32 e3
          simp only [Option.bind_some, sk, Option.some.injEq, Be.next.injEq] at hb
          refine ⟨j2, ⟨FF ops a.text_ 0, 0, [⟨e.Op, e.Value, e.Kids⟩, y]⟩, hb.symm, by omega, hj2, ?_⟩
          rw [Kp]
          have : (⟨e.Op, e.Value, e.Kids⟩ : Expr) = e := by cases e; rfl
          rw [this]; omega) (by
      rintro s fl ⟨q, e, rfl, hq, hq2, hse⟩ hb hnx
      obtain ⟨a, b, ha, hb', hc, hd, _, _⟩ := T.hd hq2
      have hacc := CT T (N := N) hq2 o a.text_ ha
      have hee : (⟨e.Op, e.Value, e.Kids⟩ : Expr) = e := by cases e; rfl
      unfold Aw at hb
      simp only [hc, Option.bind_some] at hb
      cases hm : HZ ops a.text_ with
      | false =>
       rw [hm] at hb
       simp only [Bool.not_false, cond_true, Option.bind_some, Option.some.injEq] at hb
       subst hb
       refine ⟨_, rfl, fun p x h => ?_⟩
       simp only [Sum.inr.injEq, Prod.mk.injEq] at h
       obtain ⟨rfl, rfl⟩ := h
       exact ⟨q, rfl, hq, hq2, by rw [hee]; exact hse⟩
      | true =>
       rw [hm] at hb
       simp only [Bool.not_true, cond_false] at hb
       rw [show (⟨Lr.drop q, o⟩ : Ab) = PS Lr q o from rfl, hacc] at hb
       cases hse2 : seeR a a.text_ with
       | false =>
        rw [hse2] at hb
        simp only [cond_false, Option.bind_some, Bool.not_false, cond_true, Option.some.injEq] at hb
        subst hb
        refine ⟨_, rfl, fun p x h => ?_⟩
        simp only [Sum.inr.injEq, Prod.mk.injEq] at h
        obtain ⟨rfl, rfl⟩ := h
        exact ⟨q, rfl, hq, hq2, by rw [hee]; exact hse⟩
       | true =>
        rw [hse2] at hb
        simp only [cond_true, Option.bind_some, Bool.not_true, cond_false] at hb
        rw [show (⟨(PS Lr (q + 1) o).l_, (PS Lr (q + 1) o).open_⟩ : Ab) = PS Lr (q + 1) o from rfl] at hb
        cases e3 : f (PS Lr (q + 1) o) with
        | none => rw [e3] at hb; cases hb
        | some r1 =>
         rw [e3] at hb
         cases r1 with
         | inl b1 =>
          simp only [Option.bind_some, sk, Option.some.injEq] at hb
          subst hb
          exact ⟨_, rfl, fun p x h => by cases h⟩
         | inr r2 =>
          simp only [Option.bind_some, sk, Option.some.injEq] at hb
          exact absurd hb.symm (hnx _)) N _ fl ⟨j, x0, rfl, hij, hj, hs⟩ e2
    obtain ⟨r, rfl, hr⟩ := key
    simp only [Option.bind_some, Be.k, Option.some.injEq] at h
    exact hr p x h
theorem TM {fd ft : PF} (hd : Inv n Lr fd) (ht : Inv n Lr ft) : Inv n Lr (BF N fd ft) := by
 intro i o p x hi h0 h32 h
 unfold BF at h
 rw [Bg T hi o (by decide)] at h
 cases hs : Se Lf i [110, 111, 116] with
 | true =>
  have hlt := T.lt hi hs
  rw [hs] at h
  simp only [Option.bind_some, cond_true] at h
  obtain ⟨⟨p', x'⟩, e1, e2⟩ := Cl h
  obtain ⟨j, rfl, hij, hj, hz⟩ := hd (i + 1) o p' x' hlt h0 h32 e1
  simp only [Option.some.injEq, Sum.inr.injEq, Prod.mk.injEq] at e2
  obtain ⟨rfl, rfl⟩ := e2
  exact ⟨j, rfl, by omega, hj, by rw [N4]; omega⟩
 | false =>
  rw [hs] at h
  simp only [Option.bind_some, cond_false] at h
  obtain ⟨⟨p', x'⟩, e1, e2⟩ := Cl h
  obtain ⟨j, rfl, hij, hj, hz⟩ := ht i o p' x' hi h0 h32 e1
  simp only [Option.some.injEq, Sum.inr.injEq, Prod.mk.injEq] at e2
  obtain ⟨rfl, rfl⟩ := e2
  exact ⟨j, rfl, hij, hj, hz⟩
theorem SN {fs : PF} (hs : Inv n Lr fs) : Inv n Lr (BE N fs) := by
 intro i o p x hi h0 h32 h
 unfold BE at h
 obtain ⟨⟨p1, x1⟩, e1, h⟩ := Cl h
 obtain ⟨j, rfl, hij, hj, hz⟩ := hs i o p1 x1 hi h0 h32 e1
 have two : ∀ {op : Int} {k : Ab × Expr -> Option (Ag ⊕ (Ab × Expr))} {P : Option (Ag ⊕ (Ab × Expr))}, P = fs (PS Lr (j + 1) o) -> j + 1 < n -> (P.bind fun q => sk q (fun b => some (.inl b)) k) = some (.inr (p, x)) -> (∀ r, k r = some (.inr (r.1, ⟨op, 0, [x1, r.2]⟩))) -> ∃ j, p = PS Lr j o /\ i < j /\ j < n /\ sz x <= j - i := by
  rintro op k P rfl hlt h hk
  obtain ⟨⟨p2, x2⟩, e2, h⟩ := Cl h
  obtain ⟨q, rfl, hjq, hq, hz2⟩ := hs (j + 1) o p2 x2 hlt h0 h32 e2
  rw [hk] at h
  simp only [Option.some.injEq, Sum.inr.injEq, Prod.mk.injEq] at h
  obtain ⟨rfl, rfl⟩ := h
  exact ⟨q, rfl, by omega, hq, by rw [Kp]; omega⟩
 rw [Bg T hj o (by decide)] at h
 cases hq : Se Lf j [61] with
 | true =>
  rw [hq] at h
  simp only [Option.bind_some, cond_true] at h
  have h' := h
  refine two (op := 6) rfl (T.lt hj hq) ?_ (fun r => rfl)
  cases e2 : fs (PS Lr (j + 1) o) with
  | none => rw [e2] at h; cases h
  | some q =>
   rw [e2] at h
   cases q with
   | inl b => simp [sk] at h
   | inr r => simpa [sk] using h
 | false =>
  rw [hq] at h
  simp only [Option.bind_some, cond_false] at h
  rw [Bg T hj o (by decide)] at h
  cases hl : Se Lf j [60] with
  | true =>
   rw [hl] at h
   simp only [Option.bind_some, cond_true] at h
   refine two (op := 7) rfl (T.lt hj hl) ?_ (fun r => rfl)
   cases e2 : fs (PS Lr (j + 1) o) with
   | none => rw [e2] at h; cases h
   | some q =>
    rw [e2] at h
    cases q with
    | inl b => simp [sk] at h
    | inr r => simpa [sk] using h
  | false =>
   rw [hl] at h
   simp only [Option.bind_some, cond_false, sk, Option.some.injEq, Sum.inr.injEq, Prod.mk.injEq] at h
   obtain ⟨rfl, rfl⟩ := h
   exact ⟨j, rfl, hij, hj, hz⟩
theorem NS {i : Nat} {o : Int} {p : Ab} (hi : i < n) (h0 : 0 <= o) (h32 : o <= 32) (h : BK N (PS Lr i o) = some (.inr p)) : p = PS Lr (i + 1) (o + 1) /\ i + 1 < n /\ o + 1 <= 32 := by
 rw [J0 T hi h0 h32] at h
 cases hs : Se Lf i [40] with
 | false => rw [hs] at h; cases h
 | true =>
  rw [hs, cond_true] at h
  by_cases ho : o = 32
  ·rw [if_pos ho] at h; cases h
  ·rw [if_neg ho] at h
   cases h; exact ⟨rfl, T.lt hi hs, by omega⟩
theorem Gj {i : Nat} {o : Int} {p : Ab} (hi : i < n) {t : W4} (ht : t ≠ [10]) (h : Ax N (PS Lr i o) t = some (.inr p)) : p = PS Lr (i + 1) o /\ i + 1 < n := by
 rw [DA T hi o ht] at h
 cases hs : Se Lf i t with
 | false => rw [hs] at h; cases h
 | true => rw [hs] at h; cases h; exact ⟨rfl, T.lt hi hs⟩
theorem NL {i : Nat} {o : Int} {p : Ab} (hi : i < n) (h0 : 0 <= o) (h33 : o <= 33) (h : BJ N (PS Lr i o) = some (.inr p)) : p = PS Lr (i + 1) (o - 1) /\ i + 1 < n := by
 rw [JZ T hi h0 h33] at h
 cases hs : Se Lf i [41] with
 | false => rw [hs] at h; cases h
 | true => rw [hs] at h; cases h; exact ⟨rfl, T.lt hi hs⟩
theorem Rm {i : Nat} {a : Ah} (hi : i < n) (ha : Lr[i]? = some a) (hk : a.kind_ ≠ 0) : i + 1 < n := by
 obtain ⟨a', b, ha', hb, hc, hd, he, _⟩ := T.hd hi
 rw [ha'] at ha; cases ha
 rcases he with ⟨_, he⟩ | ⟨he, _⟩
 ·exact he
 ·exact absurd he.a0 hk
theorem Tt (hN : 100 < N) {f : PF} (hf : Inv n Lr f) : Inv n Lr (A6 N f) := by
 intro i o p x hi h0 h32 h
 obtain ⟨a, b, ha, hb, hc, hd, he, hat⟩ := T.hd hi
 rw [J4 T hN f hi ha] at h
 have leaf : ∀ (op v : Int), sz ⟨op, v, []⟩ = 1 := fun op v => by rw [L8]; rfl
 cases k1 : a.kind_ == 1 with
 | true =>
  rw [k1, cond_true] at h
  have hlt := Rm T hi ha (by intro e; rw [e] at k1; cases k1)
  cases ea : Cm N a.text_ with
  | none => rw [ea] at h; cases h
  | some r =>
   rw [ea] at h
   simp only [Option.bind_some] at h
   cases hb2 : (r.2 || ((decide ((a.text_.length : Int) > 7)) || (decide (r.1 > 1000000)))) with
   | true => rw [hb2] at h; cases h
   | false =>
    rw [hb2] at h
    cases h
    exact ⟨i + 1, rfl, by omega, hlt, by rw [leaf]; omega⟩
 | false =>
  rw [k1, cond_false] at h
  cases k2 : ((a.kind_ == 2) && decide (fi (fun x => a.text_ == x) NM >= 0)) with
  | true =>
   rw [k2, cond_true] at h
   have hlt := Rm T hi ha (by intro e; rw [e] at k2; cases k2)
   cases h
   exact ⟨i + 1, rfl, by omega, hlt, by rw [leaf]; omega⟩
  | false =>
   rw [k2, cond_false, Bg T hi o (by decide)] at h
   cases hs : Se Lf i [105, 102] with
   | true =>
    have hlt := T.lt hi hs
    rw [hs] at h
    simp only [Option.bind_some, cond_true] at h
    unfold H0 Hf at h
    obtain ⟨p1, e1, h⟩ := Cl h
    obtain ⟨rfl, l1, o1⟩ := NS T hlt h0 h32 e1
    unfold H1 Hf at h
    obtain ⟨⟨p2, c⟩, e2, h⟩ := Cl h
    obtain ⟨j2, rfl, hj2, l2, z2⟩ := hf _ _ p2 c l1 (by omega) (by omega) e2
    unfold H2 Hf at h
    obtain ⟨p3, e3, h⟩ := Cl h
    obtain ⟨rfl, l3⟩ := Gj T l2 (by decide) e3
    unfold H3 Hf at h
    obtain ⟨⟨p4, u⟩, e4, h⟩ := Cl h
    obtain ⟨j4, rfl, hj4, l4, z4⟩ := hf _ _ p4 u l3 (by omega) (by omega) e4
    unfold H4 Hf at h
    obtain ⟨p5, e5, h⟩ := Cl h
    obtain ⟨rfl, l5⟩ := Gj T l4 (by decide) e5
    unfold H5 Hf at h
    obtain ⟨⟨p6, v⟩, e6, h⟩ := Cl h
    obtain ⟨j6, rfl, hj6, l6, z6⟩ := hf _ _ p6 v l5 (by omega) (by omega) e6
    unfold H6 Hf at h
    obtain ⟨p7, e7, h⟩ := Cl h
    obtain ⟨rfl, l7⟩ := NL T l6 (by omega) (by omega) e7
    cases h
    refine ⟨j6 + 1, by rw [show o + 1 - 1 = o by omega], by omega, l7, ?_⟩
    show sz (⟨11, 0, [c, u, v]⟩ : Expr) <= _
    rw [JK]; omega
   | false =>
    rw [hs] at h
    simp only [Option.bind_some, cond_false] at h
    rw [On T hi o (by decide)] at h
    cases hp : Se Lf i [40] with
    | false => rw [hp] at h; cases h
    | true =>
     rw [hp] at h
     simp only [Option.bind_some, cond_true] at h
     unfold Q0 Hf at h
     obtain ⟨p1, e1, h⟩ := Cl h
     obtain ⟨rfl, l1, o1⟩ := NS T hi h0 h32 e1
     unfold Q1 Hf at h
     obtain ⟨⟨p2, c⟩, e2, h⟩ := Cl h
     obtain ⟨j2, rfl, hj2, l2, z2⟩ := hf _ _ p2 c l1 (by omega) (by omega) e2
     unfold Q2 Hf at h
     obtain ⟨p7, e7, h⟩ := Cl h
     obtain ⟨rfl, l7⟩ := NL T l2 (by omega) (by omega) e7
     cases h
     exact ⟨j2 + 1, by rw [show o + 1 - 1 = o by omega], by omega, l7, by show sz c <= _; omega⟩
theorem JF {f : PF} (h : Inv n Lr f) : Inv n Lr (fun p => (f p).bind fun r39 => sk r39 (fun b52 => some (.inl b52)) (fun r42 => some (.inr (r42.1, r42.2)))) := by
 intro i o p x hi h0 h32 e
 obtain ⟨⟨p1, x1⟩, e1, e⟩ := Cl e
 cases e
 exact h i o _ _ hi h0 h32 e1
theorem RE (hN : 100 < N) : ∀ k, Inv n Lr (Bj N k).q145 /\ Inv n Lr (Bj N k).q185 /\ Inv n Lr (Bj N k).q212 /\ Inv n Lr (Bj N k).q226 /\ Inv n Lr (Bj N k).q233 /\ Inv n Lr (Bj N k).q239 /\ Inv n Lr (Bj N k).q243
 | 0 => ⟨fun _ _ _ _ _ _ _ h => (by cases h), fun _ _ _ _ _ _ _ h => (by cases h), fun _ _ _ _ _ _ _ h => (by cases h), fun _ _ _ _ _ _ _ h => (by cases h), fun _ _ _ _ _ _ _ h => (by cases h), fun _ _ _ _ _ _ _ h => (by cases h), fun _ _ _ _ _ _ _ h => (by cases h)⟩
 | k + 1 => by
  obtain ⟨a1, a2, a3, a4, a5, a6, a7⟩ := RE hN k
  exact ⟨JF T (Hu T (N := N) a2 [([111, 114], 5)]), JF T (Hu T (N := N) a3 [([97, 110, 100], 4)]), TM T a3 a4, SN T a5, JF T (Hu T (N := N) a6 [([43], 8), ([45], 9)]), JF T (Hu T (N := N) a7 [([42], 10)]), Tt T hN a1⟩
theorem TC (hN : 100 < N) {i : Nat} {p : Ab} {x : Expr} (hi : i < n) (h : Cw N (PS Lr i 0) = some (.inr (p, x))) : ∃ j, p = PS Lr j 0 /\ i < j /\ j < n /\ sz x <= j - i := (RE T hN N).1 i 0 p x hi (by omega) (by omega) h
end
def lz (l : List Clause) : Nat := (l.map fun c => sz c.When + sz c.Then + 3).sum
def rz (l : List Expr) : Nat := (l.map fun e => sz e + 2).sum
def bz (b : AM) : Nat := lz b.Points + lz b.Multipliers + lz b.Penalties + rz b.Repeats
structure BkS (N : Nat) (b : AM) : Prop where
 o : Nv N b
 p : ∀ c, c ∈ b.Points -> Ep c = true
 m : ∀ c, c ∈ b.Multipliers -> Ep c = true
 e : ∀ c, c ∈ b.Penalties -> Ep c = true
 r : ∀ x, x ∈ b.Repeats -> FX x 1 = true
theorem Qt (l m : List Clause) : lz (l ++ m) = lz l + lz m := by unfold lz; rw [List.map_append, List.sum_append]
theorem Vd (l m : List Expr) : rz (l ++ m) = rz l + rz m := by unfold rz; rw [List.map_append, List.sum_append]
theorem Qs (c : Clause) : lz [c] = sz c.When + sz c.Then + 3 := by simp [lz]
theorem Vc (x : Expr) : rz [x] = sz x + 2 := by simp [rz]
section
variable {N n : Nat} {Lr : List Ah} {Lf : List Ae} (T : Gw n Lr Lf)
include T
theorem Jv (hN : 10 * n + 1000 <= N) {i : Nat} (hi : i < n) {p : Ab} {y : BZ} (h : AD N (PS Lr i 0) = some (.inr (p, y))) : ∃ j, p = PS Lr j 0 /\ i < j /\ j < n /\ Fit N y.Expr /\ sz y.Expr <= j - i := by
 obtain ⟨p0, r0, p1, _, hO⟩ := NQ T hN hi (o := 0) (by omega) (by omega)
 obtain ⟨a, b, ha, hb, hc, hd, _, hat⟩ := T.hd hi
 unfold AD at h
 rw [show (PS Lr i 0).l_ = Lr.drop i from rfl, hc, p1] at h
 simp only [Option.bind_some] at h
 cases hO with
 | err e w j o' x he hj => cases h
 | ok j x h1 h2 hx =>
  obtain ⟨j', e1, h3, h4, h5⟩ := TC T (by omega) hi p1
  simp only [sk, Option.some.injEq, Sum.inr.injEq, Prod.mk.injEq] at h
  obtain ⟨rfl, rfl⟩ := h
  exact ⟨j', e1, h3, h4, UU hx (by omega), h5⟩
theorem KH {x : Expr} (hf : Fit N x) {q : Ab} {at_ t : Int} (h : AE N q ⟨x, at_⟩ t = some (.inr ())) : dp x <= 32 /\ kd x ≠ 0 /\ (t ≠ 0 -> kd x = t) := by
 rcases Hx T (N := N) (i := 0) (o := 0) (q := q) hf at_ t with ⟨_, c1, _⟩ | ⟨_, _, c1, _⟩ | ⟨h1, h2, h3, _, _⟩
 ·rw [c1] at h; cases h
 ·rw [c1] at h; cases h
 ·exact ⟨h1, h2, h3⟩
theorem Jy (hN : 10 * n + 1000 <= N) {i : Nat} (hi : i < n) {l : List Clause} (hl : l.length <= 64) {at_ : Int} {fin : Ab -> List Clause -> Ag ⊕ (Ab × AM)} {r : Ab × AM} (h : ClR N (PS Lr i 0) l at_ fin = some (.inr r)) :
  ∃ j x y, fin (PS Lr j 0) (l ++ [⟨x, y⟩]) = .inr r /\ i < j /\ j < n /\ Fit N x /\ Fit N y /\ Ep ⟨x, y⟩ = true /\ l.length < 64 /\ sz x + sz y + 2 <= j - i := by
 unfold ClR at h
 obtain ⟨p1, e1, h⟩ := Cl h
 obtain ⟨rfl, l1⟩ := Gj T hi (by decide) e1
 obtain ⟨⟨p2, y2⟩, e2, h⟩ := Cl h
 obtain ⟨j2, rfl, hj2, l2, f2, z2⟩ := Jv T hN l1 e2
 obtain ⟨p3, e3, h⟩ := Cl h
 obtain ⟨rfl, l3⟩ := Gj T l2 (by decide) e3
 obtain ⟨⟨p4, y4⟩, e4, h⟩ := Cl h
 obtain ⟨j4, rfl, hj4, l4, f4, z4⟩ := Jv T hN l3 e4
 obtain ⟨_, e5, h⟩ := Cl h
 obtain ⟨_, e6, h⟩ := Cl h
 have hl2 : l.length < 64 := by
  rcases Nat.lt_or_ge l.length 64 with h' | h'
  ·exact h'
  ·exfalso
   have : l.length = 64 := by omega
   unfold Bp at e6
   rw [show ((l.length : Int) == 64) = true by rw [this]; rfl] at e6
   cases e6
 obtain ⟨_, e7, h⟩ := Cl h
 obtain ⟨_, e8, h⟩ := Cl h
 have c7 := KH T (q := PS Lr j4 0) f2 (at_ := y2.at_) (t := 2) e7
 have c8 := KH T (q := PS Lr j4 0) f4 (at_ := y4.at_) (t := 1) e8
 rw [CA (by simp; omega)] at h
 simp only [Option.bind_some, Option.some.injEq] at h
 refine ⟨j4, y2.Expr, y4.Expr, h, by omega, l4, f2, f4, ?_, hl2, by omega⟩
 unfold Ep FX
 simp [c7.1, c8.1, c7.2.2 (by decide), c8.2.2 (by decide)]
theorem Qg (hN : 10 * n + 1000 <= N) {i : Nat} (hi : i < n) {l : List Expr} (hl : l.length <= 64) {at_ : Int} {fin : Ab -> List Expr -> Ag ⊕ (Ab × AM)} {r : Ab × AM} (h : RpR N (PS Lr i 0) l at_ fin = some (.inr r)) :
  ∃ j x, fin (PS Lr j 0) (l ++ [x]) = .inr r /\ i < j /\ j < n /\ Fit N x /\ FX x 1 = true /\ l.length < 64 /\ sz x + 1 <= j - i := by
 unfold RpR at h
 obtain ⟨p1, e1, h⟩ := Cl h
 obtain ⟨rfl, l1⟩ := Gj T hi (by decide) e1
 obtain ⟨⟨p2, y2⟩, e2, h⟩ := Cl h
 obtain ⟨j2, rfl, hj2, l2, f2, z2⟩ := Jv T hN l1 e2
 obtain ⟨_, e5, h⟩ := Cl h
 obtain ⟨_, e6, h⟩ := Cl h
 have hl2 : l.length < 64 := by
  rcases Nat.lt_or_ge l.length 64 with h' | h'
  ·exact h'
  ·exfalso
   have : l.length = 64 := by omega
   unfold Ce at e6
   rw [show ((l.length : Int) == 64) = true by rw [this]; rfl] at e6
   cases e6
 obtain ⟨_, e7, h⟩ := Cl h
 have c7 := KH T (q := PS Lr j2 0) f2 (at_ := y2.at_) (t := 1) e7
 rw [CA (by simp; omega)] at h
 simp only [Option.bind_some] at h
 rw [EK, List.getElem?_append_right (Nat.le_refl _), Nat.sub_self] at h
 simp only [List.getElem?_cons_zero, Option.bind_some, Int.toNat_natCast, Option.some.injEq] at h
 rw [List.set_append_right _ _ (Nat.le_refl _), Nat.sub_self, List.set_cons_zero] at h
 refine ⟨j2, y2.Expr, h, by omega, l2, f2, ?_, hl2, by omega⟩
 unfold FX
 simp [c7.1, c7.2.2 (by decide)]
theorem Te (hN : 10 * n + 1000 <= N) {i : Nat} (hi : i < n) {B B' : AM} (hB : BkS N B) {p : Ab} (h : A0 N (PS Lr i 0) B = some (.inr (p, B'))) : ∃ j, p = PS Lr j 0 /\ i < j /\ j < n /\ BkS N B' /\ bz B' <= bz B + (j - i) := by
 obtain ⟨a, b, ha, hb, hc, hd, hcc, hat⟩ := T.hd hi
 have snoc : ∀ {l : List Clause} {c : Clause}, (∀ d, d ∈ l -> Ep d = true) -> Ep c = true -> ∀ d, d ∈ l ++ [c] -> Ep d = true := by
  intro l c hl hc d hd
  rcases List.mem_append.1 hd with hd | hd
  ·exact hl d hd
  ·rw [List.mem_singleton.1 hd]; exact hc
 unfold A0 at h
 rw [show (PS Lr i 0).l_ = Lr.drop i from rfl, hc] at h
 simp only [Option.bind_some, Bg T hi 0 (t := FJ) (by decide)] at h
 cases hr : Se Lf i FJ with
 | true =>
  have hlt := T.lt hi hr
  rw [hr] at h
  simp only [cond_true, Option.bind_some] at h
  obtain ⟨j, x, g1, g2, g3, g4, g5, g6, g7⟩ := Qg T hN hlt hB.o.r.1 (at_ := a.at_) (fin := fun q l => .inr (q, ({ Points := B.Points, Multipliers := B.Multipliers, Penalties := B.Penalties, Repeats := l } : AM))) h
  simp only [Sum.inr.injEq, Prod.mk.injEq] at g1
  obtain ⟨rfl, rfl⟩ := g1
  refine ⟨j, rfl, by omega, g3, ⟨⟨hB.o.p, hB.o.m, hB.o.e, by simp; omega, fun y hy => ?_⟩, hB.p, hB.m, hB.e, fun y hy => ?_⟩, ?_⟩
  ·rcases List.mem_append.1 hy with hy | hy
   ·exact hB.o.r.2 y hy
   ·rw [List.mem_singleton.1 hy]; exact g4
  ·rcases List.mem_append.1 hy with hy | hy
   ·exact hB.r y hy
   ·rw [List.mem_singleton.1 hy]; exact g5
  ·unfold bz; simp only [Vd, Vc]; omega
 | false =>
  rw [hr] at h
  simp only [cond_false, Bool.not_false, Bool.not_true, Option.bind_some] at h
  by_cases t1 : a.text_ = Bf
  ·rw [t1] at h
   simp only [show (Bf == Bf) = true from rfl, cond_true, Bg T hi 0 (t := Bf) (by decide), Option.bind_some] at h
   cases hp : Se Lf i Bf with
   | false => rw [hp] at h; cases h
   | true =>
    have hlt := T.lt hi hp
    rw [hp] at h
    simp only [cond_true, Bool.not_true, cond_false, Option.bind_some] at h
    obtain ⟨j, x, y, g1, g2, g3, gx, gy, g5, g6, g7⟩ := Jy T hN hlt hB.o.p.1 (at_ := a.at_) (fin := fun q l => .inr (q, ({ Points := l, Multipliers := B.Multipliers, Penalties := B.Penalties, Repeats := B.Repeats } : AM))) h
    simp only [Sum.inr.injEq, Prod.mk.injEq] at g1
    obtain ⟨rfl, rfl⟩ := g1
    refine ⟨j, rfl, by omega, g3, ⟨⟨IK hB.o.p g6 gx gy, hB.o.m, hB.o.e, hB.o.r⟩, snoc hB.p g5, hB.m, hB.e, hB.r⟩, ?_⟩
    unfold bz; simp only [Qt, Qs]; omega
  rw [show (a.text_ == Bf) = false by simpa using t1] at h
  simp only [cond_false, cond_true, Bool.not_false] at h
  by_cases t2 : a.text_ = Ch
  ·rw [t2] at h
   simp only [show (Ch == Ch) = true from rfl, cond_true, Bg T hi 0 (t := Ch) (by decide), Option.bind_some] at h
   cases hp : Se Lf i Ch with
   | false => rw [hp] at h; cases h
   | true =>
    have hlt := T.lt hi hp
    rw [hp] at h
    simp only [cond_true, Bool.not_true, cond_false, Option.bind_some] at h
    obtain ⟨j, x, y, g1, g2, g3, gx, gy, g5, g6, g7⟩ := Jy T hN hlt hB.o.m.1 (at_ := a.at_) (fin := fun q l => .inr (q, ({ Points := B.Points, Multipliers := l, Penalties := B.Penalties, Repeats := B.Repeats } : AM))) h
    simp only [Sum.inr.injEq, Prod.mk.injEq] at g1
    obtain ⟨rfl, rfl⟩ := g1
    refine ⟨j, rfl, by omega, g3, ⟨⟨hB.o.p, IK hB.o.m g6 gx gy, hB.o.e, hB.o.r⟩, hB.p, snoc hB.m g5, hB.e, hB.r⟩, ?_⟩
    unfold bz; simp only [Qt, Qs]; omega
  rw [show (a.text_ == Ch) = false by simpa using t2] at h
  simp only [cond_false, cond_true, Bool.not_false] at h
  by_cases t3 : a.text_ = DJ
  ·rw [t3] at h
   simp only [show (DJ == DJ) = true from rfl, cond_true, Bg T hi 0 (t := DJ) (by decide), Option.bind_some] at h
   cases hp : Se Lf i DJ with
   | false => rw [hp] at h; cases h
   | true =>
    have hlt := T.lt hi hp
    rw [hp] at h
    simp only [cond_true, Bool.not_true, cond_false, Option.bind_some] at h
    obtain ⟨j, x, y, g1, g2, g3, gx, gy, g5, g6, g7⟩ := Jy T hN hlt hB.o.e.1 (at_ := a.at_) (fin := fun q l => .inr (q, ({ Points := B.Points, Multipliers := B.Multipliers, Penalties := l, Repeats := B.Repeats } : AM))) h
    simp only [Sum.inr.injEq, Prod.mk.injEq] at g1
    obtain ⟨rfl, rfl⟩ := g1
    refine ⟨j, rfl, by omega, g3, ⟨⟨hB.o.p, hB.o.m, IK hB.o.e g6 gx gy, hB.o.r⟩, hB.p, hB.m, snoc hB.e g5, hB.r⟩, ?_⟩
    unfold bz; simp only [Qt, Qs]; omega
  rw [show (a.text_ == DJ) = false by simpa using t3] at h
  cases h
theorem RX (hN : 10 * n + 1000 <= N) {o : Be (Ag ⊕ (Ab × AM)) StB} (h : AL (GI N Lr) N (stB Lr 0 ⟨[], [], [], []⟩) = some o) : (∃ q B, o = .done (stB Lr q B) /\ q < n /\ BkS N B /\ bz B <= q) \/ ∃ b, o = .ret (.inl b) := by
 refine OC (body := GI N Lr) (fun s => ∃ (q : Nat) (B : AM), s = stB Lr q B /\ q < n /\ BkS N B /\ bz B <= q) (fun o => (∃ q B, o = .done (stB Lr q B) /\ q < n /\ BkS N B /\ bz B <= q) \/ ∃ b, o = .ret (.inl b)) ?_ ?_ N _ o ⟨0, ⟨[], [], [], []⟩, rfl, T.pos, ⟨L3, fun c hc => (by cases hc), fun c hc => (by cases hc), fun c hc => (by cases hc), fun c hc => (by cases hc)⟩, Nat.le_refl _⟩ h
 ·rintro s s' ⟨q, B, rfl, hq, hB, hz⟩ hb
  obtain ⟨a, b, ha, hb', hc, hd, _, _⟩ := T.hd hq
  unfold GI Bc stB at hb
  simp only at hb
  rw [hc] at hb
  simp only [Option.bind_some] at hb
  rw [show (⟨Lr.drop q, 0⟩ : Ab) = PS Lr q 0 from rfl, CT T hq 0 [10] ha] at hb
  cases h0 : a.kind_ != 0 with
  | false => rw [h0] at hb; cases hb
  | true =>
   rw [h0] at hb
   simp only [cond_true] at hb
   cases h4 : seeR a [10] with
   | true =>
    rw [h4] at hb
    simp only [cond_true, cond_false, Option.bind_some, Bool.not_true, Option.some.injEq, Be.next.injEq] at hb
    exact ⟨q + 1, B, hb.symm, SU T hq ha h4, hB, by omega⟩
   | false =>
    rw [h4] at hb
    simp only [cond_false, Bool.not_false, cond_true, Option.bind_some] at hb
    rw [show (⟨B.Points, B.Multipliers, B.Penalties, B.Repeats⟩ : AM) = B from rfl] at hb
    cases e1 : A0 N (PS Lr q 0) B with
    | none => rw [e1] at hb; cases hb
    | some r =>
     rw [e1] at hb
     cases r with
     | inl b => simp [sk] at hb
     | inr r =>
      obtain ⟨p, B'⟩ := r
      obtain ⟨j, rfl, g1, g2, g3, g4⟩ := Te T hN hq hB e1
      simp only [Option.bind_some, sk, Option.some.injEq, Be.next.injEq] at hb
      exact ⟨j, B', hb.symm, g2, g3, by omega⟩
 ·rintro s o ⟨q, B, rfl, hq, hB, hz⟩ hb hnx
  obtain ⟨a, b, ha, hb', hc, hd, _, _⟩ := T.hd hq
  unfold GI Bc stB at hb
  simp only at hb
  rw [hc] at hb
  simp only [Option.bind_some] at hb
  rw [show (⟨Lr.drop q, 0⟩ : Ab) = PS Lr q 0 from rfl, CT T hq 0 [10] ha] at hb
  cases h0 : a.kind_ != 0 with
  | false =>
   rw [h0] at hb
   simp only [cond_false, Option.some.injEq] at hb
   exact .inl ⟨q, B, hb.symm, hq, hB, hz⟩
  | true =>
   rw [h0] at hb
   simp only [cond_true] at hb
   cases h4 : seeR a [10] with
   | true =>
    rw [h4] at hb
    simp only [cond_true, cond_false, Option.bind_some, Bool.not_true, Option.some.injEq] at hb
    exact absurd hb.symm (hnx _)
   | false =>
    rw [h4] at hb
    simp only [cond_false, Bool.not_false, cond_true, Option.bind_some] at hb
    rw [show (⟨B.Points, B.Multipliers, B.Penalties, B.Repeats⟩ : AM) = B from rfl] at hb
    cases e1 : A0 N (PS Lr q 0) B with
    | none => rw [e1] at hb; cases hb
    | some r =>
     rw [e1] at hb
     cases r with
     | inl b =>
      simp only [Option.bind_some, sk, Option.some.injEq] at hb
      exact .inr ⟨b, hb.symm⟩
     | inr r =>
      simp only [Option.bind_some, sk, Option.some.injEq] at hb
      exact absurd hb.symm (hnx _)
end
theorem RZ {N : Nat} (hN : 4000000 <= N) {s : W4} {B : AM} {w : Int} (h : Ba N s = some (B, 0, w)) : BkS N B /\ bz B <= s.length := by
 unfold Ba GR at h
 by_cases hl : s.length > 65536
 ·rw [decide_eq_true (by omega)] at h; cases h
 rw [decide_eq_false (by omega)] at h
 simp only [cond_false] at h
 obtain ⟨n, Lr, Lf, e1, e2, T, hn⟩ := NY (N := N) (s := s) (by omega) (by omega)
 rw [e1] at h
 simp only [Option.bind_some] at h
 unfold Ed at h
 rw [show (⟨Lr, 0⟩ : Ab) = PS Lr 0 0 from by unfold PS; rw [List.drop_zero]] at h
 rw [show (((PS Lr 0 0).l_, (PS Lr 0 0).open_, Df.Points, Df.Multipliers, Df.Penalties, Df.Repeats) : List Ah × Int × List Clause × List Clause × List Clause × List Expr) = stB Lr 0 ⟨[], [], [], []⟩ from rfl] at h
 cases e3 : AL (GI N Lr) N (stB Lr 0 ⟨[], [], [], []⟩) with
 | none => rw [show AL (Bc N (PS Lr 0 0) Df) N (stB Lr 0 ⟨[], [], [], []⟩) = none from e3] at h; cases h
 | some o =>
  rw [show AL (Bc N (PS Lr 0 0) Df) N (stB Lr 0 ⟨[], [], [], []⟩) = some o from e3] at h
  rcases RX T (by omega) e3 with ⟨q, B', rfl, hq, hB, hz⟩ | ⟨b, rfl⟩
  ·have hB' : B' = B := by
    have : some (B', (0 : Int), (0 : Int)) = some (B, 0, w) := h
    cases this; rfl
   subst hB'
   exact ⟨hB, by omega⟩
  ·exfalso
   have h : (bif b.e_ != 0 then some (Df, b.e_, b.at_) else none) = some (B, 0, w) := h
   cases he : b.e_ != 0 with
   | false => rw [he] at h; cases h
   | true =>
    rw [he] at h
    have : b.e_ = 0 := congrArg (fun t => t.2.1) (Option.some.inj h)
    rw [this] at he; cases he


def El (N : Nat) (x0 : AM) (x1 : Expr) (x2 : W4) : Option Bool :=
 ((GE N ).bind fun r27 => (((Fi N x0).bind fun r47 => (bif (!r47) then some true else ((B6 N x1).bind fun r58 => (bif (decide (r58 > 400)) then some true else some (decide ((x2.length : Int) > 3000)))))).bind fun j38 => (bif j38 then some r27 else ((CM N x0).bind fun r72 => ((Cj N x0).bind fun r80 => (bif (!((r72.2 == 0) == r80)) then some false else (bif ((r72.2 == 0) && (decide ((r72.1.length : Int) <= 65536))) then ((Ba N r72.1).bind fun r105 => ((bif (r105.2.1 != 0) then some true else (bif (r105.2.2 != 0) then some true else ((BO N x0 r105.1).bind fun r135 => some (!r135)))).bind fun j121 => (bif j121 then some false else ((CD N x1).bind fun r146 => (bif ((r146.2 == 0) && (decide ((r146.1.length : Int) <= 65536))) then ((BB N r146.1).bind fun r167 => ((bif (r167.2.1 != 0) then some true else ((Ds N x1 r167.1).bind fun r193 => some (!r193))).bind fun j183 => (bif j183 then some false else ((Ba N x2).bind fun r204 => (bif (r204.2.1 != 0) then some r27 else ((CM N r204.1).bind fun r220 => ((Ba N r220.1).bind fun r228 => ((bif r27 then ((Cj N r204.1).bind fun r252 => (bif r252 then (bif (r220.2 == 0) then (bif (r228.2.1 == 0) then ((BO N r204.1 r228.1).bind fun r269 => some r269) else some false) else some false) else some false)) else some false).bind fun j244 => some j244)))))))) else ((Ba N x2).bind fun r277 => (bif (r277.2.1 != 0) then some r27 else ((CM N r277.1).bind fun r293 => ((Ba N r293.1).bind fun r301 => ((bif r27 then ((Cj N r277.1).bind fun r325 => (bif r325 then (bif (r293.2 == 0) then (bif (r301.2.1 == 0) then ((BO N r277.1 r301.1).bind fun r342 => some r342) else some false) else some false) else some false)) else some false).bind fun j317 => some j317)))))))))) else ((CD N x1).bind fun r350 => (bif ((r350.2 == 0) && (decide ((r350.1.length : Int) <= 65536))) then ((BB N r350.1).bind fun r371 => ((bif (r371.2.1 != 0) then some true else ((Ds N x1 r371.1).bind fun r397 => some (!r397))).bind fun j387 => (bif j387 then some false else ((Ba N x2).bind fun r408 => (bif (r408.2.1 != 0) then some r27 else ((CM N r408.1).bind fun r424 => ((Ba N r424.1).bind fun r432 => ((bif r27 then ((Cj N r408.1).bind fun r456 => (bif r456 then (bif (r424.2 == 0) then (bif (r432.2.1 == 0) then ((BO N r408.1 r432.1).bind fun r473 => some r473) else some false) else some false) else some false)) else some false).bind fun j448 => some j448)))))))) else ((Ba N x2).bind fun r481 => (bif (r481.2.1 != 0) then some r27 else ((CM N r481.1).bind fun r497 => ((Ba N r497.1).bind fun r505 => ((bif r27 then ((Cj N r481.1).bind fun r529 => (bif r529 then (bif (r497.2 == 0) then (bif (r505.2.1 == 0) then ((BO N r481.1 r505.1).bind fun r546 => some r546) else some false) else some false) else some false)) else some false).bind fun j521 => some j521))))))))))))))
theorem Kj (N : Nat) (w0 : World) (F0 : Mem) (hF : W6 w0 F0) (hG : DD F0) (x0 : AM) (a0_0 : W5) (n0_0 : Nat) (hb0_0 : LC x0.Points.length n0_0) (hs0_0 : SlA Av F0 a0_0 x0.Points) (a0_1 : W5) (n0_1 : Nat) (hb0_1 : LC x0.Multipliers.length n0_1) (hs0_1 : SlA Av F0 a0_1 x0.Multipliers) (a0_2 : W5) (n0_2 : Nat) (hb0_2 : LC x0.Penalties.length n0_2) (hs0_2 : SlA Av F0 a0_2 x0.Penalties) (a0_3 : W5) (n0_3 : Nat) (hb0_3 : LC x0.Repeats.length n0_3) (hs0_3 : SlA Au F0 a0_3 x0.Repeats) (x1 : Expr) (a1_2 : W5) (n1_2 : Nat) (hb1_2 : LC x1.Kids.length n1_2) (hs1_2 : SlA Au F0 a1_2 x1.Kids) (x2 : W4) (r : Bool) (h : El N x0 x1 x2 = some r) :
  Calls Tryz.prog 11 ([(.agg (AP x0 a0_0 n0_0 a0_1 n0_1 a0_2 n0_2 a0_3 n0_3)), (.agg (Ak x1 a1_2 n1_2)), (.string ⟨(x2).toArray⟩)] : List Value).toArray w0 (Bh w0 F0 fun F' v => v = (.bool r)) := by
 have hs0 := WK hF
 refine Go 140 Tryz.func11 ?_
 refine Sq (Rg [0, 1, 2] ?_)
 refine Bx' 26 (AP x0 a0_0 n0_0 a0_1 n0_1 a0_2 n0_2 a0_3 n0_3) hs0 (fun b21 w22 hs23 => ?_)
 refine Bx' 33 (Ak x1 a1_2 n1_2) hs23 (fun b24 w25 hs26 => ?_)
 refine Vs 1 ?_
 refine Nss (Rg [0, 1] ?_)
 obtain ⟨r27, hr28, h29⟩ := bind_some h
 refine Cl' MX hs26 (Nq N w25 F0 hs26.pers hG  _ hr28) ?_
 rintro _ F1 w31 hs32 le33 rfl
 refine Vs 1 ?_
 refine Nss ?_
 refine Sq (Rg [0, 1, 2, 3, 4, 5, 6, 7, 8, 9, 10, 11, 12] ?_)
 obtain ⟨j38, hj45, h46⟩ := bind_some h29
 refine WO (fun f w => ∃ (F2 : Mem), HS w0 F0 w F2 [(sb b24 (Ak x1 a1_2 n1_2) 33), (sb b21 (AP x0 a0_0 n0_0 a0_1 n0_1 a0_2 n0_2 a0_3 n0_3) 26)] /\ WI F1 F2 /\ FI f [] [(2, (.string ⟨(x2).toArray⟩)), (3, (pt b21 0)), (4, (pt b24 0)), (7, (.bool r27)), (39, (.bool j38))]) ?_ ?_
 ·refine Ld hs32.at1 ?_
  obtain ⟨r47, hr48, h49⟩ := bind_some hj45
  refine Cl' MW hs32 (Np N w31 F1 hs32.pers x0 a0_0 n0_0 hb0_0 (WL hs0_0 le33) a0_1 n0_1 hb0_1 (WL hs0_1 le33) a0_2 n0_2 hb0_2 (WL hs0_2 le33) a0_3 n0_3 hb0_3 (WL hs0_3 le33) _ hr48) ?_
  rintro _ F3 w51 hs52 le53 rfl
  refine Vs 2 ?_
  refine Sp h49 (fun hb55 h56 => ?_) (fun hb55 h57 => ?_)
  ·refine Ss hb55 3 ?_
   refine Pk1 hb55 ?_
   refine Vs 1 ?_
   refine Ss (rfl : true = true) 3 ?_
   refine Pk1 (rfl : true = true) ?_
   obtain rfl := Ac h56
   exact WE ⟨rfl, F3, hs52, le53, fI⟩
  ·refine Lg hb55 hs52.at0 ?_
   obtain ⟨r58, hr59, h60⟩ := bind_some h57
   refine Cg hb55 EN hs52 (Fe N w51 F3 hs52.pers x1 a1_2 n1_2 hb1_2 (WL hs1_2 (le33.trans le53)) _ hr59) ?_
   rintro _ F4 w62 hs63 le64 rfl
   refine Vgs hb55 1 ?_
   refine Pk0 hb55 ?_
   refine Vs 1 ?_
   refine Sp h60 (fun hb66 h67 => ?_) (fun hb66 h68 => ?_)
   ·refine Ss hb66 3 ?_
    refine Pk1 hb66 ?_
    obtain rfl := Ac h67
    exact WE ⟨rfl, F4, hs63, (le53.trans le64), fI⟩
   ·refine Vgs hb66 3 ?_
    refine Pk0 hb66 ?_
    obtain rfl := Ac h68
    exact WE ⟨rfl, F4, hs63, (le53.trans le64), fI⟩
 ·rintro f w35 ⟨F2, hs36, le37, ⟨_, rfl⟩⟩
  refine Ad ?_
  refine Cd h46 (fun hb69 h70 => ?_) (fun hb69 h71 => ?_)
  ·refine Sq (Rg [0, 1] ?_)
   refine Vs 2 ?_
   refine Nt ?_
   refine Rt ?_
   refine Aj ?_
   obtain rfl := Ac h70
   exact Re [(.bool r27)] hs36 rfl
  ·refine Sc ?_
   refine Ad ?_
   refine Sq (Rg [0, 1, 2, 3, 4, 5, 6] ?_)
   refine Ld hs36.at1 ?_
   obtain ⟨r72, hr73, h74⟩ := bind_some h71
   refine Cl' DU hs36 (Eh N w35 F2 hs36.pers (hG.mono (le33.trans le37)) x0 a0_0 n0_0 hb0_0 (WL hs0_0 (le33.trans le37)) a0_1 n0_1 hb0_1 (WL hs0_1 (le33.trans le37)) a0_2 n0_2 hb0_2 (WL hs0_2 (le33.trans le37)) a0_3 n0_3 hb0_3 (WL hs0_3 (le33.trans le37)) _ hr73) ?_
   rintro _ F5 w76 hs77 le78 rfl
   refine Vs 5 ?_
   refine Nss ?_
   refine Sq (Rg [0, 1, 2, 3, 4] ?_)
   refine Vs 2 ?_
   refine Ld hs77.at1 ?_
   obtain ⟨r80, hr81, h82⟩ := bind_some h74
   refine Cl' CR hs77 (Da N w76 F5 hs77.pers x0 a0_0 n0_0 hb0_0 (WL hs0_0 ((le33.trans le37).trans le78)) a0_1 n0_1 hb0_1 (WL hs0_1 ((le33.trans le37).trans le78)) a0_2 n0_2 hb0_2 (WL hs0_2 ((le33.trans le37).trans le78)) a0_3 n0_3 hb0_3 (WL hs0_3 ((le33.trans le37).trans le78)) _ hr81) ?_
   rintro _ F6 w84 hs85 le86 rfl
   refine Vs 1 ?_
   refine Nt ?_
   refine Cd h82 (fun hb88 h89 => ?_) (fun hb88 h90 => ?_)
   ·refine Sq (Rg [0] ?_)
    refine Vs 1 ?_
    refine Nt ?_
    refine Rt ?_
    refine Aj ?_
    obtain rfl := Ac h89
    exact Re [(.bool false)] hs85 rfl
   ·refine Sc ?_
    refine Ad ?_
    refine Sq ?_
    refine Sq (Rg [0, 1, 2, 3, 4, 5, 6] ?_)
    refine WO (fun f w => ∃ (F7 : Mem), HS w0 F0 w F7 [(sb b24 (Ak x1 a1_2 n1_2) 33), (sb b21 (AP x0 a0_0 n0_0 a0_1 n0_1 a0_2 n0_2 a0_3 n0_3) 26)] /\ WI F6 F7 /\ FI f [] [(2, (.string ⟨(x2).toArray⟩)), (3, (pt b21 0)), (4, (pt b24 0)), (7, (.bool r27)), (8, (.string ⟨(r72.1).toArray⟩)), (57, (.bool ((r72.2 == 0) && (decide ((r72.1.length : Int) <= 65536)))))]) ?_ ?_
    ·refine Vs 3 ?_
     refine WN (r72.2 == 0) (fun hb101 => ?_) (fun hb101 => ?_)
     ·refine Vgs hb101 3 ?_
      refine Pk1 hb101 ?_
      exact WE ⟨rfl, F6, hs85, (WJ _), (fJ ⟨rfl, rfl, rfl, rfl, rfl, (congrArg Value.bool (Ey hb101 rfl)), trivial⟩)⟩
     ·refine Ss hb101 3 ?_
      refine Pk0 hb101 ?_
      exact WE ⟨rfl, F6, hs85, (WJ _), (fJ ⟨rfl, rfl, rfl, rfl, rfl, (congrArg Value.bool (GJ hb101 rfl)), trivial⟩)⟩
    ·rintro f w91 ⟨F7, hs92, le93, ⟨_, rfl⟩⟩
     refine Ad ?_
     refine Cd h90 (fun hb102 h103 => ?_) (fun hb102 h104 => ?_)
     ·refine Sq (Rg [0, 1, 2, 3, 4, 5, 6, 7, 8, 9] ?_)
      refine Vs 1 ?_
      obtain ⟨r105, hr106, h107⟩ := bind_some h103
      refine Cl' BN hs92 (BX N w91 F7 hs92.pers (hG.mono ((((le33.trans le37).trans le78).trans le86).trans le93)) r72.1 _ hr106) ?_
      rintro _ F8 w109 hs110 le111 ⟨ar105_0_0, nr105_0_0, ar105_0_1, nr105_0_1, ar105_0_2, nr105_0_2, ar105_0_3, nr105_0_3, rfl, hbr105_0_0, hsr105_0_0, hbr105_0_1, hsr105_0_1, hbr105_0_2, hsr105_0_2, hbr105_0_3, hsr105_0_3⟩
      refine Vs 4 ?_
      refine Al' 26 #[(.slice none ([] : List Clause).length 0), (.slice none ([] : List Clause).length 0), (.slice none ([] : List Clause).length 0), (.slice none ([] : List Expr).length 0)] hs110 (fun b113 w114 hs115 => ?_)
      refine St0 (AP r105.1 ar105_0_0 nr105_0_0 ar105_0_1 nr105_0_1 ar105_0_2 nr105_0_2 ar105_0_3 nr105_0_3) hs115 (fun w116 hs117 => ?_)
      refine Vs 2 ?_
      refine Nss (Rg [0, 1, 2, 3, 4, 5, 6, 7, 8, 9, 10, 11] ?_)
      obtain ⟨j121, hj127, h128⟩ := bind_some h107
      refine WO (fun f w => ∃ (F9 : Mem), HS w0 F0 w F9 [(sb b24 (Ak x1 a1_2 n1_2) 33)] /\ WI F8 F9 /\ FI f [] [(2, (.string ⟨(x2).toArray⟩)), (4, (pt b24 0)), (7, (.bool r27)), (75, (.bool j121))]) ?_ ?_
      ·refine Vs 3 ?_
       refine Sp hj127 (fun hb129 h130 => ?_) (fun hb129 h131 => ?_)
       ·refine Ss hb129 2 ?_
        refine Pk1 hb129 ?_
        refine Vs 1 ?_
        refine Ss (rfl : true = true) 4 ?_
        refine Pk1 (rfl : true = true) ?_
        obtain rfl := Ac h130
        exact WE ⟨rfl, F8, hs117.dr0.dr1, (WJ _), fI⟩
       ·refine Vgs hb129 2 ?_
        refine Pk0 hb129 ?_
        refine Vs 1 ?_
        refine Sp h131 (fun hb132 h133 => ?_) (fun hb132 h134 => ?_)
        ·refine Ss hb132 4 ?_
         refine Pk1 hb132 ?_
         obtain rfl := Ac h133
         exact WE ⟨rfl, F8, hs117.dr0.dr1, (WJ _), fI⟩
        ·refine Lg hb132 hs117.at2 ?_
         refine Lg hb132 hs117.at0 ?_
         obtain ⟨r135, hr136, h137⟩ := bind_some h134
         refine Cg hb132 CS hs117 (C7 N w116 F8 hs117.pers x0 a0_0 n0_0 hb0_0 (WL hs0_0 (((((le33.trans le37).trans le78).trans le86).trans le93).trans le111)) a0_1 n0_1 hb0_1 (WL hs0_1 (((((le33.trans le37).trans le78).trans le86).trans le93).trans le111)) a0_2 n0_2 hb0_2 (WL hs0_2 (((((le33.trans le37).trans le78).trans le86).trans le93).trans le111)) a0_3 n0_3 hb0_3 (WL hs0_3 (((((le33.trans le37).trans le78).trans le86).trans le93).trans le111)) r105.1 ar105_0_0 nr105_0_0 hbr105_0_0 hsr105_0_0 ar105_0_1 nr105_0_1 hbr105_0_1 hsr105_0_1 ar105_0_2 nr105_0_2 hbr105_0_2 hsr105_0_2 ar105_0_3 nr105_0_3 hbr105_0_3 hsr105_0_3 _ hr136) ?_
         rintro _ F10 w139 hs140 le141 rfl
         refine Vgs hb132 1 ?_
         refine Pk0 hb132 ?_
         obtain rfl := Ac h137
         exact WE ⟨rfl, F10, hs140.dr0.dr1, le141, fI⟩
      ·rintro f w118 ⟨F9, hs119, le120, ⟨_, rfl⟩⟩
       refine Ad ?_
       refine Cd h128 (fun hb143 h144 => ?_) (fun hb143 h145 => ?_)
       ·refine Sq (Rg [0] ?_)
        refine Vs 1 ?_
        refine Nt ?_
        refine Rt ?_
        refine Aj ?_
        obtain rfl := Ac h144
        exact Re [(.bool false)] hs119 rfl
       ·refine Sc ?_
        refine Ad ?_
        refine Sq (Rg [0, 1, 2, 3, 4, 5, 6] ?_)
        refine Ld hs119.at0 ?_
        obtain ⟨r146, hr147, h148⟩ := bind_some h145
        refine Cl' Et hs119 (EO N w118 F9 hs119.pers (hG.mono ((((((le33.trans le37).trans le78).trans le86).trans le93).trans le111).trans le120)) x1 a1_2 n1_2 hb1_2 (WL hs1_2 ((((((le33.trans le37).trans le78).trans le86).trans le93).trans le111).trans le120)) _ hr147) ?_
        rintro _ F11 w150 hs151 le152 rfl
        refine Vs 5 ?_
        refine Nss ?_
        refine Sq (Rg [0, 1, 2, 3, 4, 5, 6] ?_)
        refine WO (fun f w => ∃ (F12 : Mem), HS w0 F0 w F12 [(sb b24 (Ak x1 a1_2 n1_2) 33)] /\ WI F11 F12 /\ FI f [] [(2, (.string ⟨(x2).toArray⟩)), (4, (pt b24 0)), (7, (.bool r27)), (13, (.string ⟨(r146.1).toArray⟩)), (87, (.bool ((r146.2 == 0) && (decide ((r146.1.length : Int) <= 65536)))))]) ?_ ?_
        ·refine Vs 3 ?_
         refine WN (r146.2 == 0) (fun hb163 => ?_) (fun hb163 => ?_)
         ·refine Vgs hb163 3 ?_
          refine Pk1 hb163 ?_
          exact WE ⟨rfl, F11, hs151, (WJ _), (fJ ⟨rfl, rfl, rfl, rfl, (congrArg Value.bool (Ey hb163 rfl)), trivial⟩)⟩
         ·refine Ss hb163 3 ?_
          refine Pk0 hb163 ?_
          exact WE ⟨rfl, F11, hs151, (WJ _), (fJ ⟨rfl, rfl, rfl, rfl, (congrArg Value.bool (GJ hb163 rfl)), trivial⟩)⟩
        ·rintro f w154 ⟨F12, hs155, le156, ⟨_, rfl⟩⟩
         refine Ad ?_
         refine Cd h148 (fun hb164 h165 => ?_) (fun hb164 h166 => ?_)
         ·refine Sq (Rg [0, 1, 2, 3, 4, 5, 6, 7, 8, 9] ?_)
          refine Vs 1 ?_
          obtain ⟨r167, hr168, h169⟩ := bind_some h165
          refine Cl' Dy hs155 (DI N w154 F12 hs155.pers (hG.mono ((((((((le33.trans le37).trans le78).trans le86).trans le93).trans le111).trans le120).trans le152).trans le156)) r146.1 _ hr168) ?_
          rintro _ F13 w171 hs172 le173 ⟨ar167_0_2, nr167_0_2, rfl, hbr167_0_2, hsr167_0_2⟩
          refine Vs 4 ?_
          refine Al' 33 #[(vi 0), (vi 0), (.slice none ([] : List Expr).length 0)] hs172 (fun b175 w176 hs177 => ?_)
          refine St0 (Ak r167.1 ar167_0_2 nr167_0_2) hs177 (fun w178 hs179 => ?_)
          refine Vs 2 ?_
          refine Nss (Rg [0, 1, 2, 3, 4, 5, 6, 7] ?_)
          obtain ⟨j183, hj188, h189⟩ := bind_some h169
          refine WO (fun f w => ∃ (F14 : Mem), HS w0 F0 w F14 [] /\ WI F13 F14 /\ FI f [] [(2, (.string ⟨(x2).toArray⟩)), (7, (.bool r27)), (101, (.bool j183))]) ?_ ?_
          ·refine Vs 3 ?_
           refine Sp hj188 (fun hb190 h191 => ?_) (fun hb190 h192 => ?_)
           ·refine Ss hb190 4 ?_
            refine Pk1 hb190 ?_
            obtain rfl := Ac h191
            exact WE ⟨rfl, F13, hs179.dr0.dr0, (WJ _), fI⟩
           ·refine Lg hb190 hs179.at1 ?_
            refine Lg hb190 hs179.at0 ?_
            obtain ⟨r193, hr194, h195⟩ := bind_some h192
            refine Cg hb190 Dp hs179 (Ei N w178 F13 hs179.pers x1 a1_2 n1_2 hb1_2 (WL hs1_2 (((((((((le33.trans le37).trans le78).trans le86).trans le93).trans le111).trans le120).trans le152).trans le156).trans le173)) r167.1 ar167_0_2 nr167_0_2 hbr167_0_2 hsr167_0_2 _ hr194) ?_
            rintro _ F15 w197 hs198 le199 rfl
            refine Vgs hb190 1 ?_
            refine Pk0 hb190 ?_
            obtain rfl := Ac h195
            exact WE ⟨rfl, F15, hs198.dr0.dr0, le199, fI⟩
          ·rintro f w180 ⟨F14, hs181, le182, ⟨_, rfl⟩⟩
           refine Ad ?_
           refine Cd h189 (fun hb201 h202 => ?_) (fun hb201 h203 => ?_)
           ·refine Sq (Rg [0] ?_)
            refine Vs 1 ?_
            refine Nt ?_
            refine Rt ?_
            refine Aj ?_
            obtain rfl := Ac h202
            exact Re [(.bool false)] hs181 rfl
           ·refine Sc ?_
            refine Ad ?_
            refine Sq (Rg [0, 1, 2, 3, 4, 5, 6, 7, 8, 9] ?_)
            refine Vs 1 ?_
            obtain ⟨r204, hr205, h206⟩ := bind_some h203
            refine Cl' BN hs181 (BX N w180 F14 hs181.pers (hG.mono ((((((((((le33.trans le37).trans le78).trans le86).trans le93).trans le111).trans le120).trans le152).trans le156).trans le173).trans le182)) x2 _ hr205) ?_
            rintro _ F16 w208 hs209 le210 ⟨ar204_0_0, nr204_0_0, ar204_0_1, nr204_0_1, ar204_0_2, nr204_0_2, ar204_0_3, nr204_0_3, rfl, hbr204_0_0, hsr204_0_0, hbr204_0_1, hsr204_0_1, hbr204_0_2, hsr204_0_2, hbr204_0_3, hsr204_0_3⟩
            refine Vs 4 ?_
            refine Al' 26 #[(.slice none ([] : List Clause).length 0), (.slice none ([] : List Clause).length 0), (.slice none ([] : List Clause).length 0), (.slice none ([] : List Expr).length 0)] hs209 (fun b212 w213 hs214 => ?_)
            refine St0 (AP r204.1 ar204_0_0 nr204_0_0 ar204_0_1 nr204_0_1 ar204_0_2 nr204_0_2 ar204_0_3 nr204_0_3) hs214 (fun w215 hs216 => ?_)
            refine Vs 2 ?_
            refine Nss ?_
            refine Sq (Rg [0, 1] ?_)
            refine Vs 2 ?_
            refine Nt ?_
            refine Cd h206 (fun hb217 h218 => ?_) (fun hb217 h219 => ?_)
            ·refine Sq (Rg [0, 1] ?_)
             refine Vs 2 ?_
             refine Nt ?_
             refine Rt ?_
             refine Aj ?_
             obtain rfl := Ac h218
             exact Re [(.bool r27)] hs216 rfl
            ·refine Sc ?_
             refine Ad ?_
             refine Sq (Rg [0, 1, 2, 3, 4, 5, 6] ?_)
             refine Ld hs216.at0 ?_
             obtain ⟨r220, hr221, h222⟩ := bind_some h219
             refine Cl' DU hs216 (Eh N w215 F16 hs216.pers (hG.mono (((((((((((le33.trans le37).trans le78).trans le86).trans le93).trans le111).trans le120).trans le152).trans le156).trans le173).trans le182).trans le210)) r204.1 ar204_0_0 nr204_0_0 hbr204_0_0 hsr204_0_0 ar204_0_1 nr204_0_1 hbr204_0_1 hsr204_0_1 ar204_0_2 nr204_0_2 hbr204_0_2 hsr204_0_2 ar204_0_3 nr204_0_3 hbr204_0_3 hsr204_0_3 _ hr221) ?_
             rintro _ F17 w224 hs225 le226 rfl
             refine Vs 5 ?_
             refine Nss (Rg [0, 1, 2, 3, 4, 5, 6, 7, 8, 9] ?_)
             refine Vs 1 ?_
             obtain ⟨r228, hr229, h230⟩ := bind_some h222
             refine Cl' BN hs225 (BX N w224 F17 hs225.pers (hG.mono ((((((((((((le33.trans le37).trans le78).trans le86).trans le93).trans le111).trans le120).trans le152).trans le156).trans le173).trans le182).trans le210).trans le226)) r220.1 _ hr229) ?_
             rintro _ F18 w232 hs233 le234 ⟨ar228_0_0, nr228_0_0, ar228_0_1, nr228_0_1, ar228_0_2, nr228_0_2, ar228_0_3, nr228_0_3, rfl, hbr228_0_0, hsr228_0_0, hbr228_0_1, hsr228_0_1, hbr228_0_2, hsr228_0_2, hbr228_0_3, hsr228_0_3⟩
             refine Vs 4 ?_
             refine Al' 26 #[(.slice none ([] : List Clause).length 0), (.slice none ([] : List Clause).length 0), (.slice none ([] : List Clause).length 0), (.slice none ([] : List Expr).length 0)] hs233 (fun b236 w237 hs238 => ?_)
             refine St0 (AP r228.1 ar228_0_0 nr228_0_0 ar228_0_1 nr228_0_1 ar228_0_2 nr228_0_2 ar228_0_3 nr228_0_3) hs238 (fun w239 hs240 => ?_)
             refine Vs 2 ?_
             refine Nss (Rg [0, 1, 2, 3, 4, 5, 6, 7, 8, 9, 10, 11, 12, 13, 14, 15, 16, 17, 18] ?_)
             obtain ⟨j244, hj247, h248⟩ := bind_some h230
             refine WO (fun f w => ∃ (F19 : Mem), HS w0 F0 w F19 [] /\ WI F18 F19 /\ FI f [] [(6, (.bool j244))]) ?_ ?_
             ·refine Vs 2 ?_
              refine Sp hj247 (fun hb249 h250 => ?_) (fun hb249 h251 => ?_)
              ·refine Lg hb249 hs240.at1 ?_
               obtain ⟨r252, hr253, h254⟩ := bind_some h250
               refine Cg hb249 CR hs240 (Da N w239 F18 hs240.pers r204.1 ar204_0_0 nr204_0_0 hbr204_0_0 (WL hsr204_0_0 (le226.trans le234)) ar204_0_1 nr204_0_1 hbr204_0_1 (WL hsr204_0_1 (le226.trans le234)) ar204_0_2 nr204_0_2 hbr204_0_2 (WL hsr204_0_2 (le226.trans le234)) ar204_0_3 nr204_0_3 hbr204_0_3 (WL hsr204_0_3 (le226.trans le234)) _ hr253) ?_
               rintro _ F20 w256 hs257 le258 rfl
               refine Pk1 hb249 ?_
               refine Vs 1 ?_
               refine Sp h254 (fun hb260 h261 => ?_) (fun hb260 h262 => ?_)
               ·refine Vgs hb260 2 ?_
                refine Pk1 hb260 ?_
                refine Vs 1 ?_
                refine Sp h261 (fun hb263 h264 => ?_) (fun hb263 h265 => ?_)
                ·refine Vgs hb263 2 ?_
                 refine Pk1 hb263 ?_
                 refine Vs 1 ?_
                 refine Sp h264 (fun hb266 h267 => ?_) (fun hb266 h268 => ?_)
                 ·refine Lg hb266 hs257.at1 ?_
                  refine Lg hb266 hs257.at0 ?_
                  obtain ⟨r269, hr270, h271⟩ := bind_some h267
                  refine Cg hb266 CS hs257 (C7 N w256 F20 hs257.pers r204.1 ar204_0_0 nr204_0_0 hbr204_0_0 (WL hsr204_0_0 ((le226.trans le234).trans le258)) ar204_0_1 nr204_0_1 hbr204_0_1 (WL hsr204_0_1 ((le226.trans le234).trans le258)) ar204_0_2 nr204_0_2 hbr204_0_2 (WL hsr204_0_2 ((le226.trans le234).trans le258)) ar204_0_3 nr204_0_3 hbr204_0_3 (WL hsr204_0_3 ((le226.trans le234).trans le258)) r228.1 ar228_0_0 nr228_0_0 hbr228_0_0 (WL hsr228_0_0 le258) ar228_0_1 nr228_0_1 hbr228_0_1 (WL hsr228_0_1 le258) ar228_0_2 nr228_0_2 hbr228_0_2 (WL hsr228_0_2 le258) ar228_0_3 nr228_0_3 hbr228_0_3 (WL hsr228_0_3 le258) _ hr270) ?_
                  rintro _ F21 w273 hs274 le275 rfl
                  refine Pk1 hb266 ?_
                  refine Vs 1 ?_
                  obtain rfl := Ac h271
                  exact WE ⟨rfl, F21, hs274.dr0.dr0, (le258.trans le275), fI⟩
                 ·refine Ss hb266 3 ?_
                  refine Pk0 hb266 ?_
                  refine Vs 1 ?_
                  obtain rfl := Ac h268
                  exact WE ⟨rfl, F20, hs257.dr0.dr0, le258, fI⟩
                ·refine Ss hb263 2 ?_
                 refine Pk0 hb263 ?_
                 refine Vs 1 ?_
                 refine Ss (rfl : false = false) 3 ?_
                 refine Pk0 (rfl : false = false) ?_
                 refine Vs 1 ?_
                 obtain rfl := Ac h265
                 exact WE ⟨rfl, F20, hs257.dr0.dr0, le258, fI⟩
               ·refine Ss hb260 2 ?_
                refine Pk0 hb260 ?_
                refine Vs 1 ?_
                refine Ss (rfl : false = false) 2 ?_
                refine Pk0 (rfl : false = false) ?_
                refine Vs 1 ?_
                refine Ss (rfl : false = false) 3 ?_
                refine Pk0 (rfl : false = false) ?_
                refine Vs 1 ?_
                obtain rfl := Ac h262
                exact WE ⟨rfl, F20, hs257.dr0.dr0, le258, fI⟩
              ·refine Ss hb249 2 ?_
               refine Pk0 hb249 ?_
               refine Vs 1 ?_
               refine Ss (rfl : false = false) 2 ?_
               refine Pk0 (rfl : false = false) ?_
               refine Vs 1 ?_
               refine Ss (rfl : false = false) 2 ?_
               refine Pk0 (rfl : false = false) ?_
               refine Vs 1 ?_
               refine Ss (rfl : false = false) 3 ?_
               refine Pk0 (rfl : false = false) ?_
               refine Vs 1 ?_
               obtain rfl := Ac h251
               exact WE ⟨rfl, F18, hs240.dr0.dr0, (WJ _), fI⟩
             ·rintro f w241 ⟨F19, hs242, le243, ⟨_, rfl⟩⟩
              refine Ad ?_
              refine Rt ?_
              obtain rfl := Ac h248
              exact Re [(.bool j244)] hs242 rfl
         ·refine Sc ?_
          refine Ad ?_
          refine Sq (Rg [0, 1, 2, 3, 4, 5, 6, 7, 8, 9] ?_)
          refine Vs 1 ?_
          obtain ⟨r277, hr278, h279⟩ := bind_some h166
          refine Cl' BN hs155 (BX N w154 F12 hs155.pers (hG.mono ((((((((le33.trans le37).trans le78).trans le86).trans le93).trans le111).trans le120).trans le152).trans le156)) x2 _ hr278) ?_
          rintro _ F22 w281 hs282 le283 ⟨ar277_0_0, nr277_0_0, ar277_0_1, nr277_0_1, ar277_0_2, nr277_0_2, ar277_0_3, nr277_0_3, rfl, hbr277_0_0, hsr277_0_0, hbr277_0_1, hsr277_0_1, hbr277_0_2, hsr277_0_2, hbr277_0_3, hsr277_0_3⟩
          refine Vs 4 ?_
          refine Al' 26 #[(.slice none ([] : List Clause).length 0), (.slice none ([] : List Clause).length 0), (.slice none ([] : List Clause).length 0), (.slice none ([] : List Expr).length 0)] hs282 (fun b285 w286 hs287 => ?_)
          refine St0 (AP r277.1 ar277_0_0 nr277_0_0 ar277_0_1 nr277_0_1 ar277_0_2 nr277_0_2 ar277_0_3 nr277_0_3) hs287 (fun w288 hs289 => ?_)
          refine Vs 2 ?_
          refine Nss ?_
          refine Sq (Rg [0, 1] ?_)
          refine Vs 2 ?_
          refine Nt ?_
          refine Cd h279 (fun hb290 h291 => ?_) (fun hb290 h292 => ?_)
          ·refine Sq (Rg [0, 1] ?_)
           refine Vs 2 ?_
           refine Nt ?_
           refine Rt ?_
           refine Aj ?_
           obtain rfl := Ac h291
           exact Re [(.bool r27)] hs289 rfl
          ·refine Sc ?_
           refine Ad ?_
           refine Sq (Rg [0, 1, 2, 3, 4, 5, 6] ?_)
           refine Ld hs289.at0 ?_
           obtain ⟨r293, hr294, h295⟩ := bind_some h292
           refine Cl' DU hs289 (Eh N w288 F22 hs289.pers (hG.mono (((((((((le33.trans le37).trans le78).trans le86).trans le93).trans le111).trans le120).trans le152).trans le156).trans le283)) r277.1 ar277_0_0 nr277_0_0 hbr277_0_0 hsr277_0_0 ar277_0_1 nr277_0_1 hbr277_0_1 hsr277_0_1 ar277_0_2 nr277_0_2 hbr277_0_2 hsr277_0_2 ar277_0_3 nr277_0_3 hbr277_0_3 hsr277_0_3 _ hr294) ?_
           rintro _ F23 w297 hs298 le299 rfl
           refine Vs 5 ?_
           refine Nss (Rg [0, 1, 2, 3, 4, 5, 6, 7, 8, 9] ?_)
           refine Vs 1 ?_
           obtain ⟨r301, hr302, h303⟩ := bind_some h295
           refine Cl' BN hs298 (BX N w297 F23 hs298.pers (hG.mono ((((((((((le33.trans le37).trans le78).trans le86).trans le93).trans le111).trans le120).trans le152).trans le156).trans le283).trans le299)) r293.1 _ hr302) ?_
           rintro _ F24 w305 hs306 le307 ⟨ar301_0_0, nr301_0_0, ar301_0_1, nr301_0_1, ar301_0_2, nr301_0_2, ar301_0_3, nr301_0_3, rfl, hbr301_0_0, hsr301_0_0, hbr301_0_1, hsr301_0_1, hbr301_0_2, hsr301_0_2, hbr301_0_3, hsr301_0_3⟩
           refine Vs 4 ?_
           refine Al' 26 #[(.slice none ([] : List Clause).length 0), (.slice none ([] : List Clause).length 0), (.slice none ([] : List Clause).length 0), (.slice none ([] : List Expr).length 0)] hs306 (fun b309 w310 hs311 => ?_)
           refine St0 (AP r301.1 ar301_0_0 nr301_0_0 ar301_0_1 nr301_0_1 ar301_0_2 nr301_0_2 ar301_0_3 nr301_0_3) hs311 (fun w312 hs313 => ?_)
           refine Vs 2 ?_
           refine Nss (Rg [0, 1, 2, 3, 4, 5, 6, 7, 8, 9, 10, 11, 12, 13, 14, 15, 16, 17, 18] ?_)
           obtain ⟨j317, hj320, h321⟩ := bind_some h303
           refine WO (fun f w => ∃ (F25 : Mem), HS w0 F0 w F25 [] /\ WI F24 F25 /\ FI f [] [(6, (.bool j317))]) ?_ ?_
           ·refine Vs 2 ?_
            refine Sp hj320 (fun hb322 h323 => ?_) (fun hb322 h324 => ?_)
            ·refine Lg hb322 hs313.at1 ?_
             obtain ⟨r325, hr326, h327⟩ := bind_some h323
             refine Cg hb322 CR hs313 (Da N w312 F24 hs313.pers r277.1 ar277_0_0 nr277_0_0 hbr277_0_0 (WL hsr277_0_0 (le299.trans le307)) ar277_0_1 nr277_0_1 hbr277_0_1 (WL hsr277_0_1 (le299.trans le307)) ar277_0_2 nr277_0_2 hbr277_0_2 (WL hsr277_0_2 (le299.trans le307)) ar277_0_3 nr277_0_3 hbr277_0_3 (WL hsr277_0_3 (le299.trans le307)) _ hr326) ?_
             rintro _ F26 w329 hs330 le331 rfl
             refine Pk1 hb322 ?_
             refine Vs 1 ?_
             refine Sp h327 (fun hb333 h334 => ?_) (fun hb333 h335 => ?_)
             ·refine Vgs hb333 2 ?_
              refine Pk1 hb333 ?_
              refine Vs 1 ?_
              refine Sp h334 (fun hb336 h337 => ?_) (fun hb336 h338 => ?_)
              ·refine Vgs hb336 2 ?_
               refine Pk1 hb336 ?_
               refine Vs 1 ?_
               refine Sp h337 (fun hb339 h340 => ?_) (fun hb339 h341 => ?_)
               ·refine Lg hb339 hs330.at1 ?_
                refine Lg hb339 hs330.at0 ?_
                obtain ⟨r342, hr343, h344⟩ := bind_some h340
                refine Cg hb339 CS hs330 (C7 N w329 F26 hs330.pers r277.1 ar277_0_0 nr277_0_0 hbr277_0_0 (WL hsr277_0_0 ((le299.trans le307).trans le331)) ar277_0_1 nr277_0_1 hbr277_0_1 (WL hsr277_0_1 ((le299.trans le307).trans le331)) ar277_0_2 nr277_0_2 hbr277_0_2 (WL hsr277_0_2 ((le299.trans le307).trans le331)) ar277_0_3 nr277_0_3 hbr277_0_3 (WL hsr277_0_3 ((le299.trans le307).trans le331)) r301.1 ar301_0_0 nr301_0_0 hbr301_0_0 (WL hsr301_0_0 le331) ar301_0_1 nr301_0_1 hbr301_0_1 (WL hsr301_0_1 le331) ar301_0_2 nr301_0_2 hbr301_0_2 (WL hsr301_0_2 le331) ar301_0_3 nr301_0_3 hbr301_0_3 (WL hsr301_0_3 le331) _ hr343) ?_
                rintro _ F27 w346 hs347 le348 rfl
                refine Pk1 hb339 ?_
                refine Vs 1 ?_
                obtain rfl := Ac h344
                exact WE ⟨rfl, F27, hs347.dr0.dr0.dr0, (le331.trans le348), fI⟩
               ·refine Ss hb339 3 ?_
                refine Pk0 hb339 ?_
                refine Vs 1 ?_
                obtain rfl := Ac h341
                exact WE ⟨rfl, F26, hs330.dr0.dr0.dr0, le331, fI⟩
              ·refine Ss hb336 2 ?_
               refine Pk0 hb336 ?_
               refine Vs 1 ?_
               refine Ss (rfl : false = false) 3 ?_
               refine Pk0 (rfl : false = false) ?_
               refine Vs 1 ?_
               obtain rfl := Ac h338
               exact WE ⟨rfl, F26, hs330.dr0.dr0.dr0, le331, fI⟩
             ·refine Ss hb333 2 ?_
              refine Pk0 hb333 ?_
              refine Vs 1 ?_
              refine Ss (rfl : false = false) 2 ?_
              refine Pk0 (rfl : false = false) ?_
              refine Vs 1 ?_
              refine Ss (rfl : false = false) 3 ?_
              refine Pk0 (rfl : false = false) ?_
              refine Vs 1 ?_
              obtain rfl := Ac h335
              exact WE ⟨rfl, F26, hs330.dr0.dr0.dr0, le331, fI⟩
            ·refine Ss hb322 2 ?_
             refine Pk0 hb322 ?_
             refine Vs 1 ?_
             refine Ss (rfl : false = false) 2 ?_
             refine Pk0 (rfl : false = false) ?_
             refine Vs 1 ?_
             refine Ss (rfl : false = false) 2 ?_
             refine Pk0 (rfl : false = false) ?_
             refine Vs 1 ?_
             refine Ss (rfl : false = false) 3 ?_
             refine Pk0 (rfl : false = false) ?_
             refine Vs 1 ?_
             obtain rfl := Ac h324
             exact WE ⟨rfl, F24, hs313.dr0.dr0.dr0, (WJ _), fI⟩
           ·rintro f w314 ⟨F25, hs315, le316, ⟨_, rfl⟩⟩
            refine Ad ?_
            refine Rt ?_
            obtain rfl := Ac h321
            exact Re [(.bool j317)] hs315 rfl
     ·refine Sc ?_
      refine Ad ?_
      refine Sq (Rg [0, 1, 2, 3, 4, 5, 6] ?_)
      refine Ld hs92.at0 ?_
      obtain ⟨r350, hr351, h352⟩ := bind_some h104
      refine Cl' Et hs92 (EO N w91 F7 hs92.pers (hG.mono ((((le33.trans le37).trans le78).trans le86).trans le93)) x1 a1_2 n1_2 hb1_2 (WL hs1_2 ((((le33.trans le37).trans le78).trans le86).trans le93)) _ hr351) ?_
      rintro _ F28 w354 hs355 le356 rfl
      refine Vs 5 ?_
      refine Nss ?_
      refine Sq (Rg [0, 1, 2, 3, 4, 5, 6] ?_)
      refine WO (fun f w => ∃ (F29 : Mem), HS w0 F0 w F29 [(sb b24 (Ak x1 a1_2 n1_2) 33)] /\ WI F28 F29 /\ FI f [] [(2, (.string ⟨(x2).toArray⟩)), (4, (pt b24 0)), (7, (.bool r27)), (13, (.string ⟨(r350.1).toArray⟩)), (87, (.bool ((r350.2 == 0) && (decide ((r350.1.length : Int) <= 65536)))))]) ?_ ?_
      ·refine Vs 3 ?_
       refine WN (r350.2 == 0) (fun hb367 => ?_) (fun hb367 => ?_)
       ·refine Vgs hb367 3 ?_
        refine Pk1 hb367 ?_
        exact WE ⟨rfl, F28, hs355.dr1, (WJ _), (fJ ⟨rfl, rfl, rfl, rfl, (congrArg Value.bool (Ey hb367 rfl)), trivial⟩)⟩
       ·refine Ss hb367 3 ?_
        refine Pk0 hb367 ?_
        exact WE ⟨rfl, F28, hs355.dr1, (WJ _), (fJ ⟨rfl, rfl, rfl, rfl, (congrArg Value.bool (GJ hb367 rfl)), trivial⟩)⟩
      ·rintro f w358 ⟨F29, hs359, le360, ⟨_, rfl⟩⟩
       refine Ad ?_
       refine Cd h352 (fun hb368 h369 => ?_) (fun hb368 h370 => ?_)
       ·refine Sq (Rg [0, 1, 2, 3, 4, 5, 6, 7, 8, 9] ?_)
        refine Vs 1 ?_
        obtain ⟨r371, hr372, h373⟩ := bind_some h369
        refine Cl' Dy hs359 (DI N w358 F29 hs359.pers (hG.mono ((((((le33.trans le37).trans le78).trans le86).trans le93).trans le356).trans le360)) r350.1 _ hr372) ?_
        rintro _ F30 w375 hs376 le377 ⟨ar371_0_2, nr371_0_2, rfl, hbr371_0_2, hsr371_0_2⟩
        refine Vs 4 ?_
        refine Al' 33 #[(vi 0), (vi 0), (.slice none ([] : List Expr).length 0)] hs376 (fun b379 w380 hs381 => ?_)
        refine St0 (Ak r371.1 ar371_0_2 nr371_0_2) hs381 (fun w382 hs383 => ?_)
        refine Vs 2 ?_
        refine Nss (Rg [0, 1, 2, 3, 4, 5, 6, 7] ?_)
        obtain ⟨j387, hj392, h393⟩ := bind_some h373
        refine WO (fun f w => ∃ (F31 : Mem), HS w0 F0 w F31 [] /\ WI F30 F31 /\ FI f [] [(2, (.string ⟨(x2).toArray⟩)), (7, (.bool r27)), (101, (.bool j387))]) ?_ ?_
        ·refine Vs 3 ?_
         refine Sp hj392 (fun hb394 h395 => ?_) (fun hb394 h396 => ?_)
         ·refine Ss hb394 4 ?_
          refine Pk1 hb394 ?_
          obtain rfl := Ac h395
          exact WE ⟨rfl, F30, hs383.dr0.dr0, (WJ _), fI⟩
         ·refine Lg hb394 hs383.at1 ?_
          refine Lg hb394 hs383.at0 ?_
          obtain ⟨r397, hr398, h399⟩ := bind_some h396
          refine Cg hb394 Dp hs383 (Ei N w382 F30 hs383.pers x1 a1_2 n1_2 hb1_2 (WL hs1_2 (((((((le33.trans le37).trans le78).trans le86).trans le93).trans le356).trans le360).trans le377)) r371.1 ar371_0_2 nr371_0_2 hbr371_0_2 hsr371_0_2 _ hr398) ?_
          rintro _ F32 w401 hs402 le403 rfl
          refine Vgs hb394 1 ?_
          refine Pk0 hb394 ?_
          obtain rfl := Ac h399
          exact WE ⟨rfl, F32, hs402.dr0.dr0, le403, fI⟩
        ·rintro f w384 ⟨F31, hs385, le386, ⟨_, rfl⟩⟩
         refine Ad ?_
         refine Cd h393 (fun hb405 h406 => ?_) (fun hb405 h407 => ?_)
         ·refine Sq (Rg [0] ?_)
          refine Vs 1 ?_
          refine Nt ?_
          refine Rt ?_
          refine Aj ?_
          obtain rfl := Ac h406
          exact Re [(.bool false)] hs385 rfl
         ·refine Sc ?_
          refine Ad ?_
          refine Sq (Rg [0, 1, 2, 3, 4, 5, 6, 7, 8, 9] ?_)
          refine Vs 1 ?_
          obtain ⟨r408, hr409, h410⟩ := bind_some h407
          refine Cl' BN hs385 (BX N w384 F31 hs385.pers (hG.mono ((((((((le33.trans le37).trans le78).trans le86).trans le93).trans le356).trans le360).trans le377).trans le386)) x2 _ hr409) ?_
          rintro _ F33 w412 hs413 le414 ⟨ar408_0_0, nr408_0_0, ar408_0_1, nr408_0_1, ar408_0_2, nr408_0_2, ar408_0_3, nr408_0_3, rfl, hbr408_0_0, hsr408_0_0, hbr408_0_1, hsr408_0_1, hbr408_0_2, hsr408_0_2, hbr408_0_3, hsr408_0_3⟩
          refine Vs 4 ?_
          refine Al' 26 #[(.slice none ([] : List Clause).length 0), (.slice none ([] : List Clause).length 0), (.slice none ([] : List Clause).length 0), (.slice none ([] : List Expr).length 0)] hs413 (fun b416 w417 hs418 => ?_)
          refine St0 (AP r408.1 ar408_0_0 nr408_0_0 ar408_0_1 nr408_0_1 ar408_0_2 nr408_0_2 ar408_0_3 nr408_0_3) hs418 (fun w419 hs420 => ?_)
          refine Vs 2 ?_
          refine Nss ?_
          refine Sq (Rg [0, 1] ?_)
          refine Vs 2 ?_
          refine Nt ?_
          refine Cd h410 (fun hb421 h422 => ?_) (fun hb421 h423 => ?_)
          ·refine Sq (Rg [0, 1] ?_)
           refine Vs 2 ?_
           refine Nt ?_
           refine Rt ?_
           refine Aj ?_
           obtain rfl := Ac h422
           exact Re [(.bool r27)] hs420 rfl
          ·refine Sc ?_
           refine Ad ?_
           refine Sq (Rg [0, 1, 2, 3, 4, 5, 6] ?_)
           refine Ld hs420.at0 ?_
           obtain ⟨r424, hr425, h426⟩ := bind_some h423
           refine Cl' DU hs420 (Eh N w419 F33 hs420.pers (hG.mono (((((((((le33.trans le37).trans le78).trans le86).trans le93).trans le356).trans le360).trans le377).trans le386).trans le414)) r408.1 ar408_0_0 nr408_0_0 hbr408_0_0 hsr408_0_0 ar408_0_1 nr408_0_1 hbr408_0_1 hsr408_0_1 ar408_0_2 nr408_0_2 hbr408_0_2 hsr408_0_2 ar408_0_3 nr408_0_3 hbr408_0_3 hsr408_0_3 _ hr425) ?_
           rintro _ F34 w428 hs429 le430 rfl
           refine Vs 5 ?_
           refine Nss (Rg [0, 1, 2, 3, 4, 5, 6, 7, 8, 9] ?_)
           refine Vs 1 ?_
           obtain ⟨r432, hr433, h434⟩ := bind_some h426
           refine Cl' BN hs429 (BX N w428 F34 hs429.pers (hG.mono ((((((((((le33.trans le37).trans le78).trans le86).trans le93).trans le356).trans le360).trans le377).trans le386).trans le414).trans le430)) r424.1 _ hr433) ?_
           rintro _ F35 w436 hs437 le438 ⟨ar432_0_0, nr432_0_0, ar432_0_1, nr432_0_1, ar432_0_2, nr432_0_2, ar432_0_3, nr432_0_3, rfl, hbr432_0_0, hsr432_0_0, hbr432_0_1, hsr432_0_1, hbr432_0_2, hsr432_0_2, hbr432_0_3, hsr432_0_3⟩
           refine Vs 4 ?_
           refine Al' 26 #[(.slice none ([] : List Clause).length 0), (.slice none ([] : List Clause).length 0), (.slice none ([] : List Clause).length 0), (.slice none ([] : List Expr).length 0)] hs437 (fun b440 w441 hs442 => ?_)
           refine St0 (AP r432.1 ar432_0_0 nr432_0_0 ar432_0_1 nr432_0_1 ar432_0_2 nr432_0_2 ar432_0_3 nr432_0_3) hs442 (fun w443 hs444 => ?_)
           refine Vs 2 ?_
           refine Nss (Rg [0, 1, 2, 3, 4, 5, 6, 7, 8, 9, 10, 11, 12, 13, 14, 15, 16, 17, 18] ?_)
           obtain ⟨j448, hj451, h452⟩ := bind_some h434
           refine WO (fun f w => ∃ (F36 : Mem), HS w0 F0 w F36 [] /\ WI F35 F36 /\ FI f [] [(6, (.bool j448))]) ?_ ?_
           ·refine Vs 2 ?_
            refine Sp hj451 (fun hb453 h454 => ?_) (fun hb453 h455 => ?_)
            ·refine Lg hb453 hs444.at1 ?_
             obtain ⟨r456, hr457, h458⟩ := bind_some h454
             refine Cg hb453 CR hs444 (Da N w443 F35 hs444.pers r408.1 ar408_0_0 nr408_0_0 hbr408_0_0 (WL hsr408_0_0 (le430.trans le438)) ar408_0_1 nr408_0_1 hbr408_0_1 (WL hsr408_0_1 (le430.trans le438)) ar408_0_2 nr408_0_2 hbr408_0_2 (WL hsr408_0_2 (le430.trans le438)) ar408_0_3 nr408_0_3 hbr408_0_3 (WL hsr408_0_3 (le430.trans le438)) _ hr457) ?_
             rintro _ F37 w460 hs461 le462 rfl
             refine Pk1 hb453 ?_
             refine Vs 1 ?_
             refine Sp h458 (fun hb464 h465 => ?_) (fun hb464 h466 => ?_)
             ·refine Vgs hb464 2 ?_
              refine Pk1 hb464 ?_
              refine Vs 1 ?_
              refine Sp h465 (fun hb467 h468 => ?_) (fun hb467 h469 => ?_)
              ·refine Vgs hb467 2 ?_
               refine Pk1 hb467 ?_
               refine Vs 1 ?_
               refine Sp h468 (fun hb470 h471 => ?_) (fun hb470 h472 => ?_)
               ·refine Lg hb470 hs461.at1 ?_
                refine Lg hb470 hs461.at0 ?_
                obtain ⟨r473, hr474, h475⟩ := bind_some h471
                refine Cg hb470 CS hs461 (C7 N w460 F37 hs461.pers r408.1 ar408_0_0 nr408_0_0 hbr408_0_0 (WL hsr408_0_0 ((le430.trans le438).trans le462)) ar408_0_1 nr408_0_1 hbr408_0_1 (WL hsr408_0_1 ((le430.trans le438).trans le462)) ar408_0_2 nr408_0_2 hbr408_0_2 (WL hsr408_0_2 ((le430.trans le438).trans le462)) ar408_0_3 nr408_0_3 hbr408_0_3 (WL hsr408_0_3 ((le430.trans le438).trans le462)) r432.1 ar432_0_0 nr432_0_0 hbr432_0_0 (WL hsr432_0_0 le462) ar432_0_1 nr432_0_1 hbr432_0_1 (WL hsr432_0_1 le462) ar432_0_2 nr432_0_2 hbr432_0_2 (WL hsr432_0_2 le462) ar432_0_3 nr432_0_3 hbr432_0_3 (WL hsr432_0_3 le462) _ hr474) ?_
                rintro _ F38 w477 hs478 le479 rfl
                refine Pk1 hb470 ?_
                refine Vs 1 ?_
                obtain rfl := Ac h475
                exact WE ⟨rfl, F38, hs478.dr0.dr0, (le462.trans le479), fI⟩
               ·refine Ss hb470 3 ?_
                refine Pk0 hb470 ?_
                refine Vs 1 ?_
                obtain rfl := Ac h472
                exact WE ⟨rfl, F37, hs461.dr0.dr0, le462, fI⟩
              ·refine Ss hb467 2 ?_
               refine Pk0 hb467 ?_
               refine Vs 1 ?_
               refine Ss (rfl : false = false) 3 ?_
               refine Pk0 (rfl : false = false) ?_
               refine Vs 1 ?_
               obtain rfl := Ac h469
               exact WE ⟨rfl, F37, hs461.dr0.dr0, le462, fI⟩
             ·refine Ss hb464 2 ?_
              refine Pk0 hb464 ?_
              refine Vs 1 ?_
              refine Ss (rfl : false = false) 2 ?_
              refine Pk0 (rfl : false = false) ?_
              refine Vs 1 ?_
              refine Ss (rfl : false = false) 3 ?_
              refine Pk0 (rfl : false = false) ?_
              refine Vs 1 ?_
              obtain rfl := Ac h466
              exact WE ⟨rfl, F37, hs461.dr0.dr0, le462, fI⟩
            ·refine Ss hb453 2 ?_
             refine Pk0 hb453 ?_
             refine Vs 1 ?_
             refine Ss (rfl : false = false) 2 ?_
             refine Pk0 (rfl : false = false) ?_
             refine Vs 1 ?_
             refine Ss (rfl : false = false) 2 ?_
             refine Pk0 (rfl : false = false) ?_
             refine Vs 1 ?_
             refine Ss (rfl : false = false) 3 ?_
             refine Pk0 (rfl : false = false) ?_
             refine Vs 1 ?_
             obtain rfl := Ac h455
             exact WE ⟨rfl, F35, hs444.dr0.dr0, (WJ _), fI⟩
           ·rintro f w445 ⟨F36, hs446, le447, ⟨_, rfl⟩⟩
            refine Ad ?_
            refine Rt ?_
            obtain rfl := Ac h452
            exact Re [(.bool j448)] hs446 rfl
       ·refine Sc ?_
        refine Ad ?_
        refine Sq (Rg [0, 1, 2, 3, 4, 5, 6, 7, 8, 9] ?_)
        refine Vs 1 ?_
        obtain ⟨r481, hr482, h483⟩ := bind_some h370
        refine Cl' BN hs359 (BX N w358 F29 hs359.pers (hG.mono ((((((le33.trans le37).trans le78).trans le86).trans le93).trans le356).trans le360)) x2 _ hr482) ?_
        rintro _ F39 w485 hs486 le487 ⟨ar481_0_0, nr481_0_0, ar481_0_1, nr481_0_1, ar481_0_2, nr481_0_2, ar481_0_3, nr481_0_3, rfl, hbr481_0_0, hsr481_0_0, hbr481_0_1, hsr481_0_1, hbr481_0_2, hsr481_0_2, hbr481_0_3, hsr481_0_3⟩
        refine Vs 4 ?_
        refine Al' 26 #[(.slice none ([] : List Clause).length 0), (.slice none ([] : List Clause).length 0), (.slice none ([] : List Clause).length 0), (.slice none ([] : List Expr).length 0)] hs486 (fun b489 w490 hs491 => ?_)
        refine St0 (AP r481.1 ar481_0_0 nr481_0_0 ar481_0_1 nr481_0_1 ar481_0_2 nr481_0_2 ar481_0_3 nr481_0_3) hs491 (fun w492 hs493 => ?_)
        refine Vs 2 ?_
        refine Nss ?_
        refine Sq (Rg [0, 1] ?_)
        refine Vs 2 ?_
        refine Nt ?_
        refine Cd h483 (fun hb494 h495 => ?_) (fun hb494 h496 => ?_)
        ·refine Sq (Rg [0, 1] ?_)
         refine Vs 2 ?_
         refine Nt ?_
         refine Rt ?_
         refine Aj ?_
         obtain rfl := Ac h495
         exact Re [(.bool r27)] hs493 rfl
        ·refine Sc ?_
         refine Ad ?_
         refine Sq (Rg [0, 1, 2, 3, 4, 5, 6] ?_)
         refine Ld hs493.at0 ?_
         obtain ⟨r497, hr498, h499⟩ := bind_some h496
         refine Cl' DU hs493 (Eh N w492 F39 hs493.pers (hG.mono (((((((le33.trans le37).trans le78).trans le86).trans le93).trans le356).trans le360).trans le487)) r481.1 ar481_0_0 nr481_0_0 hbr481_0_0 hsr481_0_0 ar481_0_1 nr481_0_1 hbr481_0_1 hsr481_0_1 ar481_0_2 nr481_0_2 hbr481_0_2 hsr481_0_2 ar481_0_3 nr481_0_3 hbr481_0_3 hsr481_0_3 _ hr498) ?_
         rintro _ F40 w501 hs502 le503 rfl
         refine Vs 5 ?_
         refine Nss (Rg [0, 1, 2, 3, 4, 5, 6, 7, 8, 9] ?_)
         refine Vs 1 ?_
         obtain ⟨r505, hr506, h507⟩ := bind_some h499
         refine Cl' BN hs502 (BX N w501 F40 hs502.pers (hG.mono ((((((((le33.trans le37).trans le78).trans le86).trans le93).trans le356).trans le360).trans le487).trans le503)) r497.1 _ hr506) ?_
         rintro _ F41 w509 hs510 le511 ⟨ar505_0_0, nr505_0_0, ar505_0_1, nr505_0_1, ar505_0_2, nr505_0_2, ar505_0_3, nr505_0_3, rfl, hbr505_0_0, hsr505_0_0, hbr505_0_1, hsr505_0_1, hbr505_0_2, hsr505_0_2, hbr505_0_3, hsr505_0_3⟩
         refine Vs 4 ?_
         refine Al' 26 #[(.slice none ([] : List Clause).length 0), (.slice none ([] : List Clause).length 0), (.slice none ([] : List Clause).length 0), (.slice none ([] : List Expr).length 0)] hs510 (fun b513 w514 hs515 => ?_)
         refine St0 (AP r505.1 ar505_0_0 nr505_0_0 ar505_0_1 nr505_0_1 ar505_0_2 nr505_0_2 ar505_0_3 nr505_0_3) hs515 (fun w516 hs517 => ?_)
         refine Vs 2 ?_
         refine Nss (Rg [0, 1, 2, 3, 4, 5, 6, 7, 8, 9, 10, 11, 12, 13, 14, 15, 16, 17, 18] ?_)
         obtain ⟨j521, hj524, h525⟩ := bind_some h507
         refine WO (fun f w => ∃ (F42 : Mem), HS w0 F0 w F42 [] /\ WI F41 F42 /\ FI f [] [(6, (.bool j521))]) ?_ ?_
         ·refine Vs 2 ?_
          refine Sp hj524 (fun hb526 h527 => ?_) (fun hb526 h528 => ?_)
          ·refine Lg hb526 hs517.at1 ?_
           obtain ⟨r529, hr530, h531⟩ := bind_some h527
           refine Cg hb526 CR hs517 (Da N w516 F41 hs517.pers r481.1 ar481_0_0 nr481_0_0 hbr481_0_0 (WL hsr481_0_0 (le503.trans le511)) ar481_0_1 nr481_0_1 hbr481_0_1 (WL hsr481_0_1 (le503.trans le511)) ar481_0_2 nr481_0_2 hbr481_0_2 (WL hsr481_0_2 (le503.trans le511)) ar481_0_3 nr481_0_3 hbr481_0_3 (WL hsr481_0_3 (le503.trans le511)) _ hr530) ?_
           rintro _ F43 w533 hs534 le535 rfl
           refine Pk1 hb526 ?_
           refine Vs 1 ?_
           refine Sp h531 (fun hb537 h538 => ?_) (fun hb537 h539 => ?_)
           ·refine Vgs hb537 2 ?_
            refine Pk1 hb537 ?_
            refine Vs 1 ?_
            refine Sp h538 (fun hb540 h541 => ?_) (fun hb540 h542 => ?_)
            ·refine Vgs hb540 2 ?_
             refine Pk1 hb540 ?_
             refine Vs 1 ?_
             refine Sp h541 (fun hb543 h544 => ?_) (fun hb543 h545 => ?_)
             ·refine Lg hb543 hs534.at1 ?_
              refine Lg hb543 hs534.at0 ?_
              obtain ⟨r546, hr547, h548⟩ := bind_some h544
              refine Cg hb543 CS hs534 (C7 N w533 F43 hs534.pers r481.1 ar481_0_0 nr481_0_0 hbr481_0_0 (WL hsr481_0_0 ((le503.trans le511).trans le535)) ar481_0_1 nr481_0_1 hbr481_0_1 (WL hsr481_0_1 ((le503.trans le511).trans le535)) ar481_0_2 nr481_0_2 hbr481_0_2 (WL hsr481_0_2 ((le503.trans le511).trans le535)) ar481_0_3 nr481_0_3 hbr481_0_3 (WL hsr481_0_3 ((le503.trans le511).trans le535)) r505.1 ar505_0_0 nr505_0_0 hbr505_0_0 (WL hsr505_0_0 le535) ar505_0_1 nr505_0_1 hbr505_0_1 (WL hsr505_0_1 le535) ar505_0_2 nr505_0_2 hbr505_0_2 (WL hsr505_0_2 le535) ar505_0_3 nr505_0_3 hbr505_0_3 (WL hsr505_0_3 le535) _ hr547) ?_
              rintro _ F44 w550 hs551 le552 rfl
              refine Pk1 hb543 ?_
              refine Vs 1 ?_
              obtain rfl := Ac h548
              exact WE ⟨rfl, F44, hs551.dr0.dr0.dr0, (le535.trans le552), fI⟩
             ·refine Ss hb543 3 ?_
              refine Pk0 hb543 ?_
              refine Vs 1 ?_
              obtain rfl := Ac h545
              exact WE ⟨rfl, F43, hs534.dr0.dr0.dr0, le535, fI⟩
            ·refine Ss hb540 2 ?_
             refine Pk0 hb540 ?_
             refine Vs 1 ?_
             refine Ss (rfl : false = false) 3 ?_
             refine Pk0 (rfl : false = false) ?_
             refine Vs 1 ?_
             obtain rfl := Ac h542
             exact WE ⟨rfl, F43, hs534.dr0.dr0.dr0, le535, fI⟩
           ·refine Ss hb537 2 ?_
            refine Pk0 hb537 ?_
            refine Vs 1 ?_
            refine Ss (rfl : false = false) 2 ?_
            refine Pk0 (rfl : false = false) ?_
            refine Vs 1 ?_
            refine Ss (rfl : false = false) 3 ?_
            refine Pk0 (rfl : false = false) ?_
            refine Vs 1 ?_
            obtain rfl := Ac h539
            exact WE ⟨rfl, F43, hs534.dr0.dr0.dr0, le535, fI⟩
          ·refine Ss hb526 2 ?_
           refine Pk0 hb526 ?_
           refine Vs 1 ?_
           refine Ss (rfl : false = false) 2 ?_
           refine Pk0 (rfl : false = false) ?_
           refine Vs 1 ?_
           refine Ss (rfl : false = false) 2 ?_
           refine Pk0 (rfl : false = false) ?_
           refine Vs 1 ?_
           refine Ss (rfl : false = false) 3 ?_
           refine Pk0 (rfl : false = false) ?_
           refine Vs 1 ?_
           obtain rfl := Ac h528
           exact WE ⟨rfl, F41, hs517.dr0.dr0.dr0, (WJ _), fI⟩
         ·rintro f w518 ⟨F42, hs519, le520, ⟨_, rfl⟩⟩
          refine Ad ?_
          refine Rt ?_
          obtain rfl := Ac h525
          exact Re [(.bool j521)] hs519 rfl
section
variable {N : Nat}
theorem FO : ∀ (n : Nat) (e : Expr), sz e <= n -> kd e ≠ 0 -> (pr e).length <= 11 * sz e
 | 0, e, h, _ => by have := FV e; omega
 | n + 1, e, h, hk => by
  have hp := FV e
  rcases Ee hk with ⟨h1, h2, h3, _⟩ | ⟨h1, h2, h3, _⟩ | ⟨x, rfl, hx⟩ | ⟨op, x, y, hop, rfl, hx, hy⟩ | ⟨c, x, y, rfl, hc, hx, hy⟩
  ·rw [Og h1, J3 h2]
   have := OL 6 e.Value.toNat (by simp; omega); omega
  ·rw [Oi h1]
   have : ∀ i : Fin 14, (NM[i.val]?.getD []).length <= 11 := by decide
   have := this ⟨e.Value.toNat, by omega⟩
   simp only at this; omega
  ·rw [N4] at h ⊢
   have := FO n x (by omega) (by rw [hx]; decide)
   have := FP 3 x.Op (pr x)
   rw [Oh]; simp only [List.length_append, List.length_cons, List.length_nil]; omega
  ·rw [Kp] at h ⊢
   have := FO n x (by omega) hx
   have := FO n y (by omega) hy
   have := FP (lf op) x.Op (pr x)
   have := FP (rt op) y.Op (pr y)
   have := P5 op
   rw [Of hop]; simp only [List.length_append, List.length_cons, List.length_nil]; omega
  ·rw [JK] at h ⊢
   have := FO n c (by omega) (by rw [hc]; decide)
   have := FO n x (by omega) (by rw [hx]; decide)
   have := FO n y (by omega) (by rw [hy]; decide)
   rw [Rb]; simp only [List.length_append, List.length_cons, List.length_nil]; omega
theorem MO {α : Type} (g : α -> W4) (f : α -> Nat) : ∀ {l : List α}, (∀ x, x ∈ l -> (g x).length <= 11 * f x) -> (l.flatMap g).length <= 11 * (l.map f).sum
 | [], _ => by simp
 | a :: l, h => by
  have := h a (List.mem_cons_self ..)
  have := MO g f (l := l) fun x hx => h x (List.mem_cons_of_mem _ hx)
  rw [List.flatMap_cons, List.length_append, List.map_cons, List.sum_cons]; omega
theorem Uu {b : AM} (h : vld b = true) : (prb b).length <= 11 * bz b := by
 obtain ⟨v1, v2, v3, v4, v5⟩ := IE.1 h
 have one : ∀ (w : W4) (l : List Clause), w.length <= 10 -> Kq l = true -> (lns w l).length <= 11 * lz l := fun w l hw hl => MO (lnT w) (fun c => sz c.When + sz c.Then + 3) (fun c hc => by
  have hs := HL hl hc
  have := FO _ c.When (Nat.le_refl _) (by rw [Mb hs]; decide)
  have := FO _ c.Then (Nat.le_refl _) (by rw [Mc hs]; decide)
  unfold lnT; simp only [List.length_append, List.length_cons, List.length_nil]; omega)
 have a1 := one wP b.Points (by decide) v1
 have a2 := one wM b.Multipliers (by decide) v2
 have a3 := one wE b.Penalties (by decide) v3
 have a4 : (b.Repeats.flatMap lrT).length <= 11 * rz b.Repeats := MO lrT (fun e => sz e + 2) (fun e he => by
  have := FO _ e (Nat.le_refl _) (by rw [Jq (v5 e he)]; decide)
  unfold lrT; simp only [List.length_append, List.length_cons, List.length_nil]; omega)
 unfold prb bz
 simp only [List.length_append]; omega
theorem UI {B : AM} (h : BkS N B) : vld B = true := by
 have one : ∀ l : List Clause, l.length <= 64 -> (∀ c, c ∈ l -> Ep c = true) -> Kq l = true := fun l h1 h2 => by
  unfold Kq; rw [decide_eq_true h1, Bool.true_and, List.all_eq_true]; exact h2
 exact IE.2 ⟨one _ h.o.p.1 h.p, one _ h.o.m.1 h.m, one _ h.o.e.1 h.e, h.o.r.1, h.r⟩
theorem UJ (hN : 1000 <= N) {B : AM} (h : BkS N B) : O2 N B := by
 have := h.o.p.1
 have := h.o.m.1
 have := h.o.e.1
 have := h.o.r.1
 exact ⟨⟨by omega, by omega, h.o.p.2⟩, ⟨by omega, by omega, h.o.m.2⟩, ⟨by omega, by omega, h.o.e.2⟩, ⟨by omega, by omega, h.o.r.2⟩⟩
theorem U6 (B : AM) : szB B <= bz B + 4 := by
 have one : ∀ l : List Clause, (l.map szC).sum <= lz l := fun l => by
  induction l with
  | nil => simp [lz]
  | cons a l ih =>
   unfold lz at ih ⊢
   rw [List.map_cons, List.sum_cons, List.map_cons, List.sum_cons]
   have : szC a = sz a.When + sz a.Then := rfl
   omega
 have two : ∀ l : List Expr, (l.map sz).sum <= rz l := fun l => by
  induction l with
  | nil => simp [rz]
  | cons a l ih =>
   unfold rz at ih ⊢
   rw [List.map_cons, List.sum_cons, List.map_cons, List.sum_cons]
   omega
 have h1 := one B.Points
 have h2 := one B.Multipliers
 have h3 := one B.Penalties
 have h4 := two B.Repeats
 unfold szB szL szX bz
 omega
theorem UD {b : AM} (h : O2 N b) (hv : vld b = true) : Nv N b := by
 obtain ⟨v1, v2, v3, v4, v5⟩ := IE.1 hv
 exact ⟨⟨FY v1, fun c hc => h.p.c c hc⟩, ⟨FY v2, fun c hc => h.m.c c hc⟩, ⟨FY v3, fun c hc => h.e.c c hc⟩, ⟨v4, fun c hc => h.r.c c hc⟩⟩
def bk3 (N : Nat) (r27 : Bool) (x2 : W4) : Option Bool := ((Ba N x2).bind fun r204 => (bif (r204.2.1 != 0) then some r27 else ((CM N r204.1).bind fun r220 => ((Ba N r220.1).bind fun r228 => ((bif r27 then ((Cj N r204.1).bind fun r252 => (bif r252 then (bif (r220.2 == 0) then (bif (r228.2.1 == 0) then ((BO N r204.1 r228.1).bind fun r269 => some r269) else some false) else some false) else some false)) else some false).bind fun j244 => some j244)))))
def bk2 (N : Nat) (r27 : Bool) (x1 : Expr) (x2 : W4) : Option Bool := ((CD N x1).bind fun r146 => (bif ((r146.2 == 0) && (decide ((r146.1.length : Int) <= 65536))) then ((BB N r146.1).bind fun r167 => ((bif (r167.2.1 != 0) then some true else ((Ds N x1 r167.1).bind fun r193 => some (!r193))).bind fun j183 => (bif j183 then some false else bk3 N r27 x2))) else bk3 N r27 x2))
theorem Sx (hN : 300000000 <= N) {s : W4} (hs : s.length <= 3000) : bk3 N true s = some true := by
 obtain ⟨B, e, w, h1, _, _⟩ := Pt (N := N) s (by omega)
 unfold bk3
 rw [h1]
 simp only [Option.bind_some]
 cases he : e != 0 with
 | true => rfl
 | false =>
  have he : e = 0 := by simpa using he
  subst he
  obtain ⟨hB, hz⟩ := RZ (by omega) h1
  have hv := UI hB
  have hf := UJ (by omega) hB
  have hl := Uu hv
  have hzb := U6 B
  rw [Q5 (by omega) hf (by omega)]
  unfold prB
  rw [if_pos hv]
  simp only [cond_false, cond_true, Option.bind_some]
  rw [PM hN hf (by omega) hv (by omega)]
  simp only [Option.bind_some]
  rw [N8 (by omega) hf, hv]
  simp only [Option.bind_some, cond_true]
  rw [Nz (by omega) hB.o]; rfl
theorem Sy (hN : 300000000 <= N) {x : Expr} (hx : Fit N x) (hz : sz x <= 1048576) {s : W4} (hs : s.length <= 3000) : bk2 N true x s = some true := by
 unfold bk2
 rw [Pb hx (by omega), Sx hN hs]
 simp only [Option.bind_some]
 unfold prx
 by_cases h0 : HM x = true
 ·rw [if_pos h0]
  by_cases hl : (pr x).length <= 65536
  ·rw [show (((pr x, (0 : Int)).2 == 0) && decide (((pr x, (0 : Int)).1.length : Int) <= 65536)) = true by simp; omega]
   simp only [cond_true]
   rw [SL (by omega) hx h0 (by omega) hl (Ja _ x (Nat.le_refl _) (IG h0)).tz]
   simp only [Option.bind_some]
   rw [LW hx, Ia]; rfl
  ·rw [show (((pr x, (0 : Int)).2 == 0) && decide (((pr x, (0 : Int)).1.length : Int) <= 65536)) = false by simp; omega]
   rfl
 ·rw [if_neg h0]; rfl
theorem UK (b : AM) (x : Expr) (s : W4) : El N b x s = ((GE N).bind fun r27 => (((Fi N b).bind fun r47 => (bif (!r47) then some true else ((B6 N x).bind fun r58 => (bif (decide (r58 > 400)) then some true else some (decide ((s.length : Int) > 3000)))))).bind fun j38 => (bif j38 then some r27 else ((CM N b).bind fun r72 => ((Cj N b).bind fun r80 => (bif (!((r72.2 == 0) == r80)) then some false else
  (bif ((r72.2 == 0) && (decide ((r72.1.length : Int) <= 65536))) then ((Ba N r72.1).bind fun r105 => ((bif (r105.2.1 != 0) then some true else (bif (r105.2.2 != 0) then some true else ((BO N b r105.1).bind fun r135 => some (!r135)))).bind fun j121 => (bif j121 then some false else bk2 N r27 x s))) else bk2 N r27 x s))))))) := rfl
theorem QH (hN : 300000000 <= N) {b : AM} {x : Expr} {s : W4} (hb : O2 N b) (hzb : szB b <= 1048576) (hx : Fit N x) (hz : sz x <= 1048576) : El N b x s = some true := by
 rw [UK]
 unfold GE
 rw [Ua hb, LV hx, Q5 (by omega) hb (by omega), N8 (by omega) hb]
 simp only [Option.bind_some]
 cases hli : Qu b with
 | false => rfl
 | true =>
  simp only [Bool.not_true, cond_false, Option.bind_some]
  cases hnd : decide (nd x > 400) with
  | true => rfl
  | false =>
   simp only [cond_false, Option.bind_some]
   by_cases hs : (s.length : Int) > 3000
   ·rw [decide_eq_true hs]; rfl
   ·rw [decide_eq_false hs]
    simp only [cond_false]
    rw [Sy hN hx hz (by omega)]
    unfold prB
    by_cases hv : vld b = true
    ·rw [if_pos hv, hv]
     simp only [show (!(((0 : Int) == 0) == true)) = false from rfl, cond_false]
     by_cases hl : (prb b).length <= 65536
     ·rw [show (((0 : Int) == 0) && decide (((prb b).length : Int) <= 65536)) = true by simp; omega]
      simp only [cond_true]
      rw [PM hN hb (by omega) hv hl]
      simp only [Option.bind_some]
      rw [Nz (by omega) (UD hb hv)]; rfl
     ·rw [show (((0 : Int) == 0) && decide (((prb b).length : Int) <= 65536)) = false by simp; omega]; rfl
    ·rw [if_neg hv, show vld b = false by simpa using hv]; rfl
end
theorem TX (b : AM) (x : Expr) (s : W4) (h0 : S5 b) (hb : szB b <= 1048576) (h1 : JT x) (h2 : sz x <= 1048576) (_ : s.length <= 140737488351232) (_ : s.length + 1 <= 1048576) : ∃ N, El N b x s = some true := by
 obtain ⟨a, ha⟩ := UF h0
 obtain ⟨c, hc⟩ := OD h1
 exact ⟨a + c + 300000000, QH (by omega) (ha _ (by omega)) (by omega) (hc _ (by omega)) (by omega)⟩
end Go.Proofs.YtaihlcdkcampbaaGreatDoor
