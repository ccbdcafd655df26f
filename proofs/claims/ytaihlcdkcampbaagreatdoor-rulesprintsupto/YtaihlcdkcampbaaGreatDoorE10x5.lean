/- Lemmas of the claim RulesPrintsUpto, printed by a program of the claimant and by hand. No statement of the seat is proved here. -/
import Derived.Test.YtaihlcdkcampbaaGreatDoorE10x4
set_option linter.unusedVariables false
set_option linter.unusedSimpArgs false
set_option linter.unusedSectionVars false
set_option maxHeartbeats 4000000
set_option maxRecDepth 100000
namespace Go.Proofs.YtaihlcdkcampbaaGreatDoor
def CD (N : Nat) (x0 : Be) (x1 : Expr) : Option Bool :=
 ((GI N ).bind fun r27 => (((Fh N x0).bind fun r46 => (bif (!r46) then some true else ((Br N x1).bind fun r57 => some (decide (r57 > 400))))).bind fun j38 => (bif j38 then some r27 else ((E7 N x0).bind fun r68 => ((Fe N x0).bind fun r76 => ((Ct N x1).bind fun r84 => ((C4 N x1).bind fun r92 => some (r27 && ((r68.1 == r76.1) && ((r68.2 == r76.2) && ((r84.1 == r92.1) && (r84.2 == r92.2))))))))))))
theorem Hz (N : Nat) (w0 : World) (F0 : Mem) (hF : SH w0 F0) (hG : B0 F0) (x0 : Be) (a0_0 : SG) (n0_0 : Nat) (hb0_0 : LC x0.Points.length n0_0) (hs0_0 : SlA As F0 a0_0 x0.Points) (a0_1 : SG) (n0_1 : Nat) (hb0_1 : LC x0.Multipliers.length n0_1) (hs0_1 : SlA As F0 a0_1 x0.Multipliers) (a0_2 : SG) (n0_2 : Nat) (hb0_2 : LC x0.Penalties.length n0_2) (hs0_2 : SlA As F0 a0_2 x0.Penalties) (a0_3 : SG) (n0_3 : Nat) (hb0_3 : LC x0.Repeats.length n0_3) (hs0_3 : SlA Ao F0 a0_3 x0.Repeats) (x1 : Expr) (a1_2 : SG) (n1_2 : Nat) (hb1_2 : LC x1.Kids.length n1_2) (hs1_2 : SlA Ao F0 a1_2 x1.Kids) (r : Bool) (h : CD N x0 x1 = some r) :
  Calls Tryz.prog 10 ([(.agg (AU x0 a0_0 n0_0 a0_1 n0_1 a0_2 n0_2 a0_3 n0_3)), (.agg (Ag x1 a1_2 n1_2))] : List Value).toArray w0 (AJ w0 F0 fun F' v => v = (.bool r)) := by
 have hs0 := Sj hF
 refine Go 65 Tryz.func10 ?_
 refine Sq (Rg [0, 1, 2] ?_)
 refine Bx' 26 (AU x0 a0_0 n0_0 a0_1 n0_1 a0_2 n0_2 a0_3 n0_3) hs0 (fun b21 w22 hs23 => ?_)
 refine Bx' 33 (Ag x1 a1_2 n1_2) hs23 (fun b24 w25 hs26 => ?_)
 refine Vs 1 ?_
 refine Nss (Rg [0, 1] ?_)
 obtain ⟨r27, hr28, h29⟩ := bind_some h
 refine Cl' K1 hs26 (LK N w25 F0 hs26.pers hG  _ hr28) ?_
 rintro _ F1 w31 hs32 le33 rfl
 refine Vs 1 ?_
 refine Nss ?_
 refine Sq (Rg [0, 1, 2, 3, 4, 5, 6, 7] ?_)
 obtain ⟨j38, hj44, h45⟩ := bind_some h29
 refine Sn (fun f w => ∃ (F2 : Mem), HS w0 F0 w F2 [(sb b24 (Ag x1 a1_2 n1_2) 33), (sb b21 (AU x0 a0_0 n0_0 a0_1 n0_1 a0_2 n0_2 a0_3 n0_3) 26)] /\ Sh F1 F2 /\ FI f [] [(2, (pt b21 0)), (3, (pt b24 0)), (5, (.bool r27)), (22, (.bool j38))]) ?_ ?_
 ·refine Ld hs32.at1 ?_
  obtain ⟨r46, hr47, h48⟩ := bind_some hj44
  refine Cl' K0 hs32 (LJ N w31 F1 hs32.pers x0 a0_0 n0_0 hb0_0 (Sk hs0_0 le33) a0_1 n0_1 hb0_1 (Sk hs0_1 le33) a0_2 n0_2 hb0_2 (Sk hs0_2 le33) a0_3 n0_3 hb0_3 (Sk hs0_3 le33) _ hr47) ?_
  rintro _ F3 w50 hs51 le52 rfl
  refine Vs 2 ?_
  refine Sp h48 (fun hb54 h55 => ?_) (fun hb54 h56 => ?_)
  ·refine Ss hb54 3 ?_
   refine Pk1 hb54 ?_
   obtain rfl := Aa h55
   exact Sd ⟨rfl, F3, hs51, le52, fI⟩
  ·refine Lg hb54 hs51.at0 ?_
   obtain ⟨r57, hr58, h59⟩ := bind_some h56
   refine Cg hb54 Dw hs51 (DX N w50 F3 hs51.pers x1 a1_2 n1_2 hb1_2 (Sk hs1_2 (le33.trans le52)) _ hr58) ?_
   rintro _ F4 w61 hs62 le63 rfl
   refine Vgs hb54 1 ?_
   refine Pk0 hb54 ?_
   obtain rfl := Aa h59
   exact Sd ⟨rfl, F4, hs62, (le52.trans le63), fI⟩
 ·rintro f w35 ⟨F2, hs36, le37, ⟨_, rfl⟩⟩
  refine Ac ?_
  refine Cd h45 (fun hb65 h66 => ?_) (fun hb65 h67 => ?_)
  ·refine Sq (Rg [0, 1] ?_)
   refine Vs 2 ?_
   refine Nt ?_
   refine Rt ?_
   refine Ae ?_
   obtain rfl := Aa h66
   exact Re [(.bool r27)] hs36 rfl
  ·refine Sc ?_
   refine Ac ?_
   refine Sq (Rg [0, 1, 2, 3, 4, 5, 6] ?_)
   refine Ld hs36.at1 ?_
   obtain ⟨r68, hr69, h70⟩ := bind_some h67
   refine Cl' KV hs36 (LD N w35 F2 hs36.pers (hG.mono (le33.trans le37)) x0 a0_0 n0_0 hb0_0 (Sk hs0_0 (le33.trans le37)) a0_1 n0_1 hb0_1 (Sk hs0_1 (le33.trans le37)) a0_2 n0_2 hb0_2 (Sk hs0_2 (le33.trans le37)) a0_3 n0_3 hb0_3 (Sk hs0_3 (le33.trans le37)) _ hr69) ?_
   rintro _ F5 w72 hs73 le74 rfl
   refine Vs 5 ?_
   refine Nss (Rg [0, 1, 2, 3, 4, 5, 6] ?_)
   refine Ld hs73.at1 ?_
   obtain ⟨r76, hr77, h78⟩ := bind_some h70
   refine Cl' KY hs73 (LG N w72 F5 hs73.pers (hG.mono ((le33.trans le37).trans le74)) x0 a0_0 n0_0 hb0_0 (Sk hs0_0 ((le33.trans le37).trans le74)) a0_1 n0_1 hb0_1 (Sk hs0_1 ((le33.trans le37).trans le74)) a0_2 n0_2 hb0_2 (Sk hs0_2 ((le33.trans le37).trans le74)) a0_3 n0_3 hb0_3 (Sk hs0_3 ((le33.trans le37).trans le74)) _ hr77) ?_
   rintro _ F6 w80 hs81 le82 rfl
   refine Vs 5 ?_
   refine Nss (Rg [0, 1, 2, 3, 4, 5, 6] ?_)
   refine Ld hs81.at0 ?_
   obtain ⟨r84, hr85, h86⟩ := bind_some h78
   refine Cl' EN hs81 (Fk N w80 F6 hs81.pers (hG.mono (((le33.trans le37).trans le74).trans le82)) x1 a1_2 n1_2 hb1_2 (Sk hs1_2 (((le33.trans le37).trans le74).trans le82)) _ hr85) ?_
   rintro _ F7 w88 hs89 le90 rfl
   refine Vs 5 ?_
   refine Nss (Rg [0, 1, 2, 3, 4, 5, 6] ?_)
   refine Ld hs89.at0 ?_
   obtain ⟨r92, hr93, h94⟩ := bind_some h86
   refine Cl' H3 hs89 (I7 N w88 F7 hs89.pers (hG.mono ((((le33.trans le37).trans le74).trans le82).trans le90)) x1 a1_2 n1_2 hb1_2 (Sk hs1_2 ((((le33.trans le37).trans le74).trans le82).trans le90)) _ hr93) ?_
   rintro _ F8 w96 hs97 le98 rfl
   refine Vs 5 ?_
   refine Nss (Rg [0, 1, 2, 3, 4, 5, 6, 7, 8, 9, 10, 11, 12, 13, 14, 15, 16, 17, 18, 19, 20, 21] ?_)
   refine Sn (fun f w => ∃ (F9 : Mem), HS w0 F0 w F9 [] /\ Sh F8 F9 /\ FI f [] [(4, (.bool (r27 && ((r68.1 == r76.1) && ((r68.2 == r76.2) && ((r84.1 == r92.1) && (r84.2 == r92.2)))))))]) ?_ ?_
   ·refine Vs 2 ?_
    refine Sm r27 (fun hb105 => ?_) (fun hb105 => ?_)
    ·refine Vgs hb105 3 ?_
     refine Pk1 hb105 ?_
     refine Vs 1 ?_
     refine Sm (r68.1 == r76.1) (fun hb106 => ?_) (fun hb106 => ?_)
     ·refine Vgs hb106 3 ?_
      refine Pk1 hb106 ?_
      refine Vs 1 ?_
      refine Sm (r68.2 == r76.2) (fun hb107 => ?_) (fun hb107 => ?_)
      ·refine Vgs hb107 3 ?_
       refine Pk1 hb107 ?_
       refine Vs 1 ?_
       refine Sm (r84.1 == r92.1) (fun hb108 => ?_) (fun hb108 => ?_)
       ·refine Vgs hb108 3 ?_
        refine Pk1 hb108 ?_
        refine Vs 1 ?_
        exact Sd ⟨rfl, F8, hs97.dr0.dr0, (Si _), (fJ ⟨(congrArg Value.bool (BL hb105 (BL hb106 (BL hb107 (BL hb108 rfl))))), trivial⟩)⟩
       ·refine Ss hb108 3 ?_
        refine Pk0 hb108 ?_
        refine Vs 1 ?_
        exact Sd ⟨rfl, F8, hs97.dr0.dr0, (Si _), (fJ ⟨(congrArg Value.bool (BL hb105 (BL hb106 (BL hb107 (Dz hb108 rfl))))), trivial⟩)⟩
      ·refine Ss hb107 3 ?_
       refine Pk0 hb107 ?_
       refine Vs 1 ?_
       refine Ss (rfl : false = false) 3 ?_
       refine Pk0 (rfl : false = false) ?_
       refine Vs 1 ?_
       exact Sd ⟨rfl, F8, hs97.dr0.dr0, (Si _), (fJ ⟨(congrArg Value.bool (BL hb105 (BL hb106 (Dz hb107 rfl)))), trivial⟩)⟩
     ·refine Ss hb106 3 ?_
      refine Pk0 hb106 ?_
      refine Vs 1 ?_
      refine Ss (rfl : false = false) 3 ?_
      refine Pk0 (rfl : false = false) ?_
      refine Vs 1 ?_
      refine Ss (rfl : false = false) 3 ?_
      refine Pk0 (rfl : false = false) ?_
      refine Vs 1 ?_
      exact Sd ⟨rfl, F8, hs97.dr0.dr0, (Si _), (fJ ⟨(congrArg Value.bool (BL hb105 (Dz hb106 rfl))), trivial⟩)⟩
    ·refine Ss hb105 3 ?_
     refine Pk0 hb105 ?_
     refine Vs 1 ?_
     refine Ss (rfl : false = false) 3 ?_
     refine Pk0 (rfl : false = false) ?_
     refine Vs 1 ?_
     refine Ss (rfl : false = false) 3 ?_
     refine Pk0 (rfl : false = false) ?_
     refine Vs 1 ?_
     refine Ss (rfl : false = false) 3 ?_
     refine Pk0 (rfl : false = false) ?_
     refine Vs 1 ?_
     exact Sd ⟨rfl, F8, hs97.dr0.dr0, (Si _), (fJ ⟨(congrArg Value.bool (Dz hb105 rfl)), trivial⟩)⟩
   ·rintro f w100 ⟨F9, hs101, le102, ⟨_, rfl⟩⟩
    refine Ac ?_
    refine Rt ?_
    obtain rfl := Aa h94
    exact Re [(.bool (r27 && ((r68.1 == r76.1) && ((r68.2 == r76.2) && ((r84.1 == r92.1) && (r84.2 == r92.2))))))] hs101 rfl
theorem Q4 {N : Nat} (op : Int) : DK N op = some (rk op) := by
 unfold DK rk
 by_cases h1 : op = 5
 ·subst h1; rfl
 by_cases h2 : op = 4
 ·subst h2; rfl
 by_cases h3 : op = 3
 ·subst h3; rfl
 by_cases h4 : op = 6
 ·subst h4; rfl
 by_cases h5 : op = 7
 ·subst h5; rfl
 by_cases h6 : op = 8
 ·subst h6; rfl
 by_cases h7 : op = 9
 ·subst h7; rfl
 by_cases h8 : op = 10
 ·subst h8; rfl
 have e : ∀ n : Int, op ≠ n -> (op == n) = false := fun n h => by simpa using h
 rw [e 5 h1, e 4 h2, e 3 h3, e 6 h4, e 7 h5, e 8 h6, e 9 h7, e 10 h8]
 simp [h1, h2, h3, h4, h5, h6, h7, h8]
theorem Ry {N k : Nat} {e : Expr} {t : SF} (h : (CM N k).q111 e = some t) (hl : t.length <= 9223372036854775800) (a : Int) : (CM N (k + 1)).q166 e a = some (par a e.Op t) := by
 show Fc N (CM N k).q111 e a = _
 unfold Fc
 rw [Q4, Option.bind_some, h]
 simp only [Option.bind_some]
 exact Jj hl
theorem OK {N : Nat} (q1 : Expr -> Option SF) (q2 : Expr -> Int -> Option SF) {op : Int} (h : op = 4 \/ op = 5 \/ op = 6 \/ op = 7 \/ op = 8 \/ op = 9 \/ op = 10) (x y : Expr) {u v : SF} (hx : q2 x (lf op) = some u) (hy : q2 y (rt op) = some v) (lu : u.length <= 4294967296) (lv : v.length <= 4294967296) :
  Cw N q1 q2 ⟨op, 0, [x, y]⟩ = some (u ++ [32] ++ sgT op ++ [32] ++ v) := by
 have e2 : ∀ s : SF, s.length <= 100 -> ((A3 u s).bind fun r => ((A3 r v).bind fun t => some t)) = some (u ++ s ++ v) := fun s hs => by
  rw [AV (by omega), Option.bind_some, AV (by simp; omega)]; rfl
 have ea : u ++ [32] ++ sgT op ++ [32] ++ v = u ++ ([32] ++ sgT op ++ [32]) ++ v := by simp
 rw [ea, <- e2 ([32] ++ sgT op ++ [32]) (by have := ND op; simp; omega)]
 rcases h with rfl | rfl | rfl | rfl | rfl | rfl | rfl
 ·show ((q2 x (lf 4)).bind fun r => ((A3 r ([32] ++ sgT 4 ++ [32])).bind fun t => ((q2 y (rt 4)).bind fun s => ((A3 t s).bind fun z => some z)))).bind (fun j => some j) = _
  rw [hx, Option.bind_some, hy]; cases A3 u ([32] ++ sgT 4 ++ [32]) <;> simp
 ·show ((q2 x (lf 5)).bind fun r => ((A3 r ([32] ++ sgT 5 ++ [32])).bind fun t => ((q2 y (rt 5)).bind fun s => ((A3 t s).bind fun z => some z)))).bind (fun j => some j) = _
  rw [hx, Option.bind_some, hy]; cases A3 u ([32] ++ sgT 5 ++ [32]) <;> simp
 ·show ((q2 x (lf 6)).bind fun r => ((A3 r ([32] ++ sgT 6 ++ [32])).bind fun t => ((q2 y (rt 6)).bind fun s => ((A3 t s).bind fun z => some z)))).bind (fun j => some j) = _
  rw [hx, Option.bind_some, hy]; cases A3 u ([32] ++ sgT 6 ++ [32]) <;> simp
 ·show ((q2 x (lf 7)).bind fun r => ((A3 r ([32] ++ sgT 7 ++ [32])).bind fun t => ((q2 y (rt 7)).bind fun s => ((A3 t s).bind fun z => some z)))).bind (fun j => some j) = _
  rw [hx, Option.bind_some, hy]; cases A3 u ([32] ++ sgT 7 ++ [32]) <;> simp
 ·show ((q2 x (lf 8)).bind fun r => ((A3 r ([32] ++ sgT 8 ++ [32])).bind fun t => ((q2 y (rt 8)).bind fun s => ((A3 t s).bind fun z => some z)))).bind (fun j => some j) = _
  rw [hx, Option.bind_some, hy]; cases A3 u ([32] ++ sgT 8 ++ [32]) <;> simp
 ·show ((q2 x (lf 9)).bind fun r => ((A3 r ([32] ++ sgT 9 ++ [32])).bind fun t => ((q2 y (rt 9)).bind fun s => ((A3 t s).bind fun z => some z)))).bind (fun j => some j) = _
  rw [hx, Option.bind_some, hy]; cases A3 u ([32] ++ sgT 9 ++ [32]) <;> simp
 ·show ((q2 x (lf 10)).bind fun r => ((A3 r ([32] ++ sgT 10 ++ [32])).bind fun t => ((q2 y (rt 10)).bind fun s => ((A3 t s).bind fun z => some z)))).bind (fun j => some j) = _
  rw [hx, Option.bind_some, hy]; cases A3 u ([32] ++ sgT 10 ++ [32]) <;> simp
theorem Pg {N : Nat} (q1 : Expr -> Option SF) (q2 : Expr -> Int -> Option SF) (c x y : Expr) {t u v : SF} (hc : q1 c = some t) (hx : q1 x = some u) (hy : q1 y = some v) (lt : t.length <= 4294967296) (lu : u.length <= 4294967296) (lv : v.length <= 4294967296) :
  Cw N q1 q2 ⟨11, 0, [c, x, y]⟩ = some ([105, 102, 40] ++ t ++ [44, 32] ++ u ++ [44, 32] ++ v ++ [41]) := by
 show ((q1 c).bind fun r217 => ((A3 ([105, 102, 40] : SF) r217).bind fun r225 => ((A3 r225 ([44, 32] : SF)).bind fun r228 => ((q1 x).bind fun r231 => ((A3 r228 r231).bind fun r239 => ((A3 r239 ([44, 32] : SF)).bind fun r242 => ((q1 y).bind fun r245 => ((A3 r242 r245).bind fun r253 => ((A3 r253 ([41] : SF)).bind fun r256 => some r256))))))))).bind (fun j => some j) = _
 rw [hc, Option.bind_some, AV (by simp; omega), Option.bind_some, AV (by simp; omega), Option.bind_some, hx, Option.bind_some, AV (by simp; omega), Option.bind_some, AV (by simp; omega), Option.bind_some, hy, Option.bind_some, AV (by simp; omega), Option.bind_some, AV (by simp; omega)]; rfl
theorem Mo {N : Nat} : ∀ {n k : Nat} {e : Expr}, Ht N n e -> 2 * n <= k -> kd e ≠ 0 -> sz e <= 100000000 -> (CM N k).q111 e = some (pr e)
 | 0, _, _, h, _, _, _ => h.elim
 | n + 1, 0, _, _, h, _, _ => absurd h (by omega)
 | n + 1, 1, _, _, h, _, _ => absurd h (by omega)
 | n + 1, k + 2, e, ⟨h1, h2, h3⟩, hk, h0, hs => by
  have hl := BP _ e (Nat.le_refl _) h0
  have kid : ∀ x, x ∈ e.Kids -> kd x ≠ 0 -> ∀ a, (CM N (k + 1)).q166 x a = some (par a x.Op (pr x)) := fun x hx hx0 a => by
   have := Dp hx
   have := BP _ x (Nat.le_refl _) hx0
   exact Ry (Mo (h3 x hx) (by omega) hx0 (by omega)) (by omega) a
  have own : ∀ x, x ∈ e.Kids -> kd x ≠ 0 -> (CM N (k + 1)).q111 x = some (pr x) := fun x hx hx0 => by
   have := Dp hx
   exact Mo (h3 x hx) (by omega) hx0 (by omega)
  show Cw N (CM N (k + 1)).q111 (CM N (k + 1)).q166 e = _
  unfold Cw
  rcases KH h0 with ⟨h1, h2, h4, h5⟩ | ⟨h1, h2, h4, h5⟩ | ⟨x, rfl, hx⟩ | ⟨op, x, y, hop, rfl, hx, hy⟩ | ⟨c, x, y, rfl, hc, hx, hy⟩
  ·rw [h1]
   simp only [show ((1 : Int) == 1) = true from rfl, cond_true]
   rw [OC h2 h4, NU h1]; rfl
  ·rw [h1]
   simp only [show ((2 : Int) == 1) = false from rfl, show ((2 : Int) == 2) = true from rfl, cond_true, cond_false]
   rw [PE, Option.bind_some]
   obtain ⟨j, hj⟩ : ∃ j : Nat, e.Value = (j : Int) := ⟨e.Value.toNat, by omega⟩
   have hjl : j < NM.length := by show j < 14; omega
   have hp : pr e = NM[j] := by rw [NW h1, hj, Int.toNat_natCast, List.getElem?_eq_getElem hjl]; rfl
   rw [hj, CE hjl, hp]; rfl
  ·have px := Ez 3 x.Op (pr x)
   have lx := BP _ x (Nat.le_refl _) (by rw [hx]; decide)
   have sx := Dp (e := ⟨3, 0, [x]⟩) (x := x) (by simp)
   simp only [show ((3 : Int) == 1) = false from rfl, show ((3 : Int) == 2) = false from rfl, show ((3 : Int) == 3) = true from rfl, cond_true, cond_false]
   rw [show idx [x] 0 = some x from rfl, Option.bind_some, kid x (by simp) (by rw [hx]; decide) 3, Option.bind_some, AV (by simp; omega), NV]; rfl
  ·have hxm : x ∈ (⟨op, 0, [x, y]⟩ : Expr).Kids := by simp
   have hym : y ∈ (⟨op, 0, [x, y]⟩ : Expr).Kids := by simp
   have sx := Dp hxm
   have sy := Dp hym
   have lx := BP _ x (Nat.le_refl _) hx
   have ly := BP _ y (Nat.le_refl _) hy
   have px := Ez (lf op) x.Op (pr x)
   have py := Ez (rt op) y.Op (pr y)
   rw [NT hop]
   exact OK _ _ hop x y (kid x hxm hx _) (kid y hym hy _) (by omega) (by omega)
  ·have hcm : c ∈ (⟨11, 0, [c, x, y]⟩ : Expr).Kids := by simp
   have hxm : x ∈ (⟨11, 0, [c, x, y]⟩ : Expr).Kids := by simp
   have hym : y ∈ (⟨11, 0, [c, x, y]⟩ : Expr).Kids := by simp
   have sc := Dp hcm
   have sx := Dp hxm
   have sy := Dp hym
   have c0 : kd c ≠ 0 := by rw [hc]; decide
   have x0 : kd x ≠ 0 := by rw [hx]; decide
   have y0 : kd y ≠ 0 := by rw [hy]; decide
   have lc := BP _ c (Nat.le_refl _) c0
   have lx := BP _ x (Nat.le_refl _) x0
   have ly := BP _ y (Nat.le_refl _) y0
   rw [Pu]
   exact Pg _ _ c x y (own c hcm c0) (own x hxm x0) (own y hym y0) (by omega) (by omega) (by omega)
section
variable {N : Nat}
theorem Qv (z : Expr) : par 1 z.Op (pr z) = pr z := by unfold par; rw [if_neg]; unfold rk; repeat' split; all_goals omega
theorem Hh {e : Expr} (h : Fit N e) (hk : kd e ≠ 0) (hs : sz e <= 100000000) : B6 N e 1 = some (pr e) := by
 obtain ⟨n, h1, h2⟩ := h
 have : B6 N e 1 = some (par 1 e.Op (pr e)) := DM h1 (by omega) hk hs 1
 rw [this, Qv]
theorem Kd {e : Expr} (h : Fit N e) (hk : kd e ≠ 0) (hs : sz e <= 100000000) : Db N e = some (pr e) := by
 obtain ⟨n, h1, h2⟩ := h
 exact Mo h1 (by omega) hk hs
noncomputable def prx (e : Expr) : SF × Int := if Ln e = true then (pr e, 0) else ([], 61)
theorem MU {e : Expr} (h : Fit N e) (hs : sz e <= 100000000) : Ct N e = some (prx e) := by
 unfold Ct prx
 rw [Oo h, Option.bind_some]
 cases h0 : Ln e with
 | false => rfl
 | true => rw [Bool.not_true, cond_false, Hh h (On h0) hs, if_pos rfl]; rfl
theorem Me {e : Expr} (h : Fit N e) (hs : sz e <= 100000000) : C4 N e = some (prx e) := by
 unfold C4 prx
 rw [NF h, Option.bind_some]
 cases h0 : Ln e with
 | false => rfl
 | true => rw [Bool.not_true, cond_false, Kd h (On h0) hs, if_pos rfl]; rfl
def lnT (w : SF) (c : Clause) : SF := w ++ [58, 32] ++ pr c.When ++ [32, 61, 62, 32] ++ pr c.Then ++ [10]
def lrT (e : Expr) : SF := [114, 101, 112, 101, 97, 116, 58, 32] ++ pr e ++ [10]
def wP : SF := [112, 111, 105, 110, 116, 115]
def wM : SF := [109, 117, 108, 116, 105, 112, 108, 105, 101, 114]
def wE : SF := [112, 101, 110, 97, 108, 116, 121]
def lns (w : SF) (l : List Clause) : SF := l.flatMap (lnT w)
theorem Ho {α σ ρ : Type} (l : List α) (g : α -> SF) (mk : Nat -> SF -> σ) {body : σ -> Option (Bi ρ σ)} (hl : l.length <= 100) (hg : ∀ x, x ∈ l -> (g x).length <= 10000000000) {s0 : SF} (h0 : s0.length <= 20000000000000)
  (hb : ∀ (i : Nat) (h : i < l.length) (s : SF), s.length <= 30000000000000 -> body (mk i s) = some (.next (mk (i + 1) (s ++ g l[i])))) (hd : ∀ s, body (mk l.length s) = some (.done (mk l.length s))) (hN : 1000 < N) :
  A0 body N (mk 0 s0) = some (.done (mk l.length (s0 ++ l.flatMap g))) := by
 have hlen : ∀ i, i <= l.length -> ((l.take i).flatMap g).length <= i * 10000000000 := by
  intro i
  induction i with
  | zero => intro _; simp
  | succ i ih =>
   intro hi
   rw [List.take_succ_eq_append_getElem (by omega), List.flatMap_append, List.length_append]
   have := ih (by omega)
   have := hg _ (List.getElem_mem (by omega : i < l.length))
   simp only [List.flatMap_cons, List.flatMap_nil, List.append_nil]; omega
 obtain ⟨o, ho, rfl⟩ := IL (body := body) l.length (fun i s => s = mk i (s0 ++ (l.take i).flatMap g)) (fun o => o = .done (mk l.length (s0 ++ l.flatMap g))) (by
  rintro i s hi rfl
  by_cases h : i < l.length
  ·left
   have := hlen i hi
   refine ⟨_, hb i h _ (by rw [List.length_append]; omega), ?_, h⟩
   rw [List.take_succ_eq_append_getElem h, List.flatMap_append, List.append_assoc]; simp
  ·have : i = l.length := by omega
   subst this
   right
   exact ⟨_, hd _, fun _ h => (by cases h), by rw [List.take_length]⟩) l.length N 0 (mk 0 s0) (by omega) (by simp) (by omega)
 exact ho
theorem Ip {w : SF} (hw : w.length <= 10) {c : Clause} (h : B2 c = true) (hs : szC c <= 100000000) : (lnT w c).length <= 10000000000 /\ (pr c.When).length <= 3000000000 /\ (pr c.Then).length <= 3000000000 := by
 unfold szC at hs
 have a := BP _ c.When (Nat.le_refl _) (by rw [NA h]; decide)
 have b := BP _ c.Then (Nat.le_refl _) (by rw [NB h]; decide)
 unfold lnT
 simp only [List.length_append, List.length_cons, List.length_nil]
 omega
theorem Kf {e : Expr} (h : kd e ≠ 0) (hs : sz e <= 100000000) : (lrT e).length <= 10000000000 /\ (pr e).length <= 3000000000 := by
 have a := BP _ e (Nat.le_refl _) h
 unfold lrT
 simp only [List.length_append, List.length_cons, List.length_nil]
 omega
theorem Hg {α : Type} (f : α -> Nat) : ∀ {l : List α} {x : α}, x ∈ l -> f x <= (l.map f).sum
 | a :: l, x, h => by
  rcases List.mem_cons.1 h with rfl | h
  ·simp
  ·have := Hg f h; simp; omega
structure SmL (N : Nat) (l : List Clause) : Prop where
 f : Nw N l
 s : Mb l = true
 z : szL l <= 100000000
theorem SmL.c {l : List Clause} (h : SmL N l) {c : Clause} (hc : c ∈ l) : szC c <= 100000000 := by
 have := Hg szC hc
 have := h.z
 unfold szL at this; omega
theorem HV (hN : 1000 < N) {w : SF} (hw : w.length <= 10) {l : List Clause} (h : SmL N l) : Cx N w l = some (lns w l) := by
 unfold Cx
 have := Ho (body := Ce N w l) l (lnT w) (fun i s => (s, (i : Int))) (by have := Nz h.s; omega) (fun x hx => (Ip hw (Km h.s hx) (h.c hx)).1) (s0 := []) (by simp) (fun i hi s hs => by
  have hm := List.getElem_mem hi
  have hc := Km h.s hm
  have hz := h.c hm
  obtain ⟨l0, l1, l2⟩ := Ip hw hc hz
  unfold szC at hz
  unfold Ce
  simp only
  rw [H0 hi, cond_true, AV (by simp; omega), Option.bind_some, CE hi, Option.bind_some, Option.bind_some, Kd (h.f.c _ hm).1 (by rw [NA hc]; decide) (by omega), Option.bind_some,
   AV (by simp; omega), Option.bind_some, AV (by simp; omega), Option.bind_some, Kd (h.f.c _ hm).2 (by rw [NB hc]; decide) (by omega), Option.bind_some, AV (by simp; omega), Option.bind_some, AV (by simp; omega), Option.bind_some,
   AV (by have : (lnT w l[i]).length <= 10000000000 := l0; unfold lnT at this; omega), Option.bind_some, Option.bind_some, Ci (by have := h.f.w; omega)]
  rfl) (fun s => by unfold Ce; simp only; rw [H1, cond_false]) hN
 rw [show (([] : SF), (0 : Int)) = (([] : SF), ((0 : Nat) : Int)) from rfl, this]
 rfl
noncomputable def prb (b : Be) : SF := lns wP b.Points ++ lns wM b.Multipliers ++ lns wE b.Penalties ++ b.Repeats.flatMap lrT
noncomputable def prB (b : Be) : SF × Int := if vld b = true then (prb b, 0) else ([], 62)
theorem Hn {w : SF} (hw : w.length <= 10) {l : List Clause} (h : SmL N l) : (lns w l).length <= 1000000000000 := by
 have hl := Nz h.s
 have : ∀ m : List Clause, (∀ c, c ∈ m -> c ∈ l) -> (lns w m).length <= m.length * 10000000000 := by
  intro m
  induction m with
  | nil => intro _; simp [lns]
  | cons a m ih =>
   intro hm
   have a1 := ih (fun c hc => hm c (List.mem_cons_of_mem _ hc))
   have hma := hm a (List.mem_cons_self ..)
   have := (Ip hw (Km h.s hma) (h.c hma)).1
   unfold lns at a1 ⊢
   rw [List.flatMap_cons, List.length_append, List.length_cons]; omega
 have := this l (fun _ h => h)
 omega
theorem P9 (hN : 1000 < N) {b : Be} (h : MN N b) (hs : szB b <= 10000000) : E7 N b = some (prB b) := by
 unfold E7 prB
 rw [P8 hN h, Option.bind_some]
 cases hv : vld b with
 | false => rfl
 | true =>
  obtain ⟨v1, v2, v3, v4, v5⟩ := Ol.1 hv
  unfold szB at hs
  have p1 : SmL N b.Points := ⟨h.p, v1, by omega⟩
  have p2 : SmL N b.Multipliers := ⟨h.m, v2, by omega⟩
  have p3 : SmL N b.Penalties := ⟨h.e, v3, by omega⟩
  have m1 := Hn (w := wP) (by decide) p1
  have m2 := Hn (w := wM) (by decide) p2
  have m3 := Hn (w := wE) (by decide) p3
  rw [Bool.not_true, cond_false, if_pos rfl]
  have inner : ∀ (sx : Int × SF) (w : SF) (l : List Clause) (s0 : SF), w.length <= 10 -> SmL N l -> s0.length <= 20000000000000 -> A0 (Ca N b true sx ⟨w, l⟩) N (0, s0) = some (.done ((l.length : Int), s0 ++ lns w l)) := by
   intro sx w l s0 hw h h0
   exact Ho (body := Ca N b true sx ⟨w, l⟩) l (lnT w) (fun i s => ((i : Int), s)) (by have := Nz h.s; omega) (fun x hx => (Ip hw (Km h.s hx) (h.c hx)).1) h0 (fun i hi s hs => by
    have hm := List.getElem_mem hi
    have hc := Km h.s hm
    have hz := h.c hm
    obtain ⟨l0, l1, l2⟩ := Ip hw hc hz
    unfold szC at hz
    unfold Ca
    simp only
    rw [H0 hi, cond_true, CE hi, Option.bind_some, AV (by simp; omega), Option.bind_some, Hh (h.f.c _ hm).1 (by rw [NA hc]; decide) (by omega), Option.bind_some,
     AV (by simp; omega), Option.bind_some, AV (by simp; omega), Option.bind_some, Hh (h.f.c _ hm).2 (by rw [NB hc]; decide) (by omega), Option.bind_some, AV (by simp; omega), Option.bind_some, AV (by simp; omega), Option.bind_some,
     OG (by have : (lnT w l[i]).length <= 10000000000 := l0; unfold lnT at this; omega), Option.bind_some, Option.bind_some, Ci (by have := h.f.w; omega)]
    rfl) (fun s => by unfold Ca; simp only; rw [H1, cond_false]) hN
  have outer : A0 (Cb N b true) N (0, []) = some (.done (3, lns wP b.Points ++ lns wM b.Multipliers ++ lns wE b.Penalties)) := by
   obtain ⟨m, rfl⟩ : ∃ m, N = m + 4 := ⟨N - 4, by omega⟩
   have st : ∀ (k : Nat) (w : SF) (l : List Clause) (s0 : SF), k < 3 -> ([({ word_ := ([112, 111, 105, 110, 116, 115] : SF), l_ := b.Points } : BZ), ({ word_ := ([109, 117, 108, 116, 105, 112, 108, 105, 101, 114] : SF), l_ := b.Multipliers } : BZ), ({ word_ := ([112, 101, 110, 97, 108, 116, 121] : SF), l_ := b.Penalties } : BZ)])[k]? = some ⟨w, l⟩ -> w.length <= 10 -> SmL (m + 4) l -> s0.length <= 20000000000000 ->
     Cb (m + 4) b true ((k : Int), s0) = some (.next (((k + 1 : Nat) : Int), s0 ++ lns w l)) := by
    intro k w l s0 hk hg hw hl h0
    unfold Cb
    simp only
    rw [show ((List.length [({ word_ := ([112, 111, 105, 110, 116, 115] : SF), l_ := b.Points } : BZ), ({ word_ := ([109, 117, 108, 116, 105, 112, 108, 105, 101, 114] : SF), l_ := b.Multipliers } : BZ), ({ word_ := ([112, 101, 110, 97, 108, 116, 121] : SF), l_ := b.Penalties } : BZ)] : Nat) : Int) = ((3 : Nat) : Int) from rfl, H0 hk, cond_true, IP, hg, Option.bind_some, inner _ _ _ _ hw hl h0, Option.bind_some]
    simp only [Bi.k]
    rw [Ci (by omega)]
   rw [A0, show ((0 : Int), ([] : SF)) = (((0 : Nat) : Int), ([] : SF)) from rfl, st 0 wP b.Points [] (by omega) rfl (by decide) p1 (by simp)]
   simp only
   rw [A0, st _ wM b.Multipliers _ (by omega) rfl (by decide) p2 (by simp; omega)]
   simp only
   rw [A0, st _ wE b.Penalties _ (by omega) rfl (by decide) p3 (by simp; omega)]
   simp only
   rw [A0]
   unfold Cb
   simp only
   rw [show ((List.length [({ word_ := ([112, 111, 105, 110, 116, 115] : SF), l_ := b.Points } : BZ), ({ word_ := ([109, 117, 108, 116, 105, 112, 108, 105, 101, 114] : SF), l_ := b.Multipliers } : BZ), ({ word_ := ([112, 101, 110, 97, 108, 116, 121] : SF), l_ := b.Penalties } : BZ)] : Nat) : Int) = ((2 + 1 : Nat) : Int) from rfl, H1, cond_false, List.nil_append]
   rfl
  rw [outer, Option.bind_some]
  simp only [Bi.k]
  have rep := Ho (body := CI N b true (3, lns wP b.Points ++ lns wM b.Multipliers ++ lns wE b.Penalties)) b.Repeats lrT (fun i s => ((i : Int), s)) (by omega) (fun e he => (Kf (by rw [Jc (v5 e he)]; decide) (by have := Hg sz he; unfold szX at hs; omega)).1) (s0 := lns wP b.Points ++ lns wM b.Multipliers ++ lns wE b.Penalties) (by simp; omega) (fun i hi s hs' => by
    have hm := List.getElem_mem hi
    have hk := Jc (v5 _ hm)
    have hz : sz b.Repeats[i] <= 100000000 := by have := Hg sz hm; unfold szX at hs; omega
    obtain ⟨l0, l1⟩ := Kf (e := b.Repeats[i]) (by rw [hk]; decide) hz
    unfold CI
    simp only
    rw [H0 hi, cond_true, CE hi, Option.bind_some, Hh (h.r.c _ hm) (by rw [hk]; decide) hz, Option.bind_some, AV (by simp; omega), Option.bind_some, AV (by simp; omega), Option.bind_some,
     OG (by have : (lrT b.Repeats[i]).length <= 10000000000 := l0; unfold lrT at this; omega), Option.bind_some, Ci (by omega)]
    rfl) (fun s => by unfold CI; simp only; rw [H1, cond_false]) hN
  rw [show ((0 : Int), lns wP b.Points ++ lns wM b.Multipliers ++ lns wE b.Penalties) = (((0 : Nat) : Int), lns wP b.Points ++ lns wM b.Multipliers ++ lns wE b.Penalties) from rfl, rep]
  rfl
theorem Pi (hN : 1000 < N) {b : Be} (h : MN N b) (hs : szB b <= 10000000) : Fe N b = some (prB b) := by
 unfold Fe prB
 rw [Ph hN h, Option.bind_some]
 cases hv : vld b with
 | false => rfl
 | true =>
  obtain ⟨v1, v2, v3, v4, v5⟩ := Ol.1 hv
  unfold szB at hs
  have p1 : SmL N b.Points := ⟨h.p, v1, by omega⟩
  have p2 : SmL N b.Multipliers := ⟨h.m, v2, by omega⟩
  have p3 : SmL N b.Penalties := ⟨h.e, v3, by omega⟩
  have m1 := Hn (w := wP) (by decide) p1
  have m2 := Hn (w := wM) (by decide) p2
  have m3 := Hn (w := wE) (by decide) p3
  rw [Bool.not_true, cond_false, if_pos rfl, show ([112, 111, 105, 110, 116, 115] : SF) = wP from rfl, show ([109, 117, 108, 116, 105, 112, 108, 105, 101, 114] : SF) = wM from rfl, show ([112, 101, 110, 97, 108, 116, 121] : SF) = wE from rfl,
   HV hN (by decide) p1, Option.bind_some, HV hN (by decide) p2, Option.bind_some, AV (by omega), Option.bind_some, HV hN (by decide) p3, Option.bind_some, AV (by simp; omega), Option.bind_some, Option.bind_some]
  have rep := Ho (body := CL N b true (lns wP b.Points ++ lns wM b.Multipliers ++ lns wE b.Penalties)) b.Repeats lrT (fun i s => (s, (i : Int))) (by omega) (fun e he => (Kf (by rw [Jc (v5 e he)]; decide) (by have := Hg sz he; unfold szX at hs; omega)).1) (s0 := lns wP b.Points ++ lns wM b.Multipliers ++ lns wE b.Penalties) (by simp; omega) (fun i hi s hs' => by
    have hm := List.getElem_mem hi
    have hk := Jc (v5 _ hm)
    have hz : sz b.Repeats[i] <= 100000000 := by have := Hg sz hm; unfold szX at hs; omega
    obtain ⟨l0, l1⟩ := Kf (e := b.Repeats[i]) (by rw [hk]; decide) hz
    unfold CL
    simp only
    rw [H0 hi, cond_true, CE hi, Option.bind_some, Kd (h.r.c _ hm) (by rw [hk]; decide) hz, Option.bind_some, AV (by simp; omega), Option.bind_some, AV (by simp; omega), Option.bind_some,
     AV (by have : (lrT b.Repeats[i]).length <= 10000000000 := l0; unfold lrT at this; omega), Option.bind_some, Ci (by omega)]
    rfl) (fun s => by unfold CL; simp only; rw [H1, cond_false]) hN
  rw [show (lns wP b.Points ++ lns wM b.Multipliers ++ lns wE b.Penalties, (0 : Int)) = (lns wP b.Points ++ lns wM b.Multipliers ++ lns wE b.Penalties, ((0 : Nat) : Int)) from rfl, rep]
  rfl
theorem Ml (hN : 1000 < N) {b : Be} {x : Expr} (hb : MN N b) (hz : szB b <= 10000000) (hx : Fit N x) (hs : sz x <= 10000000) : CD N b x = some true := by
 unfold CD GI
 rw [P7 hb, Ke hx, P9 hN hb hz, Pi hN hb hz, MU hx (by omega), Me hx (by omega)]
 simp only [Option.bind_some, beq_self_eq_true, Bool.and_self]
 cases N1 b
 ·rfl
 ·simp only [Bool.not_true, cond_false, Option.bind_some]
  cases decide (nd x > 400) <;> rfl
end
theorem NS (b : Be) (x : Expr) (h0 : Ps b) (hb : szB b <= 1048576) (h1 : Ii x) (h2 : sz x <= 1048576) : ∃ N, CD N b x = some true := by
 obtain ⟨a, ha⟩ := QD h0
 obtain ⟨c, hc⟩ := Mp h1
 exact ⟨a + c + 1001, Ml (by omega) (ha _ (by omega)) (by omega) (hc _ (by omega)) (by omega)⟩
end Go.Proofs.YtaihlcdkcampbaaGreatDoor
