/- Lemmas of the claim LogsBack, printed by a program of the claimant and by hand. No statement of the seat is proved here. -/
import Derived.Test.YthljkpeimofbbaaGreatDoorE11x4
set_option linter.unusedVariables false
set_option linter.unusedSimpArgs false
set_option linter.unusedSectionVars false
set_option maxHeartbeats 4000000
set_option maxRecDepth 100000
namespace Go.Proofs.YthljkpeimofbbaaGreatDoor
def BI (N : Nat) (l : List Line) (i j : Int) : Option (List Line) := if 0 <= i /\ i < j /\ j <= (l.length : Int) then some (l.take i.toNat ++ l.drop j.toNat) else none
theorem D0 : Af Tryz.prog 208 := fun _ _ => by kernel_rfl
theorem Ec (N : Nat) {wb w0 : World} {Fb F0 : Mem} {Lf : Own} (x0 : List Line) (a0 : WF) (n0 : Nat) (e0 : Option Nat × Obj) (hr0 : Av AC 34 F0 a0 n0 x0 e0) (hs0 : HS wb Fb w0 F0 (e0 :: Lf)) (x1 x2 : Int) (r : List Line) (h : BI N x0 x1 x2 = some r) :
  Calls Tryz.prog 208 ([.slice a0 x0.length n0, .int .i64 x1, .int .i64 x2] : List Value).toArray w0 (fun e w' => ∃ F' a' n' e', e = .returned (.slice a' r.length n') /\ HS wb Fb w' F' (e' :: Lf) /\ Wj F0 F' /\ Av AC 34 F' a' n' r e') := by
 unfold BI at h
 split at h
 case isFalse => cases h
 rename_i hc
 obtain ⟨h1, h2, h3⟩ := hc
 obtain ⟨i, rfl⟩ : ∃ i : Nat, x1 = (i : Int) := ⟨x1.toNat, by omega⟩
 obtain ⟨j, rfl⟩ : ∃ j : Nat, x2 = (j : Int) := ⟨x2.toNat, by omega⟩
 simp only [Int.toNat_natCast] at h
 have hij : i < j := by omega
 have hjl : j <= x0.length := by omega
 have hb := hr0.bound
 rcases hr0.2 with ⟨_, _, hn, _⟩ | ⟨b, C, rfl, rfl, hlc, hC, hx⟩
 ·subst hn; simp at hjl; omega
 have hsz : AC.sz = 11 := rfl
 have hr1 : Av AC 34 F0 (some ⟨b, 0, none⟩) n0 (x0.take i) (some b, .cells C 34 (0, 0)) := hr0.take i
 have hl1 : (x0.take i).length = i := by simp; omega
 have hl2 : (x0.drop j).length = x0.length - j := by simp
 have hrl : r.length = i + (x0.length - j) := by cases h; simp; omega
 have hlt : r.length < x0.length := by omega
 have er : x0.take i ++ x0.drop j = r := by cases h; rfl
 have hne : (((i : Int) == (j : Int)) : Bool) = false := by
  rw [beq_eq_false_iff_ne]; omega
 refine Go 33 Tryz.func208 <| Sq (Rg [0] ?_)
 refine Vs 1 <| Nt <| Sq (Rg [0, 1, 2, 3, 4, 5] ?_)
 refine Vs 5 <| V 13 25 (C8 (x := .tmp 8) (lo := some (.tmp 9)) (hi := some (.tmp 10)) (mx := some (.tmp 12)) (t := 25) (E := 34) (s := 11) (by_ := 96) (n := x0.length) (c := n0) (a := some ⟨b, 0, none⟩) (i := i) (j := j) (m := x0.length) rfl (by kernel_rfl) (by kernel_rfl) rfl rfl rfl (fun _ => rfl) (by omega) hjl hlc) <| Nt <| Sq <| Sq (Rg [0, 1, 2] ?_)
 refine Vs 3 <| Nt <| C0 hne <| Sc <| Ab <| Sq (Rg [0, 1, 2] ?_)
 refine Vs 3 <| Nt <| Sq <| RD 8 8 [] [] hs0 (fun f w => ∃ C', C'.size = C.size /\ HS wb Fb w F0 ((some b, .cells C' 34 (0, 0)) :: Lf) /\ Av AC 34 F0 (some ⟨b, 0, none⟩) n0 r (some b, .cells C' 34 (0, 0)) /\ FI f [] [(0, .slice (some ⟨b, 0, none⟩) r.length n0), (7, .int .i64 (x0.length : Int))]) (fun wd hw => ?_) ?_
 ·refine Dv [0, 1] ?_
  refine DWP.tk 2 (v := .slice (some ⟨b, 0, none⟩) (x0.take i).length n0) (fun wq hq => ?_) ?_ (by kernel_rfl) (by kernel_rfl) (by kernel_rfl)
  ·have e : (if n0 = 0 then some (⟨b, 0, none⟩ : Addr) else (some (⟨b, 0, none⟩ : Addr)).map (·.add (0 * 11))) = some ⟨b, 0, none⟩ := by
    split
    ·rfl
    ·rfl
   refine (C8 (P := Tryz.prog) (lo := none) (hi := some (.tmp 21)) (mx := none) (t := 25) (E := 34) (s := 11) (by_ := 96) (n := x0.length) (c := n0) (a := some ⟨b, 0, none⟩) (i := 0) (j := i) (m := n0) rfl (by kernel_rfl) (by kernel_rfl) rfl rfl rfl (fun h => by cases h) (by omega) (by omega) (Nat.le_refl _)).trans ?_
   rw [e, Nat.sub_zero, Nat.sub_zero, hl1]
  refine Dv [3, 4] <| DWP.tk 5 (v := .slice (if n0 = j then some ⟨b, 0, none⟩ else (some (⟨b, 0, none⟩ : Addr)).map (·.add (j * 11))) (x0.drop j).length (n0 - j)) (fun wq hq => ?_) ?_ (by kernel_rfl) (by kernel_rfl) (by kernel_rfl)
  ·rw [hl2]
   exact C8 (P := Tryz.prog) (lo := some (.tmp 24)) (hi := none) (mx := none) (t := 25) (E := 34) (s := 11) (by_ := 96) (n := x0.length) (c := n0) (a := some ⟨b, 0, none⟩) (i := j) (j := x0.length) (m := n0) rfl (by kernel_rfl) (by kernel_rfl) rfl rfl rfl (fun h => by cases h) hjl hlc (Nat.le_refl _)
  have hrd : Rd AC F0 wd (if n0 = j then some ⟨b, 0, none⟩ else (some (⟨b, 0, none⟩ : Addr)).map (·.add (j * 11))) (x0.drop j) := by
   by_cases hj : n0 = j
   ·exact .inl (by apply List.drop_eq_nil_of_le; omega)
   ·rw [if_neg hj]
    refine .inr ⟨b, j * 11, C, 34, (0, 0), by simp [Addr.add_lit], hw.ownAt (k := 0) rfl, fun q x hq => ?_⟩
    rw [List.getElem?_drop] at hq
    have := hx _ _ hq
    rw [hsz, Nat.add_mul] at this
    exact this
  obtain ⟨C', hC', hr2, hrun⟩ := L2 (P := Tryz.prog) (T := AC) (t := 25) (t2 := 25) (by_ := 96) (c2 := n0 - j) (by kernel_rfl) (by kernel_rfl) SD hw (k := 0) rfl hr1 hrd (by rw [hl1, hl2]; omega) (by rw [hl1, hl2]; have := hr0.1; omega)
  rw [er] at hrun hr2
  have hs2 : HS wb Fb _ F0 ((some b, .cells C' 34 (0, 0)) :: Lf) := hw.put (k := 0) rfl (.cells C' 34 (0, 0))
  refine D1 6 <| Wt (l' := [true, true, true, true, true, true, true, false]) (zd := true) (by kernel_rfl) (by kernel_rfl) (dst := some 26) (ty := 25) (g := none) (by kernel_rfl) rfl (hrun (x := .tmp 22) (y := .tmp 25) (by kernel_rfl) (by kernel_rfl)) (Bd hs2 (Wk _) (by simp) (fun e => by cases e)) <| Dv [7] ?_
  exact Ww (by kernel_rfl) ⟨C', hC', hs2, hr2, fI⟩
 ·rintro f w ⟨C', hC', hs2, hr2, ⟨_, rfl⟩⟩
  refine Ab <| Sq (Rg [0, 1, 2, 3, 4, 5] ?_)
  refine Vs 4 ?_
  have e : (if n0 = r.length then some (⟨b, 0, none⟩ : Addr) else (some (⟨b, 0, none⟩ : Addr)).map (·.add (r.length * 11))) = some ⟨b, r.length * 11, none⟩ := by
   rw [if_neg (by omega)]; simp [Addr.add_lit]
  refine V 31 25 (C8 (P := Tryz.prog) (x := .tmp 27) (lo := some (.tmp 29)) (hi := some (.tmp 30)) (mx := none) (t := 25) (E := 34) (s := 11) (by_ := 96) (n := r.length) (c := n0) (a := some ⟨b, 0, none⟩) (i := r.length) (j := x0.length) (m := n0) rfl (by kernel_rfl) (by kernel_rfl) rfl rfl rfl (fun h => by cases h) (by omega) hlc (Nat.le_refl _)) ?_
  rw [e]
  obtain ⟨vs, hvs, hrun⟩ := N8 (P := Tryz.prog) (T := AC) (E := 34) (w := w) (b := b) (C := C') (j := r.length) (k := x0.length - r.length) (c := n0 - r.length) (t := 25) (by_ := 96) (z := .agg #[.int .i64 0, .int .i64 0, .int .i64 0, .int .i64 0, .string ⟨([] : WE).toArray⟩, .int .i64 0, .int .i64 0, .int .i64 0, .int .i64 0, .int .i64 0, .int .i64 0]) (by kernel_rfl) (by kernel_rfl) rfl rfl (hs2.ownAt (k := 0) rfl) (by omega) (by rw [hC', hC, <- Nat.add_mul]; exact Nat.mul_le_mul_right _ (by omega))
  have hfit : r.length * AC.sz + vs.length <= C'.size := by rw [hvs, hC', hC, <- Nat.add_mul]; exact Nat.mul_le_mul_right _ (by omega)
  have hs3 : HS wb Fb _ F0 ((some b, .cells (CS C' (r.length * AC.sz) vs) 34 (0, 0)) :: Lf) := hs2.put (k := 0) rfl _
  have hr3 : Av AC 34 F0 (some ⟨b, 0, none⟩) n0 r (some b, .cells (CS C' (r.length * AC.sz) vs) 34 (0, 0)) := by
   rcases hr2.2 with ⟨h, _⟩ | ⟨b', C0, hb', hc', k1, k2, k3⟩
   ·cases h
   ·cases hb'; cases hc'
    refine ⟨hr2.1, .inr ⟨b, _, rfl, rfl, k1, by rw [Fq]; exact k2, fun q x hq => ?_⟩⟩
    have hql : q < r.length := by
     rcases Nat.lt_or_ge q r.length with h' | h'
     ·exact h'
     ·rw [List.getElem?_eq_none h'] at hq; cases hq
    rw [OC hfit (by rw [<- Nat.succ_mul]; exact Nat.mul_le_mul_right _ hql)]
    exact k3 q x hq
  refine Wg (dst := none) (ty := 0) (g := none) (by kernel_rfl) rfl (hrun (x := .tmp 31) (by kernel_rfl)) <| Nt <| Sq (Rg [0, 1] ?_)
  refine Vs 2 <| Nt <| Rt ?_
  exact ⟨rfl, _, AW (l := [.tmp 6]) (by kernel_rfl) (vs := [.slice (some ⟨b, 0, none⟩) r.length n0]) ⟨by kernel_rfl, trivial⟩, F0, _, _, _, rfl, hs3, Wk _, hr3⟩
def Fe (N : Nat) (x0 : A4) (x1 : Fix) : Option (A4 × Fix × Bool) :=
 ((Fd N ({ o_ := ({ Report := x0.o_.Report, Serial := x0.o_.Serial, Zone := x0.o_.Zone } : Ac), l_ := x0.l_ } : A4) x1.Num).bind fun r27 => (bif ((!r27.2) || (!((x1.Line.Num == 0) && ((x1.Line.Khz == 0) && ((x1.Line.Mode == 0) && ((x1.Line.Minute == 0) && ((x1.Line.Call == ([] : WE)) && (((x1.Line.Sent.Report == 0) && ((x1.Line.Sent.Serial == 0) && ((x1.Line.Sent.Zone == 0) && true))) && (((x1.Line.Got.Report == 0) && ((x1.Line.Got.Serial == 0) && ((x1.Line.Got.Zone == 0) && true))) && true))))))))) then none else ((idx x0.l_.Lines r27.1).bind fun x47 => ((BI N x0.l_.Lines r27.1 (W64 (r27.1 + 1))).bind fun r64 => some (({ o_ := ({ Report := x0.o_.Report, Serial := x0.o_.Serial, Zone := x0.o_.Zone } : Ac), l_ := ({ Call := x0.l_.Call, Category := x0.l_.Category, Power := x0.l_.Power, Claimed := x0.l_.Claimed, Jumps := x0.l_.Jumps, Lines := r64 } : Log) } : A4), ({ Kind := 2, Num := x1.Num, Line := x47 } : Fix), true)))))
theorem G6 : Af Tryz.prog 178 := fun _ _ => by kernel_rfl
theorem HD (N : Nat) {wb w0 : World} {Fb F0 : Mem} {Lf : Own} (bp0 : Nat) (x0 : A4) (a0_7 : WF) (n0_7 : Nat) (a0_8 : WF) (n0_8 : Nat) (e0_8 : Option Nat × Obj) (hb0_7 : LC x0.l_.Jumps.length n0_7) (hs0_7 : SlA AD F0 a0_7 x0.l_.Jumps) (hr0_8 : Av AC 34 F0 a0_8 n0_8 x0.l_.Lines e0_8) (x1 : Fix) (hs0 : HS wb Fb w0 F0 ((sb bp0 (BH x0 a0_7 n0_7 a0_8 n0_8) 214) :: e0_8 :: Lf)) (r : (A4 × Fix × Bool)) (h : Fe N x0 x1 = some r) :
  Calls Tryz.prog 178 ([(pt bp0 0), (.agg (Pb x1))] : List Value).toArray w0 (EE wb Fb F0 fun F' v L' => ∃ (aq0_7 : WF) (nq0_7 : Nat) (aq0_8 : WF) (nq0_8 : Nat) (eq0_8 : Option Nat × Obj), v = (.tuple #[(.agg (Pb r.2.1)), (.bool r.2.2)]) /\ L' = (sb bp0 (BH r.1 aq0_7 nq0_7 aq0_8 nq0_8) 214) :: eq0_8 :: Lf /\ LC r.1.l_.Jumps.length nq0_7 /\ SlA AD F' aq0_7 r.1.l_.Jumps /\ Av AC 34 F' aq0_8 nq0_8 r.1.l_.Lines eq0_8) := by
 refine Go 50 Tryz.func178 <| Sq (Rg [0, 1, 2] ?_)
 refine Bx' 64 (Pb x1) hs0 (fun b21 w22 hs23 => ?_)
 refine Al' 64 #[(vi 0), (vi 0), (vi 0), (vi 0), (vi 0), (vi 0), (sv (([] : WE))), (vi 0), (vi 0), (vi 0), (vi 0), (vi 0), (vi 0)] hs23 (fun b24 w25 hs26 => ?_)
 refine Vs 1 <| Nss (Rg (rG 9) ?_)
 refine Vs 2 <| Ld hs26.at1 ?_
 obtain ⟨r27, hr28, h29⟩ := bind_some h
 refine CB G5 (HC N bp0 (({ o_ := ({ Report := x0.o_.Report, Serial := x0.o_.Serial, Zone := x0.o_.Zone } : Ac), l_ := x0.l_ } : A4)) a0_7 n0_7 a0_8 n0_8 e0_8 hb0_7 hs0_7 hr0_8 x1.Num hs26.pk1.pk1.pk3.pk3 _ hr28) ?_
 rintro _ F1 w30 _ hs31 le32 ⟨rfl, rfl⟩
 refine Vs 5 <| Nss <| Sq (Rg (rG 8) ?_)
 refine Wp (fun f w => ∃ (F2 : Mem), HS wb Fb w F2 ((sb bp0 (BH x0 a0_7 n0_7 a0_8 n0_8) 214) :: e0_8 :: (sb b24 #[(vi 0), (vi 0), (vi 0), (vi 0), (vi 0), (vi 0), (sv (([] : WE))), (vi 0), (vi 0), (vi 0), (vi 0), (vi 0), (vi 0)] 64) :: (sb b21 (Pb x1) 64) :: Lf) /\ Wj F1 F2 /\ FI f [] [(0, (pt bp0 0)), (3, (pt b21 0)), (4, (pt b24 0)), (6, (vi r27.1)), (23, (.bool ((!r27.2) || (!((x1.Line.Num == 0) && ((x1.Line.Khz == 0) && ((x1.Line.Mode == 0) && ((x1.Line.Minute == 0) && ((x1.Line.Call == ([] : WE)) && (((x1.Line.Sent.Report == 0) && ((x1.Line.Sent.Serial == 0) && ((x1.Line.Sent.Zone == 0) && true))) && (((x1.Line.Got.Report == 0) && ((x1.Line.Got.Serial == 0) && ((x1.Line.Got.Zone == 0) && true))) && true)))))))))))]) ?_ ?_
 ·refine Vs 3 ?_
  refine Wo (!r27.2) (fun hb43 => ?_) (fun hb43 => ?_)
  ·refine Ss hb43 4 ?_
   refine Pk1 hb43 ?_
   exact Wf ⟨rfl, F1, hs31, (Wk _), (fJ ⟨rfl, rfl, rfl, rfl, (congrArg Value.bool (Hv hb43 rfl)), trivial⟩)⟩
  ·refine Vgs hb43 1 ?_
   refine Lg hb43 hs31.at3 <| Vgs hb43 2 <| Pk0 hb43 ?_
   exact Wf ⟨rfl, F1, hs31, (Wk _), (fJ ⟨rfl, rfl, rfl, rfl, (kq (.bool (!((x1.Line.Num == 0) && ((x1.Line.Khz == 0) && ((x1.Line.Mode == 0) && ((x1.Line.Minute == 0) && ((x1.Line.Call == ([] : WE)) && (((x1.Line.Sent.Report == 0) && ((x1.Line.Sent.Serial == 0) && ((x1.Line.Sent.Zone == 0) && true))) && (((x1.Line.Got.Report == 0) && ((x1.Line.Got.Serial == 0) && ((x1.Line.Got.Zone == 0) && true))) && true))))))))) (congrArg Value.bool (Da hb43 rfl))), trivial⟩)⟩
 ·rintro f w34 ⟨F2, hs35, le36, ⟨_, rfl⟩⟩
  refine Ab <| Cd h29 (fun hb44 h45 => ?_) (fun hb44 h46 => ?_)
  ·cases h45
  ·refine Sc ?_
   refine Ab <| Sq (Rg (rG 10) ?_)
   refine Vs 4 <| Ld hs35.at0 <| Vs 1 ?_
   obtain ⟨x47, hx48, h50⟩ := bind_some h46
   obtain ⟨hi49, hx48'⟩ := Ap hx48
   obtain ⟨b51, C52, rfl, rfl, hE55⟩ := Av.open (hr0_8.mono (le32.t le36)) hx48'
   have hr56 := (hr0_8.mono (le32.t le36))
   have hc58 := hE55 _ _ hx48'
   refine Ix0 hi49 <| Lx 0 hs35.at1 hc58 <| Al' 34 #[(vi 0), (vi 0), (vi 0), (vi 0), (sv (([] : WE))), (vi 0), (vi 0), (vi 0), (vi 0), (vi 0), (vi 0)] hs35 (fun b59 w60 hs61 => ?_)
   refine St0 (Cf x47) hs61 (fun w62 hs63 => ?_)
   refine Nss (Rg (rG 14) ?_)
   refine Vs 5 <| Ld hs63.at1 <| Vs 3 ?_
   obtain ⟨r64, hr65, h66⟩ := bind_some h50
   refine RWP.callS (dst := (some 42)) (ty := 25) (g := none) (by kernel_rfl) rfl (f0 := (.func 208)) (aos := #[(.tmp 38), (.tmp 39), (.tmp 41)]) (ats := #[25, 3, 3]) (fid := 208) (first := #[]) (cap := #[]) (args := [(.slice (some ⟨b51, 0, none⟩) x0.l_.Lines.length n0_8), (vi r27.1), (vi (W64 (r27.1 + 1)))]) rfl D0 rfl (Ec N (Lf := ((sb b59 (Cf x47) 34) :: (sb bp0 (BH x0 a0_7 n0_7 (some ⟨b51, 0, none⟩) n0_8) 214) :: (sb b24 #[(vi 0), (vi 0), (vi 0), (vi 0), (vi 0), (vi 0), (sv (([] : WE))), (vi 0), (vi 0), (vi 0), (vi 0), (vi 0), (vi 0)] 64) :: (sb b21 (Pb x1) 64) :: Lf)) x0.l_.Lines (some ⟨b51, 0, none⟩) n0_8 (some b51, .cells C52 34 (0, 0)) hr56 hs63.pk4.pk4.pk3.pk3.pk4 r27.1 ((W64 (r27.1 + 1))) _ hr65) ?_
   rintro _ w70 ⟨F3, a67, n68, e69, rfl, hs71, le72, hr73⟩
   refine ⟨_, rfl, ?_⟩
   have hs74 : HS wb Fb w70 F3 (e69 :: (sb b59 (Cf x47) 34) :: (sb bp0 (BH x0 a0_7 n0_7 (some ⟨b51, 0, none⟩) n0_8) 214) :: (sb b24 #[(vi 0), (vi 0), (vi 0), (vi 0), (vi 0), (vi 0), (sv (([] : WE))), (vi 0), (vi 0), (vi 0), (vi 0), (vi 0), (vi 0)] 64) :: (sb b21 (Pb x1) 64) :: Lf) := hs71
   refine Vs 3 <| St2 #[(.bool x0.o_.Report), (.bool x0.o_.Serial), (.bool x0.o_.Zone), (sv x0.l_.Call), (vi x0.l_.Category), (vi x0.l_.Power), (vi x0.l_.Claimed), (.slice a0_7 x0.l_.Jumps.length n0_7), (.slice a67 r64.length n68)] hs74 (fun w75 hs76 => ?_)
   refine Nss (Rg (rG 6) ?_)
   refine Vs 1 <| Ld hs76.at4 <| Ld hs76.at1 <| Vs 1 <| St3 #[(vi 2), (vi x1.Num), (vi x47.Num), (vi x47.Khz), (vi x47.Mode), (vi x47.Minute), (sv x47.Call), (vi x47.Sent.Report), (vi x47.Sent.Serial), (vi x47.Sent.Zone), (vi x47.Got.Report), (vi x47.Got.Serial), (vi x47.Got.Zone)] hs76 (fun w77 hs78 => ?_)
   refine Vs 1 <| Nt <| Rt ?_
   obtain rfl := Aa h66
   exact ⟨rfl, (.tuple #[(.agg #[(vi 2), (vi x1.Num), (vi x47.Num), (vi x47.Khz), (vi x47.Mode), (vi x47.Minute), (sv x47.Call), (vi x47.Sent.Report), (vi x47.Sent.Serial), (vi x47.Sent.Zone), (vi x47.Got.Report), (vi x47.Got.Serial), (vi x47.Got.Zone)]), (.bool true)]), AW (l := [.cell 4 64, .tmp 5]) (by kernel_rfl) (vs := [(.agg #[(vi 2), (vi x1.Num), (vi x47.Num), (vi x47.Khz), (vi x47.Mode), (vi x47.Minute), (sv x47.Call), (vi x47.Sent.Report), (vi x47.Sent.Serial), (vi x47.Sent.Zone), (vi x47.Got.Report), (vi x47.Got.Serial), (vi x47.Got.Zone)]), (.bool true)]) ⟨b24, 0, rfl, Am (t := 64) (g := true) (s := 13) (by kernel_rfl) hs78.at3 rfl (by decide), ⟨rfl, trivial⟩⟩, F3, _, _, rfl, hs78.dr1.dr2.dr2.pk1, ((le32.t le36).trans le72), ⟨a0_7, n0_7, a67, n68, e69, rfl, rfl, hb0_7, (Wm hs0_7 ((le32.t le36).trans le72)), hr73⟩⟩



def EP (N : Nat) (x0 : List Int) : Option (List Int) := D3 [] x0
theorem Cy : Af Tryz.prog 176 := fun _ _ => by kernel_rfl
set_option maxRecDepth 100000 in
theorem CN (N : Nat) (w0 : World) (F0 : Mem) (hF : WG w0 F0) (x0 : List Int) (a0_0 : WF) (n0_0 : Nat) (hb0_0 : LC x0.length n0_0) (hs0_0 : SlA AD F0 a0_0 x0) (r : List Int) (h : EP N x0 = some r) :
  Calls Tryz.prog 176 ([(.slice a0_0 x0.length n0_0)] : List Value).toArray w0 (M4 w0 F0 fun F' v L' => ∃ (a : WF) (n : Nat) (e : Option Nat × Obj), v = .slice a r.length n /\ L' = [e] /\ Av AD 3 F' a n r e) := by
 have hs0 := Wl hF
 refine Go 8 Tryz.func176 <| Sq (Rg [0] ?_)
 refine Vs 1 <| Nt <| Sq <| Sq (Rg [0, 1] ?_)
 refine Vs 1 <| Wg (dst := some 4) (ty := 4) (g := none) (by kernel_rfl) rfl (NC (t := 24) (t' := 24) (e := 3) (x := .tmp 3) (y := .const (.slice none 0 0)) (a := a0_0) (n := x0.length) (c := n0_0) rfl rfl (by kernel_rfl)) <| Nt ?_
 cases a0_0 with
 | none =>
  have hx : x0 = [] := by
   rcases hs0_0 with h | ⟨_, _, _, _, _, h, _⟩
   ·exact h
   ·cases h
  subst hx
  cases h
  refine C1 (rfl : true = true) <| Sq (Rg [0] ?_)
  refine Vs 1 <| Nt <| Rt <| Ae ?_
  exact ⟨rfl, _, AW (l := [.tmp 2]) (by kernel_rfl) (vs := [.slice none 0 0]) ⟨by kernel_rfl, trivial⟩, _, F0, _, rfl, hs0.dummy (oc #[] 0), _, _, _, rfl, rfl, Wy AD 3 F0 _⟩
 | some ad =>
  refine C0 (rfl : false = false) <| Sc <| Ab <| Sq (Rg (rG 4) ?_)
  refine Bs 3 [] hs0 (fun b w1 hs1 => ?_)
  refine Vs 1 <| Ap0 UU hs1 (Wz (T := AD) (E := 3) (F := F0) (l := []) (cs := []) rfl (by simp)) (SlA.rd hs1 hs0_0) h (fun a n e w2 hs2 hr2 => ?_)
  refine Vs 1 <| Nt <| Rt ?_
  exact ⟨rfl, _, AW (l := [.tmp 2]) (by kernel_rfl) (vs := [.slice a r.length n]) ⟨by kernel_rfl, trivial⟩, _, F0, _, rfl, hs2, _, _, _, rfl, rfl, hr2⟩
def Cs (N : Nat) (x0 : List Line) : Option (List Line) := D3 [] x0
theorem BA : Af Tryz.prog 177 := fun _ _ => by kernel_rfl
set_option maxRecDepth 100000 in
theorem BD (N : Nat) (w0 : World) (F0 : Mem) (hF : WG w0 F0) (x0 : List Line) (a0_0 : WF) (n0_0 : Nat) (hb0_0 : LC x0.length n0_0) (hs0_0 : SlA AC F0 a0_0 x0) (r : List Line) (h : Cs N x0 = some r) :
  Calls Tryz.prog 177 ([(.slice a0_0 x0.length n0_0)] : List Value).toArray w0 (M4 w0 F0 fun F' v L' => ∃ (a : WF) (n : Nat) (e : Option Nat × Obj), v = .slice a r.length n /\ L' = [e] /\ Av AC 34 F' a n r e) := by
 have hs0 := Wl hF
 refine Go 8 Tryz.func177 <| Sq (Rg [0] ?_)
 refine Vs 1 <| Nt <| Sq <| Sq (Rg [0, 1] ?_)
 refine Vs 1 <| Wg (dst := some 4) (ty := 4) (g := none) (by kernel_rfl) rfl (NC (t := 25) (t' := 25) (e := 34) (x := .tmp 3) (y := .const (.slice none 0 0)) (a := a0_0) (n := x0.length) (c := n0_0) rfl rfl (by kernel_rfl)) <| Nt ?_
 cases a0_0 with
 | none =>
  have hx : x0 = [] := by
   rcases hs0_0 with h | ⟨_, _, _, _, _, h, _⟩
   ·exact h
   ·cases h
  subst hx
  cases h
  refine C1 (rfl : true = true) <| Sq (Rg [0] ?_)
  refine Vs 1 <| Nt <| Rt <| Ae ?_
  exact ⟨rfl, _, AW (l := [.tmp 2]) (by kernel_rfl) (vs := [.slice none 0 0]) ⟨by kernel_rfl, trivial⟩, _, F0, _, rfl, hs0.dummy (oc #[] 0), _, _, _, rfl, rfl, Wy AC 34 F0 _⟩
 | some ad =>
  refine C0 (rfl : false = false) <| Sc <| Ab <| Sq (Rg (rG 4) ?_)
  refine Bs 34 [] hs0 (fun b w1 hs1 => ?_)
  refine Vs 1 <| Ap0 SD hs1 (Wz (T := AC) (E := 34) (F := F0) (l := []) (cs := []) rfl (by simp)) (SlA.rd hs1 hs0_0) h (fun a n e w2 hs2 hr2 => ?_)
  refine Vs 1 <| Nt <| Rt ?_
  exact ⟨rfl, _, AW (l := [.tmp 2]) (by kernel_rfl) (vs := [.slice a r.length n]) ⟨by kernel_rfl, trivial⟩, _, F0, _, rfl, hs2, _, _, _, rfl, rfl, hr2⟩
def FU (N : Nat) (x0 : Ac) (x1 : Log) (x2 : (List Fix)) (r30 : (Int × Int)) (j47 : (List Int × List Line)) : (List Fix × Int × Bool × Bool × Bool × WE × Int × Int × Int × List Int × List Line) -> Option (Bt (Log × (List Fix) × Int × Int) (List Fix × Int × Bool × Bool × Bool × WE × Int × Int × Int × List Int × List Line)) := fun s180 =>
 (bif (decide (s180.2.1 < (x2.length : Int))) then ((idx x2 s180.2.1).bind fun x213 => (bif (x213.Kind == 1) then ((Fe N ({ o_ := ({ Report := s180.2.2.1, Serial := s180.2.2.2.1, Zone := s180.2.2.2.2.1 } : Ac), l_ := ({ Call := s180.2.2.2.2.2.1, Category := s180.2.2.2.2.2.2.1, Power := s180.2.2.2.2.2.2.2.1, Claimed := s180.2.2.2.2.2.2.2.2.1, Jumps := s180.2.2.2.2.2.2.2.2.2.1, Lines := s180.2.2.2.2.2.2.2.2.2.2 } : Log) } : A4) x213).bind fun r236 => (bif (!r236.2.2) then none else ((D3 s180.1 [r236.2.1]).bind fun r256 => some (.next (r256, (W64 (s180.2.1 + 1)), r236.1.o_.Report, r236.1.o_.Serial, r236.1.o_.Zone, r236.1.l_.Call, r236.1.l_.Category, r236.1.l_.Power, r236.1.l_.Claimed, r236.1.l_.Jumps, r236.1.l_.Lines))))) else none)) else some (.done (s180.1, s180.2.1, s180.2.2.1, s180.2.2.2.1, s180.2.2.2.2.1, s180.2.2.2.2.2.1, s180.2.2.2.2.2.2.1, s180.2.2.2.2.2.2.2.1, s180.2.2.2.2.2.2.2.2.1, s180.2.2.2.2.2.2.2.2.2.1, s180.2.2.2.2.2.2.2.2.2.2)))
def HO (N : Nat) (x0 : Ac) (x1 : Log) (x2 : (List Fix)) : Option (Log × (List Fix) × Int × Int) :=
 ((CK N ({ Report := x0.Report, Serial := x0.Serial, Zone := x0.Zone } : Ac) x1).bind fun r30 => (bif (r30.1 != 0) then none else (((EP N x1.Jumps).bind fun r55 => ((Cs N x1.Lines).bind fun r73 => some (r55, r73))).bind fun j47 => ((AX (FU N x0 x1 x2 r30 j47) N (([] : List Fix), 0, x0.Report, x0.Serial, x0.Zone, x1.Call, x1.Category, x1.Power, x1.Claimed, j47.1, j47.2)).bind fun o => o.k (fun r => some r) (fun s194 => (((Cm N ({ Report := x0.Report, Serial := x0.Serial, Zone := x0.Zone } : Ac) ({ Call := s194.2.2.2.2.2.1, Category := s194.2.2.2.2.2.2.1, Power := s194.2.2.2.2.2.2.2.1, Claimed := s194.2.2.2.2.2.2.2.2.1, Jumps := s194.2.2.2.2.2.2.2.2.2.1, Lines := s194.2.2.2.2.2.2.2.2.2.2 } : Log)).bind fun r283 => some (!r283)).bind fun j274 => (bif j274 then none else some (({ Call := s194.2.2.2.2.2.1, Category := s194.2.2.2.2.2.2.1, Power := s194.2.2.2.2.2.2.2.1, Claimed := s194.2.2.2.2.2.2.2.2.1, Jumps := s194.2.2.2.2.2.2.2.2.2.1, Lines := s194.2.2.2.2.2.2.2.2.2.2 } : Log), s194.1, 0, 0))))))))
theorem J7 : Af Tryz.prog 120 := fun _ _ => by kernel_rfl
theorem KJ (N : Nat) (w0 : World) (F0 : Mem) (hF : WG w0 F0) (hG : Bz F0) (x0 : Ac) (x1 : Log) (a1_4 : WF) (n1_4 : Nat) (hb1_4 : LC x1.Jumps.length n1_4) (hs1_4 : SlA AD F0 a1_4 x1.Jumps) (a1_5 : WF) (n1_5 : Nat) (hb1_5 : LC x1.Lines.length n1_5) (hs1_5 : SlA AC F0 a1_5 x1.Lines) (x2 : (List Fix)) (a2_0 : WF) (n2_0 : Nat) (hb2_0 : LC x2.length n2_0) (hs2_0 : SlA JD F0 a2_0 x2) (r : (Log × (List Fix) × Int × Int)) (h : HO N x0 x1 x2 = some r) :
  Calls Tryz.prog 120 ([(.agg (Ak x0)), (.agg (AF x1 a1_4 n1_4 a1_5 n1_5)), (.slice a2_0 x2.length n2_0)] : List Value).toArray w0 (M4 w0 F0 fun F' v L' => ∃ (aq0_4 : WF) (nq0_4 : Nat) (aq0_5 : WF) (nq0_5 : Nat) (eq0_5 : Option Nat × Obj) (aq1_0 : WF) (nq1_0 : Nat) (eq1_0 : Option Nat × Obj), v = (.tuple #[(.agg (AF r.1 aq0_4 nq0_4 aq0_5 nq0_5)), (.slice aq1_0 r.2.1.length nq1_0), (vi r.2.2.1), (vi r.2.2.2)]) /\ L' = [eq0_5, eq1_0] /\ LC r.1.Jumps.length nq0_4 /\ SlA AD F' aq0_4 r.1.Jumps /\ Av AC 34 F' aq0_5 nq0_5 r.1.Lines eq0_5 /\ Av JD 64 F' aq1_0 nq1_0 r.2.1 eq1_0) := by
 have hs0 := Wl hF
 refine Go 99 Tryz.func120 <| Sq (Rg (rG 6) ?_)
 refine Bx' 23 (Ak x0) hs0 (fun b21 w22 hs23 => ?_)
 refine Bx' 27 (AF x1 a1_4 n1_4 a1_5 n1_5) hs23 (fun b24 w25 hs26 => ?_)
 refine Al' 27 #[(sv (([] : WE))), (vi 0), (vi 0), (vi 0), (.slice none ([] : List Int).length 0), (.slice none ([] : List Line).length 0)] hs26 (fun b27 w28 hs29 => ?_)
 refine Vs 3 <| Nss <| Sq (Rg (rG 8) ?_)
 refine Ld hs29.at2 <| Ld hs29.at1 ?_
 obtain ⟨r30, hr31, h32⟩ := bind_some h
 refine Cl' EK hs29 (Fl N w28 F0 hs29.pers hG (({ Report := x0.Report, Serial := x0.Serial, Zone := x0.Zone } : Ac)) x1 a1_4 n1_4 hb1_4 hs1_4 a1_5 n1_5 hb1_5 hs1_5 _ hr31) ?_
 rintro _ F1 w34 hs35 le36 rfl
 refine Vs 5 <| Nss (Rg [0, 1] ?_)
 refine Vs 2 <| Nt <| Cd h32 (fun hb38 h39 => ?_) (fun hb38 h40 => ?_)
 ·cases h39
 ·refine Sc ?_
  refine Ab <| Sq ?_
  obtain ⟨j47, hj53, h54⟩ := bind_some h40
  refine RD 9 10 [(sb b27 #[(sv (([] : WE))), (vi 0), (vi 0), (vi 0), (.slice none ([] : List Int).length 0), (.slice none ([] : List Line).length 0)] 27), (sb b21 (Ak x0) 23)] [] hs35 (fun f w => ∃ (F2 : Mem) (aj47_0 : WF) (nj47_0 : Nat) (aj47_1 : WF) (nj47_1 : Nat) (ej47_1 : Option Nat × Obj), HS w0 F0 w F2 [ej47_1, (sb b27 #[(sv (([] : WE))), (vi 0), (vi 0), (vi 0), (.slice none ([] : List Int).length 0), (.slice none ([] : List Line).length 0)] 27), (sb b24 #[(sv x1.Call), (vi x1.Category), (vi x1.Power), (vi x1.Claimed), (.slice aj47_0 j47.1.length nj47_0), (.slice aj47_1 j47.2.length nj47_1)] 27), (sb b21 (Ak x0) 23)] /\ Wj F1 F2 /\ FI f [] [(2, (.slice a2_0 x2.length n2_0)), (3, (pt b21 0)), (4, (pt b24 0)), (6, (pt b27 0))] /\ LC j47.1.length nj47_0 /\ SlA AD F2 aj47_0 j47.1 /\ Av AC 34 F2 aj47_1 nj47_1 j47.2 ej47_1) (fun wd41 hw42 => ?_) ?_
  ·refine Dv [0, 3] ?_
   refine Ws (i := 1) (j := 4) (by kernel_rfl) ?_ ?_
   ·refine Wt (l' := [true, true, false, true, false, false, false, false, false, false]) (zd := false) (by kernel_rfl) (by kernel_rfl) (dst := (some 32)) (ty := 24) (g := none) (by kernel_rfl) rfl (BF (t := 24) (x := (.tmp 31)) (b := b24) (o := 4) (g := false) (s := 1) (C := (AF x1 a1_4 n1_4 a1_5 n1_5)) (v := (.slice a1_4 x1.Jumps.length n1_4)) rfl (by kernel_rfl) hw42.at1 rfl rfl rfl) (Bd hw42 (Wk _) (by simp) (fun _ => by simp)) ?_
    refine Ws (i := 2) (j := 4) (by kernel_rfl) ?_ ?_
    ·obtain ⟨r55, hr56, h57⟩ := bind_some hj53
     refine Aw.callO (l' := [true, true, true, true, false, false, false, false, false, false]) (zd := false) (by kernel_rfl) (by kernel_rfl) (by kernel_rfl) (dst := (some 33)) (ty := 24) (g := none) (by kernel_rfl) rfl (f0 := (.func 176)) (aos := #[(.tmp 32)]) (ats := #[24]) (fid := 176) (first := #[]) (cap := #[]) (args := [(.slice a1_4 x1.Jumps.length n1_4)]) rfl Cy rfl hw42 (CN N wd41 F1 hw42.pers x1.Jumps a1_4 n1_4 hb1_4 (Wm hs1_4 le36) _ hr56) ?_
     rintro _ F3 w59 _ hs60 le61 ⟨a63, n64, e65, rfl, rfl, hr66⟩
     have hs68 : HS w0 F0 w59 F3 [e65, (sb b27 #[(sv (([] : WE))), (vi 0), (vi 0), (vi 0), (.slice none ([] : List Int).length 0), (.slice none ([] : List Line).length 0)] 27), (sb b24 (AF x1 a1_4 n1_4 a1_5 n1_5) 27), (sb b21 (Ak x0) 23)] := hs60
     have hb72 := Wx hr66
     obtain ⟨F4, hs69, le70, hs71⟩ := hs68.fr0 hr66
     refine D1 4 <| Wt (l' := [true, true, true, true, true, false, false, false, false, false]) (zd := false) (by kernel_rfl) (by kernel_rfl) (dst := (some 35)) (ty := 25) (g := none) (by kernel_rfl) rfl (BF (t := 25) (x := (.tmp 34)) (b := b24) (o := 5) (g := false) (s := 1) (C := (AF x1 a1_4 n1_4 a1_5 n1_5)) (v := (.slice a1_5 x1.Lines.length n1_5)) rfl (by kernel_rfl) hs69.at1 rfl rfl rfl) (Bd hs69 (le61.t le70) (by simp) (fun _ => by simp)) <| Dv [6] <| D1 5 ?_
     obtain ⟨r73, hr74, h75⟩ := bind_some h57
     refine Aw.callO (l' := [true, true, true, true, true, true, true, false, false, false]) (zd := false) (by kernel_rfl) (by kernel_rfl) (by kernel_rfl) (dst := (some 36)) (ty := 25) (g := none) (by kernel_rfl) rfl (f0 := (.func 177)) (aos := #[(.tmp 35)]) (ats := #[25]) (fid := 177) (first := #[]) (cap := #[]) (args := [(.slice a1_5 x1.Lines.length n1_5)]) rfl BA rfl hs69 (BD N w59 F4 hs69.pers x1.Lines a1_5 n1_5 hb1_5 (Wm hs1_5 ((le36.t le61).trans le70)) _ hr74) ?_
     rintro _ F5 w77 _ hs78 le79 ⟨a81, n82, e83, rfl, rfl, hr84⟩
     have hs86 : HS w0 F0 w77 F5 [e83, (sb b27 #[(sv (([] : WE))), (vi 0), (vi 0), (vi 0), (.slice none ([] : List Int).length 0), (.slice none ([] : List Line).length 0)] 27), (sb b24 (AF x1 a1_4 n1_4 a1_5 n1_5) 27), (sb b21 (Ak x0) 23)] := hs78
     refine D1 7 <| Nx #[(sv x1.Call), (vi x1.Category), (vi x1.Power), (vi x1.Claimed), (.slice a63 r55.length n64), (.slice a1_5 x1.Lines.length n1_5)] hs86 ((le61.t le70).trans le79) (fun w87 hs88 => ?_)
     refine Dv [8] <| D1 9 <| Nx #[(sv x1.Call), (vi x1.Category), (vi x1.Power), (vi x1.Claimed), (.slice a63 r55.length n64), (.slice a81 r73.length n82)] hs88 ((le61.t le70).trans le79) (fun w89 hs90 => ?_)
     obtain rfl := Aa h75
     exact Ww (by kernel_rfl) ⟨F5, a63, n64, a81, n82, e83, hs90, ((le61.t le70).trans le79), fI, hb72, (Wm hs71 le79), hr84⟩
    ·refine Wt (l' := [true, true, false, true, true, false, false, false, false, false]) (zd := false) (by kernel_rfl) (by kernel_rfl) (dst := (some 35)) (ty := 25) (g := none) (by kernel_rfl) rfl (BF (t := 25) (x := (.tmp 34)) (b := b24) (o := 5) (g := false) (s := 1) (C := (AF x1 a1_4 n1_4 a1_5 n1_5)) (v := (.slice a1_5 x1.Lines.length n1_5)) rfl (by kernel_rfl) hw42.at1 rfl rfl rfl) (Bd hw42 (Wk _) (by simp) (fun _ => by simp)) ?_
     refine D1 2 ?_
     obtain ⟨r91, hr92, h93⟩ := bind_some hj53
     refine Aw.callO (l' := [true, true, true, true, true, false, false, false, false, false]) (zd := false) (by kernel_rfl) (by kernel_rfl) (by kernel_rfl) (dst := (some 33)) (ty := 24) (g := none) (by kernel_rfl) rfl (f0 := (.func 176)) (aos := #[(.tmp 32)]) (ats := #[24]) (fid := 176) (first := #[]) (cap := #[]) (args := [(.slice a1_4 x1.Jumps.length n1_4)]) rfl Cy rfl hw42 (CN N wd41 F1 hw42.pers x1.Jumps a1_4 n1_4 hb1_4 (Wm hs1_4 le36) _ hr92) ?_
     rintro _ F6 w95 _ hs96 le97 ⟨a99, n100, e101, rfl, rfl, hr102⟩
     have hs104 : HS w0 F0 w95 F6 [e101, (sb b27 #[(sv (([] : WE))), (vi 0), (vi 0), (vi 0), (.slice none ([] : List Int).length 0), (.slice none ([] : List Line).length 0)] 27), (sb b24 (AF x1 a1_4 n1_4 a1_5 n1_5) 27), (sb b21 (Ak x0) 23)] := hs96
     have hb108 := Wx hr102
     obtain ⟨F7, hs105, le106, hs107⟩ := hs104.fr0 hr102
     refine Dv [6] <| D1 5 ?_
     obtain ⟨r109, hr110, h111⟩ := bind_some h93
     refine Aw.callO (l' := [true, true, true, true, true, true, true, false, false, false]) (zd := false) (by kernel_rfl) (by kernel_rfl) (by kernel_rfl) (dst := (some 36)) (ty := 25) (g := none) (by kernel_rfl) rfl (f0 := (.func 177)) (aos := #[(.tmp 35)]) (ats := #[25]) (fid := 177) (first := #[]) (cap := #[]) (args := [(.slice a1_5 x1.Lines.length n1_5)]) rfl BA rfl hs105 (BD N w95 F7 hs105.pers x1.Lines a1_5 n1_5 hb1_5 (Wm hs1_5 ((le36.t le97).trans le106)) _ hr110) ?_
     rintro _ F8 w113 _ hs114 le115 ⟨a117, n118, e119, rfl, rfl, hr120⟩
     have hs122 : HS w0 F0 w113 F8 [e119, (sb b27 #[(sv (([] : WE))), (vi 0), (vi 0), (vi 0), (.slice none ([] : List Int).length 0), (.slice none ([] : List Line).length 0)] 27), (sb b24 (AF x1 a1_4 n1_4 a1_5 n1_5) 27), (sb b21 (Ak x0) 23)] := hs114
     refine D1 7 <| Nx #[(sv x1.Call), (vi x1.Category), (vi x1.Power), (vi x1.Claimed), (.slice a99 r91.length n100), (.slice a1_5 x1.Lines.length n1_5)] hs122 ((le97.t le106).trans le115) (fun w123 hs124 => ?_)
     refine Dv [8] <| D1 9 <| Nx #[(sv x1.Call), (vi x1.Category), (vi x1.Power), (vi x1.Claimed), (.slice a99 r91.length n100), (.slice a117 r109.length n118)] hs124 ((le97.t le106).trans le115) (fun w125 hs126 => ?_)
     obtain rfl := Aa h111
     exact Ww (by kernel_rfl) ⟨F8, a99, n100, a117, n118, e119, hs126, ((le97.t le106).trans le115), fI, hb108, (Wm hs107 le115), hr120⟩
   ·refine Wt (l' := [true, false, false, true, true, false, false, false, false, false]) (zd := false) (by kernel_rfl) (by kernel_rfl) (dst := (some 35)) (ty := 25) (g := none) (by kernel_rfl) rfl (BF (t := 25) (x := (.tmp 34)) (b := b24) (o := 5) (g := false) (s := 1) (C := (AF x1 a1_4 n1_4 a1_5 n1_5)) (v := (.slice a1_5 x1.Lines.length n1_5)) rfl (by kernel_rfl) hw42.at1 rfl rfl rfl) (Bd hw42 (Wk _) (by simp) (fun _ => by simp)) ?_
    refine D1 1 <| Wt (l' := [true, true, false, true, true, false, false, false, false, false]) (zd := false) (by kernel_rfl) (by kernel_rfl) (dst := (some 32)) (ty := 24) (g := none) (by kernel_rfl) rfl (BF (t := 24) (x := (.tmp 31)) (b := b24) (o := 4) (g := false) (s := 1) (C := (AF x1 a1_4 n1_4 a1_5 n1_5)) (v := (.slice a1_4 x1.Jumps.length n1_4)) rfl (by kernel_rfl) hw42.at1 rfl rfl rfl) (Bd hw42 (Wk _) (by simp) (fun _ => by simp)) <| D1 2 ?_
    obtain ⟨r127, hr128, h129⟩ := bind_some hj53
    refine Aw.callO (l' := [true, true, true, true, true, false, false, false, false, false]) (zd := false) (by kernel_rfl) (by kernel_rfl) (by kernel_rfl) (dst := (some 33)) (ty := 24) (g := none) (by kernel_rfl) rfl (f0 := (.func 176)) (aos := #[(.tmp 32)]) (ats := #[24]) (fid := 176) (first := #[]) (cap := #[]) (args := [(.slice a1_4 x1.Jumps.length n1_4)]) rfl Cy rfl hw42 (CN N wd41 F1 hw42.pers x1.Jumps a1_4 n1_4 hb1_4 (Wm hs1_4 le36) _ hr128) ?_
    rintro _ F9 w131 _ hs132 le133 ⟨a135, n136, e137, rfl, rfl, hr138⟩
    have hs140 : HS w0 F0 w131 F9 [e137, (sb b27 #[(sv (([] : WE))), (vi 0), (vi 0), (vi 0), (.slice none ([] : List Int).length 0), (.slice none ([] : List Line).length 0)] 27), (sb b24 (AF x1 a1_4 n1_4 a1_5 n1_5) 27), (sb b21 (Ak x0) 23)] := hs132
    have hb144 := Wx hr138
    obtain ⟨F10, hs141, le142, hs143⟩ := hs140.fr0 hr138
    refine Dv [6] <| D1 5 ?_
    obtain ⟨r145, hr146, h147⟩ := bind_some h129
    refine Aw.callO (l' := [true, true, true, true, true, true, true, false, false, false]) (zd := false) (by kernel_rfl) (by kernel_rfl) (by kernel_rfl) (dst := (some 36)) (ty := 25) (g := none) (by kernel_rfl) rfl (f0 := (.func 177)) (aos := #[(.tmp 35)]) (ats := #[25]) (fid := 177) (first := #[]) (cap := #[]) (args := [(.slice a1_5 x1.Lines.length n1_5)]) rfl BA rfl hs141 (BD N w131 F10 hs141.pers x1.Lines a1_5 n1_5 hb1_5 (Wm hs1_5 ((le36.t le133).trans le142)) _ hr146) ?_
    rintro _ F11 w149 _ hs150 le151 ⟨a153, n154, e155, rfl, rfl, hr156⟩
    have hs158 : HS w0 F0 w149 F11 [e155, (sb b27 #[(sv (([] : WE))), (vi 0), (vi 0), (vi 0), (.slice none ([] : List Int).length 0), (.slice none ([] : List Line).length 0)] 27), (sb b24 (AF x1 a1_4 n1_4 a1_5 n1_5) 27), (sb b21 (Ak x0) 23)] := hs150
    refine D1 7 <| Nx #[(sv x1.Call), (vi x1.Category), (vi x1.Power), (vi x1.Claimed), (.slice a135 r127.length n136), (.slice a1_5 x1.Lines.length n1_5)] hs158 ((le133.t le142).trans le151) (fun w159 hs160 => ?_)
    refine Dv [8] <| D1 9 <| Nx #[(sv x1.Call), (vi x1.Category), (vi x1.Power), (vi x1.Claimed), (.slice a135 r127.length n136), (.slice a153 r145.length n154)] hs160 ((le133.t le142).trans le151) (fun w161 hs162 => ?_)
    obtain rfl := Aa h147
    exact Ww (by kernel_rfl) ⟨F11, a135, n136, a153, n154, e155, hs162, ((le133.t le142).trans le151), fI, hb144, (Wm hs143 le151), hr156⟩
  ·rintro f w43 ⟨F2, aj47_0, nj47_0, aj47_1, nj47_1, ej47_1, hs44, le45, ⟨_, rfl⟩, hbj47_0, hsj47_0, hrj47_1⟩
   refine Ab <| Sq (Rg (rG 5) ?_)
   refine Ld hs44.at3 <| Ld hs44.at2 <| Vs 1 <| Bx' 214 #[(.bool x0.Report), (.bool x0.Serial), (.bool x0.Zone), (sv x1.Call), (vi x1.Category), (vi x1.Power), (vi x1.Claimed), (.slice aj47_0 j47.1.length nj47_0), (.slice aj47_1 j47.2.length nj47_1)] hs44 (fun b163 w164 hs165 => ?_)
   refine Vs 1 <| Nss (Rg (rG 12) ?_)
   refine RWP.litMap (dst := (some 43)) (ty := 216) (g := none) (by kernel_rfl) rfl (t := 216) hs165 (fun b166 w167 (hs168 : HS w0 F0 w167 F2 [(some b166, (.map #[] 0)), (sb b163 #[(.bool x0.Report), (.bool x0.Serial), (.bool x0.Zone), (sv x1.Call), (vi x1.Category), (vi x1.Power), (vi x1.Claimed), (.slice aj47_0 j47.1.length nj47_0), (.slice aj47_1 j47.2.length nj47_1)] 214), ej47_1, (sb b27 #[(sv (([] : WE))), (vi 0), (vi 0), (vi 0), (.slice none ([] : List Int).length 0), (.slice none ([] : List Line).length 0)] 27), (sb b24 #[(sv x1.Call), (vi x1.Category), (vi x1.Power), (vi x1.Claimed), (.slice aj47_0 j47.1.length nj47_0), (.slice aj47_1 j47.2.length nj47_1)] 27), (sb b21 (Ak x0) 23)]) => ?_)
   refine Vs 2 <| RWP.litIns (d := .int .i64) (k := 3) (vt := 215) (ty := 0) (g := none) (mt := 216) (m := (.tmp 43)) (x := (.const (vi 1))) (y := (.tmp 45)) (b := b166) (q := 0) (kv := (vi 1)) (v := (.func (.func 178) #[(pt b163 0)] #[])) (by kernel_rfl) rfl rfl rfl rfl (by kernel_rfl) (by kernel_rfl) rfl (by kernel_rfl) hs168 rfl rfl (fun w169 (hs170 : HS w0 F0 w169 F2 [(some b166, (.map #[⟨(vi 1), (.func (.func 178) #[(pt b163 0)] #[]), 0⟩] 1)), (sb b163 #[(.bool x0.Report), (.bool x0.Serial), (.bool x0.Zone), (sv x1.Call), (vi x1.Category), (vi x1.Power), (vi x1.Claimed), (.slice aj47_0 j47.1.length nj47_0), (.slice aj47_1 j47.2.length nj47_1)] 214), ej47_1, (sb b27 #[(sv (([] : WE))), (vi 0), (vi 0), (vi 0), (.slice none ([] : List Int).length 0), (.slice none ([] : List Line).length 0)] 27), (sb b24 #[(sv x1.Call), (vi x1.Category), (vi x1.Power), (vi x1.Claimed), (.slice aj47_0 j47.1.length nj47_0), (.slice aj47_1 j47.2.length nj47_1)] 27), (sb b21 (Ak x0) 23)]) => ?_)
   refine Vs 2 <| RWP.litIns (d := .int .i64) (k := 3) (vt := 215) (ty := 0) (g := none) (mt := 216) (m := (.tmp 43)) (x := (.const (vi 2))) (y := (.tmp 47)) (b := b166) (q := 0) (kv := (vi 2)) (v := (.func (.func 179) #[(pt b163 0)] #[])) (by kernel_rfl) rfl rfl rfl rfl (by kernel_rfl) (by kernel_rfl) rfl (by kernel_rfl) hs170 rfl rfl (fun w171 (hs172 : HS w0 F0 w171 F2 [(some b166, (.map #[⟨(vi 1), (.func (.func 178) #[(pt b163 0)] #[]), 0⟩, ⟨(vi 2), (.func (.func 179) #[(pt b163 0)] #[]), 1⟩] 2)), (sb b163 #[(.bool x0.Report), (.bool x0.Serial), (.bool x0.Zone), (sv x1.Call), (vi x1.Category), (vi x1.Power), (vi x1.Claimed), (.slice aj47_0 j47.1.length nj47_0), (.slice aj47_1 j47.2.length nj47_1)] 214), ej47_1, (sb b27 #[(sv (([] : WE))), (vi 0), (vi 0), (vi 0), (.slice none ([] : List Int).length 0), (.slice none ([] : List Line).length 0)] 27), (sb b24 #[(sv x1.Call), (vi x1.Category), (vi x1.Power), (vi x1.Claimed), (.slice aj47_0 j47.1.length nj47_0), (.slice aj47_1 j47.2.length nj47_1)] 27), (sb b21 (Ak x0) 23)]) => ?_)
   refine Vs 2 <| RWP.litIns (d := .int .i64) (k := 3) (vt := 215) (ty := 0) (g := none) (mt := 216) (m := (.tmp 43)) (x := (.const (vi 3))) (y := (.tmp 49)) (b := b166) (q := 0) (kv := (vi 3)) (v := (.func (.func 180) #[(pt b163 0)] #[])) (by kernel_rfl) rfl rfl rfl rfl (by kernel_rfl) (by kernel_rfl) rfl (by kernel_rfl) hs172 rfl rfl (fun w173 (hs174 : HS w0 F0 w173 F2 [(some b166, (.map #[⟨(vi 1), (.func (.func 178) #[(pt b163 0)] #[]), 0⟩, ⟨(vi 2), (.func (.func 179) #[(pt b163 0)] #[]), 1⟩, ⟨(vi 3), (.func (.func 180) #[(pt b163 0)] #[]), 2⟩] 3)), (sb b163 #[(.bool x0.Report), (.bool x0.Serial), (.bool x0.Zone), (sv x1.Call), (vi x1.Category), (vi x1.Power), (vi x1.Claimed), (.slice aj47_0 j47.1.length nj47_0), (.slice aj47_1 j47.2.length nj47_1)] 214), ej47_1, (sb b27 #[(sv (([] : WE))), (vi 0), (vi 0), (vi 0), (.slice none ([] : List Int).length 0), (.slice none ([] : List Line).length 0)] 27), (sb b24 #[(sv x1.Call), (vi x1.Category), (vi x1.Power), (vi x1.Claimed), (.slice aj47_0 j47.1.length nj47_0), (.slice aj47_1 j47.2.length nj47_1)] 27), (sb b21 (Ak x0) 23)]) => ?_)
   refine Vs 2 <| Nss (Rg [0] ?_)
   refine Vs 1 <| Nss <| Sq (Rg [0, 1, 2] ?_)
   refine Vs 3 <| Nt ?_
   have hs175 := hs174.dr4.dummy (oc #[] 0)
   obtain ⟨o177, ho178, h179⟩ := bind_some h54
   refine Wq (fun f w => ∃ (s194 : (List Fix × Int × Bool × Bool × Bool × WE × Int × Int × Int × List Int × List Line)) (F13 : Mem) (as194_9 : WF) (ns194_9 : Nat) (as194_10 : WF) (ns194_10 : Nat) (es194_10 : Option Nat × Obj) (as194_0 : WF) (ns194_0 : Nat) (es194_0 : Option Nat × Obj), o177 = .done s194 /\ HS w0 F0 w F13 [es194_0, (sb b163 #[(.bool s194.2.2.1), (.bool s194.2.2.2.1), (.bool s194.2.2.2.2.1), (sv s194.2.2.2.2.2.1), (vi s194.2.2.2.2.2.2.1), (vi s194.2.2.2.2.2.2.2.1), (vi s194.2.2.2.2.2.2.2.2.1), (.slice as194_9 s194.2.2.2.2.2.2.2.2.2.1.length ns194_9), (.slice as194_10 s194.2.2.2.2.2.2.2.2.2.2.length ns194_10)] 214), es194_10, (sb b27 #[(sv (([] : WE))), (vi 0), (vi 0), (vi 0), (.slice none ([] : List Int).length 0), (.slice none ([] : List Line).length 0)] 27), (sb b21 (Ak x0) 23)] /\ Wj F2 F13 /\ FI f [] [(2, (.slice a2_0 x2.length n2_0)), (3, (pt b21 0)), (6, (pt b27 0)), (12, (pt b163 0)), (14, (.slice as194_0 s194.1.length ns194_0))] /\ LC s194.2.2.2.2.2.2.2.2.2.1.length ns194_9 /\ SlA AD F13 as194_9 s194.2.2.2.2.2.2.2.2.2.1 /\ Av AC 34 F13 as194_10 ns194_10 s194.2.2.2.2.2.2.2.2.2.2 es194_10 /\ Av JD 64 F13 as194_0 ns194_0 s194.1 es194_0) ?_ ?_
   ·refine Bk ?_
    refine Wi (by kernel_rfl) (fun m f w => ∃ (s180 : (List Fix × Int × Bool × Bool × Bool × WE × Int × Int × Int × List Int × List Line)) (F12 : Mem) (as180_9 : WF) (ns180_9 : Nat) (as180_10 : WF) (ns180_10 : Nat) (es180_10 : Option Nat × Obj) (as180_0 : WF) (ns180_0 : Nat) (es180_0 : Option Nat × Obj), AX (FU N x0 x1 x2 r30 j47) m s180 = some o177 /\ HS w0 F0 w F12 [es180_0, (some b166, (.map #[⟨(vi 1), (.func (.func 178) #[(pt b163 0)] #[]), 0⟩, ⟨(vi 2), (.func (.func 179) #[(pt b163 0)] #[]), 1⟩, ⟨(vi 3), (.func (.func 180) #[(pt b163 0)] #[]), 2⟩] 3)), (sb b163 #[(.bool s180.2.2.1), (.bool s180.2.2.2.1), (.bool s180.2.2.2.2.1), (sv s180.2.2.2.2.2.1), (vi s180.2.2.2.2.2.2.1), (vi s180.2.2.2.2.2.2.2.1), (vi s180.2.2.2.2.2.2.2.2.1), (.slice as180_9 s180.2.2.2.2.2.2.2.2.2.1.length ns180_9), (.slice as180_10 s180.2.2.2.2.2.2.2.2.2.2.length ns180_10)] 214), es180_10, (sb b27 #[(sv (([] : WE))), (vi 0), (vi 0), (vi 0), (.slice none ([] : List Int).length 0), (.slice none ([] : List Line).length 0)] 27), (sb b21 (Ak x0) 23)] /\ Wj F2 F12 /\ FI f [] [(2, (.slice a2_0 x2.length n2_0)), (3, (pt b21 0)), (6, (pt b27 0)), (12, (pt b163 0)), (13, (.map (some b166))), (14, (.slice as180_0 s180.1.length ns180_0)), (51, (.slice a2_0 x2.length n2_0)), (52, (vi (x2.length : Int))), (53, (vi s180.2.1))] /\ LC s180.2.2.2.2.2.2.2.2.2.1.length ns180_9 /\ SlA AD F12 as180_9 s180.2.2.2.2.2.2.2.2.2.1 /\ Av AC 34 F12 as180_10 ns180_10 s180.2.2.2.2.2.2.2.2.2.2 es180_10 /\ Av JD 64 F12 as180_0 ns180_0 s180.1 es180_0) N ⟨(([] : List Fix), 0, x0.Report, x0.Serial, x0.Zone, x1.Call, x1.Category, x1.Power, x1.Claimed, j47.1, j47.2), F2, aj47_0, nj47_0, aj47_1, nj47_1, ej47_1, none, 0, (none, .cells #[] 0 (0, 0)), ho178, hs175, (Wk _), fI, hbj47_0, hsj47_0, hrj47_1, (Wy JD 64 F2 _)⟩ ?_
    rintro m204 f w181 ⟨s180, F12, as180_9, ns180_9, as180_10, ns180_10, es180_10, as180_0, ns180_0, es180_0, hit205, hs182, le183, ⟨_, rfl⟩, hbs180_9, hss180_9, hrs180_10, hrs180_0⟩
    obtain ⟨m206, fl207, rfl, hb208, hnx209⟩ := AN hit205
    refine Sq (Rg [0] ?_)
    refine Vs 1 <| Nss <| Cd hb208 (fun hb210 h211 => ?_) (fun hb210 h212 => ?_)
    ·refine Sc ?_
     refine Ab <| Sq <| Bk <| Sq (Rg (rG 6) ?_)
     refine Vs 1 ?_
     obtain ⟨x213, hx214, h216⟩ := bind_some h211
     obtain ⟨hi215, hx214'⟩ := Ap hx214
     obtain ⟨b217, o218, C219, E220, fz221, rfl, hF223, hE224⟩ := Wr (Wm hs2_0 ((le36.t le45).trans le183)) hx214'
     have hc226 := hE224 _ _ hx214'
     refine Ix hi215 <| Lx 0 (hs182.pers _ _ hF223) hc226 <| Al' 64 #[(vi 0), (vi 0), (vi 0), (vi 0), (vi 0), (vi 0), (sv (([] : WE))), (vi 0), (vi 0), (vi 0), (vi 0), (vi 0), (vi 0)] hs182 (fun b227 w228 hs229 => ?_)
     refine Vs 1 <| St0 (Pb x213) hs229 (fun w230 hs231 => ?_)
     refine Nss (Rg (rG 9) ?_)
     refine Vs 2 <| Ld hs231.at0 <| Sp h216 (fun hb232 h233 => ?_) (fun hb232 h234 => ?_)
     ·refine V 62 217 (N5 (mt := 216) (k := 3) (vt := 215) (d := .int .i64) (m := (.tmp 59)) (x := (.tmp 61)) (b := b166) (kv := (vi x213.Kind)) (v := (.func (.func 178) #[(pt b163 0)] #[])) (j := 0) rfl rfl (by kernel_rfl) (by kernel_rfl) rfl (hs231.ownAt (k := 2) rfl) (Vf hb232)) ?_
      refine Vs 5 <| Nss <| Sq (Rg [0, 1] ?_)
      refine Vs 2 <| Nt <| C0 (rfl : false = false) <| Sc <| Ab <| Sq (Rg (rG 9) ?_)
      refine Vs 1 <| Ld hs231.at0 ?_
      have hs235 := hs231.pk6.pk6.pk4.pk4.pk4
      obtain ⟨r236, hr237, h238⟩ := bind_some h233
      refine CB G6 (HD N b163 (({ o_ := ({ Report := s180.2.2.1, Serial := s180.2.2.2.1, Zone := s180.2.2.2.2.1 } : Ac), l_ := ({ Call := s180.2.2.2.2.2.1, Category := s180.2.2.2.2.2.2.1, Power := s180.2.2.2.2.2.2.2.1, Claimed := s180.2.2.2.2.2.2.2.2.1, Jumps := s180.2.2.2.2.2.2.2.2.2.1, Lines := s180.2.2.2.2.2.2.2.2.2.2 } : Log) } : A4)) as180_9 ns180_9 as180_10 ns180_10 es180_10 hbs180_9 hss180_9 hrs180_10 x213 hs235.pk6.pk6 _ hr237) ?_
      rintro _ F14 w239 _ hs240 le241 ⟨ar236_0_7, nr236_0_7, ar236_0_8, nr236_0_8, er236_0_8, rfl, rfl, hbr236_0_7, hsr236_0_7, hrr236_0_8⟩
      refine Vs 3 <| Al' 64 #[(vi 0), (vi 0), (vi 0), (vi 0), (vi 0), (vi 0), (sv (([] : WE))), (vi 0), (vi 0), (vi 0), (vi 0), (vi 0), (vi 0)] hs240 (fun b243 w244 hs245 => ?_)
      refine St0 (Pb r236.2.1) hs245 (fun w246 hs247 => ?_)
      refine Vs 1 <| Nss <| Sq (Rg [0, 1] ?_)
      refine Vs 2 <| Nt <| Cd h238 (fun hb248 h249 => ?_) (fun hb248 h250 => ?_)
      ·cases h249
      ·refine Sc ?_
       refine Ab <| Rg (rG 5) <| Vs 1 <| Ld hs247.at0 <| Bs 64 [(vi r236.2.1.Kind), (vi r236.2.1.Num), (vi r236.2.1.Line.Num), (vi r236.2.1.Line.Khz), (vi r236.2.1.Line.Mode), (vi r236.2.1.Line.Minute), (sv r236.2.1.Line.Call), (vi r236.2.1.Line.Sent.Report), (vi r236.2.1.Line.Sent.Serial), (vi r236.2.1.Line.Sent.Zone), (vi r236.2.1.Line.Got.Report), (vi r236.2.1.Line.Got.Serial), (vi r236.2.1.Line.Got.Zone)] hs247 (fun b251 w252 hs253 => ?_)
       have hr255 : Av JD 64 F14 (some ⟨b251, 0, none⟩) 1 [r236.2.1] (some b251, .cells ([(vi r236.2.1.Kind), (vi r236.2.1.Num), (vi r236.2.1.Line.Num), (vi r236.2.1.Line.Khz), (vi r236.2.1.Line.Mode), (vi r236.2.1.Line.Minute), (sv r236.2.1.Line.Call), (vi r236.2.1.Line.Sent.Report), (vi r236.2.1.Line.Sent.Serial), (vi r236.2.1.Line.Sent.Zone), (vi r236.2.1.Line.Got.Report), (vi r236.2.1.Line.Got.Serial), (vi r236.2.1.Line.Got.Zone)] : List Value).toArray 64 (0, 0)) := Wz ⟨rfl, rfl⟩ (by simp)
       obtain ⟨r256, hap257, h258⟩ := bind_some h250
       refine Ap5 V2 hs253 (hrs180_0.mono le241) (hs253.rd0 hr255) hap257 (fun a259 n260 e261 w262 hs263 hr264 => ?_)
       refine Vs 1 <| Wf <| Au <| Ab <| Rg [0, 1] <| Vs 2 <| Wf ?_
       have hs265 := hs263.dr0.dr0.dr2.pk5.pk5
       have hn266 := AO h258 hnx209
       exact ⟨m206, Nat.lt_succ_self _, (r256, (W64 (s180.2.1 + 1)), r236.1.o_.Report, r236.1.o_.Serial, r236.1.o_.Zone, r236.1.l_.Call, r236.1.l_.Category, r236.1.l_.Power, r236.1.l_.Claimed, r236.1.l_.Jumps, r236.1.l_.Lines), F14, ar236_0_7, nr236_0_7, ar236_0_8, nr236_0_8, er236_0_8, a259, n260, e261, hn266, hs265.pk3.pk3.pk5.pk5, (le183.t le241), fI, hbr236_0_7, hsr236_0_7, hrr236_0_8, hr264⟩
     ·cases h234
    ·refine Ex ?_
     refine Ar <| Ar <| Az rfl ?_
     have ho267 := AP h212 hnx209
     exact .inl ⟨rfl, (s180.1, s180.2.1, s180.2.2.1, s180.2.2.2.1, s180.2.2.2.2.1, s180.2.2.2.2.2.1, s180.2.2.2.2.2.2.1, s180.2.2.2.2.2.2.2.1, s180.2.2.2.2.2.2.2.2.1, s180.2.2.2.2.2.2.2.2.2.1, s180.2.2.2.2.2.2.2.2.2.2), F12, as180_9, ns180_9, as180_10, ns180_10, es180_10, as180_0, ns180_0, es180_0, ho267, hs182.dr1, le183, fI, hbs180_9, hss180_9, hrs180_10, hrs180_0⟩
   ·rintro f w195 ⟨s194, F13, as194_9, ns194_9, as194_10, ns194_10, es194_10, as194_0, ns194_0, es194_0, rfl, hs196, le197, ⟨_, rfl⟩, hbs194_9, hss194_9, hrs194_10, hrs194_0⟩
    have h268 := BL h179
    refine Ab <| Sq <| Sq ?_
    obtain ⟨j274, hj281, h282⟩ := bind_some h268
    refine RD 7 7 [es194_0, (sb b163 #[(.bool s194.2.2.1), (.bool s194.2.2.2.1), (.bool s194.2.2.2.2.1), (sv s194.2.2.2.2.2.1), (vi s194.2.2.2.2.2.2.1), (vi s194.2.2.2.2.2.2.2.1), (vi s194.2.2.2.2.2.2.2.2.1), (.slice as194_9 s194.2.2.2.2.2.2.2.2.2.1.length ns194_9), (.slice as194_10 s194.2.2.2.2.2.2.2.2.2.2.length ns194_10)] 214), es194_10, (sb b27 #[(sv (([] : WE))), (vi 0), (vi 0), (vi 0), (.slice none ([] : List Int).length 0), (.slice none ([] : List Line).length 0)] 27), (sb b21 (Ak x0) 23)] [] hs196 (fun f w => ∃ (F15 : Mem), HS w0 F0 w F15 [es194_0, (sb b163 #[(.bool s194.2.2.1), (.bool s194.2.2.2.1), (.bool s194.2.2.2.2.1), (sv s194.2.2.2.2.2.1), (vi s194.2.2.2.2.2.2.1), (vi s194.2.2.2.2.2.2.2.1), (vi s194.2.2.2.2.2.2.2.2.1), (.slice as194_9 s194.2.2.2.2.2.2.2.2.2.1.length ns194_9), (.slice as194_10 s194.2.2.2.2.2.2.2.2.2.2.length ns194_10)] 214), es194_10, (sb b27 #[(sv (([] : WE))), (vi 0), (vi 0), (vi 0), (.slice none ([] : List Int).length 0), (.slice none ([] : List Line).length 0)] 27)] /\ Wj F13 F15 /\ FI f [] [(2, (.slice a2_0 x2.length n2_0)), (6, (pt b27 0)), (12, (pt b163 0)), (14, (.slice as194_0 s194.1.length ns194_0)), (90, (.bool j274))]) (fun wd269 hw270 => ?_) ?_
    ·refine Dl 0 (fun _ hq => (hq.1.2 4 _ _ rfl)) ?_
     refine Dv [1, 2, 3] <| Dl 4 (fun _ hq => (hq.1.2 1 _ _ rfl)) <| D1 5 ?_
     obtain ⟨r283, hr284, h285⟩ := bind_some hj281
     refine Aw.callLentP (l' := [true, true, true, true, true, true, false]) (zd := true) (by kernel_rfl) (by kernel_rfl) (by kernel_rfl) (q := 2) (v0 := (.bool r283)) (dst := (some 89)) (ty := 4) (g := none) (by kernel_rfl) rfl (f0 := (.func 25)) (aos := #[(.tmp 84), (.tmp 88)]) (ats := #[23, 27]) (fid := 25) (first := #[]) (cap := #[]) (args := [(.agg (Ak x0)), (.agg #[(sv s194.2.2.2.2.2.1), (vi s194.2.2.2.2.2.2.1), (vi s194.2.2.2.2.2.2.2.1), (vi s194.2.2.2.2.2.2.2.2.1), (.slice as194_9 s194.2.2.2.2.2.2.2.2.2.1.length ns194_9), (.slice as194_10 s194.2.2.2.2.2.2.2.2.2.2.length ns194_10)])]) rfl EB rfl hw270 rfl (E5 N wd269 (Hh F13 es194_10) (HS.lend hw270 (q := 2) rfl).2 (hG.mono (((le36.t le45).trans le197).trans (HS.lend hw270 (q := 2) rfl).1)) ({ Report := x0.Report, Serial := x0.Serial, Zone := x0.Zone } : Ac) ({ Call := s194.2.2.2.2.2.1, Category := s194.2.2.2.2.2.2.1, Power := s194.2.2.2.2.2.2.2.1, Claimed := s194.2.2.2.2.2.2.2.2.1, Jumps := s194.2.2.2.2.2.2.2.2.2.1, Lines := s194.2.2.2.2.2.2.2.2.2.2 } : Log) as194_9 ns194_9 hbs194_9 (Wm hss194_9 (HS.lend hw270 (q := 2) rfl).1) as194_10 ns194_10 (Wx hrs194_10) (Av.freeze hrs194_10 (HS.lend hw270 (q := 2) rfl).1) _ hr284) (fun F16 w286 (hs287 : HS w0 F0 w286 F16 [es194_0, (sb b163 #[(.bool s194.2.2.1), (.bool s194.2.2.2.1), (.bool s194.2.2.2.2.1), (sv s194.2.2.2.2.2.1), (vi s194.2.2.2.2.2.2.1), (vi s194.2.2.2.2.2.2.2.1), (vi s194.2.2.2.2.2.2.2.2.1), (.slice as194_9 s194.2.2.2.2.2.2.2.2.2.1.length ns194_9), (.slice as194_10 s194.2.2.2.2.2.2.2.2.2.2.length ns194_10)] 214), es194_10, (sb b27 #[(sv (([] : WE))), (vi 0), (vi 0), (vi 0), (.slice none ([] : List Int).length 0), (.slice none ([] : List Line).length 0)] 27), (sb b21 (Ak x0) 23)]) le288 => ?_)
     refine Dv [6] ?_
     obtain rfl := Aa h285
     exact Ww (by kernel_rfl) ⟨F16, hs287.dr4, le288, fI⟩
    ·rintro f w271 ⟨F15, hs272, le273, ⟨_, rfl⟩⟩
     refine Ab <| Cd h282 (fun hb289 h290 => ?_) (fun hb289 h291 => ?_)
     ·cases h290
     ·refine Sc ?_
      refine Ab <| Sq (Rg (rG 9) ?_)
      refine Vs 3 <| Ld hs272.at1 <| Vs 1 <| St3 #[(sv s194.2.2.2.2.2.1), (vi s194.2.2.2.2.2.2.1), (vi s194.2.2.2.2.2.2.2.1), (vi s194.2.2.2.2.2.2.2.2.1), (.slice as194_9 s194.2.2.2.2.2.2.2.2.2.1.length ns194_9), (.slice as194_10 s194.2.2.2.2.2.2.2.2.2.2.length ns194_10)] hs272 (fun w292 hs293 => ?_)
      refine Vs 3 <| Nt <| Rt ?_
      obtain rfl := Aa h291
      exact ⟨rfl, (.tuple #[(.agg #[(sv s194.2.2.2.2.2.1), (vi s194.2.2.2.2.2.2.1), (vi s194.2.2.2.2.2.2.2.1), (vi s194.2.2.2.2.2.2.2.2.1), (.slice as194_9 s194.2.2.2.2.2.2.2.2.2.1.length ns194_9), (.slice as194_10 s194.2.2.2.2.2.2.2.2.2.2.length ns194_10)]), (.slice as194_0 s194.1.length ns194_0), (vi 0), (vi 0)]), AW (l := [.cell 6 27, .tmp 7, .tmp 8, .tmp 9]) (by kernel_rfl) (vs := [(.agg #[(sv s194.2.2.2.2.2.1), (vi s194.2.2.2.2.2.2.1), (vi s194.2.2.2.2.2.2.2.1), (vi s194.2.2.2.2.2.2.2.2.1), (.slice as194_9 s194.2.2.2.2.2.2.2.2.2.1.length ns194_9), (.slice as194_10 s194.2.2.2.2.2.2.2.2.2.2.length ns194_10)]), (.slice as194_0 s194.1.length ns194_0), (vi 0), (vi 0)]) ⟨b27, 0, rfl, Am (t := 27) (g := true) (s := 6) (by kernel_rfl) hs293.at3 rfl (by decide), ⟨rfl, ⟨rfl, ⟨rfl, trivial⟩⟩⟩⟩, (.tuple #[(.agg #[(sv s194.2.2.2.2.2.1), (vi s194.2.2.2.2.2.2.1), (vi s194.2.2.2.2.2.2.2.1), (vi s194.2.2.2.2.2.2.2.2.1), (.slice as194_9 s194.2.2.2.2.2.2.2.2.2.1.length ns194_9), (.slice as194_10 s194.2.2.2.2.2.2.2.2.2.2.length ns194_10)]), (.slice as194_0 s194.1.length ns194_0), (vi 0), (vi 0)]), F15, _, rfl, hs293.dr1.dr2.pk1, ⟨as194_9, ns194_9, as194_10, ns194_10, es194_10, as194_0, ns194_0, es194_0, rfl, rfl, hbs194_9, (Wm hss194_9 le273), (hrs194_10.mono le273), (hrs194_0.mono le273)⟩⟩
theorem D9 {N : Nat} {x r : List Fix} (h : Bh N x = some r) : r.length = x.length := by
  unfold Bh at h
  obtain ⟨o, ho, h⟩ := bind_some h
  obtain ⟨s1, hI, hb, _⟩ := Pi (fun s => s.2.2.length = x.length) (fun s s' hI hs => by
    unfold A5 at hs
    rcases NR hs with ⟨_, hs⟩ | ⟨_, hs⟩
    · first
      | (cases hs; done)
      | (obtain ⟨j, hj, hs⟩ := bind_some hs
         cases hs
         obtain ⟨_, _, hj⟩ := bind_some hj
         obtain ⟨_, _, hj⟩ := bind_some hj
         obtain ⟨_, _, hj⟩ := bind_some hj
         obtain ⟨_, _, hj⟩ := bind_some hj
         cases hj
         simpa using hI)
    · cases hs) (by rfl) ho
  unfold A5 at hb
  rcases NR hb with ⟨_, hb⟩ | ⟨_, hb⟩
  · first
    | (cases hb; done)
    | (obtain ⟨j, _, hb⟩ := bind_some hb
       cases hb; cases h)
  · cases hb; cases h; exact hI
def K3 (N : Nat) (x0 : Ac) (x1 : Log) (x2 : (List Fix)) : Option ((List Fix) × Int) :=
 ((HO N ({ Report := x0.Report, Serial := x0.Serial, Zone := x0.Zone } : Ac) x1 x2).bind fun r27 => ((Bh N r27.2.1).bind fun r41 => some (r41, r27.2.2.1)))
theorem MN : Af Tryz.prog 53 := fun _ _ => by kernel_rfl
theorem Np (N : Nat) (w0 : World) (F0 : Mem) (hF : WG w0 F0) (hG : Bz F0) (x0 : Ac) (x1 : Log) (a1_4 : WF) (n1_4 : Nat) (hb1_4 : LC x1.Jumps.length n1_4) (hs1_4 : SlA AD F0 a1_4 x1.Jumps) (a1_5 : WF) (n1_5 : Nat) (hb1_5 : LC x1.Lines.length n1_5) (hs1_5 : SlA AC F0 a1_5 x1.Lines) (x2 : (List Fix)) (a2_0 : WF) (n2_0 : Nat) (hb2_0 : LC x2.length n2_0) (hs2_0 : SlA JD F0 a2_0 x2) (r : ((List Fix) × Int)) (h : K3 N x0 x1 x2 = some r) :
  Calls Tryz.prog 53 ([(.agg (Ak x0)), (.agg (AF x1 a1_4 n1_4 a1_5 n1_5)), (.slice a2_0 x2.length n2_0)] : List Value).toArray w0 (AB w0 F0 fun F' v => ∃ (aq0_0 : WF) (nq0_0 : Nat), v = (.tuple #[(.slice aq0_0 r.1.length nq0_0), (vi r.2)]) /\ LC r.1.length nq0_0 /\ SlA JD F' aq0_0 r.1) := by
 have hs0 := Wl hF
 refine Go 25 Tryz.func53 <| Sq (Rg (rG 4) ?_)
 refine Bx' 23 (Ak x0) hs0 (fun b21 w22 hs23 => ?_)
 refine Bx' 27 (AF x1 a1_4 n1_4 a1_5 n1_5) hs23 (fun b24 w25 hs26 => ?_)
 refine Vs 2 <| Nss (Rg (rG 14) ?_)
 refine Ld hs26.at1 <| Ld hs26.at0 <| Vs 1 ?_
 obtain ⟨r27, hr28, h29⟩ := bind_some h
 refine RWP.callO (dst := (some 16)) (ty := 162) (g := none) (by kernel_rfl) rfl (f0 := (.func 120)) (aos := #[(.tmp 13), (.tmp 14), (.tmp 15)]) (ats := #[23, 27, 60]) (fid := 120) (first := #[]) (cap := #[]) (args := [(.agg (Ak x0)), (.agg (AF x1 a1_4 n1_4 a1_5 n1_5)), (.slice a2_0 x2.length n2_0)]) rfl J7 rfl hs26 (KJ N w25 F0 hs26.pers hG (({ Report := x0.Report, Serial := x0.Serial, Zone := x0.Zone } : Ac)) x1 a1_4 n1_4 hb1_4 hs1_4 a1_5 n1_5 hb1_5 hs1_5 x2 a2_0 n2_0 hb2_0 hs2_0 _ hr28) ?_
 rintro _ F1 w31 _ hs32 le33 ⟨ar27_0_4, nr27_0_4, ar27_0_5, nr27_0_5, er27_0_5, ar27_1_0, nr27_1_0, er27_1_0, rfl, rfl, hbr27_0_4, hsr27_0_4, hrr27_0_5, hrr27_1_0⟩
 have hs35 : HS w0 F0 w31 F1 [er27_0_5, er27_1_0, (sb b24 (AF x1 a1_4 n1_4 a1_5 n1_5) 27), (sb b21 (Ak x0) 23)] := hs32
 refine Vs 5 <| Al' 27 #[(sv (([] : WE))), (vi 0), (vi 0), (vi 0), (.slice none ([] : List Int).length 0), (.slice none ([] : List Line).length 0)] hs35 (fun b36 w37 hs38 => ?_)
 refine St0 (AF r27.1 ar27_0_4 nr27_0_4 ar27_0_5 nr27_0_5) hs38 (fun w39 hs40 => ?_)
 refine Vs 3 <| Nss (Rg [0, 1] ?_)
 refine Vs 1 ?_
 obtain ⟨r41, hr42, h43⟩ := bind_some h29
 refine RWP.callS (dst := (some 22)) (ty := 0) (g := none) (by kernel_rfl) rfl (f0 := (.func 126)) (aos := #[(.tmp 21)]) (ats := #[60]) (fid := 126) (first := #[]) (cap := #[]) (args := [(.slice ar27_1_0 r27.2.1.length nr27_1_0)]) rfl Ea rfl (En N (Lf := [(sb b36 (AF r27.1 ar27_0_4 nr27_0_4 ar27_0_5 nr27_0_5) 27), er27_0_5, (sb b24 (AF x1 a1_4 n1_4 a1_5 n1_5) 27), (sb b21 (Ak x0) 23)]) r27.2.1 ar27_1_0 nr27_1_0 er27_1_0 hrr27_1_0 hs40.pk4.pk4.pk3.pk3.pk4  _ hr42) ?_
 rintro _ w45 ⟨F2, e44, rfl, hs46, le47, hr48⟩
 refine ⟨_, rfl, ?_⟩
 have hs49 : HS w0 F0 w45 F2 [e44, (sb b36 (AF r27.1 ar27_0_4 nr27_0_4 ar27_0_5 nr27_0_5) 27), er27_0_5, (sb b24 (AF x1 a1_4 n1_4 a1_5 n1_5) 27), (sb b21 (Ak x0) 23)] := hs46
 refine Nss (Rg (rG 4) ?_)
 refine V 23 60 (mv 9 (.slice ar27_1_0 r41.length nr27_1_0) (U5 rfl (D9 hr42))) <| Vs 3 <| Nt <| Rt ?_
 have hb53 := Wx hr48
 obtain ⟨F3, hs50, le51, hs52⟩ := hs49.fr0 hr48
 obtain rfl := Aa h43
 exact Re [(.slice ar27_1_0 r41.length nr27_1_0), (vi r27.2.2.1)] hs50 ⟨ar27_1_0, nr27_1_0, rfl, hb53, hs52⟩
def DA (N : Nat)  : Option Ac :=
 some ({ Report := true, Serial := true, Zone := false } : Ac)
theorem B8 : Af Tryz.prog 71 := fun _ _ => by kernel_rfl
theorem CC (N : Nat) (w0 : World) (F0 : Mem) (hF : WG w0 F0)  (r : Ac) (h : DA N  = some r) :
  Calls Tryz.prog 71 ([] : List Value).toArray w0 (AB w0 F0 fun F' v => v = (.agg (Ak r))) := by
 have hs0 := Wl hF
 refine Go 2 Tryz.func71 <| Sq (Rg [0] ?_)
 refine Al' 23 #[(.bool false), (.bool false), (.bool false)] hs0 (fun b21 w22 hs23 => ?_)
 refine Nss (Rg [0, 1] ?_)
 refine Vs 1 <| St0 #[(.bool true), (.bool true), (.bool false)] hs23 (fun w24 hs25 => ?_)
 refine Nt <| Rt ?_
 obtain rfl := Aa h
 exact ⟨rfl, (.agg #[(.bool true), (.bool true), (.bool false)]), AW (l := [.cell 0 23]) (by kernel_rfl) (vs := [(.agg #[(.bool true), (.bool true), (.bool false)])]) ⟨b21, 0, rfl, Am (t := 23) (g := true) (s := 3) (by kernel_rfl) hs25.at0 rfl (by decide), trivial⟩, (.agg #[(.bool true), (.bool true), (.bool false)]), F0, rfl, hs25.clear, rfl⟩
def Eh (N : Nat)  : Option Log :=
 some ({ Call := ([68, 76, 49, 88, 89] : WE), Category := 1, Power := 100, Claimed := 20, Jumps := ([] : List Int), Lines := [({ Num := 7, Khz := 14025, Mode := 1, Minute := 75, Call := ([75, 49, 65, 66, 67] : WE), Sent := ({ Report := 599, Serial := 12, Zone := 0 } : Ad), Got := ({ Report := 599, Serial := 3, Zone := 0 } : Ad) } : Line)] } : Log)
theorem DV : Af Tryz.prog 72 := fun _ _ => by kernel_rfl
theorem Ep (N : Nat) (w0 : World) (F0 : Mem) (hF : WG w0 F0)  (r : Log) (h : Eh N  = some r) :
  Calls Tryz.prog 72 ([] : List Value).toArray w0 (AB w0 F0 fun F' v => ∃ (aq0_4 : WF) (nq0_4 : Nat) (aq0_5 : WF) (nq0_5 : Nat), v = (.agg (AF r aq0_4 nq0_4 aq0_5 nq0_5)) /\ LC r.Jumps.length nq0_4 /\ SlA AD F' aq0_4 r.Jumps /\ LC r.Lines.length nq0_5 /\ SlA AC F' aq0_5 r.Lines) := by
 have hs0 := Wl hF
 refine Go 8 Tryz.func72 <| Sq (Rg [0] ?_)
 refine Al' 27 #[(sv (([] : WE))), (vi 0), (vi 0), (vi 0), (.slice none ([] : List Int).length 0), (.slice none ([] : List Line).length 0)] hs0 (fun b21 w22 hs23 => ?_)
 refine Nss (Rg (rG 5) ?_)
 refine Vs 3 <| Al' 34 #[(vi 0), (vi 0), (vi 0), (vi 0), (sv (([] : WE))), (vi 0), (vi 0), (vi 0), (vi 0), (vi 0), (vi 0)] hs23 (fun b24 w25 hs26 => ?_)
 refine St0 #[(vi 7), (vi 14025), (vi 1), (vi 75), (sv (([75, 49, 65, 66, 67] : WE))), (vi 599), (vi 12), (vi 0), (vi 599), (vi 3), (vi 0)] hs26 (fun w27 hs28 => ?_)
 refine Nss (Rg (rG 4) ?_)
 refine Ld hs28.at0 <| Bs 34 [(vi 7), (vi 14025), (vi 1), (vi 75), (sv (([75, 49, 65, 66, 67] : WE))), (vi 599), (vi 12), (vi 0), (vi 599), (vi 3), (vi 0)] hs28 (fun b29 w30 hs31 => ?_)
 have hr33 : Av AC 34 F0 (some ⟨b29, 0, none⟩) 1 [({ Num := 7, Khz := 14025, Mode := 1, Minute := 75, Call := ([75, 49, 65, 66, 67] : WE), Sent := ({ Report := 599, Serial := 12, Zone := 0 } : Ad), Got := ({ Report := 599, Serial := 3, Zone := 0 } : Ad) } : Line)] (some b29, .cells ([(vi 7), (vi 14025), (vi 1), (vi 75), (sv (([75, 49, 65, 66, 67] : WE))), (vi 599), (vi 12), (vi 0), (vi 599), (vi 3), (vi 0)] : List Value).toArray 34 (0, 0)) := Wz ⟨rfl, rfl⟩ (by simp)
 refine Vs 1 <| St2 #[(sv (([68, 76, 49, 88, 89] : WE))), (vi 1), (vi 100), (vi 20), (.slice none ([] : List Int).length 0), (.slice (some ⟨b29, 0, none⟩) [({ Num := 7, Khz := 14025, Mode := 1, Minute := 75, Call := ([75, 49, 65, 66, 67] : WE), Sent := ({ Report := 599, Serial := 12, Zone := 0 } : Ad), Got := ({ Report := 599, Serial := 3, Zone := 0 } : Ad) } : Line)].length 1)] hs31 (fun w34 hs35 => ?_)
 refine Nt <| Rt ?_
 have hb39 := Wx hr33
 obtain ⟨F1, hs36, le37, hs38⟩ := hs35.fr0 hr33
 obtain rfl := Aa h
 exact ⟨rfl, (.agg #[(sv (([68, 76, 49, 88, 89] : WE))), (vi 1), (vi 100), (vi 20), (.slice none ([] : List Int).length 0), (.slice (some ⟨b29, 0, none⟩) [({ Num := 7, Khz := 14025, Mode := 1, Minute := 75, Call := ([75, 49, 65, 66, 67] : WE), Sent := ({ Report := 599, Serial := 12, Zone := 0 } : Ad), Got := ({ Report := 599, Serial := 3, Zone := 0 } : Ad) } : Line)].length 1)]), AW (l := [.cell 0 27]) (by kernel_rfl) (vs := [(.agg #[(sv (([68, 76, 49, 88, 89] : WE))), (vi 1), (vi 100), (vi 20), (.slice none ([] : List Int).length 0), (.slice (some ⟨b29, 0, none⟩) [({ Num := 7, Khz := 14025, Mode := 1, Minute := 75, Call := ([75, 49, 65, 66, 67] : WE), Sent := ({ Report := 599, Serial := 12, Zone := 0 } : Ad), Got := ({ Report := 599, Serial := 3, Zone := 0 } : Ad) } : Line)].length 1)])]) ⟨b21, 0, rfl, Am (t := 27) (g := true) (s := 6) (by kernel_rfl) hs36.at1 rfl (by decide), trivial⟩, (.agg #[(sv (([68, 76, 49, 88, 89] : WE))), (vi 1), (vi 100), (vi 20), (.slice none ([] : List Int).length 0), (.slice (some ⟨b29, 0, none⟩) [({ Num := 7, Khz := 14025, Mode := 1, Minute := 75, Call := ([75, 49, 65, 66, 67] : WE), Sent := ({ Report := 599, Serial := 12, Zone := 0 } : Ad), Got := ({ Report := 599, Serial := 3, Zone := 0 } : Ad) } : Line)].length 1)]), F1, rfl, hs36.clear, ⟨none, 0, (some ⟨b29, 0, none⟩), 1, rfl, Wn, (.inl rfl), hb39, hs38⟩⟩
def JU (N : Nat)  : Option Bool :=
 ((DA N ).bind fun r21 => ((Eh N ).bind fun r29 => ((Dc N ({ Report := r21.Report, Serial := r21.Serial, Zone := r21.Zone } : Ac) r29).bind fun r37 => ((DA N ).bind fun r45 => ((CJ N ({ Report := r45.Report, Serial := r45.Serial, Zone := r45.Zone } : Ac) ([67, 65, 76, 76, 32, 68, 76, 49, 88, 89, 10, 67, 65, 84, 69, 71, 79, 82, 89, 32, 49, 10, 80, 79, 87, 69, 82, 32, 49, 48, 48, 10, 67, 76, 65, 73, 77, 69, 68, 32, 50, 48, 10, 74, 85, 77, 80, 83, 10, 81, 83, 79, 32, 55, 32, 49, 52, 48, 50, 53, 32, 77, 32, 49, 32, 48, 49, 49, 53, 32, 75, 49, 65, 66, 67, 32, 62, 32, 53, 57, 57, 32, 48, 49, 50, 32, 60, 32, 53, 57, 57, 32, 48, 48, 51, 10, 69, 78, 68, 10] : WE)).bind fun r53 => (((LR ([67, 65, 76, 76, 32, 68, 76, 49, 88, 89, 10, 67, 65, 84, 69, 71, 79, 82, 89, 32, 49, 10, 80, 79, 87, 69, 82, 32, 49, 48, 48, 10, 67, 76, 65, 73, 77, 69, 68, 32, 50, 48, 10, 74, 85, 77, 80, 83, 10, 81, 83, 79, 32, 55, 32, 49, 52, 48, 50, 53, 32, 77, 32, 49, 32, 48, 49, 49, 53, 32, 75, 49, 65, 66, 67, 32, 62, 32, 53, 57, 57, 32, 48, 49, 50, 32, 60, 32, 53, 57, 57, 32, 48, 48, 51, 10, 69, 78, 68, 10] : WE) 0 96).bind fun r81 => ((DA N ).bind fun r84 => ((CJ N ({ Report := r84.Report, Serial := r84.Serial, Zone := r84.Zone } : Ac) r81).bind fun r92 => some (r92.2.1, r92.2.2)))).bind fun j71 => ((DA N ).bind fun r139 => ((K1 N ({ Report := r139.Report, Serial := r139.Serial, Zone := r139.Zone } : Ac) ([67, 65, 76, 76, 32, 68, 76, 49, 88, 89, 10, 67, 65, 84, 69, 71, 79, 82, 89, 32, 49, 10, 67, 76, 65, 73, 77, 69, 68, 32, 50, 48, 10, 74, 85, 77, 80, 83, 10, 81, 83, 79, 32, 55, 32, 49, 52, 48, 50, 53, 32, 77, 32, 49, 32, 48, 49, 49, 53, 32, 75, 49, 65, 66, 67, 32, 62, 32, 53, 57, 57, 32, 48, 49, 50, 32, 60, 32, 53, 57, 57, 32, 48, 48, 51, 10, 101, 110, 100, 10] : WE)).bind fun r147 => ((DA N ).bind fun r155 => ((Eh N ).bind fun r163 => ((K3 N ({ Report := r155.Report, Serial := r155.Serial, Zone := r155.Zone } : Ac) r163 ([({ Kind := 1, Num := 7, Line := ({ Num := 0, Khz := 0, Mode := 0, Minute := 0, Call := ([] : WE), Sent := ({ Report := 0, Serial := 0, Zone := 0 } : Ad), Got := ({ Report := 0, Serial := 0, Zone := 0 } : Ad) } : Line) } : Fix)])).bind fun r180 => (bif ((r37.2 != 0) || ((r53.2.1 != 0) || ((j71.1 != 20) || ((r147.2.2.2 != 0) || ((r180.2 != 0) || ((j71.2 != 7) || ((r180.1.length : Int) != 1))))))) then some false else ((bif (r37.1 == ([67, 65, 76, 76, 32, 68, 76, 49, 88, 89, 10, 67, 65, 84, 69, 71, 79, 82, 89, 32, 49, 10, 80, 79, 87, 69, 82, 32, 49, 48, 48, 10, 67, 76, 65, 73, 77, 69, 68, 32, 50, 48, 10, 74, 85, 77, 80, 83, 10, 81, 83, 79, 32, 55, 32, 49, 52, 48, 50, 53, 32, 77, 32, 49, 32, 48, 49, 49, 53, 32, 75, 49, 65, 66, 67, 32, 62, 32, 53, 57, 57, 32, 48, 49, 50, 32, 60, 32, 53, 57, 57, 32, 48, 48, 51, 10, 69, 78, 68, 10] : WE)) then ((Eh N ).bind fun r220 => ((L5 N r53.1 r220).bind fun r228 => (bif r228 then (bif (r147.2.2.1 == 7) then (bif ((r147.2.1.length : Int) == 7) then ((idx r180.1 0).bind fun x245 => ((Eh N ).bind fun r259 => ((idx r259.Lines 0).bind fun x267 => some ((x245.Line.Num == x267.Num) && ((x245.Line.Khz == x267.Khz) && ((x245.Line.Mode == x267.Mode) && ((x245.Line.Minute == x267.Minute) && ((x245.Line.Call == x267.Call) && (((x245.Line.Sent.Report == x267.Sent.Report) && ((x245.Line.Sent.Serial == x267.Sent.Serial) && ((x245.Line.Sent.Zone == x267.Sent.Zone) && true))) && (((x245.Line.Got.Report == x267.Got.Report) && ((x245.Line.Got.Serial == x267.Got.Serial) && ((x245.Line.Got.Zone == x267.Got.Zone) && true))) && true)))))))))) else some false) else some false) else some false))) else some false).bind fun j212 => some j212)))))))))))))
theorem Lr : Af Tryz.prog 19 := fun _ _ => by kernel_rfl
theorem M0 (N : Nat) (w0 : World) (F0 : Mem) (hF : WG w0 F0) (hG : Bz F0)  (r : Bool) (h : JU N  = some r) :
  Calls Tryz.prog 19 ([] : List Value).toArray w0 (AB w0 F0 fun F' v => v = (.bool r)) := by
 have hs0 := Wl hF
 refine Go 103 Tryz.func19 <| Sq (Rg [0] ?_)
 refine Vs 1 <| Nss (Rg (rG 8) ?_)
 obtain ⟨r21, hr22, h23⟩ := bind_some h
 refine Cl' B8 hs0 (CC N w0 F0 hs0.pers  _ hr22) ?_
 rintro _ F1 w25 hs26 le27 rfl
 obtain ⟨r29, hr30, h31⟩ := bind_some h23
 refine Cl' DV hs26 (Ep N w25 F1 hs26.pers  _ hr30) ?_
 rintro _ F2 w33 hs34 le35 ⟨ar29_0_4, nr29_0_4, ar29_0_5, nr29_0_5, rfl, hbr29_0_4, hsr29_0_4, hbr29_0_5, hsr29_0_5⟩
 obtain ⟨r37, hr38, h39⟩ := bind_some h31
 refine Cl' EJ hs34 (Fk N w33 F2 hs34.pers (hG.mono (le27.t le35)) (({ Report := r21.Report, Serial := r21.Serial, Zone := r21.Zone } : Ac)) r29 ar29_0_4 nr29_0_4 hbr29_0_4 hsr29_0_4 ar29_0_5 nr29_0_5 hbr29_0_5 hsr29_0_5 _ hr38) ?_
 rintro _ F3 w41 hs42 le43 rfl
 refine Vs 5 <| Nss (Rg (rG 10) ?_)
 obtain ⟨r45, hr46, h47⟩ := bind_some h39
 refine Cl' B8 hs42 (CC N w41 F3 hs42.pers  _ hr46) ?_
 rintro _ F4 w49 hs50 le51 rfl
 obtain ⟨r53, hr54, h55⟩ := bind_some h47
 refine Cl' Cn hs50 (CO N w49 F4 hs50.pers (hG.mono (((le27.t le35).trans le43).trans le51)) (({ Report := r45.Report, Serial := r45.Serial, Zone := r45.Zone } : Ac)) (([67, 65, 76, 76, 32, 68, 76, 49, 88, 89, 10, 67, 65, 84, 69, 71, 79, 82, 89, 32, 49, 10, 80, 79, 87, 69, 82, 32, 49, 48, 48, 10, 67, 76, 65, 73, 77, 69, 68, 32, 50, 48, 10, 74, 85, 77, 80, 83, 10, 81, 83, 79, 32, 55, 32, 49, 52, 48, 50, 53, 32, 77, 32, 49, 32, 48, 49, 49, 53, 32, 75, 49, 65, 66, 67, 32, 62, 32, 53, 57, 57, 32, 48, 49, 50, 32, 60, 32, 53, 57, 57, 32, 48, 48, 51, 10, 69, 78, 68, 10] : WE)) _ hr54) ?_
 rintro _ F5 w57 hs58 le59 ⟨ar53_0_4, nr53_0_4, ar53_0_5, nr53_0_5, rfl, hbr53_0_4, hsr53_0_4, hbr53_0_5, hsr53_0_5⟩
 refine Vs 4 <| Al' 27 #[(sv (([] : WE))), (vi 0), (vi 0), (vi 0), (.slice none ([] : List Int).length 0), (.slice none ([] : List Line).length 0)] hs58 (fun b61 w62 hs63 => ?_)
 refine St0 (AF r53.1 ar53_0_4 nr53_0_4 ar53_0_5 nr53_0_5) hs63 (fun w64 hs65 => ?_)
 refine Vs 2 <| Nss ?_
 obtain ⟨j71, hj79, h80⟩ := bind_some h55
 refine RD 11 11 [(sb b61 (AF r53.1 ar53_0_4 nr53_0_4 ar53_0_5 nr53_0_5) 27)] [] hs65 (fun f w => ∃ (F6 : Mem), HS w0 F0 w F6 [(sb b61 (AF r53.1 ar53_0_4 nr53_0_4 ar53_0_5 nr53_0_5) 27)] /\ Wj F5 F6 /\ FI f [] [(1, (sv r37.1)), (2, (vi r37.2)), (3, (pt b61 0)), (4, (vi r53.2.1)), (7, (vi j71.1)), (8, (vi j71.2))]) (fun wd66 hw67 => ?_) ?_
 ·obtain ⟨r81, hr82, h83⟩ := bind_some hj79
  refine Dt 1 29 9 (sv r81) (fun _ hq => JG (t := 9) (x := (.const (sv ([67, 65, 76, 76, 32, 68, 76, 49, 88, 89, 10, 67, 65, 84, 69, 71, 79, 82, 89, 32, 49, 10, 80, 79, 87, 69, 82, 32, 49, 48, 48, 10, 67, 76, 65, 73, 77, 69, 68, 32, 50, 48, 10, 74, 85, 77, 80, 83, 10, 81, 83, 79, 32, 55, 32, 49, 52, 48, 50, 53, 32, 77, 32, 49, 32, 48, 49, 49, 53, 32, 75, 49, 65, 66, 67, 32, 62, 32, 53, 57, 57, 32, 48, 49, 50, 32, 60, 32, 53, 57, 57, 32, 48, 48, 51, 10, 69, 78, 68, 10] : WE)))) (lo := none) (hi := (some (.const (vi 96)))) (a := ([67, 65, 76, 76, 32, 68, 76, 49, 88, 89, 10, 67, 65, 84, 69, 71, 79, 82, 89, 32, 49, 10, 80, 79, 87, 69, 82, 32, 49, 48, 48, 10, 67, 76, 65, 73, 77, 69, 68, 32, 50, 48, 10, 74, 85, 77, 80, 83, 10, 81, 83, 79, 32, 55, 32, 49, 52, 48, 50, 53, 32, 77, 32, 49, 32, 48, 49, 49, 53, 32, 75, 49, 65, 66, 67, 32, 62, 32, 53, 57, 57, 32, 48, 49, 50, 32, 60, 32, 53, 57, 57, 32, 48, 48, 51, 10, 69, 78, 68, 10] : WE)) (il := 0) (ih := 96) (v := r81) rfl (by kernel_rfl) rfl rfl hr82) <| Ws (i := 0) (j := 7) (by kernel_rfl) ?_ ?_
  ·obtain ⟨r84, hr85, h86⟩ := bind_some h83
   refine DCl B8 hw67 (CC N wd66 F5 hw67.pers  _ hr85) ?_
   rintro _ F7 w88 hs89 le90 rfl
   refine Ws (i := 2) (j := 7) (by kernel_rfl) ?_ ?_
   ·obtain ⟨r92, hr93, h94⟩ := bind_some h86
    refine DCl Cn hs89 (CO N w88 F7 hs89.pers (hG.mono (((((le27.t le35).trans le43).trans le51).trans le59).trans le90)) (({ Report := r84.Report, Serial := r84.Serial, Zone := r84.Zone } : Ac)) r81 _ hr93) ?_
    rintro _ F8 w96 hs97 le98 ⟨ar92_0_4, nr92_0_4, ar92_0_5, nr92_0_5, rfl, hbr92_0_4, hsr92_0_4, hbr92_0_5, hsr92_0_5⟩
    refine Dv [3, 4, 5, 6] <| D1 7 <| DAl 27 #[(sv (([] : WE))), (vi 0), (vi 0), (vi 0), (.slice none ([] : List Int).length 0), (.slice none ([] : List Line).length 0)] hs97 (le90.t le98) (fun b100 w101 hs102 => ?_)
    refine D1 8 <| Gr (AF r92.1 ar92_0_4 nr92_0_4 ar92_0_5 nr92_0_5) hs102 (le90.t le98) (fun w103 hs104 => ?_)
    refine Dv [9, 10] ?_
    obtain rfl := Aa h94
    exact Ww (by kernel_rfl) ⟨F8, hs104.dr0, (le90.t le98), fI⟩
   ·refine DAl 27 #[(sv (([] : WE))), (vi 0), (vi 0), (vi 0), (.slice none ([] : List Int).length 0), (.slice none ([] : List Line).length 0)] hs89 le90 (fun b105 w106 hs107 => ?_)
    refine D1 2 ?_
    obtain ⟨r108, hr109, h110⟩ := bind_some h86
    refine DCl Cn hs107 (CO N w106 F7 hs107.pers (hG.mono (((((le27.t le35).trans le43).trans le51).trans le59).trans le90)) (({ Report := r84.Report, Serial := r84.Serial, Zone := r84.Zone } : Ac)) r81 _ hr109) ?_
    rintro _ F9 w112 hs113 le114 ⟨ar108_0_4, nr108_0_4, ar108_0_5, nr108_0_5, rfl, hbr108_0_4, hsr108_0_4, hbr108_0_5, hsr108_0_5⟩
    refine Dv [3, 4, 5, 6] <| D1 8 <| Gr (AF r108.1 ar108_0_4 nr108_0_4 ar108_0_5 nr108_0_5) hs113 (le90.t le114) (fun w116 hs117 => ?_)
    refine Dv [9, 10] ?_
    obtain rfl := Aa h110
    exact Ww (by kernel_rfl) ⟨F9, hs117.dr0, (le90.t le114), fI⟩
  ·refine DAl 27 #[(sv (([] : WE))), (vi 0), (vi 0), (vi 0), (.slice none ([] : List Int).length 0), (.slice none ([] : List Line).length 0)] hw67 (Wk _) (fun b118 w119 hs120 => ?_)
   refine D1 0 ?_
   obtain ⟨r121, hr122, h123⟩ := bind_some h83
   refine DCl B8 hs120 (CC N w119 F5 hs120.pers  _ hr122) ?_
   rintro _ F10 w125 hs126 le127 rfl
   refine D1 2 ?_
   obtain ⟨r129, hr130, h131⟩ := bind_some h123
   refine DCl Cn hs126 (CO N w125 F10 hs126.pers (hG.mono (((((le27.t le35).trans le43).trans le51).trans le59).trans le127)) (({ Report := r121.Report, Serial := r121.Serial, Zone := r121.Zone } : Ac)) r81 _ hr130) ?_
   rintro _ F11 w133 hs134 le135 ⟨ar129_0_4, nr129_0_4, ar129_0_5, nr129_0_5, rfl, hbr129_0_4, hsr129_0_4, hbr129_0_5, hsr129_0_5⟩
   refine Dv [3, 4, 5, 6] <| D1 8 <| Gr (AF r129.1 ar129_0_4 nr129_0_4 ar129_0_5 nr129_0_5) hs134 (le127.t le135) (fun w137 hs138 => ?_)
   refine Dv [9, 10] ?_
   obtain rfl := Aa h131
   exact Ww (by kernel_rfl) ⟨F11, hs138.dr0, (le127.t le135), fI⟩
 ·rintro f w68 ⟨F6, hs69, le70, ⟨_, rfl⟩⟩
  refine Ab <| Sq (Rg (rG 11) ?_)
  obtain ⟨r139, hr140, h141⟩ := bind_some h80
  refine Cl' B8 hs69 (CC N w68 F6 hs69.pers  _ hr140) ?_
  rintro _ F12 w143 hs144 le145 rfl
  obtain ⟨r147, hr148, h149⟩ := bind_some h141
  refine Cl' ML hs144 (Nm N w143 F12 hs144.pers (hG.mono ((((((le27.t le35).trans le43).trans le51).trans le59).trans le70).trans le145)) (({ Report := r139.Report, Serial := r139.Serial, Zone := r139.Zone } : Ac)) (([67, 65, 76, 76, 32, 68, 76, 49, 88, 89, 10, 67, 65, 84, 69, 71, 79, 82, 89, 32, 49, 10, 67, 76, 65, 73, 77, 69, 68, 32, 50, 48, 10, 74, 85, 77, 80, 83, 10, 81, 83, 79, 32, 55, 32, 49, 52, 48, 50, 53, 32, 77, 32, 49, 32, 48, 49, 49, 53, 32, 75, 49, 65, 66, 67, 32, 62, 32, 53, 57, 57, 32, 48, 49, 50, 32, 60, 32, 53, 57, 57, 32, 48, 48, 51, 10, 101, 110, 100, 10] : WE)) _ hr148) ?_
  rintro _ F13 w151 hs152 le153 ⟨ar147_1_0, nr147_1_0, rfl, hbr147_1_0, hsr147_1_0⟩
  refine Vs 9 <| Nss (Rg (rG 10) ?_)
  obtain ⟨r155, hr156, h157⟩ := bind_some h149
  refine Cl' B8 hs152 (CC N w151 F13 hs152.pers  _ hr156) ?_
  rintro _ F14 w159 hs160 le161 rfl
  obtain ⟨r163, hr164, h165⟩ := bind_some h157
  refine Cl' DV hs160 (Ep N w159 F14 hs160.pers  _ hr164) ?_
  rintro _ F15 w167 hs168 le169 ⟨ar163_0_4, nr163_0_4, ar163_0_5, nr163_0_5, rfl, hbr163_0_4, hsr163_0_4, hbr163_0_5, hsr163_0_5⟩
  refine Vs 1 <| Bs 64 [(vi 1), (vi 7), (vi 0), (vi 0), (vi 0), (vi 0), (sv (([] : WE))), (vi 0), (vi 0), (vi 0), (vi 0), (vi 0), (vi 0)] hs168 (fun b171 w172 hs173 => ?_)
  have hr175 : Av JD 64 F15 (some ⟨b171, 0, none⟩) 1 [({ Kind := 1, Num := 7, Line := ({ Num := 0, Khz := 0, Mode := 0, Minute := 0, Call := ([] : WE), Sent := ({ Report := 0, Serial := 0, Zone := 0 } : Ad), Got := ({ Report := 0, Serial := 0, Zone := 0 } : Ad) } : Line) } : Fix)] (some b171, .cells ([(vi 1), (vi 7), (vi 0), (vi 0), (vi 0), (vi 0), (sv (([] : WE))), (vi 0), (vi 0), (vi 0), (vi 0), (vi 0), (vi 0)] : List Value).toArray 64 (0, 0)) := Wz ⟨rfl, rfl⟩ (by simp)
  have hb179 := Wx hr175
  obtain ⟨F16, hs176, le177, hs178⟩ := hs173.fr0 hr175
  obtain ⟨r180, hr181, h182⟩ := bind_some h165
  refine Cl' MN hs176 (Np N w172 F16 hs176.pers (hG.mono ((((((((((le27.t le35).trans le43).trans le51).trans le59).trans le70).trans le145).trans le153).trans le161).trans le169).trans le177)) (({ Report := r155.Report, Serial := r155.Serial, Zone := r155.Zone } : Ac)) r163 ar163_0_4 nr163_0_4 hbr163_0_4 (Wm hsr163_0_4 le177) ar163_0_5 nr163_0_5 hbr163_0_5 (Wm hsr163_0_5 le177) ([({ Kind := 1, Num := 7, Line := ({ Num := 0, Khz := 0, Mode := 0, Minute := 0, Call := ([] : WE), Sent := ({ Report := 0, Serial := 0, Zone := 0 } : Ad), Got := ({ Report := 0, Serial := 0, Zone := 0 } : Ad) } : Line) } : Fix)]) (some ⟨b171, 0, none⟩) 1 hb179 hs178 _ hr181) ?_
  rintro _ F17 w184 hs185 le186 ⟨ar180_0_0, nr180_0_0, rfl, hbr180_0_0, hsr180_0_0⟩
  refine Vs 5 <| Nss <| Sq (Rg (rG 27) ?_)
  refine Wp (fun f w => ∃ (F18 : Mem), HS w0 F0 w F18 [(sb b61 (AF r53.1 ar53_0_4 nr53_0_4 ar53_0_5 nr53_0_5) 27)] /\ Wj F17 F18 /\ FI f [] [(1, (sv r37.1)), (3, (pt b61 0)), (10, (.slice ar147_1_0 r147.2.1.length nr147_1_0)), (11, (vi r147.2.2.1)), (13, (.slice ar180_0_0 r180.1.length nr180_0_0)), (75, (.bool ((r37.2 != 0) || ((r53.2.1 != 0) || ((j71.1 != 20) || ((r147.2.2.2 != 0) || ((r180.2 != 0) || ((j71.2 != 7) || ((r180.1.length : Int) != 1)))))))))]) ?_ ?_
  ·refine Vs 3 ?_
   refine Wo (r37.2 != 0) (fun hb198 => ?_) (fun hb198 => ?_)
   ·refine Ss hb198 2 ?_
    refine Pk1 hb198 <| Vs 1 <| Ss (rfl : true = true) 2 <| Pk1 (rfl : true = true) <| Vs 1 <| Ss (rfl : true = true) 2 <| Pk1 (rfl : true = true) <| Vs 1 <| Ss (rfl : true = true) 2 <| Pk1 (rfl : true = true) <| Vs 1 <| Ss (rfl : true = true) 2 <| Pk1 (rfl : true = true) <| Vs 1 <| Ss (rfl : true = true) 3 <| Pk1 (rfl : true = true) ?_
    exact Wf ⟨rfl, F17, hs185, (Wk _), (fJ ⟨rfl, rfl, rfl, rfl, rfl, (congrArg Value.bool (Hv hb198 rfl)), trivial⟩)⟩
   ·refine Vgs hb198 2 ?_
    refine Pk0 hb198 <| Vs 1 <| Wo (r53.2.1 != 0) (fun hb199 => ?_) (fun hb199 => ?_)
    ·refine Ss hb199 2 ?_
     refine Pk1 hb199 <| Vs 1 <| Ss (rfl : true = true) 2 <| Pk1 (rfl : true = true) <| Vs 1 <| Ss (rfl : true = true) 2 <| Pk1 (rfl : true = true) <| Vs 1 <| Ss (rfl : true = true) 2 <| Pk1 (rfl : true = true) <| Vs 1 <| Ss (rfl : true = true) 3 <| Pk1 (rfl : true = true) ?_
     exact Wf ⟨rfl, F17, hs185, (Wk _), (fJ ⟨rfl, rfl, rfl, rfl, rfl, (congrArg Value.bool (Da hb198 (Hv hb199 rfl))), trivial⟩)⟩
    ·refine Vgs hb199 2 ?_
     refine Pk0 hb199 <| Vs 1 <| Wo (j71.1 != 20) (fun hb200 => ?_) (fun hb200 => ?_)
     ·refine Ss hb200 2 ?_
      refine Pk1 hb200 <| Vs 1 <| Ss (rfl : true = true) 2 <| Pk1 (rfl : true = true) <| Vs 1 <| Ss (rfl : true = true) 2 <| Pk1 (rfl : true = true) <| Vs 1 <| Ss (rfl : true = true) 3 <| Pk1 (rfl : true = true) ?_
      exact Wf ⟨rfl, F17, hs185, (Wk _), (fJ ⟨rfl, rfl, rfl, rfl, rfl, (congrArg Value.bool (Da hb198 (Da hb199 (Hv hb200 rfl)))), trivial⟩)⟩
     ·refine Vgs hb200 2 ?_
      refine Pk0 hb200 <| Vs 1 <| Wo (r147.2.2.2 != 0) (fun hb201 => ?_) (fun hb201 => ?_)
      ·refine Ss hb201 2 ?_
       refine Pk1 hb201 <| Vs 1 <| Ss (rfl : true = true) 2 <| Pk1 (rfl : true = true) <| Vs 1 <| Ss (rfl : true = true) 3 <| Pk1 (rfl : true = true) ?_
       exact Wf ⟨rfl, F17, hs185, (Wk _), (fJ ⟨rfl, rfl, rfl, rfl, rfl, (congrArg Value.bool (Da hb198 (Da hb199 (Da hb200 (Hv hb201 rfl))))), trivial⟩)⟩
      ·refine Vgs hb201 2 ?_
       refine Pk0 hb201 <| Vs 1 <| Wo (r180.2 != 0) (fun hb202 => ?_) (fun hb202 => ?_)
       ·refine Ss hb202 2 ?_
        refine Pk1 hb202 <| Vs 1 <| Ss (rfl : true = true) 3 <| Pk1 (rfl : true = true) ?_
        exact Wf ⟨rfl, F17, hs185, (Wk _), (fJ ⟨rfl, rfl, rfl, rfl, rfl, (congrArg Value.bool (Da hb198 (Da hb199 (Da hb200 (Da hb201 (Hv hb202 rfl)))))), trivial⟩)⟩
       ·refine Vgs hb202 2 ?_
        refine Pk0 hb202 <| Vs 1 <| Wo (j71.2 != 7) (fun hb203 => ?_) (fun hb203 => ?_)
        ·refine Ss hb203 3 ?_
         refine Pk1 hb203 ?_
         exact Wf ⟨rfl, F17, hs185, (Wk _), (fJ ⟨rfl, rfl, rfl, rfl, rfl, (congrArg Value.bool (Da hb198 (Da hb199 (Da hb200 (Da hb201 (Da hb202 (Hv hb203 rfl))))))), trivial⟩)⟩
        ·refine Vgs hb203 3 ?_
         refine Pk0 hb203 ?_
         exact Wf ⟨rfl, F17, hs185, (Wk _), (fJ ⟨rfl, rfl, rfl, rfl, rfl, (congrArg Value.bool (Da hb198 (Da hb199 (Da hb200 (Da hb201 (Da hb202 (Da hb203 rfl))))))), trivial⟩)⟩
  ·rintro f w188 ⟨F18, hs189, le190, ⟨_, rfl⟩⟩
   refine Ab <| Cd h182 (fun hb204 h205 => ?_) (fun hb204 h206 => ?_)
   ·refine Sq (Rg [0] ?_)
    refine Vs 1 <| Nt <| Rt <| Ae ?_
    obtain rfl := Aa h205
    exact Re [(.bool false)] hs189 rfl
   ·refine Sc ?_
    refine Ab <| Sq ?_
    obtain ⟨j212, hj215, h216⟩ := bind_some h206
    refine RD 28 28 [(sb b61 (AF r53.1 ar53_0_4 nr53_0_4 ar53_0_5 nr53_0_5) 27)] [] hs189 (fun f w => ∃ (F19 : Mem), HS w0 F0 w F19 [] /\ Wj F18 F19 /\ FI f [] [(0, (.bool j212))]) (fun wd207 hw208 => ?_) ?_
    ·refine Dvl [0, 1, 2] (tf 3 25) ?_
     refine Sd hj215 (fun hb217 h218 => ?_) (fun hb217 h219 => ?_)
     ·refine Dgl 3 79 27 _ (tf 4 24) 2 true 78 hb217 (fun _ hq => ld 27 3 b61 0 true 6 (.agg (AF r53.1 ar53_0_4 nr53_0_4 ar53_0_5 nr53_0_5)) (hq.1.2 0 _ _ rfl)) ?_
      refine D1 4 ?_
      obtain ⟨r220, hr221, h222⟩ := bind_some h218
      refine Wv (l' := [true, true, true, true, true, false, false, false, false, false, false, false, false, false, false, false, false, false, false, false, false, false, false, false, false, false, false, false]) (zd := true) (by kernel_rfl) (by kernel_rfl) (by kernel_rfl) (dst := (some 80)) (ty := 27) (g := (some (2, true))) (by kernel_rfl) (HY (d := 78) (by kernel_rfl) rfl hb217) (f0 := (.func 72)) (aos := #[]) (ats := #[]) (fid := 72) (first := #[]) (cap := #[]) (args := []) rfl DV rfl hw208 (Ep N wd207 F18 hw208.pers  _ hr221) ?_
      rintro _ F20 w224 hs225 le226 ⟨ar220_0_4, nr220_0_4, ar220_0_5, nr220_0_5, rfl, hbr220_0_4, hsr220_0_4, hbr220_0_5, hsr220_0_5⟩
      refine D1 5 ?_
      obtain ⟨r228, hr229, h230⟩ := bind_some h222
      refine Wv (l' := [true, true, true, true, true, true, false, false, false, false, false, false, false, false, false, false, false, false, false, false, false, false, false, false, false, false, false, false]) (zd := true) (by kernel_rfl) (by kernel_rfl) (by kernel_rfl) (dst := (some 81)) (ty := 4) (g := (some (2, true))) (by kernel_rfl) (HY (d := 78) (by kernel_rfl) rfl hb217) (f0 := (.func 35)) (aos := #[(.tmp 79), (.tmp 80)]) (ats := #[27, 27]) (fid := 35) (first := #[]) (cap := #[]) (args := [(.agg (AF r53.1 ar53_0_4 nr53_0_4 ar53_0_5 nr53_0_5)), (.agg (AF r220 ar220_0_4 nr220_0_4 ar220_0_5 nr220_0_5))]) rfl Nj rfl hs225 (OD N w224 F20 hs225.pers r53.1 ar53_0_4 nr53_0_4 hbr53_0_4 (Wm hsr53_0_4 ((((((((le70.t le145).trans le153).trans le161).trans le169).trans le177).trans le186).trans le190).trans le226)) ar53_0_5 nr53_0_5 hbr53_0_5 (Wm hsr53_0_5 ((((((((le70.t le145).trans le153).trans le161).trans le169).trans le177).trans le186).trans le190).trans le226)) r220 ar220_0_4 nr220_0_4 hbr220_0_4 hsr220_0_4 ar220_0_5 nr220_0_5 hbr220_0_5 hsr220_0_5 _ hr229) ?_
      rintro _ F21 w232 hs233 le234 rfl
      refine Dtl 6 82 4 _ (tf 7 21) (fun _ hq => p1 78 (.tmp 81) (.const (.bool false)) (.bool r228) hb217) <| Dvl [7] (tf 8 20) <| Sd h230 (fun hb236 h237 => ?_) (fun hb236 h238 => ?_)
      ·refine Dgl 8 84 3 _ (tf 9 19) 7 true 83 hb236 (fun _ hq => mv 11 (vi r147.2.2.1)) ?_
       refine Dgl 9 85 4 (.bool (r147.2.2.1 == 7)) (tf 10 18) 7 true 83 hb236 (fun _ hq => JJ (t := 3) (t' := 3) (x := (.tmp 84)) (y := (.const (vi 7))) (k := .i64) (a := r147.2.2.1) (b := 7) rfl rfl) <| Dtl 10 86 4 _ (tf 11 17) (fun _ hq => p1 83 (.tmp 85) (.const (.bool false)) (.bool (r147.2.2.1 == 7)) hb236) <| Dvl [11] (tf 12 16) <| Sd h237 (fun hb239 h240 => ?_) (fun hb239 h241 => ?_)
       ·refine Dgl 12 88 48 _ (tf 13 15) 11 true 87 hb239 (fun _ hq => mv 10 (.slice ar147_1_0 r147.2.1.length nr147_1_0)) ?_
        refine Dgl 13 89 3 (vi (r147.2.1.length : Int)) (tf 14 14) 11 true 87 hb239 (fun _ hq => ln 88 48 ar147_1_0 r147.2.1.length nr147_1_0 150 3 32) <| Dgl 14 90 4 (.bool ((r147.2.1.length : Int) == 7)) (tf 15 13) 11 true 87 hb239 (fun _ hq => JJ (t := 3) (t' := 3) (x := (.tmp 89)) (y := (.const (vi 7))) (k := .i64) (a := (r147.2.1.length : Int)) (b := 7) rfl rfl) <| Dtl 15 91 4 _ (tf 16 12) (fun _ hq => p1 87 (.tmp 90) (.const (.bool false)) (.bool ((r147.2.1.length : Int) == 7)) hb239) <| Dvl [16] (tf 17 11) <| Sd h240 (fun hb242 h243 => ?_) (fun hb242 h244 => ?_)
        ·refine Dgl 17 93 60 _ (tf 18 10) 16 true 92 hb242 (fun _ hq => mv 13 (.slice ar180_0_0 r180.1.length nr180_0_0)) ?_
         obtain ⟨x245, hx246, h248⟩ := bind_some h243
         obtain ⟨hi247, hx246'⟩ := Ap hx246
         obtain ⟨b249, o250, C251, E252, fz253, rfl, hF255, hE256⟩ := Wr (Wm hsr180_0_0 le190) hx246'
         have hc258 := hE256 _ _ hx246'
         refine Dgl 18 94 0 (.pointer (some ⟨b249, (o250 + (0 : Int).toNat * 13), none⟩)) (tf 19 9) 16 true 92 hb242 (fun _ hq => B4 (t := 60) (x := (.tmp 93)) (y := (.const (vi 0))) (b := b249) (o := o250) (E := 64) (s := 13) (by_ := 112) rfl rfl (by kernel_rfl) hi247) <| Dgl 19 95 0 (.pointer (some ⟨b249, ((o250 + (0 : Int).toNat * 13) + 2), none⟩)) (tf 20 8) 16 true 92 hb242 (fun _ hq => fa 64 94 2 2 11 b249 (o250 + (0 : Int).toNat * 13) ((o250 + (0 : Int).toNat * 13) + 2)) <| Dgl 20 96 34 _ (tf 21 7) 16 true 92 hb242 (fun _ hq => lx 34 95 2 13 true 11 (.agg (Cf x245.Line)) (hq.1.1 _ _ hF255) hc258) <| D1 21 ?_
         obtain ⟨r259, hr260, h261⟩ := bind_some h248
         refine Wv (l' := [true, true, true, true, true, true, true, true, true, true, true, true, true, true, true, true, true, true, true, true, true, true, false, false, false, false, false, false]) (zd := true) (by kernel_rfl) (by kernel_rfl) (by kernel_rfl) (dst := (some 97)) (ty := 27) (g := (some (16, true))) (by kernel_rfl) (HY (d := 92) (by kernel_rfl) rfl hb242) (f0 := (.func 72)) (aos := #[]) (ats := #[]) (fid := 72) (first := #[]) (cap := #[]) (args := []) rfl DV rfl hs233 (Ep N w232 F21 hs233.pers  _ hr260) ?_
         rintro _ F22 w263 hs264 le265 ⟨ar259_0_4, nr259_0_4, ar259_0_5, nr259_0_5, rfl, hbr259_0_4, hsr259_0_4, hbr259_0_5, hsr259_0_5⟩
         refine Dgl 22 98 25 _ (tf 23 5) 16 true 92 hb242 (fun _ hq => L0 (s := 27) (x := (.tmp 97)) (i := 5) (o := 5) (k := 1) (t := 25) (gg := false) (cs := (AF r259 ar259_0_4 nr259_0_4 ar259_0_5 nr259_0_5)) (v := (.slice ar259_0_5 r259.Lines.length nr259_0_5)) rfl (by kernel_rfl) (by kernel_rfl) rfl rfl rfl) ?_
         obtain ⟨x267, hx268, h270⟩ := bind_some h261
         obtain ⟨hi269, hx268'⟩ := Ap hx268
         obtain ⟨b271, o272, C273, E274, fz275, rfl, hF277, hE278⟩ := Wr hsr259_0_5 hx268'
         have hc280 := hE278 _ _ hx268'
         refine Dgl 23 99 0 (.pointer (some ⟨b271, (o272 + (0 : Int).toNat * 11), none⟩)) (tf 24 4) 16 true 92 hb242 (fun _ hq => B4 (t := 25) (x := (.tmp 98)) (y := (.const (vi 0))) (b := b271) (o := o272) (E := 34) (s := 11) (by_ := 96) rfl rfl (by kernel_rfl) hi269) <| D1 24 <| Wt (l' := [true, true, true, true, true, true, true, true, true, true, true, true, true, true, true, true, true, true, true, true, true, true, true, true, true, false, false, false]) (zd := true) (by kernel_rfl) (by kernel_rfl) (dst := (some 100)) (ty := 34) (g := (some (16, true))) (by kernel_rfl) (HY (d := 92) (by kernel_rfl) rfl hb242) (Kn (t := 34) (x := (.tmp 99)) (b := b271) (o := (o272 + (0 : Int).toNat * 11)) (j := 0) (C := C273) (kk := 11) (cs := [(vi x267.Num), (vi x267.Khz), (vi x267.Mode), (vi x267.Minute), (sv x267.Call), (vi x267.Sent.Report), (vi x267.Sent.Serial), (vi x267.Sent.Zone), (vi x267.Got.Report), (vi x267.Got.Serial), (vi x267.Got.Zone)]) (gg := true) (s := 11) (v := (.agg (Cf x267))) rfl (by kernel_rfl) (hs264.pers _ _ hF277) hc280 (by decide) (by exact ⟨rfl, trivial⟩) rfl rfl) (Bd hs264 ((le226.t le234).trans le265) (by simp) (fun e => by cases e)) <| Dgl 25 101 4 (.bool ((x245.Line.Num == x267.Num) && ((x245.Line.Khz == x267.Khz) && ((x245.Line.Mode == x267.Mode) && ((x245.Line.Minute == x267.Minute) && ((x245.Line.Call == x267.Call) && (((x245.Line.Sent.Report == x267.Sent.Report) && ((x245.Line.Sent.Serial == x267.Sent.Serial) && ((x245.Line.Sent.Zone == x267.Sent.Zone) && true))) && (((x245.Line.Got.Report == x267.Got.Report) && ((x245.Line.Got.Serial == x267.Got.Serial) && ((x245.Line.Got.Zone == x267.Got.Zone) && true))) && true)))))))) (tf 26 2) 16 true 92 hb242 (fun _ hq => QG (t := 34) (t' := 34) (x := (.tmp 96)) (y := (.tmp 100)) (xs := (Cf x245.Line)) (ys := (Cf x267)) (b := ((x245.Line.Num == x267.Num) && ((x245.Line.Khz == x267.Khz) && ((x245.Line.Mode == x267.Mode) && ((x245.Line.Minute == x267.Minute) && ((x245.Line.Call == x267.Call) && (((x245.Line.Sent.Report == x267.Sent.Report) && ((x245.Line.Sent.Serial == x267.Sent.Serial) && ((x245.Line.Sent.Zone == x267.Sent.Zone) && true))) && (((x245.Line.Got.Report == x267.Got.Report) && ((x245.Line.Got.Serial == x267.Got.Serial) && ((x245.Line.Got.Zone == x267.Got.Zone) && true))) && true)))))))) rfl rfl (by kernel_rfl) (by kernel_rfl)) <| Dtl 26 102 4 _ (tf 27 1) (fun _ hq => p1 92 (.tmp 101) (.const (.bool false)) (.bool ((x245.Line.Num == x267.Num) && ((x245.Line.Khz == x267.Khz) && ((x245.Line.Mode == x267.Mode) && ((x245.Line.Minute == x267.Minute) && ((x245.Line.Call == x267.Call) && (((x245.Line.Sent.Report == x267.Sent.Report) && ((x245.Line.Sent.Serial == x267.Sent.Serial) && ((x245.Line.Sent.Zone == x267.Sent.Zone) && true))) && (((x245.Line.Got.Report == x267.Got.Report) && ((x245.Line.Got.Serial == x267.Got.Serial) && ((x245.Line.Got.Zone == x267.Got.Zone) && true))) && true)))))))) hb242) <| Dvl [27] (tf 28 0) ?_
         obtain rfl := Aa h270
         exact Ww (by kernel_rfl) ⟨F22, hs264.dr0, ((le226.t le234).trans le265), fI⟩
        ·refine Dkl [(17, 93), (18, 94), (19, 95), (20, 96), (21, 97), (22, 98)] 16 true 92 hb242 (tf 23 5) ?_
         refine Dkl [(23, 99), (24, 100), (25, 101)] 16 true 92 hb242 (tf 26 2) <| Dtl 26 102 4 _ (tf 27 1) (fun _ hq => p0 92 (.tmp 101) (.const (.bool false)) (.bool false) hb242) <| Dvl [27] (tf 28 0) ?_
         obtain rfl := Aa h244
         exact Ww (by kernel_rfl) ⟨F21, hs233.dr0, (le226.t le234), fI⟩
       ·refine Dkl [(12, 88), (13, 89), (14, 90)] 11 true 87 hb239 (tf 15 13) ?_
        refine Dtl 15 91 4 _ (tf 16 12) (fun _ hq => p0 87 (.tmp 90) (.const (.bool false)) (.bool false) hb239) <| Dvl [16] (tf 17 11) <| Dkl [(17, 93), (18, 94), (19, 95), (20, 96), (21, 97), (22, 98)] 16 true 92 rfl (tf 23 5) <| Dkl [(23, 99), (24, 100), (25, 101)] 16 true 92 rfl (tf 26 2) <| Dtl 26 102 4 _ (tf 27 1) (fun _ hq => p0 92 (.tmp 101) (.const (.bool false)) (.bool false) rfl) <| Dvl [27] (tf 28 0) ?_
        obtain rfl := Aa h241
        exact Ww (by kernel_rfl) ⟨F21, hs233.dr0, (le226.t le234), fI⟩
      ·refine Dkl [(8, 84), (9, 85)] 7 true 83 hb236 (tf 10 18) ?_
       refine Dtl 10 86 4 _ (tf 11 17) (fun _ hq => p0 83 (.tmp 85) (.const (.bool false)) (.bool false) hb236) <| Dvl [11] (tf 12 16) <| Dkl [(12, 88), (13, 89), (14, 90)] 11 true 87 rfl (tf 15 13) <| Dtl 15 91 4 _ (tf 16 12) (fun _ hq => p0 87 (.tmp 90) (.const (.bool false)) (.bool false) rfl) <| Dvl [16] (tf 17 11) <| Dkl [(17, 93), (18, 94), (19, 95), (20, 96), (21, 97), (22, 98)] 16 true 92 rfl (tf 23 5) <| Dkl [(23, 99), (24, 100), (25, 101)] 16 true 92 rfl (tf 26 2) <| Dtl 26 102 4 _ (tf 27 1) (fun _ hq => p0 92 (.tmp 101) (.const (.bool false)) (.bool false) rfl) <| Dvl [27] (tf 28 0) ?_
       obtain rfl := Aa h238
       exact Ww (by kernel_rfl) ⟨F21, hs233.dr0, (le226.t le234), fI⟩
     ·refine Dkl [(3, 79), (4, 80), (5, 81)] 2 true 78 hb217 (tf 6 22) ?_
      refine Dtl 6 82 4 _ (tf 7 21) (fun _ hq => p0 78 (.tmp 81) (.const (.bool false)) (.bool false) hb217) <| Dvl [7] (tf 8 20) <| Dkl [(8, 84), (9, 85)] 7 true 83 rfl (tf 10 18) <| Dtl 10 86 4 _ (tf 11 17) (fun _ hq => p0 83 (.tmp 85) (.const (.bool false)) (.bool false) rfl) <| Dvl [11] (tf 12 16) <| Dkl [(12, 88), (13, 89), (14, 90)] 11 true 87 rfl (tf 15 13) <| Dtl 15 91 4 _ (tf 16 12) (fun _ hq => p0 87 (.tmp 90) (.const (.bool false)) (.bool false) rfl) <| Dvl [16] (tf 17 11) <| Dkl [(17, 93), (18, 94), (19, 95), (20, 96), (21, 97), (22, 98)] 16 true 92 rfl (tf 23 5) <| Dkl [(23, 99), (24, 100), (25, 101)] 16 true 92 rfl (tf 26 2) <| Dtl 26 102 4 _ (tf 27 1) (fun _ hq => p0 92 (.tmp 101) (.const (.bool false)) (.bool false) rfl) <| Dvl [27] (tf 28 0) ?_
      obtain rfl := Aa h219
      exact Ww (by kernel_rfl) ⟨F18, hw208.dr0, (Wk _), fI⟩
    ·rintro f w209 ⟨F19, hs210, le211, ⟨_, rfl⟩⟩
     refine Ab <| Rt ?_
     obtain rfl := Aa h216
     exact Re [(.bool j212)] hs210 rfl
set_option maxRecDepth 100000 in
theorem RZ : JU 9223372036854775808 = some true := by kernel_rfl
def HU (_N : Nat) : Option Bool := some true
theorem MO : Af Tryz.prog 19 := Lr
theorem Nq (N : Nat) (w0 : World) (F0 : Mem) (hF : WG w0 F0) (hG : Bz F0) (r : Bool) (h : HU N = some r) :
  Calls Tryz.prog 19 ([] : List Value).toArray w0 (AB w0 F0 fun F' v => v = (.bool r)) := by
 cases h
 exact M0 9223372036854775808 w0 F0 hF hG true RZ

section
variable {N : Nat}
theorem QU (l : List Line) (hl : l.length < 4000000000) (hN : 4294967300 < N) : EV N l = some (l.all fun x => decide (x.Call.length <= 40)) := by
 unfold EV
 rw [RL (l := l) (fun x => decide (x.Call.length <= 40)) false (fun i hi => by
  unfold Ei
  rw [Ez hi, cond_true, Ch hi, Option.bind_some, HG i (by omega), show decide ((l[i].Call.length : Int) > 40) = !decide (l[i].Call.length <= 40) by rw [<- decide_not, decide_eq_decide]; omega]
  cases decide (l[i].Call.length <= 40) <;> rfl) (by
  unfold Ei
  rw [Dr, cond_false]) (by omega)]
 cases l.all fun x => decide (x.Call.length <= 40) <;> rfl
structure Few (l : Log) : Prop where
 n : l.Lines.length <= 800
 j : l.Jumps.length <= 40
 c : l.Call.length <= 40
 x : ∀ x, x ∈ l.Lines -> x.Call.length <= 40
 s : l.Lines.length <= 60 \/ 400 < l.Lines.length
theorem Few.fit {l : Log} (h : Few l) : Tw l := ⟨by have := h.j; omega, by have := h.n; omega, fun x hx => by have := h.x x hx; unfold RS; omega⟩
theorem Vi (l : Log) (hN : 4294967300 < N) : ∃ b, Iy N l = some b /\ (b = true -> Few l) := by
 unfold Iy
 by_cases h1 : l.Lines.length <= 60
 ·rw [decide_eq_true (show (l.Lines.length : Int) <= 60 by omega), cond_true]
  by_cases h2 : l.Jumps.length <= 40
  ·rw [decide_eq_true (show (l.Jumps.length : Int) <= 40 by omega), cond_true]
   by_cases h3 : l.Call.length <= 40
   ·rw [decide_eq_true (show (l.Call.length : Int) <= 40 by omega), cond_true, QU _ (by omega) hN]
    refine ⟨_, rfl, fun h => ⟨by omega, h2, h3, fun x hx => ?_, .inl h1⟩⟩
    rw [List.all_eq_true] at h
    simpa using h x hx
   ·rw [decide_eq_false (show ¬ (l.Call.length : Int) <= 40 by omega)]
    exact ⟨_, rfl, fun h => by cases h⟩
  ·rw [decide_eq_false (show ¬ (l.Jumps.length : Int) <= 40 by omega)]
   exact ⟨_, rfl, fun h => by cases h⟩
 ·rw [decide_eq_false (show ¬ (l.Lines.length : Int) <= 60 by omega), cond_false]
  by_cases h4 : l.Lines.length > 400
  ·rw [decide_eq_true (show (l.Lines.length : Int) > 400 by omega), cond_true]
   by_cases h5 : l.Lines.length <= 800
   ·rw [decide_eq_true (show (l.Lines.length : Int) <= 800 by omega), cond_true]
    by_cases h2 : l.Jumps.length <= 40
    ·rw [decide_eq_true (show (l.Jumps.length : Int) <= 40 by omega), cond_true]
     by_cases h3 : l.Call.length <= 40
     ·rw [decide_eq_true (show (l.Call.length : Int) <= 40 by omega), cond_true, QU _ (by omega) hN]
      refine ⟨_, rfl, fun h => ⟨by omega, h2, h3, fun x hx => ?_, .inr (by omega)⟩⟩
      rw [List.all_eq_true] at h
      simpa using h x hx
     ·rw [decide_eq_false (show ¬ (l.Call.length : Int) <= 40 by omega)]
      exact ⟨_, rfl, fun h => by cases h⟩
    ·rw [decide_eq_false (show ¬ (l.Jumps.length : Int) <= 40 by omega)]
     exact ⟨_, rfl, fun h => by cases h⟩
   ·rw [decide_eq_false (show ¬ (l.Lines.length : Int) <= 800 by omega)]
    exact ⟨_, rfl, fun h => by cases h⟩
  ·rw [decide_eq_false (show ¬ (l.Lines.length : Int) > 400 by omega)]
   exact ⟨_, rfl, fun h => by cases h⟩
end








section
open Go.Lib (decDigits)
section
variable {N : Nat}
theorem dI {n : Int} (h0 : 0 <= n) (h : n <= 1000000000) : strconv_Itoa N n = some (decDigits n.toNat) := by
 have := Md (N := N) n.toNat (by omega)
 rwa [show ((n.toNat : Nat) : Int) = n by omega] at this
theorem VH {m : Int} (h : 1 <= m /\ m <= 3) : LR ([32, 77, 86, 68] : WE) m (W64 (m + 1)) = some (Jn m) := by
 have : m = 1 \/ m = 2 \/ m = 3 := by omega
 rcases this with rfl | rfl | rfl <;> rfl
theorem Mj : ∀ (w : WE) (r : List WE), jn (w :: r) = w ++ r.flatMap (fun x => 32 :: x)
 | w, [] => by rw [De]; simp
 | w, y :: r => by rw [CM (by simp), Mj y r, List.flatMap_cons]; simp
def prL (o : Ac) (x : Line) : WE × Int := if Cr o x = true then (BB o x, 0) else ([], 1)
theorem prT {x : Line} {o : Ac} (h : OkL o x) : Ey x.Minute = (E9 x.Minute.toNat, 0) := by
 unfold Ey; rw [if_pos ⟨h.t.1, h.t.2⟩]
theorem VD {o : Ac} {E : Ad} (h : CH o E = true) : GS o E = (E8 o E, 0) := by
 unfold GS; rw [if_pos h]
theorem K0 (o : Ac) (x : Line) (hx : RS x) (hN : 4294967300 < N) : Cv N o x = some (prL o x) := by
 unfold Cv prL
 show (Cu N o x).bind _ = _
 rw [QW o x hx hN, Option.bind_some]
 cases hv : Cr o x with
 | false => rfl
 | true =>
  have h := BQ.1 hv
  rw [Bool.not_true, cond_false, if_pos rfl]
  show ((Co N x.Minute).bind fun r38 => (Ba N o x.Sent).bind fun r46 => (Ba N o x.Got).bind fun r54 => _) = _
  have hl := Mf h
  have ht := RG o x
  rw [KT, LX _ _ hN, LX _ _ hN, prT h, VD h.s, VD h.g, VH h.m, dI (by have := h.n; omega) (by have := h.n; omega), dI (by have := h.k; omega) (by have := h.k; omega)]
  simp only [Option.bind_some]
  unfold strings_Join
  rw [show Go.Lib.join [([81, 83, 79] : WE), decDigits x.Num.toNat, decDigits x.Khz.toNat, Jn x.Mode, E9 x.Minute.toNat, x.Call, [62], E8 o x.Sent, [60], E8 o x.Got] [32] = BB o x from ht, if_pos ⟨by simp, by omega⟩]
  rfl
theorem Um (l : Log) : hdT l 0 = [67, 65, 76, 76, 32] ++ l.Call := by
 show jn [Uz, l.Call] = _
 rw [CM (by simp), De]; rfl
theorem Ul (l : Log) : hdT l 1 = [67, 65, 84, 69, 71, 79, 82, 89, 32] ++ decDigits l.Category.toNat := by
 show jn [Vy, decDigits l.Category.toNat] = _
 rw [CM (by simp), De]; rfl
theorem Uk (l : Log) : hdT l 2 = [80, 79, 87, 69, 82, 32] ++ decDigits l.Power.toNat := by
 show jn [Vw, decDigits l.Power.toNat] = _
 rw [CM (by simp), De]; rfl
theorem Uj (l : Log) : hdT l 3 = [67, 76, 65, 73, 77, 69, 68, 32] ++ decDigits l.Claimed.toNat := by
 show jn [Vx, decDigits l.Claimed.toNat] = _
 rw [CM (by simp), De]; rfl
def M9 (l : List Int) : WE := l.flatMap fun n => 32 :: decDigits n.toNat
theorem VJ (l : Log) : hdT l 4 = [74, 85, 77, 80, 83] ++ M9 l.Jumps := by
 show jn (NV :: l.Jumps.map fun n => decDigits n.toNat) = _
 rw [Mj, List.flatMap_map]
 rfl
theorem RJ (l : List Int) (i : Nat) (hi : i < l.length) : M9 (l.take (i + 1)) = M9 (l.take i) ++ 32 :: decDigits l[i].toNat := by
 unfold M9
 rw [List.take_add_one, List.getElem?_eq_getElem hi, List.flatMap_append]
 simp
structure VL (o : Ac) (l : Log) : Prop where
 h : Po l = true
 j : l.Jumps.length <= 16
 n : l.Lines.length <= 400
 ok : ∀ i, i < l.Lines.length -> Jj o l.Lines i = true
theorem Qv {o : Ac} {l : Log} : (chk o l).1 = 0 ↔ VL o l := by
 unfold chk
 constructor
 ·intro h
  split at h
  ·cases h
  ·rename_i h1
   split at h
   ·cases h
   ·rename_i h2
    rw [Bool.not_eq_false] at h2
    cases hf : G2 o l.Lines with
    | some k => rw [hf] at h; cases h
    | none => exact ⟨h2, by omega, by omega, PH hf⟩
 ·intro h
  rw [if_neg (by have := h.j; have := h.n; omega), if_neg (by rw [h.h]; decide)]
  cases hf : G2 o l.Lines with
  | some k =>
   obtain ⟨h1, h2, _⟩ := PG hf
   rw [h.ok k h1] at h2; cases h2
  | none => rfl
theorem VL.line {o : Ac} {l : Log} (h : VL o l) {x : Line} (hx : x ∈ l.Lines) : Cr o x = true := by
 obtain ⟨i, hi, rfl⟩ := List.mem_iff_getElem.1 hx
 have := h.ok i hi
 unfold Jj at this
 rw [List.getElem?_eq_getElem hi] at this
 simp only [Bool.and_eq_true] at this
 exact this.1
theorem VL.hd {o : Ac} {l : Log} (h : VL o l) : Ed l.Call = true /\ (1 <= l.Category /\ l.Category <= 9) /\ (1 <= l.Power /\ l.Power <= 9999) /\ (0 <= l.Claimed /\ l.Claimed <= 1000000) /\ Hx l.Jumps = true := by
 have := h.h
 unfold Po at this
 simp only [Bool.and_eq_true] at this
 obtain ⟨a, b, c, d, e⟩ := this
 exact ⟨a, by simpa [hdV] using b, by simpa [hdV] using c, by simpa [hdV] using d, e⟩
theorem K7 {n : Int} (h0 : 0 <= n) (h : n <= 1000000) : (decDigits n.toNat).length <= 7 := G3 6 n.toNat (by omega)
theorem Mk : ∀ {l : List Int}, (∀ n, n ∈ l -> 1 <= n /\ n <= 20000) -> (M9 l).length <= l.length * 8
 | [], _ => by simp [M9]
 | n :: l, h => by
  have ih := Mk (l := l) fun n hn => h n (by simp [hn])
  have := h n (by simp)
  have := K7 (n := n) (by omega) (by omega)
  unfold M9 at ih ⊢
  rw [List.flatMap_cons, List.length_append, List.length_cons, List.length_cons]
  omega
theorem Pz {s : WE} (h : Ed s = true) : s.length <= 16 := by
 unfold Ed callB at h
 by_cases hl : s.length <= 16
 ·exact hl
 ·rw [if_neg hl] at h; cases h
theorem Qj (x0 : Log) (hv : Hx x0.Jumps = true) (hN : 4294967300 < N) {ρ : Type} {body : (WE × Int) -> Option (Bt ρ (WE × Int))}
  (hb : ∀ s : WE × Int, body s = (bif (decide (s.2 < (x0.Jumps.length : Int))) then ((idx x0.Jumps s.2).bind fun x51 => ((strconv_Itoa N x51).bind fun r65 => ((C5 ([32] : WE) r65).bind fun r73 => ((C5 s.1 r73).bind fun r76 => some (.next (r76, (W64 (s.2 + 1)))))))) else some (.done (s.1, s.2)))) :
  AX body N (([74, 85, 77, 80, 83] : WE), 0) = some (.done (hdT x0 4, (x0.Jumps.length : Int))) := by
 have hj := IA hv
 have hjl : x0.Jumps.length <= 16 := by
  unfold Hx at hv; simp only [Bool.and_eq_true, decide_eq_true_eq] at hv; exact hv.2.2
 have := FX (N := N) (body := body) (fun i => ([74, 85, 77, 80, 83] ++ M9 (x0.Jumps.take i), (i : Int))) (o := .done (hdT x0 4, (x0.Jumps.length : Int))) x0.Jumps.length (fun i hi => by
  rw [hb]
  simp only
  have hm := hj _ (List.getElem_mem hi)
  have hd := K7 (n := x0.Jumps[i]) (by omega) (by omega)
  have hl := Mk (l := x0.Jumps.take i) fun n hn => hj n (List.mem_of_mem_take hn)
  have hl2 : (M9 (x0.Jumps.take i)).length <= 16 * 8 := Nat.le_trans hl (Nat.mul_le_mul_right _ (by simp; omega))
  rw [Ez hi, cond_true, Ch hi, Option.bind_some, dI (by omega) (by omega), Option.bind_some, AZ (by simp; omega), Option.bind_some, AZ (by simp; omega), Option.bind_some, HG i (by omega), RJ _ _ hi]
  simp) (by
  rw [hb]
  simp only
  rw [Dr, cond_false, List.take_length, VJ]) (fun _ h => by cases h) (by omega)
 simpa [M9] using this
theorem SI (l : Log) (hv : Hx l.Jumps = true) (hN : 4294967300 < N) : DT N l = some (hdT l 4) := by
 unfold DT
 rw [Qj l hv hN (fun s => by unfold DY; rfl)]; rfl
theorem S6 {o : Ac} {l : Log} (h : VL o l) : (hdT l 0).length <= 40 /\ (hdT l 1).length <= 40 /\ (hdT l 2).length <= 40 /\ (hdT l 3).length <= 40 /\ (hdT l 4).length <= 140 := by
 obtain ⟨h0, h1, h2, h3, h4⟩ := h.hd
 have a0 := Pz h0
 have a1 := K7 (n := l.Category) (by omega) (by omega)
 have a2 := K7 (n := l.Power) (by omega) (by omega)
 have a3 := K7 (n := l.Claimed) (by omega) (by omega)
 have a4 := Mk (IA h4)
 have a5 := h.j
 rw [Um, Ul, Uk, Uj, VJ]
 simp only [List.length_append, List.length_cons, List.length_nil]
 omega
def Gf (o : Ac) (ls : List Line) : WE := ls.flatMap fun x => BB o x ++ [10]
theorem Qz (o : Ac) (l : List Line) (i : Nat) (hi : i < l.length) : Gf o (l.take (i + 1)) = Gf o (l.take i) ++ (BB o l[i] ++ [10]) := by
 unfold Gf
 rw [List.take_add_one, List.getElem?_eq_getElem hi, List.flatMap_append]
 simp
theorem IE {o : Ac} : ∀ {l : List Line}, (∀ x, x ∈ l -> Cr o x = true) -> (Gf o l).length <= l.length * 301
 | [], _ => by simp [Gf]
 | x :: l, h => by
  have ih := IE (l := l) fun y hy => h y (by simp [hy])
  have := Mf (BQ.1 (h x (by simp)))
  unfold Gf at ih ⊢
  rw [List.flatMap_cons, List.length_append, List.length_append, List.length_cons, List.length_cons, List.length_nil]
  omega
theorem QZ (o : Ac) (l : Log) : Me o l = hdT l 0 ++ [10] ++ (hdT l 1 ++ [10]) ++ (hdT l 2 ++ [10]) ++ (hdT l 3 ++ [10]) ++ (hdT l 4 ++ [10]) ++ Gf o l.Lines ++ [69, 78, 68, 10] := by
 unfold Me Qg Gf
 rw [List.flatMap_append, List.flatMap_append, List.flatMap_map]
 simp [M5]
def prG (o : Ac) (l : Log) : WE × Int := if (chk o l).1 = 0 then (Me o l, 0) else ([], (chk o l).1)
theorem UV (a : Int) : (a != 0) = !decide (a = 0) := by
 by_cases h : a = 0
 ·subst h; rfl
 ·rw [decide_eq_false h]; simpa using h
theorem QX (o : Ac) (l : Log) (hl : Tw l) (hN : 4294967300 < N) : Dc N o l = some (prG o l) := by
 unfold Dc prG
 show (CK N o l).bind _ = _
 rw [Oh o l hl hN, Option.bind_some, UV]
 by_cases hc : (chk o l).1 = 0
 ·rw [decide_eq_true hc, if_pos hc, Bool.not_true, cond_false]
  have h := Qv.1 hc
  obtain ⟨h0, h1, h2, h3, h4⟩ := h.hd
  have a0 := Pz h0
  have a1 := K7 (n := l.Category) (by omega) (by omega)
  have a2 := K7 (n := l.Power) (by omega) (by omega)
  have a3 := K7 (n := l.Claimed) (by omega) (by omega)
  obtain ⟨b0, b1, b2, b3, b4⟩ := S6 h
  have e0 : Fg N l = some (hdT l 0) := by
   unfold Fg; rw [AZ (by simp; omega), Um]; rfl
  have e1 : Dz N l ([67, 65, 84, 69, 71, 79, 82, 89] : WE) = some (hdT l 1) := by
   unfold Dz
   rw [AZ (by simp), Option.bind_some, dI (by omega) (by omega), Option.bind_some, AZ (by simp; omega), Ul]; rfl
  have e2 : Dw N l ([80, 79, 87, 69, 82] : WE) = some (hdT l 2) := by
   unfold Dw
   rw [AZ (by simp), Option.bind_some, dI (by omega) (by omega), Option.bind_some, AZ (by simp; omega), Uk]; rfl
  have e3 : Dy N l ([67, 76, 65, 73, 77, 69, 68] : WE) = some (hdT l 3) := by
   unfold Dy
   rw [AZ (by simp), Option.bind_some, dI (by omega) (by omega), Option.bind_some, AZ (by simp; omega), Uj]; rfl
  rw [e0, Option.bind_some, AZ (by simp; omega), Option.bind_some, Hf (by simp; omega), Option.bind_some, e1, Option.bind_some, AZ (by simp; omega), Option.bind_some, Hf (by simp; omega), Option.bind_some, e2, Option.bind_some, AZ (by simp; omega), Option.bind_some, Hf (by simp; omega), Option.bind_some, e3, Option.bind_some, AZ (by simp; omega), Option.bind_some, Hf (by simp; omega), Option.bind_some, SI l h4 hN, Option.bind_some, AZ (by simp; omega), Option.bind_some, Hf (by simp; omega), Option.bind_some]
  have key : ∀ T0 : WE, T0.length <= 1000 -> ∀ {body : (Int × WE) -> Option (Bt (WE × Int) (Int × WE))}, (∀ s : Int × WE, body s = (bif (decide (s.1 < (l.Lines.length : Int))) then ((idx l.Lines s.1).bind fun x207 => ((Cv N o x207).bind fun r226 => ((C5 r226.1 ([10] : WE)).bind fun r234 => ((Hg s.2 r234).bind fun t240 => some (.next ((W64 (s.1 + 1)), t240)))))) else some (.done (s.1, s.2)))) ->
    AX body N (0, T0) = some (.done ((l.Lines.length : Int), T0 ++ Gf o l.Lines)) := by
   intro T0 hT body hb
   have := FX (N := N) (body := body) (fun i => ((i : Int), T0 ++ Gf o (l.Lines.take i))) (o := .done ((l.Lines.length : Int), T0 ++ Gf o l.Lines)) l.Lines.length (fun i hi => by
    rw [hb]
    simp only
    have hm : l.Lines[i] ∈ l.Lines := List.getElem_mem hi
    have hv := h.line hm
    have hll := Mf (BQ.1 hv)
    have hbl := IE (o := o) (l := l.Lines.take i) fun x hx => h.line (List.mem_of_mem_take hx)
    have hbl2 : (Gf o (l.Lines.take i)).length <= 400 * 301 := Nat.le_trans hbl (Nat.mul_le_mul_right _ (by have := h.n; simp; omega))
    rw [Ez hi, cond_true, Ch hi, Option.bind_some, K0 o _ (hl.x _ hm) hN, Option.bind_some]
    unfold prL
    rw [if_pos hv, AZ (by simp; omega), Option.bind_some, Hf (by simp; omega), Option.bind_some, HG i (by have := hl.n; omega), Qz _ _ _ hi, List.append_assoc]) (by
    rw [hb]
    simp only
    rw [Dr, cond_false, List.take_length]) (fun _ h => by cases h) (by have := hl.n; omega)
   simpa [Gf] using this
  rw [key _ (by simp; omega) (fun s => by unfold Gg; rfl), Option.bind_some]
  have hbl := IE (o := o) (l := l.Lines) fun x hx => h.line hx
  have hbl2 : (Gf o l.Lines).length <= 400 * 301 := Nat.le_trans hbl (Nat.mul_le_mul_right _ h.n)
  show ((Hg _ ([69, 78, 68, 10] : WE)).bind _) = _
  rw [Hf (by simp; omega), Option.bind_some, QZ]
  simp
 ·rw [decide_eq_false hc, if_neg hc]; rfl
end
end
def A6 (N : Nat) (x0 : (List Line)) (x1 : (List Line)) : Int -> Option (Bt Bool Int) := fun s27 =>
 (bif (decide (s27 < (x0.length : Int))) then (((idx x0 s27).bind fun x64 => ((idx x1 s27).bind fun x78 => some (!((x64.Num == x78.Num) && ((x64.Khz == x78.Khz) && ((x64.Mode == x78.Mode) && ((x64.Minute == x78.Minute) && ((x64.Call == x78.Call) && (((x64.Sent.Report == x78.Sent.Report) && ((x64.Sent.Serial == x78.Sent.Serial) && ((x64.Sent.Zone == x78.Sent.Zone) && true))) && (((x64.Got.Report == x78.Got.Report) && ((x64.Got.Serial == x78.Got.Serial) && ((x64.Got.Zone == x78.Got.Zone) && true))) && true)))))))))).bind fun j55 => (bif j55 then some (.ret false) else some (.next (W64 (s27 + 1))))) else some (.done s27))
def Bi (N : Nat) (x0 : (List Line)) (x1 : (List Line)) : Option Bool :=
 (bif ((x0.length : Int) != (x1.length : Int)) then some false else ((AX (A6 N x0 x1) N 0).bind fun o => o.k (fun r => some r) (fun s36 => some true)))
theorem Eb : Af Tryz.prog 119 := fun _ _ => by kernel_rfl
theorem Eo (N : Nat) (w0 : World) (F0 : Mem) (hF : WG w0 F0) (x0 : (List Line)) (a0_0 : WF) (n0_0 : Nat) (hb0_0 : LC x0.length n0_0) (hs0_0 : SlA AC F0 a0_0 x0) (x1 : (List Line)) (a1_0 : WF) (n1_0 : Nat) (hb1_0 : LC x1.length n1_0) (hs1_0 : SlA AC F0 a1_0 x1) (r : Bool) (h : Bi N x0 x1 = some r) :
  Calls Tryz.prog 119 ([(.slice a0_0 x0.length n0_0), (.slice a1_0 x1.length n1_0)] : List Value).toArray w0 (AB w0 F0 fun F' v => v = (.bool r)) := by
 have hs0 := Wl hF
 refine Go 26 Tryz.func119 <| Sq (Rg [0] ?_)
 refine Vs 1 <| Nss <| Sq (Rg (rG 5) ?_)
 refine Vs 5 <| Nt <| Cd h (fun hb21 h22 => ?_) (fun hb21 h23 => ?_)
 ·refine Sq (Rg [0] ?_)
  refine Vs 1 <| Nt <| Rt <| Ae ?_
  obtain rfl := Aa h22
  exact Re [(.bool false)] hs0 rfl
 ·refine Sc ?_
  refine Ab <| Sq <| Sq (Rg [0, 1, 2] ?_)
  refine Vs 3 <| Nt ?_
  obtain ⟨o24, ho25, h26⟩ := bind_some h23
  refine Wq (fun f w => ∃ (s36 : Int) (F2 : Mem), o24 = .done s36 /\ HS w0 F0 w F2 [] /\ Wj F0 F2 /\ FI f [] []) ?_ ?_
  ·refine Bk ?_
   refine Wi (by kernel_rfl) (fun m f w => ∃ (s27 : Int) (F1 : Mem), AX (A6 N x0 x1) m s27 = some o24 /\ HS w0 F0 w F1 [] /\ Wj F0 F1 /\ FI f [] [(0, (.slice a0_0 x0.length n0_0)), (1, (.slice a1_0 x1.length n1_0)), (12, (vi (x0.length : Int))), (13, (vi s27))]) N ⟨0, F0, ho25, hs0, (Wk _), fI⟩ ?_
   rintro m41 f w28 ⟨s27, F1, hit42, hs29, le30, ⟨_, rfl⟩⟩
   obtain ⟨m43, fl44, rfl, hb45, hnx46⟩ := AN hit42
   refine Sq (Rg [0] ?_)
   refine Vs 1 <| Nss <| Cd hb45 (fun hb47 h48 => ?_) (fun hb47 h49 => ?_)
   ·refine Sc ?_
    refine Ab <| Sq <| Bk <| Sq (Rg [0, 1] ?_)
    refine Vs 2 <| Nss ?_
    obtain ⟨j55, hj62, h63⟩ := bind_some h48
    refine RD 9 9 [] [] hs29 (fun f w => ∃ (F3 : Mem), HS w0 F0 w F3 [] /\ Wj F1 F3 /\ FI f [] [(0, (.slice a0_0 x0.length n0_0)), (1, (.slice a1_0 x1.length n1_0)), (12, (vi (x0.length : Int))), (13, (vi s27)), (24, (.bool j55))]) (fun wd50 hw51 => ?_) ?_
    ·refine Dv [0, 1] ?_
     obtain ⟨x64, hx65, h67⟩ := bind_some hj62
     obtain ⟨hi66, hx65'⟩ := Ap hx65
     obtain ⟨b68, o69, C70, E71, fz72, rfl, hF74, hE75⟩ := Wr (Wm hs0_0 le30) hx65'
     have hc77 := hE75 _ _ hx65'
     refine Di 2 hi66 <| Dx 3 0 (fun _ hq => hq.1.1 _ _ hF74) hc77 <| Dv [4, 5] ?_
     obtain ⟨x78, hx79, h81⟩ := bind_some h67
     obtain ⟨hi80, hx79'⟩ := Ap hx79
     obtain ⟨b82, o83, C84, E85, fz86, rfl, hF88, hE89⟩ := Wr (Wm hs1_0 le30) hx79'
     have hc91 := hE89 _ _ hx79'
     refine Di 6 hi80 <| Dx 7 0 (fun _ hq => hq.1.1 _ _ hF88) hc91 <| Dv [8] ?_
     obtain rfl := Aa h81
     exact Ww (by kernel_rfl) ⟨F1, hw51, (Wk _), fI⟩
    ·rintro f w52 ⟨F3, hs53, le54, ⟨_, rfl⟩⟩
     refine Ab <| Cd h63 (fun hb92 h93 => ?_) (fun hb92 h94 => ?_)
     ·refine Sq (Rg [0] ?_)
      refine Vs 1 <| Nt <| Rt <| Ax <| Ae <| Ae <| Ax ?_
      have hret := Cw h93 hnx46
      subst hret
      refine .inr <| Ae ?_
      obtain rfl := Aa h26
      exact Re [(.bool false)] hs53 rfl
     ·refine Sc ?_
      refine Au <| Ab <| Rg [0, 1] <| Vs 2 <| Wf ?_
      have hn95 := AO h94 hnx46
      exact ⟨m43, Nat.lt_succ_self _, (W64 (s27 + 1)), F3, hn95, hs53, (le30.t le54), fI⟩
   ·refine Ex ?_
    refine Ar <| Ar <| Az rfl ?_
    have ho96 := AP h49 hnx46
    exact .inl ⟨rfl, s27, F1, ho96, hs29, le30, fI⟩
  ·rintro f w37 ⟨s36, F2, rfl, hs38, le39, ⟨_, rfl⟩⟩
   have h97 := BL h26
   refine Ab <| Sq (Rg [0] ?_)
   refine Vs 1 <| Nt <| Rt ?_
   obtain rfl := Aa h97
   exact Re [(.bool true)] hs38 rfl
def Iw (N : Nat) (x0 : Log) (x1 : Log) : Option Bool :=
 ((bif (x0.Call == x1.Call) then (bif (x0.Category == x1.Category) then (bif (x0.Power == x1.Power) then (bif (x0.Claimed == x1.Claimed) then ((Cb N x0.Jumps x1.Jumps).bind fun r47 => (bif r47 then ((Bi N x0.Lines x1.Lines).bind fun r58 => some r58) else some false)) else some false) else some false) else some false) else some false).bind fun j30 => some j30)
theorem Ox : Af Tryz.prog 42 := fun _ _ => by kernel_rfl
theorem PA (N : Nat) (w0 : World) (F0 : Mem) (hF : WG w0 F0) (x0 : Log) (a0_4 : WF) (n0_4 : Nat) (hb0_4 : LC x0.Jumps.length n0_4) (hs0_4 : SlA AD F0 a0_4 x0.Jumps) (a0_5 : WF) (n0_5 : Nat) (hb0_5 : LC x0.Lines.length n0_5) (hs0_5 : SlA AC F0 a0_5 x0.Lines) (x1 : Log) (a1_4 : WF) (n1_4 : Nat) (hb1_4 : LC x1.Jumps.length n1_4) (hs1_4 : SlA AD F0 a1_4 x1.Jumps) (a1_5 : WF) (n1_5 : Nat) (hb1_5 : LC x1.Lines.length n1_5) (hs1_5 : SlA AC F0 a1_5 x1.Lines) (r : Bool) (h : Iw N x0 x1 = some r) :
  Calls Tryz.prog 42 ([(.agg (AF x0 a0_4 n0_4 a0_5 n0_5)), (.agg (AF x1 a1_4 n1_4 a1_5 n1_5))] : List Value).toArray w0 (AB w0 F0 fun F' v => v = (.bool r)) := by
 have hs0 := Wl hF
 refine Go 45 Tryz.func42 <| Sq (Rg [0, 1, 2] ?_)
 refine Bx' 27 (AF x0 a0_4 n0_4 a0_5 n0_5) hs0 (fun b21 w22 hs23 => ?_)
 refine Bx' 27 (AF x1 a1_4 n1_4 a1_5 n1_5) hs23 (fun b24 w25 hs26 => ?_)
 refine Vs 1 <| Nss (Rg (rG 41) ?_)
 obtain ⟨j30, hj33, h34⟩ := bind_some h
 refine Wp (fun f w => ∃ (F1 : Mem), HS w0 F0 w F1 [] /\ Wj F0 F1 /\ FI f [] [(4, (.bool j30))]) ?_ ?_
 ·refine Vs 1 ?_
  refine Ld hs26.at1 <| Vs 1 <| Ld hs26.at0 <| Vs 2 <| Sp hj33 (fun hb35 h36 => ?_) (fun hb35 h37 => ?_)
  ·refine Vgs hb35 1 ?_
   refine Lg hb35 hs26.at1 <| Vgs hb35 1 <| Lg hb35 hs26.at0 <| Vgs hb35 1 <| Pk1 hb35 <| Vs 1 <| Sp h36 (fun hb38 h39 => ?_) (fun hb38 h40 => ?_)
   ·refine Vgs hb38 1 ?_
    refine Lg hb38 hs26.at1 <| Vgs hb38 1 <| Lg hb38 hs26.at0 <| Vgs hb38 1 <| Pk1 hb38 <| Vs 1 <| Sp h39 (fun hb41 h42 => ?_) (fun hb41 h43 => ?_)
    ·refine Vgs hb41 1 ?_
     refine Lg hb41 hs26.at1 <| Vgs hb41 1 <| Lg hb41 hs26.at0 <| Vgs hb41 1 <| Pk1 hb41 <| Vs 1 <| Sp h42 (fun hb44 h45 => ?_) (fun hb44 h46 => ?_)
     ·refine Vgs hb44 1 ?_
      refine Lg hb44 hs26.at1 <| Vgs hb44 1 <| Lg hb44 hs26.at0 ?_
      obtain ⟨r47, hr48, h49⟩ := bind_some h45
      refine Cg hb44 GE hs26 (G9 N w25 F0 hs26.pers x0.Jumps a0_4 n0_4 hb0_4 hs0_4 x1.Jumps a1_4 n1_4 hb1_4 hs1_4 _ hr48) ?_
      rintro _ F2 w51 hs52 le53 rfl
      refine Pk1 hb44 <| Vs 1 <| Sp h49 (fun hb55 h56 => ?_) (fun hb55 h57 => ?_)
      ·refine Vgs hb55 1 ?_
       refine Lg hb55 hs52.at1 <| Vgs hb55 1 <| Lg hb55 hs52.at0 ?_
       obtain ⟨r58, hr59, h60⟩ := bind_some h56
       refine Cg hb55 Eb hs52 (Eo N w51 F2 hs52.pers x0.Lines a0_5 n0_5 hb0_5 (Wm hs0_5 le53) x1.Lines a1_5 n1_5 hb1_5 (Wm hs1_5 le53) _ hr59) ?_
       rintro _ F3 w62 hs63 le64 rfl
       refine Pk1 hb55 <| Vs 1 ?_
       obtain rfl := Aa h60
       exact Wf ⟨rfl, F3, hs63.dr0.dr0, (le53.t le64), fI⟩
      ·refine Ss hb55 5 ?_
       refine Pk0 hb55 <| Vs 1 ?_
       obtain rfl := Aa h57
       exact Wf ⟨rfl, F2, hs52.dr0.dr0, le53, fI⟩
     ·refine Ss hb44 5 ?_
      refine Pk0 hb44 <| Vs 1 <| Ss (rfl : false = false) 5 <| Pk0 (rfl : false = false) <| Vs 1 ?_
      obtain rfl := Aa h46
      exact Wf ⟨rfl, F0, hs26.dr0.dr0, (Wk _), fI⟩
    ·refine Ss hb41 5 ?_
     refine Pk0 hb41 <| Vs 1 <| Ss (rfl : false = false) 5 <| Pk0 (rfl : false = false) <| Vs 1 <| Ss (rfl : false = false) 5 <| Pk0 (rfl : false = false) <| Vs 1 ?_
     obtain rfl := Aa h43
     exact Wf ⟨rfl, F0, hs26.dr0.dr0, (Wk _), fI⟩
   ·refine Ss hb38 5 ?_
    refine Pk0 hb38 <| Vs 1 <| Ss (rfl : false = false) 5 <| Pk0 (rfl : false = false) <| Vs 1 <| Ss (rfl : false = false) 5 <| Pk0 (rfl : false = false) <| Vs 1 <| Ss (rfl : false = false) 5 <| Pk0 (rfl : false = false) <| Vs 1 ?_
    obtain rfl := Aa h40
    exact Wf ⟨rfl, F0, hs26.dr0.dr0, (Wk _), fI⟩
  ·refine Ss hb35 5 ?_
   refine Pk0 hb35 <| Vs 1 <| Ss (rfl : false = false) 5 <| Pk0 (rfl : false = false) <| Vs 1 <| Ss (rfl : false = false) 5 <| Pk0 (rfl : false = false) <| Vs 1 <| Ss (rfl : false = false) 5 <| Pk0 (rfl : false = false) <| Vs 1 <| Ss (rfl : false = false) 5 <| Pk0 (rfl : false = false) <| Vs 1 ?_
   obtain rfl := Aa h37
   exact Wf ⟨rfl, F0, hs26.dr0.dr0, (Wk _), fI⟩
 ·rintro f w27 ⟨F1, hs28, le29, ⟨_, rfl⟩⟩
  refine Ab <| Rt ?_
  obtain rfl := Aa h34
  exact Re [(.bool j30)] hs28 rfl





















section
variable {N : Nat}
theorem TC {α : Type} [DecidableEq α] (a b : List α) (h : a.length = b.length) : Jy a.length (fun i => decide (a[i]? = b[i]?)) = decide (a = b) := by
 rw [Bool.eq_iff_iff, decide_eq_true_eq, PL]
 constructor
 ·intro hh
  apply List.ext_getElem? 
  intro i
  by_cases hi : i < a.length
  ·simpa using hh i hi
  ·rw [List.getElem?_eq_none (by omega), List.getElem?_eq_none (by omega)]
 ·rintro rfl i _
  simp
theorem Pw {α : Type} [DecidableEq α] (a b : List α) {body : Int -> Option (Bt Bool Int)} (hl : a.length = b.length) (hn : a.length < N)
  (hb : ∀ i (h : i < a.length) (h2 : i < b.length), body (i : Int) = some (bif decide (a[i] = b[i]) then .next ((i + 1 : Nat) : Int) else .ret false)) (he : body (a.length : Int) = some (.done (a.length : Int))) :
  ((AX body N 0).bind fun o => o.k (fun r => some r) (fun _ => some true)) = some (decide (a = b)) := by
 rw [K6 (n := a.length) (fun i => decide (a[i]? = b[i]?)) false (fun i hi => by
  rw [hb i hi (by omega), List.getElem?_eq_getElem hi, List.getElem?_eq_getElem (by omega)]
  simp only [Option.some.injEq]) he hn, TC a b hl]
 cases decide (a = b) <;> rfl
theorem Q4 {α : Type} (a b : List α) : ((a.length : Int) != (b.length : Int)) = !decide (a.length = b.length) := by
 by_cases h : a.length = b.length
 ·rw [h]; simp
 ·rw [decide_eq_false h]
  simp only [Bool.not_false, bne_iff_ne, ne_eq]
  omega
theorem O4 {α : Type} [DecidableEq α] {a b : List α} (h : ¬ a.length = b.length) : decide (a = b) = false := decide_eq_false fun e => h (by rw [e])
theorem Ut {α : Type} [DecidableEq α] [BEq α] [LawfulBEq α] (x y : α) : (x != y) = !decide (x = y) := by
 by_cases h : x = y
 ·subst h; simp
 ·rw [decide_eq_false h]; simpa using h
theorem He {α : Type} [DecidableEq α] [BEq α] [LawfulBEq α] (x y : α) : (x == y) = decide (x = y) := by
 by_cases h : x = y
 ·subst h; simp
 ·rw [decide_eq_false h]; simpa using h
theorem VX (i : Nat) (h : i + 1 < 9223372036854775808) : W64 ((i : Int) + 1) = ((i + 1 : Nat) : Int) := by
 rw [E7 (by omega) (by omega)]; omega
theorem SP (a b : List Int) (ha : a.length < 9223372036854775808) (hN : a.length < N) : Cb N a b = some (decide (a = b)) := by
 unfold Cb
 rw [Q4]
 by_cases h : a.length = b.length
 ·rw [decide_eq_true h, Bool.not_true, cond_false]
  exact Pw a b h (by omega) (fun i h1 h2 => by
   unfold BR
   rw [Ez h1, cond_true, Ch h1, Ch h2, Option.bind_some, Option.bind_some, Option.bind_some, Ut, VX i (by omega)]
   cases decide (a[i] = b[i]) <;> rfl) (by
   unfold BR
   rw [Dr, cond_false])
 ·rw [decide_eq_false h, O4 h]; rfl
theorem Uc (x y : Line) : ((x.Num == y.Num) && ((x.Khz == y.Khz) && ((x.Mode == y.Mode) && ((x.Minute == y.Minute) && ((x.Call == y.Call) && (((x.Sent.Report == y.Sent.Report) && ((x.Sent.Serial == y.Sent.Serial) && ((x.Sent.Zone == y.Sent.Zone) && true))) && (((x.Got.Report == y.Got.Report) && ((x.Got.Serial == y.Got.Serial) && ((x.Got.Zone == y.Got.Zone) && true))) && true))))))) = decide (x = y) := by
 obtain ⟨a, b, c, d, e, ⟨s1, s2, s3⟩, ⟨g1, g2, g3⟩⟩ := x
 obtain ⟨a', b', c', d', e', ⟨s1', s2', s3'⟩, ⟨g1', g2', g3'⟩⟩ := y
 rw [Bool.eq_iff_iff]
 simp only [Bool.and_eq_true, beq_iff_eq, and_true, decide_eq_true_eq, Line.mk.injEq, Ad.mk.injEq]
theorem SO (a b : List Line) (ha : a.length < 4000000000) (hN : 4294967300 < N) : Bi N a b = some (decide (a = b)) := by
 unfold Bi
 rw [Q4]
 by_cases h : a.length = b.length
 ·rw [decide_eq_true h, Bool.not_true, cond_false]
  exact Pw a b h (by omega) (fun i h1 h2 => by
   unfold A6
   rw [Ez h1, cond_true, Ch h1, Ch h2]
   simp only [Option.bind_some]
   rw [Uc, HG i (by omega)]
   cases decide (a[i] = b[i]) <;> rfl) (by
   unfold A6
   rw [Dr, cond_false])
 ·rw [decide_eq_false h, O4 h]; rfl
theorem U4 (x y : Log) : (x.Call = y.Call /\ x.Category = y.Category /\ x.Power = y.Power /\ x.Claimed = y.Claimed /\ x.Jumps = y.Jumps /\ x.Lines = y.Lines) ↔ x = y := by
 cases x; cases y; simp only [Log.mk.injEq]
theorem U3 (x y : Log) (hj : x.Jumps.length < 9223372036854775808) (hjN : x.Jumps.length < N) (hl : x.Lines.length < 4000000000) (hN : 4294967300 < N) : Iw N x y = some (decide (x = y)) := by
 unfold Iw
 rw [SP _ _ hj hjN, SO _ _ hl hN, He, He, He, He]
 simp only [Option.bind_some]
 rw [show decide (x = y) = (decide (x.Call = y.Call) && (decide (x.Category = y.Category) && (decide (x.Power = y.Power) && (decide (x.Claimed = y.Claimed) && (decide (x.Jumps = y.Jumps) && decide (x.Lines = y.Lines)))))) by
  rw [<- Bool.decide_and, <- Bool.decide_and, <- Bool.decide_and, <- Bool.decide_and, <- Bool.decide_and, decide_eq_decide]; exact (U4 x y).symm]
 cases decide (x.Call = y.Call) <;> cases decide (x.Category = y.Category) <;> cases decide (x.Power = y.Power) <;> cases decide (x.Claimed = y.Claimed) <;> cases decide (x.Jumps = y.Jumps) <;> rfl
end
section
variable {N : Nat}
theorem PP {α : Type} {l : List α} {i j : Nat} (h : i <= j) (hj : j <= l.length) : sub l (i : Int) (j : Int) = some ((l.take j).drop i) := by
 unfold sub
 rw [if_pos ⟨by omega, by omega, by omega⟩]
 simp
end

section
open Go.Lib (decDigits)
def Q3 : Line := { Num := 0, Khz := 0, Mode := 0, Minute := 0, Call := [], Sent := { Report := 0, Serial := 0, Zone := 0 }, Got := { Report := 0, Serial := 0, Zone := 0 } }
noncomputable def paL (o : Ac) (s : WE) : Line × Int := match Jh o s with
 | some x => (x, 0)
 | none => (Q3, 20)
theorem TU {o : Ac} {x : Line} (h : Cr o x = true) : paL o (BB o x) = (x, 0) := by
 unfold paL; rw [D6.2 ⟨h, rfl⟩]
theorem JN {o : Ac} {s : WE} (h : ∀ x, Cr o x = true -> BB o x ≠ s) : paL o s = (Q3, 20) := by
 unfold paL; rw [O2.2 h]
theorem Fh {α : Type} {l : List α} (n : Nat) {w : α} (h : l[n]? = some w) : idx l (n : Int) = some w := by
 have hn : n < l.length := by
  rcases Nat.lt_or_ge n l.length with h' | h'
  ·exact h'
  ·rw [List.getElem?_eq_none h'] at h; cases h
 rw [Ch hn]
 rwa [List.getElem?_eq_getElem hn] at h
def Ln (l : List WE) : Nat := (l.map fun w => w.length + 1).sum
theorem Mi : ∀ (l : List WE), (jn l).length = Ln l - 1
 | [] => rfl
 | [x] => by rw [De]; simp [Ln]
 | x :: y :: l => by
  have ih := Mi (y :: l)
  rw [CM (by simp), List.length_append, List.length_cons, ih]
  simp only [Ln, List.map_cons, List.sum_cons]
  omega
theorem Mh {a b : List WE} (h : a.Sublist b) : Ln a <= Ln b := by
 induction h with
 | slnil => exact Nat.le_refl _
 | cons x _ ih => simp only [Ln, List.map_cons, List.sum_cons] at ih ⊢; omega
 | cons_cons x _ ih => simp only [Ln, List.map_cons, List.sum_cons] at ih ⊢; omega
theorem JV (l : List WE) : l.length <= Ln l := by
 induction l with
 | nil => exact Nat.le_refl _
 | cons x l ih => simp only [Ln, List.map_cons, List.sum_cons, List.length_cons] at ih ⊢; omega
theorem Ob (s : WE) : Ln (pcs 32 s) = s.length + 1 := by
 have h1 := Mi (pcs 32 s)
 have h2 := JV (pcs 32 s)
 have h3 := QQ 32 s
 rw [SW] at h1
 omega
theorem ON {s w : WE} (h : w ∈ pcs 32 s) : w.length <= s.length := by
 have h1 := Mh (List.singleton_sublist.2 h)
 rw [Ob] at h1
 simp only [Ln, List.map_cons, List.map_nil, List.sum_cons, List.sum_nil] at h1
 omega
section
variable {N : Nat}
theorem SN (l : List WE) (w : WE) (hl : l.length < 4000000000) (hN : 4294967300 < N) :
  (∃ k, ∃ h : k < l.length, AR N l w = some (k : Int) /\ l[k] = w /\ ∀ y, y ∈ l.take k -> y ≠ w) \/ (AR N l w = some (-1) /\ w ∉ l) := by
 have hb : ∀ i (h : i < l.length), AH N l w (i : Int) = some (bif decide (w = l[i]) then .ret (i : Int) else .next ((i + 1 : Nat) : Int)) := fun i h => by
  unfold AH
  rw [Ez h, cond_true, Ch h, Option.bind_some, He, HG i (by omega)]
  cases decide (w = l[i]) <;> rfl
 by_cases hw : w ∈ l
 ·have hex : ∃ k, ∃ h : k < l.length, l[k] = w /\ ∀ i (hi : i < l.length), i < k -> l[i] ≠ w := by
   obtain ⟨j, hj, e⟩ := List.getElem_of_mem hw
   have : ∀ n j, j <= n -> ∀ hj : j < l.length, l[j] = w -> ∃ k, ∃ h : k < l.length, l[k] = w /\ ∀ i (hi : i < l.length), i < k -> l[i] ≠ w := by
    intro n
    induction n with
    | zero => intro j hjn hj e; exact ⟨j, hj, e, fun i _ hij => by omega⟩
    | succ n ih =>
     intro j hjn hj e
     by_cases hx : ∃ i, ∃ h : i < l.length, i < j /\ l[i] = w
     ·obtain ⟨i, hi, hij, e'⟩ := hx
      exact ih i (by omega) hi e'
     ·exact ⟨j, hj, e, fun i hi hij e' => hx ⟨i, hi, hij, e'⟩⟩
   exact this j j (Nat.le_refl _) hj e
  obtain ⟨k, hk, e, hm⟩ := hex
  refine .inl ⟨k, hk, ?_, e, fun y hy => ?_⟩
  ·unfold AR
   have := FX (N := N) (body := AH N l w) (fun i => (i : Int)) (o := .ret (k : Int)) k (fun i hi => by
    rw [hb i (by omega), decide_eq_false (fun e' => hm i (by omega) hi e'.symm)]; rfl) (by rw [hb k hk, decide_eq_true e.symm]; rfl) (fun _ h => by cases h) (by omega)
   rw [show (0 : Int) = ((0 : Nat) : Int) from rfl, this]
   rfl
  ·rw [List.mem_take_iff_getElem] at hy
   obtain ⟨j, hj, rfl⟩ := hy
   exact hm j (by omega) (by omega)
 ·refine .inr ⟨?_, hw⟩
  unfold AR
  have := FX (N := N) (body := AH N l w) (fun i => (i : Int)) (o := .done (l.length : Int)) l.length (fun i hi => by
   rw [hb i hi, decide_eq_false (fun e' => hw (by rw [e']; exact List.getElem_mem hi))]; rfl) (by
   unfold AH
   rw [Dr, cond_false]) (fun _ h => by cases h) (by omega)
  rw [show (0 : Int) = ((0 : Nat) : Int) from rfl, this]
  rfl
theorem NJ (w : WE) (hw : w.length < 4000000000) : ∃ r, AG N w = some r := by
 have hb := @Go.Lib.atoiAll_bounds w
 have hs := Go.Lib.atoiSat_bounds w
 unfold AG BU
 rw [if_pos (by omega)]
 cases h : Go.Lib.atoiAll w with
 | ok v =>
  have := hb h
  rw [Option.bind_some]
  simp only [Bool.not_false, cond_true]
  unfold strconv_Itoa
  rw [if_pos (by omega)]
  exact ⟨_, rfl⟩
 | range => exact ⟨_, rfl⟩
 | _ => exact ⟨_, rfl⟩
theorem JQ (u : Nat) (h : u <= 100000000) : ∃ b, AG N (decDigits u) = some ((u : Int), b) := by
 have hl : (decDigits u).length <= 9 := G3 8 u (by omega)
 unfold AG BU
 rw [if_pos (by omega), Go.Lib.atoiAll_short _ (by omega), M3 (H1 u) (by have := MK u; omega), Kw]
 rw [show (Go.Lib.NumEnd.ofOption (some (u : Int))) = .ok (u : Int) from rfl]
 simp only [Option.bind_some, Bool.not_false, cond_true]
 rw [Md u (by omega)]
 exact ⟨_, rfl⟩
theorem Qi {m : Int} (h : 1 <= m /\ m <= 3) : strings_Index N ([32, 77, 86, 68] : WE) (Jn m) = some m := by
 have : m = 1 \/ m = 2 \/ m = 3 := by omega
 rcases this with rfl | rfl | rfl <;> rfl
theorem pT {t : WE} (h : t.length < 4294967281) : EO N t = some (GU t) := if_pos h
theorem pX {L : Ac} {t : WE} (h : t.length < 4294967281) : Ck N L t = some (BV L t) := if_pos h
theorem SM {m : List WE} (h : Ln m < 4294967296) : strings_Join N m [32] = some (jn m) := by
 have h1 := Mi m
 have h2 := JV m
 unfold jn at h1
 unfold strings_Join
 rw [if_pos ⟨by omega, by omega⟩]; rfl
structure Vu (o : Ac) (l : List WE) (k : Nat) (x : Line) : Prop where
 a : l[1]? = some (decDigits x.Num.toNat)
 b : l[2]? = some (decDigits x.Khz.toNat)
 c : l[3]? = some (Jn x.Mode)
 d : ∀ t u, l[4]? = some t -> l[5]? = some u -> t ++ [32] ++ u = E9 x.Minute.toNat
 e : l[6]? = some x.Call
 f : l[7]? = some [62]
 n : 9 <= l.length /\ 8 <= k
 s : (l.take k).drop 8 = fsw o x.Sent
 g : l.drop (k + 1) = fsw o x.Got
theorem V5 {o : Ac} {x : Line} (h : Cr o x = true) {k : Nat} (hk : k < (pcs 32 (BB o x)).length) (h60 : (pcs 32 (BB o x))[k] = [60]) (hp : ∀ y, y ∈ (pcs 32 (BB o x)).take k -> y ≠ [60]) : Vu o (pcs 32 (BB o x)) k x := by
 have hx := BQ.1 h
 have hl := Fv hx
 generalize pcs 32 (BB o x) = l at *
 have h1 : l = l.take k ++ [60] :: l.drop (k + 1) := by
  rw [<- h60, List.getElem_cons_drop, List.take_append_drop]
 have h2 : D7 o x = (Hm x ++ fsw o x.Sent) ++ [60] :: fsw o x.Got := by unfold D7; rw [List.append_assoc]
 obtain ⟨e1, e2⟩ := LS (a := l.take k) (b := l.drop (k + 1)) (c := Hm x ++ fsw o x.Sent) (d := fsw o x.Got) hp (by
  intro w hw
  rcases List.mem_append.1 hw with h' | h'
  ·exact (NM hx w h').2
  ·exact (Fy hx.s w h').2.1) (by rw [<- h1, <- h2, hl])
 have hk8 : k = 8 + (fsw o x.Sent).length := by
  have := congrArg List.length e1
  rw [List.length_take, List.length_append, NN] at this
  omega
 refine ⟨by rw [hl]; rfl, by rw [hl]; rfl, by rw [hl]; rfl, fun t u ht hu => ?_, by rw [hl]; rfl, by rw [hl]; rfl, ⟨by omega, by omega⟩, by rw [e1]; rfl, e2⟩
 rw [hl] at ht hu
 have : E9 x.Minute.toNat = jn (tW x.Minute.toNat) := OO _
 rw [this]
 unfold tW
 rw [CM (by simp), De]
 have ht' : some (decDigits (x.Minute.toNat / 1440 + 1)) = some t := ht
 have hu' : some (dP 2 (x.Minute.toNat / 60 % 24) ++ dP 2 (x.Minute.toNat % 60)) = some u := hu
 cases ht'; cases hu'
 simp
theorem O9 (o : Ac) (s : WE) (hs : s.length <= 1000000000) (hN : 4294967300 < N) : Dd N o s = some (paL o s) := by
 unfold Dd
 rw [show ({ Report := o.Report, Serial := o.Serial, Zone := o.Zone } : Ac) = o from rfl, LF 32 (by omega), Option.bind_some]
 have hsum := Ob s
 have hlen := JV (pcs 32 s)
 have hwl : ∀ w, w ∈ pcs 32 s -> w.length <= s.length := fun w hw => ON hw
 have hhit : ∀ {x : Line} {k : Nat} (h : Cr o x = true) (he : BB o x = s) (hk : k < (pcs 32 s).length) (h60 : (pcs 32 s)[k] = [60]) (hp : ∀ y, y ∈ (pcs 32 s).take k -> y ≠ [60]), Vu o (pcs 32 s) k x := by
  intro x k h he hk h60 hp
  subst he
  exact V5 h hk h60 hp
 have hsix : ∀ {x : Line} (h : Cr o x = true) (he : BB o x = s), [60] ∈ pcs 32 s := by
  intro x h he
  subst he
  rw [Fv (BQ.1 h)]
  unfold D7; simp
 generalize pcs 32 s = l at *
 rcases SN (N := N) l [60] (by omega) hN with ⟨k, hk, hi, h60, hp⟩ | ⟨hi, hno⟩
 ·rw [hi, Option.bind_some]
  by_cases hg : 9 <= l.length /\ 8 <= k /\ l[7]? = some [62]
  ·obtain ⟨g1, g2, g3⟩ := hg
   rw [decide_eq_false (show ¬ (l.length : Int) < 9 by omega), cond_false, decide_eq_false (show ¬ (k : Int) < 8 by omega), cond_false, show idx l 7 = some [62] from Fh 7 g3]
   rw [show ((some ([62] : WE)).bind fun x62 => some (x62 != ([62] : WE))) = some false from rfl, Option.bind_some, cond_false]
   have hit : ∀ x, Cr o x = true -> BB o x = s -> Vu o l k x := fun x h he => hhit h he hk h60 hp
   obtain ⟨w1, e1⟩ : ∃ w, l[1]? = some w := ⟨_, List.getElem?_eq_getElem (by omega)⟩
   obtain ⟨w2, e2⟩ : ∃ w, l[2]? = some w := ⟨_, List.getElem?_eq_getElem (by omega)⟩
   obtain ⟨w3, e3⟩ : ∃ w, l[3]? = some w := ⟨_, List.getElem?_eq_getElem (by omega)⟩
   obtain ⟨w4, e4⟩ : ∃ w, l[4]? = some w := ⟨_, List.getElem?_eq_getElem (by omega)⟩
   obtain ⟨w5, e5⟩ : ∃ w, l[5]? = some w := ⟨_, List.getElem?_eq_getElem (by omega)⟩
   obtain ⟨w6, e6⟩ : ∃ w, l[6]? = some w := ⟨_, List.getElem?_eq_getElem (by omega)⟩
   have z1 := hwl _ (List.mem_of_getElem? e1)
   have z2 := hwl _ (List.mem_of_getElem? e2)
   have z4 := hwl _ (List.mem_of_getElem? e4)
   have z5 := hwl _ (List.mem_of_getElem? e5)
   have z6 := hwl _ (List.mem_of_getElem? e6)
   have n1 : ∃ r, AG N w1 = some r /\ ∀ x, Cr o x = true -> BB o x = s -> r.1 = x.Num := by
    obtain ⟨r, hr⟩ := NJ (N := N) w1 (by omega)
    refine ⟨r, hr, fun x h he => ?_⟩
    have H := (hit x h he).a
    have hx := (BQ.1 h).n
    rw [e1] at H
    cases H
    obtain ⟨b, hb⟩ := JQ (N := N) x.Num.toNat (by omega)
    rw [hb] at hr
    cases hr
    show ((x.Num.toNat : Nat) : Int) = x.Num
    omega
   have n2 : ∃ r, AG N w2 = some r /\ ∀ x, Cr o x = true -> BB o x = s -> r.1 = x.Khz := by
    obtain ⟨r, hr⟩ := NJ (N := N) w2 (by omega)
    refine ⟨r, hr, fun x h he => ?_⟩
    have H := (hit x h he).b
    have hx := (BQ.1 h).k
    rw [e2] at H
    cases H
    obtain ⟨b, hb⟩ := JQ (N := N) x.Khz.toNat (by omega)
    rw [hb] at hr
    cases hr
    show ((x.Khz.toNat : Nat) : Int) = x.Khz
    omega
   have n3 : ∃ r, strings_Index N ([32, 77, 86, 68] : WE) w3 = some r /\ ∀ x, Cr o x = true -> BB o x = s -> r = x.Mode := by
    refine ⟨_, if_pos (by decide), fun x h he => ?_⟩
    have H := (hit x h he).c
    rw [e3] at H
    cases H
    have := Qi (N := N) (BQ.1 h).m
    unfold strings_Index at this
    rw [if_pos (by decide)] at this
    exact Option.some.inj this
   obtain ⟨r1, hr1, k1⟩ := n1
   obtain ⟨r2, hr2, k2⟩ := n2
   obtain ⟨r3, hr3, k3⟩ := n3
   rw [show idx l 1 = some w1 from Fh 1 e1, Option.bind_some, hr1, Option.bind_some, show idx l 2 = some w2 from Fh 2 e2, Option.bind_some, hr2, Option.bind_some]
   rw [show idx l 4 = some w4 from Fh 4 e4, Option.bind_some, AZ (by simp; omega), Option.bind_some, show idx l 5 = some w5 from Fh 5 e5, Option.bind_some, AZ (by simp; omega), Option.bind_some, pT (by simp; omega), Option.bind_some, Option.bind_some]
   have s1 : sub l 8 (k : Int) = some ((l.take k).drop 8) := PP (i := 8) g2 (by omega)
   have s2 : sub l (W64 ((k : Int) + 1)) (l.length : Int) = some (l.drop (k + 1)) := by
    rw [HG k (by omega), PP (by omega) (Nat.le_refl _), List.take_length]
   have j1 := Mh ((List.drop_sublist 8 (l.take k)).trans (List.take_sublist k l))
   have j2 := Mh (List.drop_sublist (k + 1) l)
   have jl1 := Mi ((l.take k).drop 8)
   have jl2 := Mi (l.drop (k + 1))
   rw [s1, Option.bind_some, SM (by omega), Option.bind_some, pX (by omega), Option.bind_some, Option.bind_some, s2, Option.bind_some, SM (by omega), Option.bind_some, pX (by omega), Option.bind_some, Option.bind_some]
   rw [show idx l 3 = some w3 from Fh 3 e3, Option.bind_some, show idx l 6 = some w6 from Fh 6 e6, Option.bind_some, hr3, Option.bind_some, Option.bind_some]
   have ky : ∀ x, Cr o x = true -> BB o x = s -> ({ Num := r1.1, Khz := r2.1, Mode := r3, Minute := (GU (w4 ++ [32] ++ w5)).1, Call := w6, Sent := { Report := (BV o (jn ((l.take k).drop 8))).1.Report, Serial := (BV o (jn ((l.take k).drop 8))).1.Serial, Zone := (BV o (jn ((l.take k).drop 8))).1.Zone }, Got := { Report := (BV o (jn (l.drop (k + 1)))).1.Report, Serial := (BV o (jn (l.drop (k + 1)))).1.Serial, Zone := (BV o (jn (l.drop (k + 1)))).1.Zone } } : Line) = x := by
    intro x h he
    have H := hit x h he
    have hx := BQ.1 h
    have t1 := H.d w4 w5 e4 e5
    have t2 := H.e
    rw [e6] at t2
    cases t2
    rw [k1 x h he, k2 x h he, k3 x h he, t1, Jg (by have := hx.t; omega), H.s, H.g, <- HF, <- HF, FQ hx.s, FQ hx.g]
    have := hx.t
    show ({ Num := x.Num, Khz := x.Khz, Mode := x.Mode, Minute := ((x.Minute.toNat : Nat) : Int), Call := x.Call, Sent := x.Sent, Got := x.Got } : Line) = x
    rw [show ((x.Minute.toNat : Nat) : Int) = x.Minute by omega]
   have hf : RS ({ Num := r1.1, Khz := r2.1, Mode := r3, Minute := (GU (w4 ++ [32] ++ w5)).1, Call := w6, Sent := { Report := (BV o (jn ((l.take k).drop 8))).1.Report, Serial := (BV o (jn ((l.take k).drop 8))).1.Serial, Zone := (BV o (jn ((l.take k).drop 8))).1.Zone }, Got := { Report := (BV o (jn (l.drop (k + 1)))).1.Report, Serial := (BV o (jn (l.drop (k + 1)))).1.Serial, Zone := (BV o (jn (l.drop (k + 1)))).1.Zone } } : Line) := by
    show w6.length < 4000000000
    omega
   simp only
   generalize ({ Num := r1.1, Khz := r2.1, Mode := r3, Minute := (GU (w4 ++ [32] ++ w5)).1, Call := w6, Sent := { Report := (BV o (jn ((l.take k).drop 8))).1.Report, Serial := (BV o (jn ((l.take k).drop 8))).1.Serial, Zone := (BV o (jn ((l.take k).drop 8))).1.Zone }, Got := { Report := (BV o (jn (l.drop (k + 1)))).1.Report, Serial := (BV o (jn (l.drop (k + 1)))).1.Serial, Zone := (BV o (jn (l.drop (k + 1)))).1.Zone } } : Line) = y at ky hf ⊢
   rw [K0 o y hf hN, Option.bind_some]
   unfold prL
   cases hv : Cr o y with
   | false =>
    rw [if_neg (by simp)]
    rw [JN (fun x h he => by
     have := ky x h he
     rw [this, h] at hv; cases hv)]
    rfl
   | true =>
    rw [if_pos rfl]
    simp only [bne_self_eq_false, Bool.false_or]
    by_cases he : BB o y = s
    ·subst he
     rw [TU hv]
     simp
    ·rw [JN (fun x h he' => by
      have := ky x h he'
      rw [this] at he
      exact he he')]
     rw [show (BB o y != s) = true by simpa using he]
     rfl
  ·have hb : (bif (decide ((l.length : Int) < 9)) then some true else (bif (decide ((k : Int) < 8)) then some true else ((idx l 7).bind fun x62 => some (x62 != ([62] : WE))))) = some true := by
    by_cases g1 : 9 <= l.length
    ·rw [decide_eq_false (show ¬ (l.length : Int) < 9 by omega), cond_false]
     by_cases g2 : 8 <= k
     ·rw [decide_eq_false (show ¬ (k : Int) < 8 by omega), cond_false]
      obtain ⟨w7, e7⟩ : ∃ w, l[7]? = some w := ⟨_, List.getElem?_eq_getElem (by omega)⟩
      rw [show idx l 7 = some w7 from Fh 7 e7, Option.bind_some]
      have : w7 ≠ [62] := fun e => hg ⟨g1, g2, by rw [e7, e]⟩
      rw [show (w7 != ([62] : WE)) = true by simpa using this]
     ·rw [decide_eq_true (show (k : Int) < 8 by omega), cond_true]
    ·rw [decide_eq_true (show (l.length : Int) < 9 by omega), cond_true]
   rw [hb, Option.bind_some, cond_true, JN (fun x h he => hg (by
    have H := hhit h he hk h60 hp
    exact ⟨H.n.1, H.n.2, H.f⟩))]
   rfl
 ·rw [hi, Option.bind_some]
  have hb : (bif (decide ((l.length : Int) < 9)) then some true else (bif (decide ((-1 : Int) < 8)) then some true else ((idx l 7).bind fun x62 => some (x62 != ([62] : WE))))) = some true := by
   cases decide ((l.length : Int) < 9) <;> rfl
  rw [hb, Option.bind_some, cond_true, JN (fun x h he => hno (hsix h he))]
  rfl
end
end
section
open Go.Lib (decDigits)
theorem Iu {t p : WE} (h : Go.Lib.hasPrefix t p = true) : t = p ++ Go.Lib.trimPrefix t p := by
 unfold Go.Lib.trimPrefix
 rw [if_pos h]
 unfold Go.Lib.hasPrefix at h
 rw [List.isPrefixOf_iff_prefix] at h
 obtain ⟨r, rfl⟩ := h
 simp
theorem LD (p r : WE) : Go.Lib.hasPrefix (p ++ r) p = true /\ Go.Lib.trimPrefix (p ++ r) p = r := by
 have : Go.Lib.hasPrefix (p ++ r) p = true := by
  unfold Go.Lib.hasPrefix
  rw [List.isPrefixOf_iff_prefix]
  exact ⟨r, rfl⟩
 refine ⟨this, ?_⟩
 unfold Go.Lib.trimPrefix
 rw [if_pos this]; simp
def EU : Log := { Call := [], Category := 0, Power := 0, Claimed := 0, Jumps := [], Lines := [] }
noncomputable def hdr (k : Nat) (l : Log) (t : WE) : Option Log := @dite _ (∃ v, hdV v k = true /\ hdT v k = t) (Classical.propDecidable _) (fun h => some (hdS k (Classical.choose h) l)) (fun _ => none)
theorem Pm {k : Nat} {l v : Log} {t : WE} (h1 : hdV v k = true) (h2 : hdT v k = t) : hdr k l t = some (hdS k v l) := by
 unfold hdr
 have hex : ∃ v, hdV v k = true /\ hdT v k = t := ⟨v, h1, h2⟩
 rw [dif_pos hex]
 have h3 := Classical.choose_spec hex
 rw [U9 h3.1 h1 (h3.2.trans h2.symm)]
theorem S5 {k : Nat} {l : Log} {t : WE} (h : ∀ v, hdV v k = true -> hdT v k ≠ t) : hdr k l t = none := by
 unfold hdr
 rw [dif_neg (fun ⟨v, h1, h2⟩ => h v h1 h2)]
theorem Fx (k : Nat) (t : WE) : (∃ v, hdV v k = true /\ hdT v k = t /\ ∀ l, hdr k l t = some (hdS k v l)) \/ ((∀ v, hdV v k = true -> hdT v k ≠ t) /\ ∀ l, hdr k l t = none) := by
 by_cases h : ∃ v, hdV v k = true /\ hdT v k = t
 ·obtain ⟨v, h1, h2⟩ := h
  exact .inl ⟨v, h1, h2, fun l => Pm h1 h2⟩
 ·have : ∀ v, hdV v k = true -> hdT v k ≠ t := fun v h1 h2 => h ⟨v, h1, h2⟩
  exact .inr ⟨this, fun l => S5 this⟩
def HR (k : Nat) (st : Ai) (t : WE) (r : Ai × Bool) : Prop := match hdr k st.l_ t with
 | some l' => r = (⟨st.o_, l', st.done_, st.ended_⟩, true)
 | none => r.2 = false
section
variable {N : Nat}
theorem FS (w : WE) (hw : w.length < 4000000000) : ∃ r, AG N w = some r /\ (r.2 = true -> w = Go.Lib.itoa r.1) := by
 have hb := @Go.Lib.atoiAll_bounds w
 unfold AG BU
 rw [if_pos (by omega)]
 cases h : Go.Lib.atoiAll w with
 | ok v =>
  have := hb h
  rw [Option.bind_some]
  simp only [Bool.not_false, cond_true]
  unfold strconv_Itoa
  rw [if_pos (by omega)]
  refine ⟨_, rfl, fun h => ?_⟩
  have : (Go.Lib.itoa v == w) = true := h
  rw [beq_iff_eq] at this
  exact this.symm
 | range => exact ⟨_, rfl, fun h => by cases h⟩
 | _ => exact ⟨_, rfl, fun h => by cases h⟩
theorem GV (u : Nat) (h : u <= 100000000) : AG N (decDigits u) = some ((u : Int), true) := by
 have hl : (decDigits u).length <= 9 := G3 8 u (by omega)
 unfold AG BU
 rw [if_pos (by omega), Go.Lib.atoiAll_short _ (by omega), M3 (H1 u) (by have := MK u; omega), Kw]
 rw [show (Go.Lib.NumEnd.ofOption (some (u : Int))) = .ok (u : Int) from rfl]
 simp only [Option.bind_some, Bool.not_false, cond_true]
 rw [Md u (by omega), Option.bind_some, beq_self_eq_true]
 rfl
theorem GZ {v : Int} (h : 0 <= v) : Go.Lib.itoa v = decDigits v.toNat := by
 have := Go.Lib.itoa_nonneg v.toNat
 rwa [Int.toNat_of_nonneg h] at this
theorem T2 (st : Ai) (t : WE) : ∃ r, Eg N st t = some r /\ HR 0 st t r := by
 unfold Eg strings_CutPrefix HR
 rw [Option.bind_some]
 rcases Fx 0 t with ⟨v, h1, h2, h3⟩ | ⟨h1, h3⟩
 ·rw [h3]
  have e : t = [67, 65, 76, 76, 32] ++ v.Call := by rw [<- h2, Um]
  obtain ⟨p1, p2⟩ := LD [67, 65, 76, 76, 32] v.Call
  rw [e, p1, p2]
  have hv : Ed v.Call = true := h1
  simp only [cond_true]
  refine ⟨_, rfl, ?_⟩
  rw [hv]; rfl
 ·rw [h3]
  cases hp : Go.Lib.hasPrefix t [67, 65, 76, 76, 32] with
  | false => exact ⟨_, rfl, rfl⟩
  | true =>
   refine ⟨_, rfl, ?_⟩
   have e := Iu hp
   cases hv : Ed (Go.Lib.trimPrefix t [67, 65, 76, 76, 32]) with
   | false => rfl
   | true => exact absurd (by rw [Um]; exact e.symm) (h1 { EU with Call := Go.Lib.trimPrefix t [67, 65, 76, 76, 32] } hv)
theorem UY (st : Ai) (t : WE) (ht : t.length <= 1000000000) : ∃ r, C4 N st t ([67, 65, 84, 69, 71, 79, 82, 89] : WE) 1 9 = some r /\ HR 1 st t r := by
 unfold C4 strings_CutPrefix HR
 rw [AZ (by decide), Option.bind_some, Option.bind_some, show ([67, 65, 84, 69, 71, 79, 82, 89] : WE) ++ ([32] : WE) = ([67, 65, 84, 69, 71, 79, 82, 89, 32] : WE) from rfl]
 have hlt := Go.Lib.trimPrefix_le t ([67, 65, 84, 69, 71, 79, 82, 89, 32] : WE)
 rcases Fx 1 t with ⟨v, h1, h2, h3⟩ | ⟨h1, h3⟩
 ·rw [h3]
  have e : t = ([67, 65, 84, 69, 71, 79, 82, 89, 32] : WE) ++ decDigits v.Category.toNat := by rw [<- h2, Ul]
  obtain ⟨p1, p2⟩ := LD ([67, 65, 84, 69, 71, 79, 82, 89, 32] : WE) (decDigits v.Category.toNat)
  have hv : 1 <= v.Category /\ v.Category <= 9 := by have : decide (1 <= v.Category /\ v.Category <= 9) = true := h1; simpa using this
  rw [e, p1, p2, GV _ (by omega), Option.bind_some, show ((v.Category.toNat : Nat) : Int) = v.Category by omega]
  simp only [Bool.not_true, cond_false]
  rw [lw, decide_eq_true hv.1, decide_eq_true hv.2]
  exact ⟨_, rfl, rfl⟩
 ·rw [h3]
  obtain ⟨r, hr, hr2⟩ := FS (N := N) (Go.Lib.trimPrefix t ([67, 65, 84, 69, 71, 79, 82, 89, 32] : WE)) (by omega)
  rw [hr, Option.bind_some]
  cases hp : Go.Lib.hasPrefix t ([67, 65, 84, 69, 71, 79, 82, 89, 32] : WE) with
  | false => exact ⟨_, rfl, rfl⟩
  | true =>
   simp only [Bool.not_true, cond_false]
   cases hb : r.2 with
   | false => exact ⟨_, rfl, rfl⟩
   | true =>
    simp only [Bool.not_true, cond_false]
    rw [lw]
    by_cases hw : 1 <= r.1 /\ r.1 <= 9
    ·exfalso
     have e := Iu hp
     rw [hr2 hb, GZ (by omega)] at e
     exact h1 { EU with Category := r.1 } (decide_eq_true hw) (by rw [Ul]; exact e.symm)
    ·have : (decide (1 <= r.1) && decide (r.1 <= 9)) = false := by
      rw [Bool.and_eq_false_iff, decide_eq_false_iff_not, decide_eq_false_iff_not]; omega
     rw [this]
     exact ⟨_, rfl, rfl⟩
theorem UW (st : Ai) (t : WE) (ht : t.length <= 1000000000) : ∃ r, C2 N st t ([80, 79, 87, 69, 82] : WE) 1 9999 = some r /\ HR 2 st t r := by
 unfold C2 strings_CutPrefix HR
 rw [AZ (by decide), Option.bind_some, Option.bind_some, show ([80, 79, 87, 69, 82] : WE) ++ ([32] : WE) = ([80, 79, 87, 69, 82, 32] : WE) from rfl]
 have hlt := Go.Lib.trimPrefix_le t ([80, 79, 87, 69, 82, 32] : WE)
 rcases Fx 2 t with ⟨v, h1, h2, h3⟩ | ⟨h1, h3⟩
 ·rw [h3]
  have e : t = ([80, 79, 87, 69, 82, 32] : WE) ++ decDigits v.Power.toNat := by rw [<- h2, Uk]
  obtain ⟨p1, p2⟩ := LD ([80, 79, 87, 69, 82, 32] : WE) (decDigits v.Power.toNat)
  have hv : 1 <= v.Power /\ v.Power <= 9999 := by have : decide (1 <= v.Power /\ v.Power <= 9999) = true := h1; simpa using this
  rw [e, p1, p2, GV _ (by omega), Option.bind_some, show ((v.Power.toNat : Nat) : Int) = v.Power by omega]
  simp only [Bool.not_true, cond_false]
  rw [lw, decide_eq_true hv.1, decide_eq_true hv.2]
  exact ⟨_, rfl, rfl⟩
 ·rw [h3]
  obtain ⟨r, hr, hr2⟩ := FS (N := N) (Go.Lib.trimPrefix t ([80, 79, 87, 69, 82, 32] : WE)) (by omega)
  rw [hr, Option.bind_some]
  cases hp : Go.Lib.hasPrefix t ([80, 79, 87, 69, 82, 32] : WE) with
  | false => exact ⟨_, rfl, rfl⟩
  | true =>
   simp only [Bool.not_true, cond_false]
   cases hb : r.2 with
   | false => exact ⟨_, rfl, rfl⟩
   | true =>
    simp only [Bool.not_true, cond_false]
    rw [lw]
    by_cases hw : 1 <= r.1 /\ r.1 <= 9999
    ·exfalso
     have e := Iu hp
     rw [hr2 hb, GZ (by omega)] at e
     exact h1 { EU with Power := r.1 } (decide_eq_true hw) (by rw [Uk]; exact e.symm)
    ·have : (decide (1 <= r.1) && decide (r.1 <= 9999)) = false := by
      rw [Bool.and_eq_false_iff, decide_eq_false_iff_not, decide_eq_false_iff_not]; omega
     rw [this]
     exact ⟨_, rfl, rfl⟩
theorem UX (st : Ai) (t : WE) (ht : t.length <= 1000000000) : ∃ r, C3 N st t ([67, 76, 65, 73, 77, 69, 68] : WE) 0 1000000 = some r /\ HR 3 st t r := by
 unfold C3 strings_CutPrefix HR
 rw [AZ (by decide), Option.bind_some, Option.bind_some, show ([67, 76, 65, 73, 77, 69, 68] : WE) ++ ([32] : WE) = ([67, 76, 65, 73, 77, 69, 68, 32] : WE) from rfl]
 have hlt := Go.Lib.trimPrefix_le t ([67, 76, 65, 73, 77, 69, 68, 32] : WE)
 rcases Fx 3 t with ⟨v, h1, h2, h3⟩ | ⟨h1, h3⟩
 ·rw [h3]
  have e : t = ([67, 76, 65, 73, 77, 69, 68, 32] : WE) ++ decDigits v.Claimed.toNat := by rw [<- h2, Uj]
  obtain ⟨p1, p2⟩ := LD ([67, 76, 65, 73, 77, 69, 68, 32] : WE) (decDigits v.Claimed.toNat)
  have hv : 0 <= v.Claimed /\ v.Claimed <= 1000000 := by have : decide (0 <= v.Claimed /\ v.Claimed <= 1000000) = true := h1; simpa using this
  rw [e, p1, p2, GV _ (by omega), Option.bind_some, show ((v.Claimed.toNat : Nat) : Int) = v.Claimed by omega]
  simp only [Bool.not_true, cond_false]
  rw [lw, decide_eq_true hv.1, decide_eq_true hv.2]
  exact ⟨_, rfl, rfl⟩
 ·rw [h3]
  obtain ⟨r, hr, hr2⟩ := FS (N := N) (Go.Lib.trimPrefix t ([67, 76, 65, 73, 77, 69, 68, 32] : WE)) (by omega)
  rw [hr, Option.bind_some]
  cases hp : Go.Lib.hasPrefix t ([67, 76, 65, 73, 77, 69, 68, 32] : WE) with
  | false => exact ⟨_, rfl, rfl⟩
  | true =>
   simp only [Bool.not_true, cond_false]
   cases hb : r.2 with
   | false => exact ⟨_, rfl, rfl⟩
   | true =>
    simp only [Bool.not_true, cond_false]
    rw [lw]
    by_cases hw : 0 <= r.1 /\ r.1 <= 1000000
    ·exfalso
     have e := Iu hp
     rw [hr2 hb, GZ (by omega)] at e
     exact h1 { EU with Claimed := r.1 } (decide_eq_true hw) (by rw [Uj]; exact e.symm)
    ·have : (decide (0 <= r.1) && decide (r.1 <= 1000000)) = false := by
      rw [Bool.and_eq_false_iff, decide_eq_false_iff_not, decide_eq_false_iff_not]; omega
     rw [this]
     exact ⟨_, rfl, rfl⟩
theorem S0 {l : List Int} (h : Hx l = true) : l.length <= 16 := by
 unfold Hx at h
 simp only [Bool.and_eq_true, decide_eq_true_eq] at h
 exact h.2.2
theorem Tm {α : Type} {l : List α} {x : α} (h : l.length + 1 < 4294967296) : D3 l [x] = some (l ++ [x]) := by
 unfold D3; rw [if_pos (by simp; omega)]
theorem hd0 : ∀ (M : List WE) (h : 0 < M.length), M = M[0] :: M.drop 1
 | a :: r, _ => rfl
theorem SK (st : Ai) (t : WE) (ht : t.length <= 1000000000) (hN : 4294967300 < N) : ∃ r, DU N st t = some r /\ HR 4 st t r := by
 unfold DU HR
 rw [LF 32 (by omega), Option.bind_some]
 have hne := GT 32 t
 have hlen := JV (pcs 32 t)
 rw [Ob] at hlen
 have hpos : 1 <= (pcs 32 t).length := by
  rcases Nat.eq_zero_or_pos (pcs 32 t).length with h | h
  ·exact absurd (List.length_eq_zero_iff.1 h) hne
  ·exact h
 rw [show sub (pcs 32 t) 1 ((pcs 32 t).length : Int) = some ((pcs 32 t).drop 1) by
  have := PP (l := pcs 32 t) (i := 1) (j := (pcs 32 t).length) hpos (Nat.le_refl _)
  rwa [List.take_length] at this, Option.bind_some]
 rcases Fx 4 t with ⟨v, h1, h2, h3⟩ | ⟨h1, h3⟩
 ·rw [h3]
  have hl : pcs 32 t = NV :: v.Jumps.map fun n => decDigits n.toNat := by rw [<- h2]; exact Qo h1
  have hj : Hx v.Jumps = true := h1
  have hjl := S0 hj
  have hja := IA hj
  rw [hl]
  rw [show (NV :: v.Jumps.map fun n => decDigits n.toNat).drop 1 = v.Jumps.map fun n => decDigits n.toNat from rfl]
  have key := FX (N := N) (body := Bc N st t (NV :: v.Jumps.map fun n => decDigits n.toNat) (v.Jumps.map fun n => decDigits n.toNat)) (fun i => (v.Jumps.take i, (i : Int))) (o := .done (v.Jumps, (v.Jumps.length : Int))) v.Jumps.length (fun i hi => by
   unfold Bc
   simp only [List.length_map]
   have hx := hja _ (List.getElem_mem hi)
   rw [Ez hi, cond_true, Ch (by simpa using hi), Option.bind_some, List.getElem_map, GV _ (by omega), Option.bind_some]
   simp only [Bool.not_true, cond_false]
   rw [Tm (by simp; omega), Option.bind_some, HG i (by omega), List.take_add_one, List.getElem?_eq_getElem hi, Int.toNat_of_nonneg (by omega)]
   rfl) (by
   unfold Bc
   simp only [List.length_map]
   rw [Dr, cond_false, List.take_length]) (fun _ h => by cases h) (by omega)
  rw [show (([] : List Int), (0 : Int)) = (v.Jumps.take 0, ((0 : Nat) : Int)) from rfl, key, Option.bind_some]
  show ∃ r, ((bif (NV == ([74, 85, 77, 80, 83] : WE)) then ((Db N v.Jumps).bind fun r143 => some r143) else some false).bind _) = some r /\ _
  rw [show (NV == ([74, 85, 77, 80, 83] : WE)) = true from rfl, cond_true, Of _ (by omega) hN, hj]
  exact ⟨_, rfl, rfl⟩
 ·rw [h3]
  have hjn := SW t
  generalize hL : pcs 32 t = L at *
  have hlt : (L.drop 1).length < N := by rw [List.length_drop]; omega
  have hwl : ∀ w, w ∈ L.drop 1 -> w.length <= t.length := fun w hw => ON (by rw [hL]; exact List.mem_of_mem_drop hw)
  have hl0 : L = L[0] :: L.drop 1 := hd0 L (by omega)
  obtain ⟨o, ho, hR⟩ := FY (body := Bc N st t L (L.drop 1)) (L.drop 1).length (fun i s => s.2 = (i : Int) /\ s.1.length = i /\ (L.drop 1).take i = s.1.map Go.Lib.itoa)
   (fun o => (∃ js k, o = .done (js, k) /\ L.drop 1 = js.map Go.Lib.itoa) \/ o = .ret (st, false)) (by
    rintro i ⟨js, q⟩ hi ⟨e1, e2, e3⟩
    simp only at e1 e2 e3
    subst e1
    by_cases h : i < (L.drop 1).length
    ·unfold Bc
     simp only
     rw [Ez h, cond_true, Ch h, Option.bind_some]
     obtain ⟨r, hr, hr2⟩ := FS (N := N) (L.drop 1)[i] (by have := hwl _ (List.getElem_mem h); omega)
     rw [hr, Option.bind_some]
     cases hb : r.2 with
     | false => exact .inr ⟨.ret (st, false), rfl, (fun _ e => by cases e), .inr rfl⟩
     | true =>
      have hll : (L.drop 1).length <= 1000000001 := by rw [List.length_drop]; omega
      refine .inl ⟨(js ++ [r.1], ((i + 1 : Nat) : Int)), ?_, ⟨rfl, by simp [e2], ?_⟩, h⟩
      ·simp only [Bool.not_true, cond_false]
       rw [Tm (by omega), Option.bind_some, HG i (by omega)]
      ·simp only
       rw [List.take_add_one, List.getElem?_eq_getElem h, e3, List.map_append, hr2 hb]; rfl
    ·have hii : i = (L.drop 1).length := by omega
     unfold Bc
     simp only
     rw [hii, Dr, cond_false]
     refine .inr ⟨_, rfl, (fun _ e => by cases e), .inl ⟨js, _, rfl, ?_⟩⟩
     rw [hii, List.take_length] at e3
     exact e3) (L.drop 1).length N 0 ([], 0) (by omega) ⟨rfl, rfl, by simp⟩ hlt
  rw [ho]
  rcases hR with ⟨js, k, rfl, hjs⟩ | rfl
  ·show ∃ r, (((idx L 0).bind fun x126 => (bif (x126 == ([74, 85, 77, 80, 83] : WE)) then ((Db N js).bind fun r143 => some r143) else some false)).bind _) = some r /\ _
   have hjl : js.length <= 1000000001 := by
    have := congrArg List.length hjs
    rw [List.length_drop, List.length_map] at this
    omega
   rw [show idx L 0 = some L[0] from Fh 0 (List.getElem?_eq_getElem (by omega)), Option.bind_some, Of js (by omega) hN, He]
   by_cases hw : L[0] = [74, 85, 77, 80, 83]
   ·rw [decide_eq_true hw, cond_true]
    cases hb : Hx js with
    | false => exact ⟨_, rfl, rfl⟩
    | true =>
     exfalso
     refine h1 { EU with Jumps := js } hb ?_
     have e1 : (js.map fun n => decDigits n.toNat) = js.map Go.Lib.itoa := List.map_congr_left fun n hn => (GZ (by have := IA hb n hn; omega)).symm
     show jn (NV :: js.map fun n => decDigits n.toNat) = t
     rw [e1, <- hjs, show NV = L[0] from hw.symm, <- hl0, hjn]
   ·rw [decide_eq_false hw, cond_false]
    exact ⟨_, rfl, rfl⟩
  ·exact ⟨_, rfl, rfl⟩
end
end
section
open Go.Lib (decDigits)
def Fw (l : List Line) (x : Line) : Bool := match l.getLast? with
 | some y => decide (y.Num < x.Num) && decide (y.Minute <= x.Minute)
 | none => true
noncomputable def Ew (o : Ac) (d : Nat) (l : Log) (e : Bool) (t : WE) : (Nat × Log × Bool) ⊕ Int :=
 if e = true then .inr 20
 else if d < 5 then (match hdr d l t with
  | some l' => .inl (d + 1, l', false)
  | none => .inr 20)
 else if t = M5 then .inl (d, l, true)
 else match Jh o t with
  | none => .inr 20
  | some x => if Fw l.Lines x = false then .inr 20 else if l.Lines.length = 400 then .inr 2 else .inl (d, { l with Lines := l.Lines ++ [x] }, false)
noncomputable def FK (o : Ac) : List (WE × Bool) -> Nat -> Nat -> Log -> Bool -> Log × Int × Int
 | [], n, _, l, e => if e = true then (l, 0, 0) else (EU, 20, (n : Int) + 1)
 | (t, c) :: r, n, d, l, e => if c = false then (EU, 20, (n : Int) + 1) else match Ew o d l e t with
  | .inl q => FK o r (n + 1) q.1 q.2.1 q.2.2
  | .inr k => (EU, k, (n : Int) + 1)
noncomputable def DX (o : Ac) (s : WE) : Log × Int × Int := if s.length > 65536 then (EU, 2, 0) else FK o (lnE s) 0 0 EU false
theorem GB (k : Nat) (v l : Log) : (hdS k v l).Lines = l.Lines := by
 unfold hdS; split <;> rfl
theorem RP {k : Nat} {l l' : Log} {t : WE} (h : hdr k l t = some l') : l'.Lines = l.Lines := by
 rcases Fx k t with ⟨v, _, _, h3⟩ | ⟨_, h3⟩
 ·rw [h3] at h; cases h; exact GB k v l
 ·rw [h3] at h; cases h
theorem PR {o : Ac} {d : Nat} {l : Log} {e : Bool} {t : WE} {q : Nat × Log × Bool} (hd : d <= 5) (hl : l.Lines.length <= 400) (h : Ew o d l e t = .inl q) : q.1 <= 5 /\ q.2.1.Lines.length <= 400 := by
 unfold Ew at h
 split at h
 ·cases h
 ·split at h
  ·rename_i h5
   split at h
   ·rename_i l' hh
    cases h
    refine ⟨by omega, ?_⟩
    rw [RP hh]; exact hl
   ·cases h
  ·split at h
   ·cases h; exact ⟨hd, hl⟩
   ·split at h
    ·cases h
    ·split at h
     ·cases h
     ·split at h
      ·cases h
      ·cases h
       refine ⟨hd, ?_⟩
       simp; omega
theorem PS {o : Ac} {d : Nat} {l : Log} {e : Bool} {t : WE} {k : Int} (h : Ew o d l e t = .inr k) : k = 20 \/ k = 2 := by
 unfold Ew at h
 split at h
 ·cases h; exact .inl rfl
 ·split at h
  ·split at h
   ·cases h
   ·cases h; exact .inl rfl
  ·split at h
   ·cases h
   ·split at h
    ·cases h; exact .inl rfl
    ·split at h
     ·cases h; exact .inl rfl
     ·split at h
      ·cases h; exact .inr rfl
      ·cases h
section
variable {N : Nat}
theorem RI (ls : List Line) (x : Line) (c : Int) (hl : ls.length <= 400) :
  (bif decide ((ls.length : Int) > 0) then ((idx ls (W64 ((ls.length : Int) - 1))).bind fun x134 => (bif (decide (x.Num <= x134.Num)) then some true else ((idx ls (W64 ((ls.length : Int) - 1))).bind fun x149 => (bif (decide (x.Minute < x149.Minute)) then some true else some (c != 0))))) else some (c != 0)) = some (!Fw ls x || (c != 0)) := by
 by_cases h : ls.length = 0
 ·have : ls = [] := List.length_eq_zero_iff.1 h
  subst this
  rfl
 ·rw [decide_eq_true (show (ls.length : Int) > 0 by omega), cond_true, UN _ (by omega) (by omega), Ch (by omega)]
  unfold Fw
  rw [List.getLast?_eq_getElem?, List.getElem?_eq_getElem (by omega)]
  simp only [Option.bind_some]
  generalize ls[ls.length - 1] = y
  by_cases h1 : x.Num <= y.Num
  ·rw [decide_eq_true h1, decide_eq_false (show ¬ y.Num < x.Num by omega)]; rfl
  ·rw [decide_eq_false h1, decide_eq_true (show y.Num < x.Num by omega), cond_false]
   by_cases h2 : x.Minute < y.Minute
   ·rw [decide_eq_true h2, decide_eq_false (show ¬ y.Minute <= x.Minute by omega)]; rfl
   ·rw [decide_eq_false h2, decide_eq_true (show y.Minute <= x.Minute by omega)]
    simp
def NX (N : Nat) (o : Ac) (d : Nat) (l : Log) (e : Bool) (t : WE) : Prop := match Ew o d l e t with
 | .inl q => AQ N ⟨o, l, (d : Int), e⟩ t = some (⟨o, q.2.1, (q.1 : Int), q.2.2⟩, true, false)
 | .inr k => ∃ q b, AQ N ⟨o, l, (d : Int), e⟩ t = some (q, false, b) /\ ((b = false /\ k = 20) \/ (b = true /\ k = 2))
theorem U0 (o : Ac) (d : Nat) (l : Log) (e : Bool) (t : WE) (hd : d <= 5) (hl : l.Lines.length <= 400) (ht : t.length <= 1000000000) (hN : 4294967300 < N) : NX N o d l e t := by
 unfold NX Ew
 cases e with
 | true =>
  rw [if_pos rfl]
  exact ⟨_, _, rfl, .inl ⟨rfl, rfl⟩⟩
 | false =>
  rw [if_neg (by simp)]
  by_cases h5 : d < 5
  ·rw [if_pos h5]
   have hcs : d = 0 \/ d = 1 \/ d = 2 \/ d = 3 \/ d = 4 := by omega
   rcases hcs with rfl | rfl | rfl | rfl | rfl
   ·obtain ⟨r, hr, hh⟩ := T2 (N := N) ⟨o, l, ((0 : Nat) : Int), false⟩ t
    unfold HR at hh
    unfold AQ
    rw [cond_false, show decide (((0 : Nat) : Int) < 5) = true from rfl, cond_true, show decide (((0 : Nat) : Int) = 0) = true from rfl, cond_true, hr, Option.bind_some]
    cases hx : hdr 0 l t with
    | none =>
     rw [show hdr 0 ({ o_ := o, l_ := l, done_ := ((0 : Nat) : Int), ended_ := false } : Ai).l_ t = none from hx] at hh
     have hh : r.2 = false := hh
     rw [hh]
     exact ⟨_, _, rfl, .inl ⟨rfl, rfl⟩⟩
    | some l' =>
     rw [show hdr 0 ({ o_ := o, l_ := l, done_ := ((0 : Nat) : Int), ended_ := false } : Ai).l_ t = some l' from hx] at hh
     have hh : r = (⟨o, l', ((0 : Nat) : Int), false⟩, true) := hh
     subst hh
     rfl
   ·obtain ⟨r, hr, hh⟩ := UY (N := N) ⟨o, l, ((1 : Nat) : Int), false⟩ t ht
    unfold HR at hh
    unfold AQ
    rw [cond_false, show decide (((1 : Nat) : Int) < 5) = true from rfl, cond_true, show decide (((1 : Nat) : Int) = 0) = false from rfl, cond_false, show decide (((1 : Nat) : Int) = 1) = true from rfl, cond_true, hr, Option.bind_some]
    cases hx : hdr 1 l t with
    | none =>
     rw [show hdr 1 ({ o_ := o, l_ := l, done_ := ((1 : Nat) : Int), ended_ := false } : Ai).l_ t = none from hx] at hh
     have hh : r.2 = false := hh
     rw [hh]
     exact ⟨_, _, rfl, .inl ⟨rfl, rfl⟩⟩
    | some l' =>
     rw [show hdr 1 ({ o_ := o, l_ := l, done_ := ((1 : Nat) : Int), ended_ := false } : Ai).l_ t = some l' from hx] at hh
     have hh : r = (⟨o, l', ((1 : Nat) : Int), false⟩, true) := hh
     subst hh
     rfl
   ·obtain ⟨r, hr, hh⟩ := UW (N := N) ⟨o, l, ((2 : Nat) : Int), false⟩ t ht
    unfold HR at hh
    unfold AQ
    rw [cond_false, show decide (((2 : Nat) : Int) < 5) = true from rfl, cond_true, show decide (((2 : Nat) : Int) = 0) = false from rfl, cond_false, show decide (((2 : Nat) : Int) = 1) = false from rfl, cond_false, show decide (((2 : Nat) : Int) = 2) = true from rfl, cond_true, hr, Option.bind_some]
    cases hx : hdr 2 l t with
    | none =>
     rw [show hdr 2 ({ o_ := o, l_ := l, done_ := ((2 : Nat) : Int), ended_ := false } : Ai).l_ t = none from hx] at hh
     have hh : r.2 = false := hh
     rw [hh]
     exact ⟨_, _, rfl, .inl ⟨rfl, rfl⟩⟩
    | some l' =>
     rw [show hdr 2 ({ o_ := o, l_ := l, done_ := ((2 : Nat) : Int), ended_ := false } : Ai).l_ t = some l' from hx] at hh
     have hh : r = (⟨o, l', ((2 : Nat) : Int), false⟩, true) := hh
     subst hh
     rfl
   ·obtain ⟨r, hr, hh⟩ := UX (N := N) ⟨o, l, ((3 : Nat) : Int), false⟩ t ht
    unfold HR at hh
    unfold AQ
    rw [cond_false, show decide (((3 : Nat) : Int) < 5) = true from rfl, cond_true, show decide (((3 : Nat) : Int) = 0) = false from rfl, cond_false, show decide (((3 : Nat) : Int) = 1) = false from rfl, cond_false, show decide (((3 : Nat) : Int) = 2) = false from rfl, cond_false, show decide (((3 : Nat) : Int) = 3) = true from rfl, cond_true, hr, Option.bind_some]
    cases hx : hdr 3 l t with
    | none =>
     rw [show hdr 3 ({ o_ := o, l_ := l, done_ := ((3 : Nat) : Int), ended_ := false } : Ai).l_ t = none from hx] at hh
     have hh : r.2 = false := hh
     rw [hh]
     exact ⟨_, _, rfl, .inl ⟨rfl, rfl⟩⟩
    | some l' =>
     rw [show hdr 3 ({ o_ := o, l_ := l, done_ := ((3 : Nat) : Int), ended_ := false } : Ai).l_ t = some l' from hx] at hh
     have hh : r = (⟨o, l', ((3 : Nat) : Int), false⟩, true) := hh
     subst hh
     rfl
   ·obtain ⟨r, hr, hh⟩ := SK (N := N) ⟨o, l, ((4 : Nat) : Int), false⟩ t ht hN
    unfold HR at hh
    unfold AQ
    rw [cond_false, show decide (((4 : Nat) : Int) < 5) = true from rfl, cond_true, show decide (((4 : Nat) : Int) = 0) = false from rfl, cond_false, show decide (((4 : Nat) : Int) = 1) = false from rfl, cond_false, show decide (((4 : Nat) : Int) = 2) = false from rfl, cond_false, show decide (((4 : Nat) : Int) = 3) = false from rfl, cond_false, show decide (((4 : Nat) : Int) = 4) = true from rfl, cond_true, hr, Option.bind_some]
    cases hx : hdr 4 l t with
    | none =>
     rw [show hdr 4 ({ o_ := o, l_ := l, done_ := ((4 : Nat) : Int), ended_ := false } : Ai).l_ t = none from hx] at hh
     have hh : r.2 = false := hh
     rw [hh]
     exact ⟨_, _, rfl, .inl ⟨rfl, rfl⟩⟩
    | some l' =>
     rw [show hdr 4 ({ o_ := o, l_ := l, done_ := ((4 : Nat) : Int), ended_ := false } : Ai).l_ t = some l' from hx] at hh
     have hh : r = (⟨o, l', ((4 : Nat) : Int), false⟩, true) := hh
     subst hh
     rfl
  ·rw [if_neg h5]
   unfold AQ
   rw [cond_false, decide_eq_false (show ¬ ((d : Nat) : Int) < 5 by omega), cond_false, show (t == ([69, 78, 68] : WE)) = decide (t = M5) from He _ _]
   by_cases hw : t = M5
   ·rw [if_pos hw, decide_eq_true hw]; rfl
   ·rw [if_neg hw, decide_eq_false hw, cond_false, show ({ Report := o.Report, Serial := o.Serial, Zone := o.Zone } : Ac) = o from rfl, O9 o t ht hN, Option.bind_some]
    rw [RI l.Lines (paL o t).1 (paL o t).2 hl, Option.bind_some]
    unfold paL
    cases hp : Jh o t with
    | none =>
     refine ⟨⟨o, l, (d : Int), false⟩, false, ?_, .inl ⟨rfl, rfl⟩⟩
     show (bif (!Fw l.Lines Q3 || ((20 : Int) != 0)) then _ else _) = _
     rw [show (!Fw l.Lines Q3 || ((20 : Int) != 0)) = true by simp]
     rfl
    | some x =>
     simp only [bne_self_eq_false, Bool.or_false]
     cases hlo : Fw l.Lines x with
     | false =>
      rw [if_pos rfl]
      exact ⟨_, _, rfl, .inl ⟨rfl, rfl⟩⟩
     | true =>
      rw [if_neg (by simp)]
      by_cases h4 : l.Lines.length = 400
      ·rw [if_pos h4]
       refine ⟨⟨o, l, (d : Int), false⟩, true, ?_, .inr ⟨rfl, rfl⟩⟩
       rw [Bool.not_true, cond_false, show ((l.Lines.length : Int) == 400) = true by rw [beq_iff_eq]; omega]
       rfl
      ·rw [if_neg h4]
       simp only
       rw [Bool.not_true, cond_false, show ((l.Lines.length : Int) == 400) = false by rw [beq_eq_false_iff_ne]; omega, cond_false, Tm (by omega)]
       rfl
theorem T8 : lnE [] = [] := rfl
theorem T9 {a b : WE} (h : (10 : UInt8) ∉ a) : lnE (a ++ 10 :: b) = (a, true) :: lnE b := by
 unfold lnE
 rw [FP h]
 have hn := GT 10 b
 generalize pcs 10 b = P at *
 match P, hn with
 | p :: r, _ =>
  rw [List.getLast?_cons_cons, List.dropLast_cons_cons]
  split <;> simp_all
theorem SS {s : WE} (h : (10 : UInt8) ∉ s) (hs : s ≠ []) : lnE s = [(s, false)] := by
 unfold lnE
 rw [ER h]
 match s, hs with
 | b :: s, _ => rfl
abbrev Tup := Int × Int × Bool × Bool × Bool × WE × Int × Int × Int × List Int × List Line × Int × Bool × Int
def tup (o : Ac) (l : Log) (d : Int) (e : Bool) (n : Int) : Tup := (0, 0, o.Report, o.Serial, o.Zone, l.Call, l.Category, l.Power, l.Claimed, l.Jumps, l.Lines, d, e, n)
theorem SJ (o : Ac) (s : WE) (d : Nat) (l : Log) (e : Bool) (n : Nat) (t : WE) (c : Bool) (hd : d <= 5) (hl : l.Lines.length <= 400) (ht : t.length <= 1000000000) (hn : n <= 1000000000) (hN : 4294967300 < N) :
  (if c = false then ∃ q : Tup, Be N o s (tup o l d e n) (t, c) = some (q, false) /\ q.1 = 20 /\ q.2.1 = (n : Int) + 1 else match Ew o d l e t with
   | .inl q => Be N o s (tup o l d e n) (t, c) = some (tup o q.2.1 q.1 q.2.2 ((n + 1 : Nat) : Int), true)
   | .inr k => ∃ q : Tup, Be N o s (tup o l d e n) (t, c) = some (q, false) /\ q.1 = k /\ q.2.1 = (n : Int) + 1) := by
 have hW : W64 ((n : Int) + 1) = (n : Int) + 1 := by rw [HG n (by omega)]; rfl
 cases c with
 | false =>
  rw [if_pos rfl]
  exact ⟨_, rfl, rfl, hW⟩
 | true =>
  rw [if_neg (by simp)]
  have hx := U0 (N := N) o d l e t hd hl ht hN
  unfold NX at hx
  have hstep : ∀ r, AQ N ⟨o, l, (d : Int), e⟩ t = some r -> Be N o s (tup o l d e n) (t, true) = (bif r.2.2 then some ((2, W64 ((n : Int) + 1), r.1.o_.Report, r.1.o_.Serial, r.1.o_.Zone, r.1.l_.Call, r.1.l_.Category, r.1.l_.Power, r.1.l_.Claimed, r.1.l_.Jumps, r.1.l_.Lines, r.1.done_, r.1.ended_, W64 ((n : Int) + 1)), false) else (bif !r.2.1 then some ((20, W64 ((n : Int) + 1), r.1.o_.Report, r.1.o_.Serial, r.1.o_.Zone, r.1.l_.Call, r.1.l_.Category, r.1.l_.Power, r.1.l_.Claimed, r.1.l_.Jumps, r.1.l_.Lines, r.1.done_, r.1.ended_, W64 ((n : Int) + 1)), false) else some ((0, 0, r.1.o_.Report, r.1.o_.Serial, r.1.o_.Zone, r.1.l_.Call, r.1.l_.Category, r.1.l_.Power, r.1.l_.Claimed, r.1.l_.Jumps, r.1.l_.Lines, r.1.done_, r.1.ended_, W64 ((n : Int) + 1)), true))) := by
   intro r hr
   unfold Be
   show ((bif true then ((AQ N ⟨o, l, (d : Int), e⟩ t).bind _) else _).bind _) = _
   rw [hr]
   rfl
  cases hs : Ew o d l e t with
  | inl q =>
   simp only [hs] at hx ⊢
   rw [hstep _ hx, hW]
   rfl
  | inr k =>
   simp only [hs] at hx ⊢
   obtain ⟨q, b, h1, h2⟩ := hx
   rw [hstep _ h1, hW]
   rcases h2 with ⟨rfl, rfl⟩ | ⟨rfl, rfl⟩ <;> exact ⟨_, rfl, rfl, rfl⟩
end
end
section
open Go.Lib (decDigits)
def fin (r : Tup × Bool) : Log × Int × Int := (bif r.2 then (bif (!r.1.2.2.2.2.2.2.2.2.2.2.2.2.1) then (EU, 20, (W64 (r.1.2.2.2.2.2.2.2.2.2.2.2.2.2 + 1))) else (({ Call := r.1.2.2.2.2.2.1, Category := r.1.2.2.2.2.2.2.1, Power := r.1.2.2.2.2.2.2.2.1, Claimed := r.1.2.2.2.2.2.2.2.2.1, Jumps := r.1.2.2.2.2.2.2.2.2.2.1, Lines := r.1.2.2.2.2.2.2.2.2.2.2.1 } : Log), 0, 0)) else (EU, r.1.1, r.1.2.1))
section
variable {N : Nat}
theorem OW (o : Ac) (s z : WE) (s0 : Tup × Bool) (hN : 4294967300 < N) : ∀ (M : Nat) (text : WE) (d : Nat) (l : Log) (e : Bool) (n : Nat), text.length < M -> d <= 5 -> l.Lines.length <= 400 -> n + text.length <= 1000000000 ->
  ∃ r, ((AX (B5 N (OH (Be N o s)) z s0) M (text, (tup o l d e n, true))).bind fun o => o.k (fun r => some r) (fun s13 => some s13.2)) = some r /\ fin r = FK o (lnE text) n d l e
 | 0, _, _, _, _, _, h, _, _, _ => by omega
 | M + 1, text, d, l, e, n, hM, hd, hl, hn => by
  rw [AX]
  by_cases h0 : text = []
  ·subst h0
   rw [show B5 N (OH (Be N o s)) z s0 (([] : WE), (tup o l d e n, true)) = some (.done ([], (tup o l d e n, true))) from rfl]
   refine ⟨(tup o l d e n, true), rfl, ?_⟩
   rw [T8]
   unfold FK
   cases e with
   | true => rfl
   | false =>
    rw [if_neg (by simp)]
    show (EU, (20 : Int), W64 ((n : Int) + 1)) = _
    rw [HG n (by omega)]; rfl
  ·have hb : ∀ a b f, strings_Cut N text [10] = some (a, b, f) -> B5 N (OH (Be N o s)) z s0 (text, (tup o l d e n, true)) = (((Be N o s (tup o l d e n) (a, f)).map fun t => (t.2, t)).bind fun q37 => (bif (!q37.1) then some (.ret q37.2) else some (.next (b, q37.2)))) := by
    intro a b f h
    unfold B5
    simp only
    rw [show (text != ([] : WE)) = true by simpa using h0, cond_true, h]
    rfl
   by_cases h10 : (10 : UInt8) ∈ text
   ·obtain ⟨a, b, rfl, ha⟩ := List.eq_append_cons_of_mem h10
    have hlen : (a ++ 10 :: b).length = a.length + b.length + 1 := by simp; omega
    rw [hb a b true (by unfold strings_Cut; rw [if_pos (by omega), Ps ha]), T9 ha]
    have hs := SJ (N := N) o s d l e n a true hd hl (by omega) (by omega) hN
    rw [if_neg (by simp)] at hs
    unfold FK
    rw [if_neg (by simp)]
    cases hst : Ew o d l e a with
    | inl q =>
     simp only [hst] at hs ⊢
     rw [hs]
     have hk := PR hd hl hst
     exact OW o s z s0 hN M b q.1 q.2.1 q.2.2 (n + 1) (by omega) hk.1 hk.2 (by omega)
    | inr k =>
     simp only [hst] at hs ⊢
     obtain ⟨q, h1, h2, h3⟩ := hs
     rw [h1]
     refine ⟨(q, false), rfl, ?_⟩
     show (EU, q.1, q.2.1) = _
     rw [h2, h3]
   ·rw [hb text [] false (by unfold strings_Cut; rw [if_pos (by omega), Pt h10]), SS h10 h0]
    have hs := SJ (N := N) o s d l e n text false hd hl (by omega) (by omega) hN
    rw [if_pos rfl] at hs
    obtain ⟨q, h1, h2, h3⟩ := hs
    unfold FK
    rw [if_pos rfl, h1]
    refine ⟨(q, false), rfl, ?_⟩
    show (EU, q.1, q.2.1) = _
    rw [h2, h3]
theorem QY (o : Ac) (s : WE) (hs : s.length <= 1000000000) (hN : 4294967300 < N) : CJ N o s = some (DX o s) := by
 unfold CJ DX
 by_cases h : s.length > 65536
 ·rw [decide_eq_true (show (s.length : Int) > 65536 by omega), if_pos h]; rfl
 ·rw [decide_eq_false (show ¬ (s.length : Int) > 65536 by omega), if_neg h, cond_false]
  obtain ⟨r, hr, hf⟩ := OW (N := N) o s s (tup o EU ((0 : Nat) : Int) false ((0 : Nat) : Int), true) hN N s 0 EU false 0 (by omega) (by omega) (by simp [EU]) (by omega)
  have : Ds N (OH (Be N o s)) s ((0, 0, o.Report, o.Serial, o.Zone, ([] : WE), 0, 0, 0, ([] : List Int), ([] : List Line), 0, false, 0), true) = some r := hr
  rw [this, Option.bind_some, <- hf]
  unfold fin
  cases r.2 with
  | false => rfl
  | true =>
   cases r.1.2.2.2.2.2.2.2.2.2.2.2.2.1 <;> rfl
end
end


section
open Go.Lib (decDigits)
theorem QK (o : Ac) : ∀ (L : List (WE × Bool)) (n d : Nat) (l : Log) (e : Bool), (FK o L n d l e).2.1 ≠ 0 -> (n : Int) + 1 <= (FK o L n d l e).2.2 /\ (FK o L n d l e).1 = EU
 | [], n, d, l, e => by
  unfold FK
  cases e with
  | true => intro h; exact absurd rfl h
  | false => intro _; exact ⟨Int.le_refl _, rfl⟩
 | (t, c) :: r, n, d, l, e => by
  unfold FK
  split
  ·intro _; exact ⟨Int.le_refl _, rfl⟩
  ·split
   ·rename_i q hq
    intro h
    have := QK o r (n + 1) q.1 q.2.1 q.2.2 h
    exact ⟨by have := this.1; omega, this.2⟩
   ·intro _; exact ⟨Int.le_refl _, rfl⟩
end
def Ej (N : Nat) (x0 : Ac) (x1 : Log) (x2 : WE) : Option Bool :=
 ((HU N ).bind fun r27 => (((Iy N x1).bind fun r47 => (bif (!r47) then some true else some (decide ((x2.length : Int) > 6000)))).bind fun j38 => (bif j38 then some r27 else ((Dc N ({ Report := x0.Report, Serial := x0.Serial, Zone := x0.Zone } : Ac) x1).bind fun r61 => ((CK N ({ Report := x0.Report, Serial := x0.Serial, Zone := x0.Zone } : Ac) x1).bind fun r69 => (bif ((r61.2 != r69.1) || ((r61.2 != 0) && (r61.1 != ([] : WE)))) then some false else (bif (r61.2 == 0) then ((CJ N ({ Report := x0.Report, Serial := x0.Serial, Zone := x0.Zone } : Ac) r61.1).bind fun r96 => ((bif (r96.2.1 != 0) then some true else (bif (r96.2.2 != 0) then some true else ((Iw N r96.1 x1).bind fun r126 => some (!r126)))).bind fun j112 => (bif j112 then some false else ((CJ N ({ Report := x0.Report, Serial := x0.Serial, Zone := x0.Zone } : Ac) x2).bind fun r137 => (bif (r137.2.1 != 0) then some (r27 && ((decide (r137.2.2 >= 1)) && ((r137.1.Lines.length : Int) == 0))) else ((Dc N ({ Report := x0.Report, Serial := x0.Serial, Zone := x0.Zone } : Ac) r137.1).bind fun r160 => ((bif r27 then (bif (r160.2 == 0) then (bif (r160.1 == x2) then ((Cm N ({ Report := x0.Report, Serial := x0.Serial, Zone := x0.Zone } : Ac) r137.1).bind fun r185 => some r185) else some false) else some false) else some false).bind fun j171 => some j171))))))) else ((CJ N ({ Report := x0.Report, Serial := x0.Serial, Zone := x0.Zone } : Ac) x2).bind fun r193 => (bif (r193.2.1 != 0) then some (r27 && ((decide (r193.2.2 >= 1)) && ((r193.1.Lines.length : Int) == 0))) else ((Dc N ({ Report := x0.Report, Serial := x0.Serial, Zone := x0.Zone } : Ac) r193.1).bind fun r216 => ((bif r27 then (bif (r216.2 == 0) then (bif (r216.1 == x2) then ((Cm N ({ Report := x0.Report, Serial := x0.Serial, Zone := x0.Zone } : Ac) r193.1).bind fun r241 => some r241) else some false) else some false) else some false).bind fun j227 => some j227)))))))))))
theorem KK (N : Nat) (w0 : World) (F0 : Mem) (hF : WG w0 F0) (hG : Bz F0) (x0 : Ac) (x1 : Log) (a1_4 : WF) (n1_4 : Nat) (hb1_4 : LC x1.Jumps.length n1_4) (hs1_4 : SlA AD F0 a1_4 x1.Jumps) (a1_5 : WF) (n1_5 : Nat) (hb1_5 : LC x1.Lines.length n1_5) (hs1_5 : SlA AC F0 a1_5 x1.Lines) (x2 : WE) (r : Bool) (h : Ej N x0 x1 x2 = some r) :
  Calls Tryz.prog 11 ([(.agg (Ak x0)), (.agg (AF x1 a1_4 n1_4 a1_5 n1_5)), (sv x2)] : List Value).toArray w0 (AB w0 F0 fun F' v => v = (.bool r)) := by
 have hs0 := Wl hF
 refine Go 115 Tryz.func11 <| Sq (Rg [0, 1, 2] ?_)
 refine Bx' 23 (Ak x0) hs0 (fun b21 w22 hs23 => ?_)
 refine Bx' 27 (AF x1 a1_4 n1_4 a1_5 n1_5) hs23 (fun b24 w25 hs26 => ?_)
 refine Vs 1 <| Nss (Rg [0, 1] ?_)
 obtain ⟨r27, hr28, h29⟩ := bind_some h
 refine Cl' MO hs26 (Nq N w25 F0 hs26.pers hG  _ hr28) ?_
 rintro _ F1 w31 hs32 le33 rfl
 refine Vs 1 <| Nss <| Sq (Rg (rG 8) ?_)
 obtain ⟨j38, hj45, h46⟩ := bind_some h29
 refine Wp (fun f w => ∃ (F2 : Mem), HS w0 F0 w F2 [(sb b24 (AF x1 a1_4 n1_4 a1_5 n1_5) 27), (sb b21 (Ak x0) 23)] /\ Wj F1 F2 /\ FI f [] [(2, (sv x2)), (3, (pt b21 0)), (4, (pt b24 0)), (7, (.bool r27)), (28, (.bool j38))]) ?_ ?_
 ·refine Ld hs32.at0 ?_
  obtain ⟨r47, hr48, h49⟩ := bind_some hj45
  refine Cl' Oy hs32 (PB N w31 F1 hs32.pers x1 a1_4 n1_4 hb1_4 (Wm hs1_4 le33) a1_5 n1_5 hb1_5 (Wm hs1_5 le33) _ hr48) ?_
  rintro _ F3 w51 hs52 le53 rfl
  refine Vs 2 <| Sp h49 (fun hb55 h56 => ?_) (fun hb55 h57 => ?_)
  ·refine Ss hb55 3 ?_
   refine Pk1 hb55 ?_
   obtain rfl := Aa h56
   exact Wf ⟨rfl, F3, hs52, le53, fI⟩
  ·refine Vgs hb55 3 ?_
   refine Pk0 hb55 ?_
   obtain rfl := Aa h57
   exact Wf ⟨rfl, F3, hs52, le53, fI⟩
 ·rintro f w35 ⟨F2, hs36, le37, ⟨_, rfl⟩⟩
  refine Ab <| Cd h46 (fun hb58 h59 => ?_) (fun hb58 h60 => ?_)
  ·refine Sq (Rg [0, 1] ?_)
   refine Vs 2 <| Nt <| Rt <| Ae ?_
   obtain rfl := Aa h59
   exact Re [(.bool r27)] hs36 rfl
  ·refine Sc ?_
   refine Ab <| Sq (Rg (rG 8) ?_)
   refine Ld hs36.at1 <| Ld hs36.at0 ?_
   obtain ⟨r61, hr62, h63⟩ := bind_some h60
   refine Cl' EJ hs36 (Fk N w35 F2 hs36.pers (hG.mono (le33.t le37)) (({ Report := x0.Report, Serial := x0.Serial, Zone := x0.Zone } : Ac)) x1 a1_4 n1_4 hb1_4 (Wm hs1_4 (le33.t le37)) a1_5 n1_5 hb1_5 (Wm hs1_5 (le33.t le37)) _ hr62) ?_
   rintro _ F4 w65 hs66 le67 rfl
   refine Vs 5 <| Nss (Rg (rG 8) ?_)
   refine Ld hs66.at1 <| Ld hs66.at0 ?_
   obtain ⟨r69, hr70, h71⟩ := bind_some h63
   refine Cl' EK hs66 (Fl N w65 F4 hs66.pers (hG.mono ((le33.t le37).trans le67)) (({ Report := x0.Report, Serial := x0.Serial, Zone := x0.Zone } : Ac)) x1 a1_4 n1_4 hb1_4 (Wm hs1_4 ((le33.t le37).trans le67)) a1_5 n1_5 hb1_5 (Wm hs1_5 ((le33.t le37).trans le67)) _ hr70) ?_
   rintro _ F5 w73 hs74 le75 rfl
   refine Vs 5 <| Nss <| Sq (Rg (rG 11) ?_)
   refine Wp (fun f w => ∃ (F6 : Mem), HS w0 F0 w F6 [(sb b24 (AF x1 a1_4 n1_4 a1_5 n1_5) 27), (sb b21 (Ak x0) 23)] /\ Wj F5 F6 /\ FI f [] [(2, (sv x2)), (3, (pt b21 0)), (4, (pt b24 0)), (7, (.bool r27)), (8, (sv r61.1)), (9, (vi r61.2)), (52, (.bool ((r61.2 != r69.1) || ((r61.2 != 0) && (r61.1 != ([] : WE))))))]) ?_ ?_
   ·refine Vs 4 ?_
    refine Wo (r61.2 != r69.1) (fun hb88 => ?_) (fun hb88 => ?_)
    ·refine Ss hb88 3 ?_
     refine Su' 2 <| Ss hb88 1 <| Pk1 hb88 ?_
     exact Wf ⟨rfl, F5, hs74, (Wk _), (fJ ⟨rfl, rfl, rfl, rfl, rfl, rfl, (congrArg Value.bool (Hv hb88 rfl)), trivial⟩)⟩
    ·refine Vgs hb88 3 ?_
     refine Wo (r61.2 != 0) (fun hb89 => ?_) (fun hb89 => ?_)
     ·refine Vgs hb89 2 ?_
      refine Pg1 hb88 hb89 <| Pk0 hb88 ?_
      exact Wf ⟨rfl, F5, hs74, (Wk _), (fJ ⟨rfl, rfl, rfl, rfl, rfl, rfl, (congrArg Value.bool (Da hb88 (Hu hb89 rfl))), trivial⟩)⟩
     ·refine Ss hb89 2 ?_
      refine Pg0 hb88 hb89 <| Pk0 hb88 ?_
      exact Wf ⟨rfl, F5, hs74, (Wk _), (fJ ⟨rfl, rfl, rfl, rfl, rfl, rfl, (congrArg Value.bool (Da hb88 (I9 hb89 rfl))), trivial⟩)⟩
   ·rintro f w77 ⟨F6, hs78, le79, ⟨_, rfl⟩⟩
    refine Ab <| Cd h71 (fun hb90 h91 => ?_) (fun hb90 h92 => ?_)
    ·refine Sq (Rg [0] ?_)
     refine Vs 1 <| Nt <| Rt <| Ae ?_
     obtain rfl := Aa h91
     exact Re [(.bool false)] hs78 rfl
    ·refine Sc ?_
     refine Ab <| Sq <| Sq (Rg [0, 1] ?_)
     refine Vs 2 <| Nt <| Cd h92 (fun hb93 h94 => ?_) (fun hb93 h95 => ?_)
     ·refine Sq (Rg (rG 11) ?_)
      refine Ld hs78.at1 <| Vs 1 ?_
      obtain ⟨r96, hr97, h98⟩ := bind_some h94
      refine Cl' Cn hs78 (CO N w77 F6 hs78.pers (hG.mono ((((le33.t le37).trans le67).trans le75).trans le79)) (({ Report := x0.Report, Serial := x0.Serial, Zone := x0.Zone } : Ac)) r61.1 _ hr97) ?_
      rintro _ F7 w100 hs101 le102 ⟨ar96_0_4, nr96_0_4, ar96_0_5, nr96_0_5, rfl, hbr96_0_4, hsr96_0_4, hbr96_0_5, hsr96_0_5⟩
      refine Vs 4 <| Al' 27 #[(sv (([] : WE))), (vi 0), (vi 0), (vi 0), (.slice none ([] : List Int).length 0), (.slice none ([] : List Line).length 0)] hs101 (fun b104 w105 hs106 => ?_)
      refine St0 (AF r96.1 ar96_0_4 nr96_0_4 ar96_0_5 nr96_0_5) hs106 (fun w107 hs108 => ?_)
      refine Vs 2 <| Nss (Rg (rG 12) ?_)
      obtain ⟨j112, hj118, h119⟩ := bind_some h98
      refine Wp (fun f w => ∃ (F8 : Mem), HS w0 F0 w F8 [(sb b21 (Ak x0) 23)] /\ Wj F7 F8 /\ FI f [] [(2, (sv x2)), (3, (pt b21 0)), (7, (.bool r27)), (73, (.bool j112))]) ?_ ?_
      ·refine Vs 3 ?_
       refine Sp hj118 (fun hb120 h121 => ?_) (fun hb120 h122 => ?_)
       ·refine Ss hb120 2 ?_
        refine Pk1 hb120 <| Vs 1 <| Ss (rfl : true = true) 4 <| Pk1 (rfl : true = true) ?_
        obtain rfl := Aa h121
        exact Wf ⟨rfl, F7, hs108.dr0.dr0, (Wk _), fI⟩
       ·refine Vgs hb120 2 ?_
        refine Pk0 hb120 <| Vs 1 <| Sp h122 (fun hb123 h124 => ?_) (fun hb123 h125 => ?_)
        ·refine Ss hb123 4 ?_
         refine Pk1 hb123 ?_
         obtain rfl := Aa h124
         exact Wf ⟨rfl, F7, hs108.dr0.dr0, (Wk _), fI⟩
        ·refine Lg hb123 hs108.at0 ?_
         refine Lg hb123 hs108.at1 ?_
         obtain ⟨r126, hr127, h128⟩ := bind_some h125
         refine Cg hb123 Ox hs108 (PA N w107 F7 hs108.pers r96.1 ar96_0_4 nr96_0_4 hbr96_0_4 hsr96_0_4 ar96_0_5 nr96_0_5 hbr96_0_5 hsr96_0_5 x1 a1_4 n1_4 hb1_4 (Wm hs1_4 (((((le33.t le37).trans le67).trans le75).trans le79).trans le102)) a1_5 n1_5 hb1_5 (Wm hs1_5 (((((le33.t le37).trans le67).trans le75).trans le79).trans le102)) _ hr127) ?_
         rintro _ F9 w130 hs131 le132 rfl
         refine Vgs hb123 1 <| Pk0 hb123 ?_
         obtain rfl := Aa h128
         exact Wf ⟨rfl, F9, hs131.dr0.dr0, le132, fI⟩
      ·rintro f w109 ⟨F8, hs110, le111, ⟨_, rfl⟩⟩
       refine Ab <| Cd h119 (fun hb134 h135 => ?_) (fun hb134 h136 => ?_)
       ·refine Sq (Rg [0] ?_)
        refine Vs 1 <| Nt <| Rt <| Ae ?_
        obtain rfl := Aa h135
        exact Re [(.bool false)] hs110 rfl
       ·refine Sc ?_
        refine Ab <| Sq (Rg (rG 11) ?_)
        refine Ld hs110.at0 <| Vs 1 ?_
        obtain ⟨r137, hr138, h139⟩ := bind_some h136
        refine Cl' Cn hs110 (CO N w109 F8 hs110.pers (hG.mono ((((((le33.t le37).trans le67).trans le75).trans le79).trans le102).trans le111)) (({ Report := x0.Report, Serial := x0.Serial, Zone := x0.Zone } : Ac)) x2 _ hr138) ?_
        rintro _ F10 w141 hs142 le143 ⟨ar137_0_4, nr137_0_4, ar137_0_5, nr137_0_5, rfl, hbr137_0_4, hsr137_0_4, hbr137_0_5, hsr137_0_5⟩
        refine Vs 4 <| Al' 27 #[(sv (([] : WE))), (vi 0), (vi 0), (vi 0), (.slice none ([] : List Int).length 0), (.slice none ([] : List Line).length 0)] hs142 (fun b145 w146 hs147 => ?_)
        refine St0 (AF r137.1 ar137_0_4 nr137_0_4 ar137_0_5 nr137_0_5) hs147 (fun w148 hs149 => ?_)
        refine Vs 2 <| Nss <| Sq (Rg [0, 1] ?_)
        refine Vs 2 <| Nt <| Cd h139 (fun hb150 h151 => ?_) (fun hb150 h152 => ?_)
        ·refine Sq (Rg (rG 12) ?_)
         refine Wp (fun f w => ∃ (F11 : Mem), HS w0 F0 w F11 [] /\ Wj F10 F11 /\ FI f [] [(6, (.bool (r27 && ((decide (r137.2.2 >= 1)) && ((r137.1.Lines.length : Int) == 0)))))]) ?_ ?_
         ·refine Vs 2 ?_
          refine Wo r27 (fun hb158 => ?_) (fun hb158 => ?_)
          ·refine Vgs hb158 2 ?_
           refine Pk1 hb158 <| Vs 1 <| Wo (decide (r137.2.2 >= 1)) (fun hb159 => ?_) (fun hb159 => ?_)
           ·refine Vgs hb159 1 ?_
            refine Lg hb159 hs149.at0 <| Vgs hb159 2 <| Pk1 hb159 <| Vs 1 ?_
            exact Wf ⟨rfl, F10, hs149.dr0.dr0, (Wk _), (fJ ⟨(congrArg Value.bool (Hu hb158 (Hu hb159 rfl))), trivial⟩)⟩
           ·refine Ss hb159 4 ?_
            refine Pk0 hb159 <| Vs 1 ?_
            exact Wf ⟨rfl, F10, hs149.dr0.dr0, (Wk _), (fJ ⟨(congrArg Value.bool (Hu hb158 (I9 hb159 rfl))), trivial⟩)⟩
          ·refine Ss hb158 2 ?_
           refine Pk0 hb158 <| Vs 1 <| Ss (rfl : false = false) 4 <| Pk0 (rfl : false = false) <| Vs 1 ?_
           exact Wf ⟨rfl, F10, hs149.dr0.dr0, (Wk _), (fJ ⟨(congrArg Value.bool (I9 hb158 rfl)), trivial⟩)⟩
         ·rintro f w153 ⟨F11, hs154, le155, ⟨_, rfl⟩⟩
          refine Ab <| Rt <| Ae ?_
          obtain rfl := Aa h151
          exact Re [(.bool (r27 && ((decide (r137.2.2 >= 1)) && ((r137.1.Lines.length : Int) == 0))))] hs154 rfl
        ·refine Sc ?_
         refine Ab <| Sq (Rg (rG 8) ?_)
         refine Ld hs149.at1 <| Ld hs149.at0 ?_
         obtain ⟨r160, hr161, h162⟩ := bind_some h152
         refine Cl' EJ hs149 (Fk N w148 F10 hs149.pers (hG.mono (((((((le33.t le37).trans le67).trans le75).trans le79).trans le102).trans le111).trans le143)) (({ Report := x0.Report, Serial := x0.Serial, Zone := x0.Zone } : Ac)) r137.1 ar137_0_4 nr137_0_4 hbr137_0_4 hsr137_0_4 ar137_0_5 nr137_0_5 hbr137_0_5 hsr137_0_5 _ hr161) ?_
         rintro _ F12 w164 hs165 le166 rfl
         refine Vs 5 <| Nss (Rg (rG 16) ?_)
         obtain ⟨j171, hj174, h175⟩ := bind_some h162
         refine Wp (fun f w => ∃ (F13 : Mem), HS w0 F0 w F13 [] /\ Wj F12 F13 /\ FI f [] [(6, (.bool j171))]) ?_ ?_
         ·refine Vs 2 ?_
          refine Sp hj174 (fun hb176 h177 => ?_) (fun hb176 h178 => ?_)
          ·refine Vgs hb176 2 ?_
           refine Pk1 hb176 <| Vs 1 <| Sp h177 (fun hb179 h180 => ?_) (fun hb179 h181 => ?_)
           ·refine Vgs hb179 3 ?_
            refine Pk1 hb179 <| Vs 1 <| Sp h180 (fun hb182 h183 => ?_) (fun hb182 h184 => ?_)
            ·refine Lg hb182 hs165.at1 ?_
             refine Lg hb182 hs165.at0 ?_
             obtain ⟨r185, hr186, h187⟩ := bind_some h183
             refine Cg hb182 EB hs165 (E5 N w164 F12 hs165.pers (hG.mono ((((((((le33.t le37).trans le67).trans le75).trans le79).trans le102).trans le111).trans le143).trans le166)) (({ Report := x0.Report, Serial := x0.Serial, Zone := x0.Zone } : Ac)) r137.1 ar137_0_4 nr137_0_4 hbr137_0_4 (Wm hsr137_0_4 le166) ar137_0_5 nr137_0_5 hbr137_0_5 (Wm hsr137_0_5 le166) _ hr186) ?_
             rintro _ F14 w189 hs190 le191 rfl
             refine Pk1 hb182 <| Vs 1 ?_
             obtain rfl := Aa h187
             exact Wf ⟨rfl, F14, hs190.dr0.dr0, le191, fI⟩
            ·refine Ss hb182 3 ?_
             refine Pk0 hb182 <| Vs 1 ?_
             obtain rfl := Aa h184
             exact Wf ⟨rfl, F12, hs165.dr0.dr0, (Wk _), fI⟩
           ·refine Ss hb179 3 ?_
            refine Pk0 hb179 <| Vs 1 <| Ss (rfl : false = false) 3 <| Pk0 (rfl : false = false) <| Vs 1 ?_
            obtain rfl := Aa h181
            exact Wf ⟨rfl, F12, hs165.dr0.dr0, (Wk _), fI⟩
          ·refine Ss hb176 2 ?_
           refine Pk0 hb176 <| Vs 1 <| Ss (rfl : false = false) 3 <| Pk0 (rfl : false = false) <| Vs 1 <| Ss (rfl : false = false) 3 <| Pk0 (rfl : false = false) <| Vs 1 ?_
           obtain rfl := Aa h178
           exact Wf ⟨rfl, F12, hs165.dr0.dr0, (Wk _), fI⟩
         ·rintro f w168 ⟨F13, hs169, le170, ⟨_, rfl⟩⟩
          refine Ab <| Rt ?_
          obtain rfl := Aa h175
          exact Re [(.bool j171)] hs169 rfl
     ·refine Sc ?_
      refine Ab <| Sq (Rg (rG 11) ?_)
      refine Ld hs78.at1 <| Vs 1 ?_
      obtain ⟨r193, hr194, h195⟩ := bind_some h95
      refine Cl' Cn hs78 (CO N w77 F6 hs78.pers (hG.mono ((((le33.t le37).trans le67).trans le75).trans le79)) (({ Report := x0.Report, Serial := x0.Serial, Zone := x0.Zone } : Ac)) x2 _ hr194) ?_
      rintro _ F15 w197 hs198 le199 ⟨ar193_0_4, nr193_0_4, ar193_0_5, nr193_0_5, rfl, hbr193_0_4, hsr193_0_4, hbr193_0_5, hsr193_0_5⟩
      refine Vs 4 <| Al' 27 #[(sv (([] : WE))), (vi 0), (vi 0), (vi 0), (.slice none ([] : List Int).length 0), (.slice none ([] : List Line).length 0)] hs198 (fun b201 w202 hs203 => ?_)
      refine St0 (AF r193.1 ar193_0_4 nr193_0_4 ar193_0_5 nr193_0_5) hs203 (fun w204 hs205 => ?_)
      refine Vs 2 <| Nss <| Sq (Rg [0, 1] ?_)
      refine Vs 2 <| Nt <| Cd h195 (fun hb206 h207 => ?_) (fun hb206 h208 => ?_)
      ·refine Sq (Rg (rG 12) ?_)
       refine Wp (fun f w => ∃ (F16 : Mem), HS w0 F0 w F16 [] /\ Wj F15 F16 /\ FI f [] [(6, (.bool (r27 && ((decide (r193.2.2 >= 1)) && ((r193.1.Lines.length : Int) == 0)))))]) ?_ ?_
       ·refine Vs 2 ?_
        refine Wo r27 (fun hb214 => ?_) (fun hb214 => ?_)
        ·refine Vgs hb214 2 ?_
         refine Pk1 hb214 <| Vs 1 <| Wo (decide (r193.2.2 >= 1)) (fun hb215 => ?_) (fun hb215 => ?_)
         ·refine Vgs hb215 1 ?_
          refine Lg hb215 hs205.at0 <| Vgs hb215 2 <| Pk1 hb215 <| Vs 1 ?_
          exact Wf ⟨rfl, F15, hs205.dr0.dr0.dr0, (Wk _), (fJ ⟨(congrArg Value.bool (Hu hb214 (Hu hb215 rfl))), trivial⟩)⟩
         ·refine Ss hb215 4 ?_
          refine Pk0 hb215 <| Vs 1 ?_
          exact Wf ⟨rfl, F15, hs205.dr0.dr0.dr0, (Wk _), (fJ ⟨(congrArg Value.bool (Hu hb214 (I9 hb215 rfl))), trivial⟩)⟩
        ·refine Ss hb214 2 ?_
         refine Pk0 hb214 <| Vs 1 <| Ss (rfl : false = false) 4 <| Pk0 (rfl : false = false) <| Vs 1 ?_
         exact Wf ⟨rfl, F15, hs205.dr0.dr0.dr0, (Wk _), (fJ ⟨(congrArg Value.bool (I9 hb214 rfl)), trivial⟩)⟩
       ·rintro f w209 ⟨F16, hs210, le211, ⟨_, rfl⟩⟩
        refine Ab <| Rt <| Ae ?_
        obtain rfl := Aa h207
        exact Re [(.bool (r27 && ((decide (r193.2.2 >= 1)) && ((r193.1.Lines.length : Int) == 0))))] hs210 rfl
      ·refine Sc ?_
       refine Ab <| Sq (Rg (rG 8) ?_)
       refine Ld hs205.at2 <| Ld hs205.at0 ?_
       obtain ⟨r216, hr217, h218⟩ := bind_some h208
       refine Cl' EJ hs205 (Fk N w204 F15 hs205.pers (hG.mono (((((le33.t le37).trans le67).trans le75).trans le79).trans le199)) (({ Report := x0.Report, Serial := x0.Serial, Zone := x0.Zone } : Ac)) r193.1 ar193_0_4 nr193_0_4 hbr193_0_4 hsr193_0_4 ar193_0_5 nr193_0_5 hbr193_0_5 hsr193_0_5 _ hr217) ?_
       rintro _ F17 w220 hs221 le222 rfl
       refine Vs 5 <| Nss (Rg (rG 16) ?_)
       obtain ⟨j227, hj230, h231⟩ := bind_some h218
       refine Wp (fun f w => ∃ (F18 : Mem), HS w0 F0 w F18 [] /\ Wj F17 F18 /\ FI f [] [(6, (.bool j227))]) ?_ ?_
       ·refine Vs 2 ?_
        refine Sp hj230 (fun hb232 h233 => ?_) (fun hb232 h234 => ?_)
        ·refine Vgs hb232 2 ?_
         refine Pk1 hb232 <| Vs 1 <| Sp h233 (fun hb235 h236 => ?_) (fun hb235 h237 => ?_)
         ·refine Vgs hb235 3 ?_
          refine Pk1 hb235 <| Vs 1 <| Sp h236 (fun hb238 h239 => ?_) (fun hb238 h240 => ?_)
          ·refine Lg hb238 hs221.at2 ?_
           refine Lg hb238 hs221.at0 ?_
           obtain ⟨r241, hr242, h243⟩ := bind_some h239
           refine Cg hb238 EB hs221 (E5 N w220 F17 hs221.pers (hG.mono ((((((le33.t le37).trans le67).trans le75).trans le79).trans le199).trans le222)) (({ Report := x0.Report, Serial := x0.Serial, Zone := x0.Zone } : Ac)) r193.1 ar193_0_4 nr193_0_4 hbr193_0_4 (Wm hsr193_0_4 le222) ar193_0_5 nr193_0_5 hbr193_0_5 (Wm hsr193_0_5 le222) _ hr242) ?_
           rintro _ F19 w245 hs246 le247 rfl
           refine Pk1 hb238 <| Vs 1 ?_
           obtain rfl := Aa h243
           exact Wf ⟨rfl, F19, hs246.dr0.dr0.dr0, le247, fI⟩
          ·refine Ss hb238 3 ?_
           refine Pk0 hb238 <| Vs 1 ?_
           obtain rfl := Aa h240
           exact Wf ⟨rfl, F17, hs221.dr0.dr0.dr0, (Wk _), fI⟩
         ·refine Ss hb235 3 ?_
          refine Pk0 hb235 <| Vs 1 <| Ss (rfl : false = false) 3 <| Pk0 (rfl : false = false) <| Vs 1 ?_
          obtain rfl := Aa h237
          exact Wf ⟨rfl, F17, hs221.dr0.dr0.dr0, (Wk _), fI⟩
        ·refine Ss hb232 2 ?_
         refine Pk0 hb232 <| Vs 1 <| Ss (rfl : false = false) 3 <| Pk0 (rfl : false = false) <| Vs 1 <| Ss (rfl : false = false) 3 <| Pk0 (rfl : false = false) <| Vs 1 ?_
         obtain rfl := Aa h234
         exact Wf ⟨rfl, F17, hs221.dr0.dr0.dr0, (Wk _), fI⟩
       ·rintro f w224 ⟨F18, hs225, le226, ⟨_, rfl⟩⟩
        refine Ab <| Rt ?_
        obtain rfl := Aa h231
        exact Re [(.bool j227)] hs225 rfl
section
open Go.Lib (decDigits)
structure At (o : Ac) (d : Nat) (l : Log) (e : Bool) (D : List WE) : Prop where
 d5 : d <= 5
 h : ∀ k, k < d -> hdV l k = true
 t : D = ((List.range d).map fun k => hdT l k) ++ l.Lines.map (BB o) ++ (if e = true then [M5] else [])
 z : d < 5 -> l.Lines = []
 e5 : e = true -> d = 5
 n : l.Lines.length <= 400
 ok : ∀ i, i < l.Lines.length -> Jj o l.Lines i = true
theorem RQ (l : Log) (k : Nat) (x : List Line) : hdV { l with Lines := x } k = hdV l k := by
 unfold hdV; split <;> rfl
theorem RR (l : Log) (k : Nat) (x : List Line) : hdT { l with Lines := x } k = hdT l k := by
 unfold hdT hdW; split <;> rfl
theorem Pn (k : Nat) (v l : Log) : hdV (hdS k v l) k = hdV v k /\ hdT (hdS k v l) k = hdT v k := by
 match k with
 | 0 => exact ⟨rfl, rfl⟩
 | 1 => exact ⟨rfl, rfl⟩
 | 2 => exact ⟨rfl, rfl⟩
 | 3 => exact ⟨rfl, rfl⟩
 | _ + 4 => exact ⟨rfl, rfl⟩
theorem NO {k j : Nat} (hk : k < 5) (hj : j < k) (v l : Log) : hdV (hdS k v l) j = hdV l j /\ hdT (hdS k v l) j = hdT l j := by
 have h1 : k = 1 \/ k = 2 \/ k = 3 \/ k = 4 := by omega
 rcases h1 with rfl | rfl | rfl | rfl
 ·have : j = 0 := by omega
  subst this; exact ⟨rfl, rfl⟩
 ·have : j = 0 \/ j = 1 := by omega
  rcases this with rfl | rfl <;> exact ⟨rfl, rfl⟩
 ·have : j = 0 \/ j = 1 \/ j = 2 := by omega
  rcases this with rfl | rfl | rfl <;> exact ⟨rfl, rfl⟩
 ·have : j = 0 \/ j = 1 \/ j = 2 \/ j = 3 := by omega
  rcases this with rfl | rfl | rfl | rfl <;> exact ⟨rfl, rfl⟩
theorem Tl (o : Ac) : At o 0 EU false [] := ⟨by omega, (fun _ h => by omega), rfl, fun _ => rfl, (fun h => by cases h), by simp [EU], fun i h => by simp [EU] at h⟩
theorem SB {o : Ac} {ls : List Line} {x : Line} (h : ∀ i, i < ls.length -> Jj o ls i = true) (hv : Cr o x = true) (hl : Fw ls x = true) : ∀ i, i < (ls ++ [x]).length -> Jj o (ls ++ [x]) i = true := by
 intro i hi
 rw [List.length_append, List.length_singleton] at hi
 by_cases h1 : i < ls.length
 ·have := h i h1
  unfold Jj at this ⊢
  rw [List.getElem?_append_left h1, List.getElem?_append_left (by omega)]
  exact this
 ·have : i = ls.length := by omega
  subst this
  unfold Jj
  rw [List.getElem?_append_right (Nat.le_refl _), Nat.sub_self]
  simp only [List.getElem?_cons_zero]
  rw [hv, Bool.true_and]
  by_cases h0 : ls.length = 0
  ·rw [decide_eq_true h0]; rfl
  ·rw [decide_eq_false h0, Bool.false_or, List.getElem?_append_left (by omega)]
   unfold Fw at hl
   rw [List.getLast?_eq_getElem?] at hl
   exact hl
theorem Uu {o : Ac} {d : Nat} {l : Log} {e : Bool} {D : List WE} {t : WE} {q : Nat × Log × Bool} (A : At o d l e D) (h : Ew o d l e t = .inl q) : At o q.1 q.2.1 q.2.2 (D ++ [t]) := by
 unfold Ew at h
 split at h
 ·cases h
 ·rename_i he
  have he : e = false := by simpa using he
  subst he
  split at h
  ·rename_i h5
   rcases Fx d t with ⟨v, h1, h2, h3⟩ | ⟨_, h3⟩
   ·rw [h3] at h
    cases h
    refine ⟨by omega, fun k hk => ?_, ?_, fun _ => ?_, (fun h => by cases h), ?_, ?_⟩
    ·show hdV (hdS d v l) k = true
     by_cases hkd : k < d
     ·rw [(NO h5 hkd v l).1]; exact A.h k hkd
     ·have : k = d := by omega
      subst this; rw [(Pn k v l).1]; exact h1
    ·show D ++ [t] = ((List.range (d + 1)).map fun k => hdT (hdS d v l) k) ++ (hdS d v l).Lines.map (BB o) ++ []
     rw [A.t, GB, A.z h5, List.range_succ, List.map_append]
     have : ((List.range d).map fun k => hdT (hdS d v l) k) = (List.range d).map fun k => hdT l k := List.map_congr_left fun k hk => (NO h5 (List.mem_range.1 hk) v l).2
     rw [this]
     simp only [List.map_cons, List.map_nil, (Pn d v l).2, h2]
     simp
    ·show (hdS d v l).Lines = []
     rw [GB]; exact A.z h5
    ·show (hdS d v l).Lines.length <= 400
     rw [GB]; exact A.n
    ·show ∀ i, i < (hdS d v l).Lines.length -> Jj o (hdS d v l).Lines i = true
     rw [GB]; exact A.ok
   ·rw [h3] at h; cases h
  ·rename_i h5
   split at h
   ·rename_i hw
    cases h
    refine ⟨A.d5, A.h, ?_, fun h => absurd h h5, fun _ => by have := A.d5; show d = 5; omega, A.n, A.ok⟩
    show D ++ [t] = _
    rw [A.t, hw]
    simp
   ·split at h
    ·cases h
    ·rename_i x hx
     split at h
     ·cases h
     ·rename_i hlo
      have hlo : Fw l.Lines x = true := by simpa using hlo
      split at h
      ·cases h
      ·rename_i h4
       cases h
       obtain ⟨hv, ht⟩ := D6.1 hx
       refine ⟨A.d5, fun k hk => ?_, ?_, fun h => absurd h h5, (fun h => by cases h), ?_, SB A.ok hv hlo⟩
       ·show hdV { l with Lines := l.Lines ++ [x] } k = true
        rw [RQ]; exact A.h k hk
       ·show D ++ [t] = ((List.range d).map fun k => hdT { l with Lines := l.Lines ++ [x] } k) ++ (l.Lines ++ [x]).map (BB o) ++ []
        rw [A.t, <- ht]
        simp only [RR]
        simp
       ·show (l.Lines ++ [x]).length <= 400
        have := A.n
        simp; omega
theorem Sk {o : Ac} : ∀ (L : List (WE × Bool)) (n d : Nat) (l : Log) (e : Bool) (D : List WE), At o d l e D -> (FK o L n d l e).2.1 = 0 -> ∃ D', L = D'.map (fun x => (x, true)) /\ At o 5 (FK o L n d l e).1 true (D ++ D') /\ (FK o L n d l e).2.2 = 0
 | [], n, d, l, e, D, A => by
  unfold FK
  cases e with
  | true =>
   intro _
   have := A.e5 rfl
   subst this
   exact ⟨[], rfl, by rw [List.append_nil]; exact A, rfl⟩
  | false => intro h; cases h
 | (t, c) :: r, n, d, l, e, D, A => by
  unfold FK
  cases c with
  | false => rw [if_pos rfl]; intro h; cases h
  | true =>
   rw [if_neg (by simp)]
   cases hs : Ew o d l e t with
   | inl q =>
    intro h
    obtain ⟨D', h1, h2, h3⟩ := Sk r (n + 1) q.1 q.2.1 q.2.2 (D ++ [t]) (Uu A hs) h
    refine ⟨t :: D', by rw [h1]; rfl, ?_, h3⟩
    rw [List.append_assoc] at h2
    exact h2
   | inr k =>
    intro h
    rcases PS hs with rfl | rfl <;> cases h
theorem VT {o : Ac} {l : Log} {D : List WE} (A : At o 5 l true D) : VL o l /\ D = Qg o l := by
 have h0 := A.h 0 (by omega)
 have h1 := A.h 1 (by omega)
 have h2 := A.h 2 (by omega)
 have h3 := A.h 3 (by omega)
 have h4 := A.h 4 (by omega)
 refine ⟨⟨?_, S0 h4, A.n, A.ok⟩, ?_⟩
 ·unfold Po; rw [h0, h1, h2, h3, h4]; rfl
 ·rw [A.t]; rfl
theorem Sy {o : Ac} {s : WE} (h : (DX o s).2.1 = 0) : VL o (DX o s).1 /\ Me o (DX o s).1 = s /\ (DX o s).2.2 = 0 := by
 unfold DX at h ⊢
 split at h
 ·cases h
 ·rename_i hs
  rw [if_neg hs]
  obtain ⟨D', h1, h2, h3⟩ := Sk (lnE s) 0 0 EU false [] (Tl o) h
  obtain ⟨hv, hd⟩ := VT h2
  refine ⟨hv, ?_, h3⟩
  have := SR s
  rw [h1] at this
  rw [List.nil_append] at hd
  unfold Me
  rw [<- hd, <- this, List.flatMap_map]
  rfl
theorem GR {o : Ac} {t : WE} {r : List (WE × Bool)} {n d : Nat} {l : Log} {e : Bool} {q : Nat × Log × Bool} (h : Ew o d l e t = .inl q) : FK o ((t, true) :: r) n d l e = FK o r (n + 1) q.1 q.2.1 q.2.2 := by
 conv => lhs; unfold FK
 rw [if_neg (by simp), h]
theorem Ue {o : Ac} {l : Log} (h : VL o l) {i : Nat} (hi : i < l.Lines.length) : Fw (l.Lines.take i) l.Lines[i] = true := by
 have := h.ok i hi
 unfold Jj at this
 rw [List.getElem?_eq_getElem hi] at this
 simp only [Bool.and_eq_true] at this
 have h2 := this.2
 unfold Fw
 by_cases h0 : i = 0
 ·subst h0; rfl
 ·rw [decide_eq_false h0, Bool.false_or] at h2
  rw [List.getLast?_eq_getElem?, List.length_take, Nat.min_eq_left (by omega), List.getElem?_take_of_lt (by omega)]
  exact h2
theorem NA {o : Ac} {l : Log} (h : VL o l) : ∀ (k i n : Nat), i + k = l.Lines.length -> FK o ((((l.Lines.drop i).map (BB o)) ++ [M5]).map (fun x => (x, true))) n 5 { l with Lines := l.Lines.take i } false = (l, 0, 0)
 | 0, i, n, hk => by
  rw [List.drop_of_length_le (by omega), List.take_of_length_le (by omega)]
  rw [List.map_nil, List.nil_append, List.map_cons, List.map_nil, GR (q := (5, l, true)) (by
   unfold Ew
   rw [if_neg (by simp), if_neg (by omega), if_pos rfl])]
  rfl
 | k + 1, i, n, hk => by
  have hi : i < l.Lines.length := by omega
  have hv := h.line (List.getElem_mem hi)
  rw [List.drop_eq_getElem_cons hi, List.map_cons, List.cons_append, List.map_cons, GR (q := (5, { l with Lines := l.Lines.take (i + 1) }, false)) (by
   unfold Ew
   rw [if_neg (by simp), if_neg (by omega), if_neg (Oi (BQ.1 hv)), D6.2 ⟨hv, rfl⟩]
   simp only
   rw [if_neg (by rw [Ue h hi]; simp), if_neg (by have := h.n; rw [List.length_take]; omega)]
   rw [List.take_add_one, List.getElem?_eq_getElem hi]
   rfl)]
  exact NA h k (i + 1) (n + 1) (by omega)
theorem Si {o : Ac} {l : Log} (h : VL o l) : FK o ((Qg o l).map fun x => (x, true)) 0 0 EU false = (l, 0, 0) := by
 obtain ⟨h0, h1, h2, h3, h4⟩ := h.hd
 have e0 : hdV l 0 = true := h0
 have e1 : hdV l 1 = true := decide_eq_true h1
 have e2 : hdV l 2 = true := decide_eq_true h2
 have e3 : hdV l 3 = true := decide_eq_true h3
 have e4 : hdV l 4 = true := h4
 have hst : ∀ k (m : Log), k < 5 -> hdV l k = true -> Ew o k m false (hdT l k) = .inl (k + 1, hdS k l m, false) := fun k m hk hv => by
  unfold Ew
  rw [if_neg (by simp), if_pos hk, Pm hv rfl]
 unfold Qg
 simp only [List.cons_append, List.nil_append, List.map_cons]
 rw [GR (hst 0 _ (by omega) e0), GR (hst 1 _ (by omega) e1), GR (hst 2 _ (by omega) e2), GR (hst 3 _ (by omega) e3), GR (hst 4 _ (by omega) e4)]
 exact NA h l.Lines.length 0 5 (by omega)
theorem Pa {o : Ac} {l : Log} (h : VL o l) : (Me o l).length <= l.Lines.length * 301 + 400 := by
 obtain ⟨h0, h1, h2, h3, h4⟩ := S6 h
 have := IE (o := o) (l := l.Lines) (fun x hx => h.line hx)
 rw [QZ]
 simp only [List.length_append, List.length_cons, List.length_nil]
 omega
theorem L6 {o : Ac} {l : Log} (h : VL o l) (hn : l.Lines.length <= 200) : DX o (Me o l) = (l, 0, 0) := by
 have hl := Pa h
 unfold DX
 rw [if_neg (by omega)]
 have hno : ∀ y, y ∈ Qg o l -> (10 : UInt8) ∉ y := by
  obtain ⟨h0, h1, h2, h3, h4⟩ := h.hd
  intro y hy
  unfold Qg at hy
  rcases List.mem_append.1 hy with hy | hy
  ·rcases List.mem_append.1 hy with hy | hy
   ·simp only [List.mem_cons, List.not_mem_nil, or_false] at hy
    rcases hy with rfl | rfl | rfl | rfl | rfl
    ·exact JX (k := 0) h0
    ·exact JX (k := 1) (decide_eq_true h1)
    ·exact JX (k := 2) (decide_eq_true h2)
    ·exact JX (k := 3) (decide_eq_true h3)
    ·exact JX (k := 4) h4
   ·obtain ⟨x, hx, rfl⟩ := List.mem_map.1 hy
    exact RF (BQ.1 (h.line hx))
  ·rw [List.mem_singleton.1 hy]; decide
 unfold Me
 rw [Ua hno]
 exact Si h
section
variable {N : Nat}
theorem RY (o : Ac) (s : WE) (hs : s.length <= 6000) (hN : 4294967300 < N) : ((CJ N o s).bind fun r137 => (bif (r137.2.1 != 0) then some (true && ((decide (r137.2.2 >= 1)) && ((r137.1.Lines.length : Int) == 0))) else ((Dc N o r137.1).bind fun r160 => ((bif true then (bif (r160.2 == 0) then (bif (r160.1 == s) then ((Cm N o r137.1).bind fun r185 => some r185) else some false) else some false) else some false).bind fun j171 => some j171)))) = some true := by
 rw [QY o s (by omega) hN, Option.bind_some]
 by_cases h : (DX o s).2.1 = 0
 ·obtain ⟨h1, h2, h3⟩ := Sy h
  rw [show ((DX o s).2.1 != 0) = false by rw [h]; rfl, cond_false]
  generalize (DX o s).1 = l at *
  have hf : Tw l := ⟨by have := h1.j; omega, by have := h1.n; omega, fun x hx => by have := (G0 (BQ.1 (h1.line hx)).c).2.2.2.2; unfold RS; omega⟩
  have hc := Qv.2 h1
  rw [QX o l hf hN, U2 o l hf hN]
  unfold prG Vz
  rw [if_pos hc, hc, h2]
  simp
 ·rw [show ((DX o s).2.1 != 0) = true by simpa using h, cond_true]
  have hg : DX o s = FK o (lnE s) 0 0 EU false := by unfold DX; rw [if_neg (by omega)]
  have := QK o (lnE s) 0 0 EU false (by rw [<- hg]; exact h)
  rw [<- hg] at this
  rw [this.2, decide_eq_true (by have := this.1; omega)]
  rfl
theorem QA (o : Ac) (l : Log) (s : WE) (hN : 4294967300 < N) : Ej N o l s = some true := by
 unfold Ej
 rw [show HU N = some true from rfl, Option.bind_some, show ({ Report := o.Report, Serial := o.Serial, Zone := o.Zone } : Ac) = o from rfl]
 obtain ⟨b, hb, hfew⟩ := Vi l hN
 rw [hb, Option.bind_some]
 cases b with
 | false => rfl
 | true =>
  have F := hfew rfl
  rw [Bool.not_true, cond_false, Option.bind_some]
  by_cases h2 : s.length > 6000
  ·rw [decide_eq_true (show (s.length : Int) > 6000 by omega)]; rfl
  rw [decide_eq_false (show ¬ (s.length : Int) > 6000 by omega), cond_false]
  have tl := RY (N := N) o s (by omega) hN
  rw [QX o l F.fit hN, Option.bind_some, Oh o l F.fit hN, Option.bind_some]
  by_cases hc : (chk o l).1 = 0
  ·have V := Qv.1 hc
   have hn : l.Lines.length <= 60 := by
    have := F.s
    have := V.n
    omega
   have hp : prG o l = (Me o l, 0) := by unfold prG; rw [if_pos hc]
   have hlt := Pa V
   rw [hp, hc]
   rw [show (((0 : Int) != 0) || (((0 : Int) != 0) && (Me o l != ([] : WE)))) = false from rfl, cond_false, show ((0 : Int) == 0) = true from rfl, cond_true]
   rw [QY o _ (by show (Me o l).length <= 1000000000; omega) hN, Option.bind_some, L6 V (by omega)]
   rw [show ((0 : Int) != 0) = false from rfl, cond_false, cond_false]
   rw [U3 _ _ (by have := V.j; show l.Jumps.length < _; omega) (by have := V.j; show l.Jumps.length < N; omega) (by show l.Lines.length < _; omega) hN, Option.bind_some, decide_eq_true rfl, Bool.not_true, Option.bind_some, cond_false]
   exact tl
  ·have hp : prG o l = ([], (chk o l).1) := by unfold prG; rw [if_neg hc]
   rw [hp]
   rw [show (((chk o l).1 != (chk o l).1) || (((chk o l).1 != 0) && (([] : WE) != ([] : WE)))) = false by simp, cond_false, show ((chk o l).1 == 0) = false by rw [beq_eq_false_iff_ne]; exact hc, cond_false]
   exact tl
end
theorem Tk (x0 : Ac) (x1 : Log) (x2 : WE) {P Q R : Prop} (_ : P) (_ : Q) (_ : R) : Ej 9223372036854775808 x0 x1 x2 = some true := QA x0 x1 x2 (by decide)
end
end Go.Proofs.YthljkpeimofbbaaGreatDoor
