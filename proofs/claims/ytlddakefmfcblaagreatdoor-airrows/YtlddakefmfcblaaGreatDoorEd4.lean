/- AirRows: for every input the law returns true, and each argument reads afterwards as it read before. No condition. -/
import Derived.Test.YtlddakefmfcblaaGreatDoorEd3
set_option linter.unusedVariables false
set_option linter.unusedSimpArgs false
set_option linter.unusedSectionVars false
namespace Go.Proofs.YtlddakefmfcblaaGreatDoor
open Go.Lib (decDigits)
def numF (a : Nat) (l : List UInt8) : Nat := l.foldl (fun a b => 10 * a + (b.toNat - 48)) a
def numV (l : List UInt8) : Nat := numF 0 l
theorem numF_cons (a : Nat) (b : UInt8) (l : List UInt8) : numF a (b :: l) = numF (10 * a + (b.toNat - 48)) l := by unfold numF; rw [List.foldl_cons]
theorem numF_snoc (a : Nat) (l : List UInt8) (b : UInt8) : numF a (l ++ [b]) = 10 * numF a l + (b.toNat - 48) := by unfold numF; rw [List.foldl_append]; rfl
theorem numV_snoc (l : List UInt8) (b : UInt8) : numV (l ++ [b]) = 10 * numV l + (b.toNat - 48) := numF_snoc 0 l b
theorem isD_val {b : UInt8} (h : isD b = true) : 48 ≤ b.toNat ∧ b.toNat ≤ 57 := by
 unfold isD at h
 simpa only [Bool.and_eq_true, decide_eq_true_eq] using h
theorem numF_lt (l : List UInt8) : ∀ (a k : Nat), l.all isD = true → a < 10 ^ k → numF a l < 10 ^ (k + l.length) := by
 induction l with
 | nil => intro a k _ h; exact h
 | cons b l ih =>
  intro a k hd h
  rw [numF_cons]
  simp only [List.all_cons, Bool.and_eq_true] at hd
  have hb := isD_val hd.1
  have hp : 10 ^ (k + 1) = 10 ^ k * 10 := Nat.pow_succ ..
  have := ih (10 * a + (b.toNat - 48)) (k + 1) hd.2 (by omega)
  rw [List.length_cons, show k + (l.length + 1) = k + 1 + l.length by omega]
  exact this
theorem numV_lt {l : List UInt8} (h : l.all isD = true) : numV l < 10 ^ l.length := by
 have := numF_lt l 0 0 h (by decide)
 simpa [numV] using this
theorem dig {b : UInt8} (h : isD b = true) : Go.Lib.digitVal b = some (b.toNat - 48) := by
 unfold isD at h
 simp only [Bool.and_eq_true, decide_eq_true_eq] at h
 unfold Go.Lib.digitVal
 rw [if_pos h]
theorem decFrom_numF : ∀ (l : List UInt8) (a : Nat), l.all isD = true → Go.Lib.decFrom a l = some (numF a l)
 | [], a, _ => rfl
 | b :: l, a, h => by
  simp only [List.all_cons, Bool.and_eq_true] at h
  unfold Go.Lib.decFrom
  rw [dig h.1, numF_cons, Nat.mul_comm 10 a]
  exact decFrom_numF l _ h.2
theorem atoi_num {l : List UInt8} (h : l.all isD = true) (hn : 1 ≤ l.length) : Go.Lib.atoi l = some (numV l : Int) := by
 match l, h, hn with
 | b :: r, h, _ =>
  have hb := h
  simp only [List.all_cons, Bool.and_eq_true] at hb
  have h1 : (b == 45) = false := by rw [beq_eq_false_iff_ne]; rintro rfl; exact absurd hb.1 (by decide)
  have h2 : (b == 43) = false := by rw [beq_eq_false_iff_ne]; rintro rfl; exact absurd hb.1 (by decide)
  unfold Go.Lib.atoi
  simp only [h1, h2, Bool.false_eq_true, if_false]
  unfold Go.Lib.decNat
  simp only [List.isEmpty_cons, Bool.false_eq_true, if_false]
  rw [decFrom_numF _ _ h]
  rfl
def numB (s : List UInt8) : Bool := s.all isD && wiB s.length 1 9
def numS (s : List UInt8) : Int := if numB s = true then (numV s : Int) else -1
theorem pow10_9 {k : Nat} (h : k ≤ 9) : 10 ^ k ≤ 1000000000 := Nat.le_trans (Nat.pow_le_pow_right (by decide) h) (by decide)
theorem numB_lt {s : List UInt8} (h : numB s = true) : numV s < 1000000000 ∧ 1 ≤ s.length ∧ s.length ≤ 9 ∧ s.all isD = true := by
 unfold numB wiB at h
 simp only [Bool.and_eq_true, decide_eq_true_eq] at h
 exact ⟨Nat.lt_of_lt_of_le (numV_lt h.1) (pow10_9 h.2.2), h.2.1, h.2.2, h.1⟩
section
variable {N : Nat} {s : List UInt8}
theorem m_number (hN : s.length < N) : air_number N s = some (numS s) := by
 unfold air_number numS
 rw [only_spec (predD N) s 9 hN, Option.bind_some, show (decide ((1 : Int) ≤ (s.length : Int)) && decide ((s.length : Int) ≤ (9 : Int))) = wiB s.length 1 9 from within_nat _ 1 9]
 have e : (s.all isD && wiB s.length 1 9) = numB s := rfl
 rw [e]
 cases h : numB s with
 | false => rfl
 | true =>
  have hl := numB_lt h
  rw [Bool.not_true, cond_false, if_pos rfl]
  unfold strconv_Atoi
  rw [if_pos (by omega), atoi_num hl.2.2.2 hl.2.1]
  rfl
end
def dByte (d : Nat) : UInt8 := UInt8.ofNat (48 + d)
theorem dByte_toNat {d : Nat} (h : d < 10) : (dByte d).toNat = 48 + d := by unfold dByte; rw [UInt8.toNat_ofNat']; omega
theorem dByte_D {d : Nat} (h : d < 10) : isD (dByte d) = true := by unfold isD; rw [dByte_toNat h]; simp; omega
theorem dd_small {u : Nat} (h : u < 10) : decDigits u = [dByte u] := by rw [decDigits, dif_pos h]; rfl
theorem dd_big {u : Nat} (h : ¬ u < 10) : decDigits u = decDigits (u / 10) ++ [dByte (u % 10)] := by
 conv => lhs; rw [decDigits, dif_neg h]
 rfl
theorem dd_pos (u : Nat) : 1 ≤ (decDigits u).length := by
 by_cases h : u < 10
 ·rw [dd_small h]; simp
 ·rw [dd_big h]; simp
theorem dd_all (u : Nat) : (decDigits u).all isD = true := by
 induction u using Nat.strongRecOn with
 | _ u ih =>
  by_cases h : u < 10
  ·rw [dd_small h]; simp [dByte_D h]
  ·rw [dd_big h, List.all_append, ih (u / 10) (by omega)]
   simp [dByte_D (Nat.mod_lt u (by decide : 0 < 10))]
theorem dd_num (u : Nat) : numV (decDigits u) = u := by
 induction u using Nat.strongRecOn with
 | _ u ih =>
  by_cases h : u < 10
  ·rw [dd_small h]
   show 10 * 0 + ((dByte u).toNat - 48) = u
   rw [dByte_toNat h]; omega
  ·rw [dd_big h, numV_snoc, ih (u / 10) (by omega), dByte_toNat (Nat.mod_lt u (by decide : 0 < 10))]; omega
theorem dd_len : ∀ (k u : Nat), u < 10 ^ (k + 1) → (decDigits u).length ≤ k + 1
 | 0, u, h => by rw [dd_small (by simpa using h)]; simp
 | k + 1, u, h => by
  by_cases hu : u < 10
  ·rw [dd_small hu]; simp
  ·rw [dd_big hu, List.length_append]
   have := dd_len k (u / 10) (by rw [Nat.pow_succ] at h; omega)
   simp; omega
def dP (k u : Nat) : List UInt8 := List.replicate (k - (decDigits u).length) 48 ++ decDigits u
theorem dP_all (k u : Nat) : (dP k u).all isD = true := by
 unfold dP
 rw [List.all_append, dd_all, Bool.and_true, List.all_eq_true]
 intro b hb
 rw [List.eq_of_mem_replicate hb]; decide
theorem numF_zeros (j : Nat) (l : List UInt8) : numF 0 (List.replicate j 48 ++ l) = numF 0 l := by
 induction j with
 | zero => rfl
 | succ j ih => rw [List.replicate_succ, List.cons_append, numF_cons]; exact ih
theorem dP_num (k u : Nat) : numV (dP k u) = u := by
 unfold dP numV
 rw [numF_zeros]
 exact dd_num u
theorem dP_len (k u : Nat) : k ≤ (dP k u).length ∧ 1 ≤ (dP k u).length := by
 unfold dP
 have := dd_pos u
 rw [List.length_append, List.length_replicate]
 omega
theorem dP_lenle {k j u : Nat} (h : u < 10 ^ (j + 1)) : (dP k u).length ≤ max k (j + 1) := by
 unfold dP
 have := dd_len j u h
 rw [List.length_append, List.length_replicate]
 omega
theorem repeat0 : ∀ n, Go.Lib.repeatL [48] n = List.replicate n 48
 | 0 => rfl
 | n + 1 => by unfold Go.Lib.repeatL; rw [repeat0 n]; rfl
section
variable {N : Nat}
theorem m_Itoa (u : Nat) (h : u ≤ 1000000000) : strconv_Itoa N (u : Int) = some (decDigits u) := by
 unfold strconv_Itoa
 rw [if_pos (by omega), Go.Lib.itoa_nonneg]
theorem m_padded (u k : Nat) (h : u ≤ 1000000000) (hk : k ≤ 100) : air_padded N (u : Int) (k : Int) = some (dP k u) := by
 unfold air_padded
 rw [m_Itoa u h, Option.bind_some]
 have hl : (decDigits u).length ≤ 10 := dd_len 9 u (by omega)
 rw [W64_id (by omega) (by omega)]
 have e : max (0 : Int) ((k : Int) - ((decDigits u).length : Int)) = ((k - (decDigits u).length : Nat) : Int) := by omega
 rw [e]
 unfold strings_Repeat
 rw [if_pos (by simp; omega), Option.bind_some, Int.toNat_natCast, repeat0]
 rw [sadd_some (by simp; omega)]
 rfl
end
end Go.Proofs.YtlddakefmfcblaaGreatDoor
namespace Go.Proofs.YtlddakefmfcblaaGreatDoor
open Go.Proofs
def air_PrintTime (N : Nat) (x0 : Int) : Option ((List UInt8) × Int) :=
 ((air_within N x0 0 20000).bind fun r1 => (bif (!r1) then some (([] : List UInt8), 1) else ((strconv_Itoa N (W64 ((W64 (Int.tdiv x0 1440)) + 1))).bind fun r12 => ((sadd r12 ([32] : List UInt8)).bind fun r20 => ((air_padded N (Int.tmod (W64 (Int.tdiv x0 60)) 24) 2).bind fun r23 => ((sadd r20 r23).bind fun r31 => ((air_padded N (Int.tmod x0 60) 2).bind fun r34 => ((sadd r31 r34).bind fun r42 => some (r42, 0)))))))))
theorem co_air_PrintTime : CallOk Tryz.prog 28 := fun _ _ => by kernel_rfl
set_option maxHeartbeats 4000000 in
set_option maxRecDepth 100000 in
theorem c_air_PrintTime (N : Nat) (w0 : World) (F0 : Mem) (hF : ∀ b o, F0 b = some o → w0.heap[b]? = some o) (hG : Glob F0) (x0 : Int) (r : ((List UInt8) × Int)) (h : air_PrintTime N x0 = some r) :
  Calls Tryz.prog 28 ([(vi x0)] : List Value).toArray w0 (FRet w0 F0 fun F' v => v = (.tuple #[(.string ⟨(r.1).toArray⟩), (vi r.2)])) := by
 have hs0 := HS.start hF
 refine calls_of (n := 21) (c := bodyOf Tryz.f28) Tryz.func28 (by kernel_rfl) (by kernel_rfl) (by kernel_rfl) ?_
 refine Sq (Rg [0, 1] ?_)
 refine V 2 9 (mc (.string ⟨([] : List UInt8).toArray⟩) (.string ⟨(([] : List UInt8)).toArray⟩)) ?_
 refine V 3 23 (mc (vi 0) (vi 0)) ?_
 refine Nss ?_
 refine Sq (Rg [0, 1, 2] ?_)
 refine V 4 3 (mv 0 (vi x0)) ?_
 obtain ⟨r1, hr2, h3⟩ := bind_some h
 refine Cl 5 4 73 #[(.tmp 4), (.const (vi 0)), (.const (vi 20000))] #[3, 3, 3] co_air_within hs0 (c_air_within N w0 F0 hs0.pers (x0) (0) (20000) _ hr2) ?_
 intro v4 F1 w5 hs6 le7 hp8
 obtain rfl := hp8
 refine V 6 4 (run_not (t := 4) (x := (.tmp 5)) (a := r1) rfl) ?_
 refine Nt ?_
 refine CWP.cond (t := (!r1)) (by kernel_rfl) rfl (fun hb9 => ?_) (fun hb9 => ?_)
 ·have h10 := cond_t h3 hb9
  refine Sq (Rg [0, 1] ?_)
  refine V 2 9 (mc (.string ⟨([] : List UInt8).toArray⟩) (.string ⟨(([] : List UInt8)).toArray⟩)) ?_
  refine V 3 23 (mc (vi 1) (vi 1)) ?_
  refine Nt ?_
  refine CWP.ret (by kernel_rfl) ?_
  refine thenQ_ret ?_
  have hfin := some_inj h10
  subst hfin
  exact ⟨rfl, (.tuple #[(.string ⟨(([] : List UInt8)).toArray⟩), (vi 1)]), res_of (l := [.tmp 2, .tmp 3]) (by kernel_rfl) (vs := [(.string ⟨(([] : List UInt8)).toArray⟩), (vi 1)]) ⟨rfl, ⟨rfl, trivial⟩⟩, (.tuple #[(.string ⟨(([] : List UInt8)).toArray⟩), (vi 1)]), F1, rfl, hs6.clear, rfl⟩
 ·have h11 := cond_f h3 hb9
  refine Sc ?_
  refine thenQ_nrm ?_
  refine Sq (Rg [0, 1, 2, 3, 4, 5, 6, 7, 8, 9, 10, 11, 12, 13, 14, 15] ?_)
  refine V 7 3 (mv 0 (vi x0)) ?_
  refine V 8 3 (run_quo (t := 3) (t' := 3) (x := (.tmp 7)) (y := (.const (vi 1440))) (k := .i64) (a := x0) (b := 1440) rfl rfl (by decide)) ?_
  refine V 9 3 (run_add (t := 3) (t' := 3) (x := (.tmp 8)) (y := (.const (vi 1))) (k := .i64) (a := (W64 (Int.tdiv x0 1440))) (b := 1) rfl rfl) ?_
  obtain ⟨r12, hr13, h14⟩ := bind_some h11
  refine Cl 10 9 74 #[(.tmp 9)] #[3] co_strconv_Itoa hs6 (c_strconv_Itoa N w5 F1 hs6.pers (hG.mono le7) ((W64 ((W64 (Int.tdiv x0 1440)) + 1))) _ hr13) ?_
  intro v15 F2 w16 hs17 le18 hp19
  obtain rfl := hp19
  obtain ⟨r20, hr21, h22⟩ := bind_some h14
  refine V 11 9 (run_sadd (t := 9) (t' := 9) (x := (.tmp 10)) (y := (.const (.string ⟨([32] : List UInt8).toArray⟩))) (a := r12) (b := ([32] : List UInt8)) (v := r20) rfl rfl hr21) ?_
  refine V 12 3 (mv 0 (vi x0)) ?_
  refine V 13 3 (run_quo (t := 3) (t' := 3) (x := (.tmp 12)) (y := (.const (vi 60))) (k := .i64) (a := x0) (b := 60) rfl rfl (by decide)) ?_
  refine V 14 3 (run_rem (t := 3) (t' := 3) (x := (.tmp 13)) (y := (.const (vi 24))) (k := .i64) (a := (W64 (Int.tdiv x0 60))) (b := 24) rfl rfl (by decide)) ?_
  obtain ⟨r23, hr24, h25⟩ := bind_some h22
  refine Cl 15 9 75 #[(.tmp 14), (.const (vi 2))] #[3, 3] co_air_padded hs17 (c_air_padded N w16 F2 hs17.pers (hG.mono (le7.trans le18)) ((Int.tmod (W64 (Int.tdiv x0 60)) 24)) (2) _ hr24) ?_
  intro v26 F3 w27 hs28 le29 hp30
  obtain rfl := hp30
  obtain ⟨r31, hr32, h33⟩ := bind_some h25
  refine V 16 9 (run_sadd (t := 9) (t' := 9) (x := (.tmp 11)) (y := (.tmp 15)) (a := r20) (b := r23) (v := r31) rfl rfl hr32) ?_
  refine V 17 3 (mv 0 (vi x0)) ?_
  refine V 18 3 (run_rem (t := 3) (t' := 3) (x := (.tmp 17)) (y := (.const (vi 60))) (k := .i64) (a := x0) (b := 60) rfl rfl (by decide)) ?_
  obtain ⟨r34, hr35, h36⟩ := bind_some h33
  refine Cl 19 9 75 #[(.tmp 18), (.const (vi 2))] #[3, 3] co_air_padded hs28 (c_air_padded N w27 F3 hs28.pers (hG.mono ((le7.trans le18).trans le29)) ((Int.tmod x0 60)) (2) _ hr35) ?_
  intro v37 F4 w38 hs39 le40 hp41
  obtain rfl := hp41
  obtain ⟨r42, hr43, h44⟩ := bind_some h36
  refine V 20 9 (run_sadd (t := 9) (t' := 9) (x := (.tmp 16)) (y := (.tmp 19)) (a := r31) (b := r34) (v := r42) rfl rfl hr43) ?_
  refine V 2 9 (ma 20 (.string ⟨(r42).toArray⟩)) ?_
  refine V 3 23 (mc (vi 0) (vi 0)) ?_
  refine Nt ?_
  refine CWP.ret (by kernel_rfl) ?_
  have hfin := some_inj h44
  subst hfin
  exact ⟨rfl, (.tuple #[(.string ⟨(r42).toArray⟩), (vi 0)]), res_of (l := [.tmp 2, .tmp 3]) (by kernel_rfl) (vs := [(.string ⟨(r42).toArray⟩), (vi 0)]) ⟨rfl, ⟨rfl, trivial⟩⟩, (.tuple #[(.string ⟨(r42).toArray⟩), (vi 0)]), F4, rfl, hs39.clear, rfl⟩
end Go.Proofs.YtlddakefmfcblaaGreatDoor
namespace Go.Proofs.YtlddakefmfcblaaGreatDoor
open Go.Proofs
end Go.Proofs.YtlddakefmfcblaaGreatDoor
namespace Go.Proofs.YtlddakefmfcblaaGreatDoor
open Go.Proofs
def air_ParseTime (N : Nat) (x0 : (List UInt8)) : Option (Int × Int) :=
 ((strings_Cut N x0 ([32] : List UInt8)).bind fun r1 => ((air_number N r1.1).bind fun r9 => ((air_number N r1.2.1).bind fun r17 => (bif ((decide (r9 < 1)) || ((decide (r9 > 20000)) || (decide (r17 < 0)))) then some (0, 13) else ((air_PrintTime N (W64 ((W64 ((W64 ((W64 (r9 - 1)) * 1440)) + (W64 ((W64 (Int.tdiv r17 100)) * 60)))) + (Int.tmod r17 100)))).bind fun r38 => (bif ((r38.2 != 0) || (r38.1 != x0)) then some (0, 13) else some ((W64 ((W64 ((W64 ((W64 (r9 - 1)) * 1440)) + (W64 ((W64 (Int.tdiv r17 100)) * 60)))) + (Int.tmod r17 100))), 0)))))))
theorem co_air_ParseTime : CallOk Tryz.prog 30 := fun _ _ => by kernel_rfl
set_option maxHeartbeats 4000000 in
set_option maxRecDepth 100000 in
theorem c_air_ParseTime (N : Nat) (w0 : World) (F0 : Mem) (hF : ∀ b o, F0 b = some o → w0.heap[b]? = some o) (hG : Glob F0) (x0 : (List UInt8)) (r : (Int × Int)) (h : air_ParseTime N x0 = some r) :
  Calls Tryz.prog 30 ([(.string ⟨(x0).toArray⟩)] : List Value).toArray w0 (FRet w0 F0 fun F' v => v = (.tuple #[(vi r.1), (vi r.2)])) := by
 have hs0 := HS.start hF
 refine calls_of (n := 55) (c := bodyOf Tryz.f30) Tryz.func30 (by kernel_rfl) (by kernel_rfl) (by kernel_rfl) ?_
 refine Sq (Rg [0, 1] ?_)
 refine V 2 3 (mc (vi 0) (vi 0)) ?_
 refine V 3 23 (mc (vi 0) (vi 0)) ?_
 refine Nss (Rg [0, 1, 2, 3, 4, 5, 6, 7, 8] ?_)
 refine V 13 9 (mv 0 (.string ⟨(x0).toArray⟩)) ?_
 obtain ⟨r1, hr2, h3⟩ := bind_some h
 refine Cl 14 96 77 #[(.tmp 13), (.const (.string ⟨([32] : List UInt8).toArray⟩))] #[9, 9] co_strings_Cut hs0 (c_strings_Cut N w0 F0 hs0.pers hG (x0) (([32] : List UInt8)) _ hr2) ?_
 intro v4 F1 w5 hs6 le7 hp8
 obtain rfl := hp8
 refine V 12 96 (mv 14 (.tuple #[(.string ⟨(r1.1).toArray⟩), (.string ⟨(r1.2.1).toArray⟩), (.bool r1.2.2)])) ?_
 refine V 15 9 (ex 12 0 (.string ⟨(r1.1).toArray⟩) (vs := #[(.string ⟨(r1.1).toArray⟩), (.string ⟨(r1.2.1).toArray⟩), (.bool r1.2.2)])) ?_
 refine V 16 9 (ex 12 1 (.string ⟨(r1.2.1).toArray⟩) (vs := #[(.string ⟨(r1.1).toArray⟩), (.string ⟨(r1.2.1).toArray⟩), (.bool r1.2.2)])) ?_
 refine V 17 4 (ex 12 2 (.bool r1.2.2) (vs := #[(.string ⟨(r1.1).toArray⟩), (.string ⟨(r1.2.1).toArray⟩), (.bool r1.2.2)])) ?_
 refine V 4 9 (ma 15 (.string ⟨(r1.1).toArray⟩)) ?_
 refine V 5 9 (ma 16 (.string ⟨(r1.2.1).toArray⟩)) ?_
 refine V 6 4 (ma 17 (.bool r1.2.2)) ?_
 refine Nss (Rg [0, 1, 2, 3, 4, 5] ?_)
 refine V 18 9 (mv 4 (.string ⟨(r1.1).toArray⟩)) ?_
 obtain ⟨r9, hr10, h11⟩ := bind_some h3
 refine Cl 19 3 78 #[(.tmp 18)] #[9] co_air_number hs6 (c_air_number N w5 F1 hs6.pers (r1.1) _ hr10) ?_
 intro v12 F2 w13 hs14 le15 hp16
 obtain rfl := hp16
 refine V 20 9 (mv 5 (.string ⟨(r1.2.1).toArray⟩)) ?_
 obtain ⟨r17, hr18, h19⟩ := bind_some h11
 refine Cl 21 3 78 #[(.tmp 20)] #[9] co_air_number hs14 (c_air_number N w13 F2 hs14.pers (r1.2.1) _ hr18) ?_
 intro v20 F3 w21 hs22 le23 hp24
 obtain rfl := hp24
 refine V 7 3 (ma 19 (vi r9)) ?_
 refine V 8 3 (ma 21 (vi r17)) ?_
 refine Nss ?_
 refine Sq (Rg [0, 1, 2, 3, 4, 5, 6, 7, 8, 9] ?_)
 refine RWP.cut (fun f w => ∃ (F4 : Mem), HS w0 F0 w F4 [] ∧ Mem.le F3 F4 ∧ f.d = [] ∧ f 0 = (.string ⟨(x0).toArray⟩) ∧ f 7 = (vi r9) ∧ f 8 = (vi r17) ∧ f 31 = (.bool ((decide (r9 < 1)) || ((decide (r9 > 20000)) || (decide (r17 < 0)))))) ?_ ?_
 ·refine V 22 3 (mv 7 (vi r9)) ?_
  refine V 23 4 (run_lss (t := 3) (t' := 3) (x := (.tmp 22)) (y := (.const (vi 1))) (k := .i64) (a := r9) (b := 1) rfl rfl) ?_
  refine V 24 4 (mv 23 (.bool (decide (r9 < 1)))) ?_
  refine RWP.split (decide (r9 < 1)) (fun hb33 => ?_) (fun hb33 => ?_)
  ·refine Sk [25, 26] 2 false 24 hb33 ?_
   refine V 27 4 (p1 24 (.const (.bool true)) (.tmp 26) (.bool true) hb33) ?_
   refine V 28 4 (mv 27 (.bool true)) ?_
   refine Sk [29, 30] 6 false 28 rfl ?_
   refine V 31 4 (p1 28 (.const (.bool true)) (.tmp 30) (.bool true) rfl) ?_
   exact RWP.nil ⟨rfl, F3, hs22, (Mem.le.refl _), rfl, rfl, rfl, rfl, (congrArg Value.bool (or_t hb33 (rfl)))⟩
  ·refine Vg 25 3 2 false 24 hb33 (mv 7 (vi r9)) ?_
   refine Vg 26 4 2 false 24 hb33 (run_gtr (t := 3) (t' := 3) (x := (.tmp 25)) (y := (.const (vi 20000))) (k := .i64) (a := r9) (b := 20000) rfl rfl) ?_
   refine V 27 4 (p0 24 (.const (.bool true)) (.tmp 26) (.bool (decide (r9 > 20000))) hb33) ?_
   refine V 28 4 (mv 27 (.bool (decide (r9 > 20000)))) ?_
   refine RWP.split (decide (r9 > 20000)) (fun hb34 => ?_) (fun hb34 => ?_)
   ·refine Sk [29, 30] 6 false 28 hb34 ?_
    refine V 31 4 (p1 28 (.const (.bool true)) (.tmp 30) (.bool true) hb34) ?_
    exact RWP.nil ⟨rfl, F3, hs22, (Mem.le.refl _), rfl, rfl, rfl, rfl, (congrArg Value.bool (or_f hb33 (or_t hb34 (rfl))))⟩
   ·refine Vg 29 3 6 false 28 hb34 (mv 8 (vi r17)) ?_
    refine Vg 30 4 6 false 28 hb34 (run_lss (t := 3) (t' := 3) (x := (.tmp 29)) (y := (.const (vi 0))) (k := .i64) (a := r17) (b := 0) rfl rfl) ?_
    refine V 31 4 (p0 28 (.const (.bool true)) (.tmp 30) (.bool (decide (r17 < 0))) hb34) ?_
    exact RWP.nil ⟨rfl, F3, hs22, (Mem.le.refl _), rfl, rfl, rfl, rfl, (congrArg Value.bool (or_f hb33 (or_f hb34 (rfl))))⟩
 ·rintro f w25 ⟨F4, hs26, le27, e28, e29, e30, e31, e32⟩
  refine thenQ_nrm ?_
  refine CWP.cond (t := ((decide (r9 < 1)) || ((decide (r9 > 20000)) || (decide (r17 < 0))))) (by kernel_rfl) e32 (fun hb35 => ?_) (fun hb35 => ?_)
  ·have h36 := cond_t h19 hb35
   refine Sq (Rg [0, 1] ?_)
   refine V 2 3 (mc (vi 0) (vi 0)) ?_
   refine V 3 23 (mc (vi 13) (vi 13)) ?_
   refine Nt ?_
   refine CWP.ret (by kernel_rfl) ?_
   refine thenQ_ret ?_
   have hfin := some_inj h36
   subst hfin
   exact ⟨e28, (.tuple #[(vi 0), (vi 13)]), res_of (l := [.tmp 2, .tmp 3]) (by kernel_rfl) (vs := [(vi 0), (vi 13)]) ⟨rfl, ⟨rfl, trivial⟩⟩, (.tuple #[(vi 0), (vi 13)]), F4, rfl, hs26.clear, rfl⟩
  ·have h37 := cond_f h19 hb35
   refine Sc ?_
   refine thenQ_nrm ?_
   refine Sq (Rg [0, 1, 2, 3, 4, 5, 6, 7, 8, 9, 10] ?_)
   refine V 32 3 (mv 7 (vi r9) e30) ?_
   refine V 33 3 (run_sub (t := 3) (t' := 3) (x := (.tmp 32)) (y := (.const (vi 1))) (k := .i64) (a := r9) (b := 1) rfl rfl) ?_
   refine V 34 3 (run_mul (t := 3) (t' := 3) (x := (.tmp 33)) (y := (.const (vi 1440))) (k := .i64) (a := (W64 (r9 - 1))) (b := 1440) rfl rfl) ?_
   refine V 35 3 (mv 8 (vi r17) e31) ?_
   refine V 36 3 (run_quo (t := 3) (t' := 3) (x := (.tmp 35)) (y := (.const (vi 100))) (k := .i64) (a := r17) (b := 100) rfl rfl (by decide)) ?_
   refine V 37 3 (run_mul (t := 3) (t' := 3) (x := (.tmp 36)) (y := (.const (vi 60))) (k := .i64) (a := (W64 (Int.tdiv r17 100))) (b := 60) rfl rfl) ?_
   refine V 38 3 (run_add (t := 3) (t' := 3) (x := (.tmp 34)) (y := (.tmp 37)) (k := .i64) (a := (W64 ((W64 (r9 - 1)) * 1440))) (b := (W64 ((W64 (Int.tdiv r17 100)) * 60))) rfl rfl) ?_
   refine V 39 3 (mv 8 (vi r17) e31) ?_
   refine V 40 3 (run_rem (t := 3) (t' := 3) (x := (.tmp 39)) (y := (.const (vi 100))) (k := .i64) (a := r17) (b := 100) rfl rfl (by decide)) ?_
   refine V 41 3 (run_add (t := 3) (t' := 3) (x := (.tmp 38)) (y := (.tmp 40)) (k := .i64) (a := (W64 ((W64 ((W64 (r9 - 1)) * 1440)) + (W64 ((W64 (Int.tdiv r17 100)) * 60))))) (b := (Int.tmod r17 100)) rfl rfl) ?_
   refine V 9 3 (ma 41 (vi (W64 ((W64 ((W64 ((W64 (r9 - 1)) * 1440)) + (W64 ((W64 (Int.tdiv r17 100)) * 60)))) + (Int.tmod r17 100))))) ?_
   refine Nss ?_
   refine Sq (Rg [0, 1, 2, 3, 4, 5, 6] ?_)
   refine V 43 3 (mv 9 (vi (W64 ((W64 ((W64 ((W64 (r9 - 1)) * 1440)) + (W64 ((W64 (Int.tdiv r17 100)) * 60)))) + (Int.tmod r17 100))))) ?_
   obtain ⟨r38, hr39, h40⟩ := bind_some h37
   refine Cl 44 24 28 #[(.tmp 43)] #[3] co_air_PrintTime hs26 (c_air_PrintTime N w25 F4 hs26.pers (hG.mono (((le7.trans le15).trans le23).trans le27)) ((W64 ((W64 ((W64 ((W64 (r9 - 1)) * 1440)) + (W64 ((W64 (Int.tdiv r17 100)) * 60)))) + (Int.tmod r17 100)))) _ hr39) ?_
   intro v41 F5 w42 hs43 le44 hp45
   obtain rfl := hp45
   refine V 42 24 (mv 44 (.tuple #[(.string ⟨(r38.1).toArray⟩), (vi r38.2)])) ?_
   refine V 45 9 (ex 42 0 (.string ⟨(r38.1).toArray⟩) (vs := #[(.string ⟨(r38.1).toArray⟩), (vi r38.2)])) ?_
   refine V 46 23 (ex 42 1 (vi r38.2) (vs := #[(.string ⟨(r38.1).toArray⟩), (vi r38.2)])) ?_
   refine V 10 9 (ma 45 (.string ⟨(r38.1).toArray⟩)) ?_
   refine V 11 23 (ma 46 (vi r38.2)) ?_
   refine Nss (Rg [0, 1, 2, 3, 4, 5, 6] ?_)
   refine RWP.cut (fun f w => ∃ (F6 : Mem), HS w0 F0 w F6 [] ∧ Mem.le F5 F6 ∧ f.d = [] ∧ f 9 = (vi (W64 ((W64 ((W64 ((W64 (r9 - 1)) * 1440)) + (W64 ((W64 (Int.tdiv r17 100)) * 60)))) + (Int.tmod r17 100)))) ∧ f 53 = (.bool ((r38.2 != 0) || (r38.1 != x0)))) ?_ ?_
   ·refine V 47 23 (mv 11 (vi r38.2)) ?_
    refine V 48 4 (run_neq (t := 23) (t' := 23) (x := (.tmp 47)) (y := (.const (vi 0))) (k := .i64) (a := r38.2) (b := 0) rfl rfl) ?_
    refine V 49 4 (mv 48 (.bool (r38.2 != 0))) ?_
    refine RWP.split (r38.2 != 0) (fun hb52 => ?_) (fun hb52 => ?_)
    ·refine Sk [50, 51, 52] 2 false 49 hb52 ?_
     refine V 53 4 (p1 49 (.const (.bool true)) (.tmp 52) (.bool true) hb52) ?_
     exact RWP.nil ⟨rfl, F5, hs43, (Mem.le.refl _), e28, rfl, (congrArg Value.bool (or_t hb52 (rfl)))⟩
    ·refine Vg 50 9 2 false 49 hb52 (mv 10 (.string ⟨(r38.1).toArray⟩)) ?_
     refine Vg 51 9 2 false 49 hb52 (mv 0 (.string ⟨(x0).toArray⟩) e29) ?_
     refine Vg 52 4 2 false 49 hb52 (run_scmp (t := 9) (t' := 9) (x := (.tmp 50)) (y := (.tmp 51)) (op := .neq) (a := r38.1) (b := x0) (v := (r38.1 != x0)) rfl rfl rfl) ?_
     refine V 53 4 (p0 49 (.const (.bool true)) (.tmp 52) (.bool (r38.1 != x0)) hb52) ?_
     exact RWP.nil ⟨rfl, F5, hs43, (Mem.le.refl _), e28, rfl, (congrArg Value.bool (or_f hb52 (rfl)))⟩
   ·rintro f w46 ⟨F6, hs47, le48, e49, e50, e51⟩
    refine thenQ_nrm ?_
    refine CWP.cond (t := ((r38.2 != 0) || (r38.1 != x0))) (by kernel_rfl) e51 (fun hb53 => ?_) (fun hb53 => ?_)
    ·have h54 := cond_t h40 hb53
     refine Sq (Rg [0, 1] ?_)
     refine V 2 3 (mc (vi 0) (vi 0)) ?_
     refine V 3 23 (mc (vi 13) (vi 13)) ?_
     refine Nt ?_
     refine CWP.ret (by kernel_rfl) ?_
     refine thenQ_ret ?_
     have hfin := some_inj h54
     subst hfin
     exact ⟨e49, (.tuple #[(vi 0), (vi 13)]), res_of (l := [.tmp 2, .tmp 3]) (by kernel_rfl) (vs := [(vi 0), (vi 13)]) ⟨rfl, ⟨rfl, trivial⟩⟩, (.tuple #[(vi 0), (vi 13)]), F6, rfl, hs47.clear, rfl⟩
    ·have h55 := cond_f h40 hb53
     refine Sc ?_
     refine thenQ_nrm ?_
     refine Sq (Rg [0, 1, 2] ?_)
     refine V 54 3 (mv 9 (vi (W64 ((W64 ((W64 ((W64 (r9 - 1)) * 1440)) + (W64 ((W64 (Int.tdiv r17 100)) * 60)))) + (Int.tmod r17 100)))) e50) ?_
     refine V 2 3 (ma 54 (vi (W64 ((W64 ((W64 ((W64 (r9 - 1)) * 1440)) + (W64 ((W64 (Int.tdiv r17 100)) * 60)))) + (Int.tmod r17 100))))) ?_
     refine V 3 23 (mc (vi 0) (vi 0)) ?_
     refine Nt ?_
     refine CWP.ret (by kernel_rfl) ?_
     have hfin := some_inj h55
     subst hfin
     exact ⟨e49, (.tuple #[(vi (W64 ((W64 ((W64 ((W64 (r9 - 1)) * 1440)) + (W64 ((W64 (Int.tdiv r17 100)) * 60)))) + (Int.tmod r17 100)))), (vi 0)]), res_of (l := [.tmp 2, .tmp 3]) (by kernel_rfl) (vs := [(vi (W64 ((W64 ((W64 ((W64 (r9 - 1)) * 1440)) + (W64 ((W64 (Int.tdiv r17 100)) * 60)))) + (Int.tmod r17 100)))), (vi 0)]) ⟨rfl, ⟨rfl, trivial⟩⟩, (.tuple #[(vi (W64 ((W64 ((W64 ((W64 (r9 - 1)) * 1440)) + (W64 ((W64 (Int.tdiv r17 100)) * 60)))) + (Int.tmod r17 100)))), (vi 0)]), F6, rfl, hs47.clear, rfl⟩
end Go.Proofs.YtlddakefmfcblaaGreatDoor
namespace Go.Proofs.YtlddakefmfcblaaGreatDoor
open Go.Proofs
end Go.Proofs.YtlddakefmfcblaaGreatDoor
namespace Go.Proofs.YtlddakefmfcblaaGreatDoor
open Go.Proofs
end Go.Proofs.YtlddakefmfcblaaGreatDoor
namespace Go.Proofs.YtlddakefmfcblaaGreatDoor
open Go.Proofs
end Go.Proofs.YtlddakefmfcblaaGreatDoor
namespace Go.Proofs.YtlddakefmfcblaaGreatDoor
open Go.Lib (decDigits)
def tText (u : Nat) : List UInt8 := decDigits (u / 1440 + 1) ++ 32 :: (dP 2 (u / 60 % 24) ++ dP 2 (u % 60))
def printT (x : Int) : List UInt8 × Int := if 0 ≤ x ∧ x ≤ 20000 then (tText x.toNat, 0) else ([], 1)
theorem tdivN (u k : Nat) (h : u < 4611686018427387904) : W64 (Int.tdiv (u : Int) (k : Int)) = ((u / k : Nat) : Int) := by
 have : Int.tdiv (u : Int) (k : Int) = ((u / k : Nat) : Int) := by rw [Int.tdiv_eq_ediv_of_nonneg (by omega)]; rfl
 have h2 : u / k ≤ u := Nat.div_le_self _ _
 rw [this]
 generalize u / k = v at h2
 rw [W64_id (by omega) (by omega)]
theorem tmodN (u k : Nat) : Int.tmod (u : Int) (k : Int) = ((u % k : Nat) : Int) := by
 rw [Int.tmod_eq_emod_of_nonneg (by omega)]; rfl
theorem dd_len5 {u : Nat} (h : u < 100000) : (decDigits u).length ≤ 5 := dd_len 4 u (by omega)
theorem dP2_len {u : Nat} (h : u < 100) : (dP 2 u).length = 2 := by
 have h1 := dP_len 2 u
 have h2 := dP_lenle (k := 2) (j := 1) (u := u) (by omega)
 omega
section
variable {N : Nat}
theorem s_PrintTime (x : Int) : air_PrintTime N x = some (printT x) := by
 unfold air_PrintTime printT
 rw [m_within, Option.bind_some]
 by_cases h : 0 ≤ x ∧ x ≤ 20000
 ·rw [if_pos h, decide_eq_true h.1, decide_eq_true h.2]
  obtain ⟨u, rfl⟩ : ∃ u : Nat, x = u := ⟨x.toNat, by omega⟩
  have hu : u ≤ 20000 := by omega
  simp only [Bool.and_self, Bool.not_true, cond_false]
  have e1 := tdivN u 1440 (by omega)
  have e2 := tdivN u 60 (by omega)
  simp only [Int.cast_ofNat_Int] at e1 e2
  have e3 := tmodN (u / 60) 24
  have e4 := tmodN u 60
  simp only [Int.cast_ofNat_Int] at e3 e4
  rw [e1, e2, e3, e4, w64s (u / 1440) (by omega), m_Itoa _ (by omega), Option.bind_some]
  have hl1 := dd_len5 (u := u / 1440 + 1) (by omega)
  have hl2 := dP2_len (u := u / 60 % 24) (by omega)
  have hl3 := dP2_len (u := u % 60) (by omega)
  have p1 := m_padded (N := N) (u / 60 % 24) 2 (by omega) (by omega)
  have p2 := m_padded (N := N) (u % 60) 2 (by omega) (by omega)
  simp only [Int.cast_ofNat_Int] at p1 p2
  rw [sadd_some (by simp; omega), Option.bind_some, p1, Option.bind_some, sadd_some (by simp; omega), Option.bind_some, p2, Option.bind_some, sadd_some (by simp; omega), Option.bind_some]
  unfold tText
  simp
 ·rw [if_neg h]
  have : (decide (0 ≤ x) && decide (x ≤ 20000)) = false := by
   rw [Bool.and_eq_false_iff, decide_eq_false_iff_not, decide_eq_false_iff_not]; omega
  rw [this]; rfl
def tval (p q : Nat) : Nat := (p - 1) * 1440 + q / 100 * 60 + q % 100
theorem tval_eq {p q : Nat} (h1 : 1 ≤ p) (hp : p < 1000000000) (hq : q < 1000000000) : W64 ((W64 ((W64 ((W64 ((p : Int) - 1)) * 1440)) + (W64 ((W64 (Int.tdiv (q : Int) 100)) * 60)))) + (Int.tmod (q : Int) 100)) = (tval p q : Int) := by
 have e1 := tdivN q 100 (by omega)
 have e2 := tmodN q 100
 simp only [Int.cast_ofNat_Int] at e1 e2
 rw [e1, e2, W64_id (n := (p : Int) - 1) (by omega) (by omega), W64_id (n := ((p : Int) - 1) * 1440) (by omega) (by omega), W64_id (n := ((q / 100 : Nat) : Int) * 60) (by omega) (by omega)]
 rw [W64_id (n := ((p : Int) - 1) * 1440 + ((q / 100 : Nat) : Int) * 60) (by omega) (by omega), W64_id (by omega) (by omega)]
 unfold tval
 omega
def parse2 (s a b : List UInt8) : Int × Int := if numB a && numB b && decide (1 ≤ numV a) && decide (printT (tval (numV a) (numV b)) = (s, 0)) then ((tval (numV a) (numV b) : Int), 0) else (0, 13)
def parseT (s : List UInt8) : Int × Int := match pcs 32 s with
 | [a, b] => parse2 s a b
 | _ => (0, 13)
theorem numB_no32 {s : List UInt8} (h : (32 : UInt8) ∈ s) : numB s = false := by
 cases hh : numB s with
 | false => rfl
 | true =>
  have := List.all_eq_true.1 (numB_lt hh).2.2.2 _ h
  revert this; decide
theorem numB_nil : numB [] = false := rfl
theorem ok_dec (s t : List UInt8) (e : Int) : ((e != 0) || (t != s)) = !decide ((t, e) = (s, 0)) := by
 by_cases h1 : e = 0
 ·by_cases h2 : t = s
  ·subst h1; subst h2; simp
  ·rw [decide_eq_false (fun h => h2 (by injection h))]; simp [h2]
 ·rw [decide_eq_false (fun h => h1 (by injection h))]; simp [h1]
theorem parse_air (s a b : List UInt8) (ha : a.length < N) (hb : b.length < N) :
  ((air_number N a).bind fun r9 => ((air_number N b).bind fun r17 => (bif ((decide (r9 < 1)) || ((decide (r9 > 20000)) || (decide (r17 < 0)))) then some ((0 : Int), (13 : Int)) else ((air_PrintTime N (W64 ((W64 ((W64 ((W64 (r9 - 1)) * 1440)) + (W64 ((W64 (Int.tdiv r17 100)) * 60)))) + (Int.tmod r17 100)))).bind fun r38 => (bif ((r38.2 != 0) || (r38.1 != s)) then some (0, 13) else some ((W64 ((W64 ((W64 ((W64 (r9 - 1)) * 1440)) + (W64 ((W64 (Int.tdiv r17 100)) * 60)))) + (Int.tmod r17 100))), 0)))))) = some (parse2 s a b) := by
 rw [m_number ha, m_number hb, Option.bind_some, Option.bind_some]
 unfold numS parse2
 cases hA : numB a with
 | false =>
  simp only [Bool.false_eq_true, if_false, Bool.false_and]
  rfl
 | true =>
  cases hB : numB b with
  | false =>
   simp only [Bool.false_eq_true, if_false, if_true, Bool.and_false, Bool.false_and]
   rw [show decide ((-1 : Int) < 0) = true from rfl, Bool.or_true, Bool.or_true]; rfl
  | true =>
   simp only [if_true, Bool.and_self, Bool.true_and]
   have hp := numB_lt hA
   have hq := numB_lt hB
   generalize numV a = p at hp ⊢
   generalize numV b = q at hq ⊢
   by_cases h1 : 1 ≤ p
   ·rw [decide_eq_false (show ¬ (p : Int) < 1 by omega), decide_eq_true h1, decide_eq_false (show ¬ (q : Int) < 0 by omega), Bool.false_or, Bool.or_false, Bool.true_and, tval_eq h1 hp.1 hq.1]
    by_cases h2 : p ≤ 20000
    ·rw [decide_eq_false (show ¬ (p : Int) > 20000 by omega), cond_false, s_PrintTime, Option.bind_some, ok_dec]
     have : ((printT (tval p q : Int)).1, (printT (tval p q : Int)).2) = printT (tval p q : Int) := rfl
     rw [this]
     by_cases h3 : printT (tval p q : Int) = (s, 0)
     ·rw [decide_eq_true h3, if_pos rfl]; rfl
     ·rw [decide_eq_false h3]; rfl
    ·rw [decide_eq_true (show (p : Int) > 20000 by omega), cond_true]
     have h3 : ¬ printT (tval p q : Int) = (s, 0) := by
      unfold printT tval
      rw [if_neg (by omega)]
      intro h; injection h with h1 h2; exact absurd h2 (by decide)
     rw [decide_eq_false h3]; rfl
   ·rw [decide_eq_true (show (p : Int) < 1 by omega), decide_eq_false h1]; rfl
theorem parse2_err {s a b : List UInt8} (h : numB b = false) : parse2 s a b = (0, 13) := by unfold parse2; rw [h]; simp
theorem s_ParseTime (s : List UInt8) (hs : s.length < 4294967281) (hN : 4294967300 < N) : air_ParseTime N s = some (parseT s) := by
 unfold air_ParseTime
 have hc : strings_Cut N s [32] = some (Go.Lib.cut s [32]) := by unfold strings_Cut; rw [if_pos hs]
 rw [hc, Option.bind_some]
 unfold parseT
 by_cases h : (32 : UInt8) ∈ s
 ·obtain ⟨a, t, rfl, ha⟩ := split_at_first h
  simp only [List.length_append, List.length_cons] at hs
  rw [cut_some ha, pcs_app ha]
  simp only
  rw [parse_air _ a t (by omega) (by omega)]
  by_cases ht : (32 : UInt8) ∈ t
  ·obtain ⟨a', t', rfl, ha'⟩ := split_at_first ht
   rw [pcs_app ha', parse2_err (numB_no32 ht)]
   cases hp : pcs 32 t' with
   | nil => exact absurd hp (pcs_ne 32 t')
   | cons x l => rfl
  ·rw [pcs_none ht]
 ·rw [cut_none h, pcs_none h]
  simp only
  rw [parse_air _ s [] (by omega) (by simp; omega), parse2_err numB_nil]
end
theorem numF_mul (a : Nat) (l : List UInt8) : numF a l = a * 10 ^ l.length + numF 0 l := by
 induction l generalizing a with
 | nil => simp [numF]
 | cons b l ih =>
  rw [numF_cons, numF_cons, ih (10 * a + (b.toNat - 48)), ih (10 * 0 + (b.toNat - 48)), List.length_cons, Nat.pow_succ, Nat.add_mul, Nat.mul_comm (10 ^ l.length) 10, ← Nat.mul_assoc, Nat.mul_comm a 10, Nat.mul_zero, Nat.zero_add, Nat.add_assoc]
theorem numV_app (l m : List UInt8) : numV (l ++ m) = numV l * 10 ^ m.length + numV m := by
 unfold numV
 rw [show numF 0 (l ++ m) = numF (numF 0 l) m by unfold numF; rw [List.foldl_append], numF_mul]
theorem no32 {l : List UInt8} (h : l.all isD = true) : (32 : UInt8) ∉ l := fun hm => by
 have := List.all_eq_true.1 h _ hm
 revert this; decide
theorem parse_text {u : Nat} (h : u ≤ 20000) : parseT (tText u) = ((u : Int), 0) := by
 have hl1 := dd_len5 (u := u / 1440 + 1) (by omega)
 have hl2 := dP2_len (u := u / 60 % 24) (by omega)
 have hl3 := dP2_len (u := u % 60) (by omega)
 have hall : (dP 2 (u / 60 % 24) ++ dP 2 (u % 60)).all isD = true := by rw [List.all_append, dP_all, dP_all]; rfl
 have hp : pcs 32 (tText u) = [decDigits (u / 1440 + 1), dP 2 (u / 60 % 24) ++ dP 2 (u % 60)] := by
  unfold tText
  rw [pcs_app (no32 (dd_all _)), pcs_none (no32 hall)]
 unfold parseT
 rw [hp]
 simp only
 unfold parse2
 have n1 : numB (decDigits (u / 1440 + 1)) = true := by
  unfold numB wiB; have := dd_pos (u / 1440 + 1); rw [dd_all]; simp; omega
 have n2 : numB (dP 2 (u / 60 % 24) ++ dP 2 (u % 60)) = true := by
  unfold numB wiB; rw [hall]; simp [hl2, hl3]
 have v2 : numV (dP 2 (u / 60 % 24) ++ dP 2 (u % 60)) = u / 60 % 24 * 100 + u % 60 := by
  rw [numV_app, dP_num, dP_num, hl3]
 have e : tval (u / 1440 + 1) (u / 60 % 24 * 100 + u % 60) = u := by unfold tval; omega
 have hpr : printT (u : Int) = (tText u, 0) := by unfold printT; rw [if_pos (by omega)]; rfl
 rw [n1, n2, dd_num, v2, e, hpr, decide_eq_true (show 1 ≤ u / 1440 + 1 by omega), decide_eq_true rfl]
 rfl
end Go.Proofs.YtlddakefmfcblaaGreatDoor
namespace Go.Proofs.YtlddakefmfcblaaGreatDoor
open Go.Proofs
end Go.Proofs.YtlddakefmfcblaaGreatDoor
namespace Go.Proofs.YtlddakefmfcblaaGreatDoor
open Go.Proofs
end Go.Proofs.YtlddakefmfcblaaGreatDoor
namespace Go.Proofs.YtlddakefmfcblaaGreatDoor
open Go.Proofs
end Go.Proofs.YtlddakefmfcblaaGreatDoor
namespace Go.Proofs.YtlddakefmfcblaaGreatDoor
open Go.Proofs
end Go.Proofs.YtlddakefmfcblaaGreatDoor
namespace Go.Proofs.YtlddakefmfcblaaGreatDoor
open Go.Proofs
end Go.Proofs.YtlddakefmfcblaaGreatDoor
namespace Go.Proofs.YtlddakefmfcblaaGreatDoor
open Go.Proofs
end Go.Proofs.YtlddakefmfcblaaGreatDoor
namespace Go.Proofs.YtlddakefmfcblaaGreatDoor
open Go.Proofs
end Go.Proofs.YtlddakefmfcblaaGreatDoor
namespace Go.Proofs.YtlddakefmfcblaaGreatDoor
open Go.Proofs
end Go.Proofs.YtlddakefmfcblaaGreatDoor
namespace Go.Proofs.YtlddakefmfcblaaGreatDoor
open Go.Proofs
end Go.Proofs.YtlddakefmfcblaaGreatDoor
namespace Go.Proofs.YtlddakefmfcblaaGreatDoor
open Go.Proofs
end Go.Proofs.YtlddakefmfcblaaGreatDoor
namespace Go.Proofs.YtlddakefmfcblaaGreatDoor
open Go.Proofs
end Go.Proofs.YtlddakefmfcblaaGreatDoor
namespace Go.Proofs.YtlddakefmfcblaaGreatDoor
open Go.Proofs
end Go.Proofs.YtlddakefmfcblaaGreatDoor
namespace Go.Proofs.YtlddakefmfcblaaGreatDoor
open Go.Lib (decDigits)
theorem ne_decB (s : List UInt8) : (s != []) = !decide (s = []) := by
 cases s <;> rfl
section
variable {N : Nat}
theorem m_or2 (a b : List UInt8) (hN : 4294967300 < N) : cmp_Or_string N [a, b] = some (if a = [] then b else a) := by
 obtain ⟨M, rfl⟩ : ∃ M, N = M + 3 := ⟨N - 3, by omega⟩
 unfold cmp_Or_string
 by_cases ha : a = []
 ·rw [if_pos ha]
  by_cases hb : b = []
  ·subst ha; subst hb; rfl
  ·have e1 : cmp_Or_string_L0 (M + 3) [a, b] 0 = some (.next 1) := by subst ha; rfl
   have e2 : cmp_Or_string_L0 (M + 3) [a, b] 1 = some (.ret b) := by
    show (bif (b != ([] : List UInt8)) then some (.ret b) else some (.next (W64 (1 + 1)))) = some (Flow.ret b)
    rw [ne_decB, decide_eq_false hb]; rfl
   rw [iter, e1]
   simp only
   rw [iter, e2]
   rfl
 ·rw [if_neg ha]
  have e1 : cmp_Or_string_L0 (M + 3) [a, b] 0 = some (.ret a) := by
   show (bif (a != ([] : List UInt8)) then some (.ret a) else some (.next (W64 (0 + 1)))) = some (Flow.ret a)
   rw [ne_decB, decide_eq_false ha]; rfl
  rw [iter, e1]
  rfl
def fs (L : Layout) (E : Exchange) : List (List UInt8) := (if L.Report = true then [dP 1 E.Report.toNat] else []) ++ ((if L.Serial = true then [dP 3 E.Serial.toNat] else []) ++ (if L.Zone = true then [dP 2 E.Zone.toNat] else []))
structure OkE (L : Layout) (E : Exchange) : Prop where
 r : if L.Report = true then 1 ≤ E.Report ∧ E.Report ≤ 599 else E.Report = 0
 s : if L.Serial = true then 1 ≤ E.Serial ∧ E.Serial ≤ 99999 else E.Serial = 0
 z : if L.Zone = true then 1 ≤ E.Zone ∧ E.Zone ≤ 99 else E.Zone = 0
theorem OkE.le {L : Layout} {E : Exchange} (h : OkE L E) : (0 ≤ E.Report ∧ E.Report ≤ 599) ∧ (0 ≤ E.Serial ∧ E.Serial ≤ 99999) ∧ 0 ≤ E.Zone ∧ E.Zone ≤ 99 := by
 obtain ⟨h1, h2, h3⟩ := h
 refine ⟨?_, ?_, ?_⟩
 ·split at h1 <;> omega
 ·split at h2 <;> omega
 ·split at h3 <;> omega
end
end Go.Proofs.YtlddakefmfcblaaGreatDoor
namespace Go.Proofs.YtlddakefmfcblaaGreatDoor
theorem firstN_skip {ρ : Type} {n : Nat} {f : Nat → Option ρ} : ∀ {m : Nat}, m ≤ n → (∀ j, j < m → f j = none) → firstN n f 0 = firstN n f m
 | 0, _, _ => rfl
 | m + 1, hm, h => by
  rw [firstN_skip (m := m) (by omega) (fun j hj => h j (by omega)), firstN_step (by omega), h m (by omega)]
theorem firstN_congr {ρ : Type} {n : Nat} {f g : Nat → Option ρ} : ∀ {m k : Nat}, k + m = n → (∀ j, k ≤ j → j < n → f j = g j) → firstN n f k = firstN n g k := by
 intro m
 induction m with
 | zero =>
  intro k hk _
  have : k = n := by omega
  subst this
  rw [firstN_end, firstN_end]
 | succ m ih =>
  intro k hk h
  rw [firstN_step (f := f) (k := k) (by omega), firstN_step (f := g) (k := k) (by omega), h k (Nat.le_refl _) (by omega), ih (by omega) (fun j h1 h2 => h j (by omega) h2)]
theorem firstN_map {ρ τ : Type} {n : Nat} {f : Nat → Option ρ} (g : ρ → τ) (k : Nat) : firstN n (fun i => (f i).map g) k = (firstN n f k).map g := by
 unfold firstN
 generalize (List.range n).drop k = l
 induction l with
 | nil => rfl
 | cons x l ih => rw [List.findSome?_cons, List.findSome?_cons]; cases f x <;> simp [ih]
def clashB (T : List Prefix) (i j : Nat) : Bool := decide ((pAt T i).From ≤ (pAt T j).To) && decide ((pAt T j).From ≤ (pAt T i).To)
def findJ (T : List Prefix) (i : Nat) : Option Nat := firstN T.length (fun j => if (decide (keyP (pAt T j) = keyP (pAt T i)) && (decide (i < j) && clashB T i j)) = true then some j else none) 0
def overF (T : List Prefix) (i : Nat) : Option (Int × Int × Int) := (findJ T i).map fun j : Nat => ((i : Int), (j : Int), (0 : Int))
def overS (T : List Prefix) : Int × Int × Int := if rowsB T = true then (firstN T.length (overF T) 0).elim (0, 0, 3) id else (0, 0, 12)
theorem key_dec (p q : Prefix) : decide (keyP p = keyP q) = ((p.Text == q.Text) && (p.Whole == q.Whole)) := by
 rw [Bool.eq_iff_iff]
 unfold keyP
 simp
section
variable {N : Nat} {T : List Prefix}
theorem s_Overlap (hT : fitT N T) (hN : 4294967300 < N) : air_Overlap N T = some (overS T) := by
 unfold air_Overlap overS
 rw [s_rows hT hN, Option.bind_some]
 cases hr : rowsB T with
 | false => rfl
 | true =>
  obtain ⟨h400, _⟩ := rowsB_ok hr
  obtain ⟨m, hm, hk⟩ := s_tableOf (N := N) h400 hN
  rw [Bool.not_true, cond_false, hm, Option.bind_some, if_pos rfl]
  rw [show (0 : Int) = ((0 : Nat) : Int) from rfl, iter_firstN (n := T.length) (overF T) (fun i hi => ?_) ?_ (by omega) 0 (by omega)]
  ·cases firstN T.length (overF T) 0 <;> rfl
  ·unfold air_Overlap_L0
   rw [lt_dec', cond_false]
  ·unfold air_Overlap_L0
   rw [lt_dec hi, cond_true, idx_p hi, Option.bind_some]
   have e1 : air_keyOf N (pAt T i) = some (keyP (pAt T i)) := rfl
   rw [e1, Option.bind_some]
   have hl := keyIdx_len T (keyP (pAt T i)) T.length
   rw [iter_first (l := keyIdx T (keyP (pAt T i)) T.length) (body := air_Overlap_L1 N T true m (i : Int) (pAt T i) (keyP (pAt T i))) (fun x => if (decide (i < x.toNat) && clashB T i x.toNat) = true then some ((fun j : Nat => ((i : Int), (j : Int), (0 : Int))) x.toNat) else none) (by
    intro t ht
    unfold air_Overlap_L1
    rw [hk, lt_dec ht, cond_true, idx_nat ht, Option.bind_some]
    obtain ⟨j, hj, hjn, _⟩ := keyIdx_mem (List.getElem_mem ht)
    rw [hj, idx_p hjn, w64s t (by omega), Int.toNat_natCast]
    simp only [Option.bind_some]
    have : decide ((j : Int) > (i : Int)) = decide (i < j) := by rw [decide_eq_decide]; omega
    rw [this]
    unfold clashB
    cases decide (i < j) <;> cases decide ((pAt T i).From ≤ (pAt T j).To) <;> cases decide ((pAt T j).From ≤ (pAt T i).To) <;> rfl) (by
    unfold air_Overlap_L1
    rw [hk, lt_dec', cond_false]) (by omega)]
   unfold keyIdx
   rw [filter_first (fun j => decide (keyP (pAt T j) = keyP (pAt T i))) (fun j => decide (i < j) && clashB T i j) (fun j : Nat => ((i : Int), (j : Int), (0 : Int))), w64s i (by omega)]
   have e : (List.range T.length).findSome? (fun j => if (decide (keyP (pAt T j) = keyP (pAt T i)) && (decide (i < j) && clashB T i j)) = true then some ((fun j : Nat => ((i : Int), (j : Int), (0 : Int))) j) else none) = overF T i := by
    unfold overF findJ
    rw [← firstN_map]
    unfold firstN
    rw [List.drop_zero]
    congr 1
    funext j
    cases (decide (keyP (pAt T j) = keyP (pAt T i)) && (decide (i < j) && clashB T i j)) <;> rfl
   rw [e]
   cases overF T i <;> rfl
theorem s_rOverlap (hT : fitT N T) (hN : 4294967300 < N) : ref01_Overlap N T = some (overS T) := by
 unfold ref01_Overlap overS
 rw [s_rrows hT hN, Option.bind_some]
 cases hr : rowsB T with
 | false => rfl
 | true =>
  obtain ⟨h400, _⟩ := rowsB_ok hr
  rw [Bool.not_true, cond_false, if_pos rfl]
  rw [show (0 : Int) = ((0 : Nat) : Int) from rfl, iter_firstN (n := T.length) (overF T) (fun i hi => ?_) ?_ (by omega) 0 (by omega)]
  ·cases firstN T.length (overF T) 0 <;> rfl
  ·unfold ref01_Overlap_L0
   rw [lt_dec', cond_false]
  ·unfold ref01_Overlap_L0
   rw [lt_dec hi, cond_true, w64s i (by omega)]
   rw [iter_firstN (n := T.length) (body := ref01_Overlap_L1 N T true (i : Int)) (fun j => if (decide (keyP (pAt T j) = keyP (pAt T i)) && clashB T i j) = true then some ((i : Int), (j : Int), (0 : Int)) else none) (by
    intro j hj
    unfold ref01_Overlap_L1
    rw [lt_dec hj, cond_true, idx_p hi, idx_p hj, w64s j (by omega), key_dec]
    simp only [Option.bind_some]
    have c1 : ((pAt T j).Text == (pAt T i).Text) = ((pAt T i).Text == (pAt T j).Text) := by rw [Bool.eq_iff_iff, beq_iff_eq, beq_iff_eq]; exact eq_comm
    have c2 : ((pAt T j).Whole == (pAt T i).Whole) = ((pAt T i).Whole == (pAt T j).Whole) := by rw [Bool.eq_iff_iff, beq_iff_eq, beq_iff_eq]; exact eq_comm
    rw [c1, c2]
    unfold clashB
    cases ((pAt T i).Text == (pAt T j).Text) <;> cases ((pAt T i).Whole == (pAt T j).Whole) <;> cases decide ((pAt T i).From ≤ (pAt T j).To) <;> cases decide ((pAt T j).From ≤ (pAt T i).To) <;> rfl) (by
    unfold ref01_Overlap_L1
    rw [lt_dec', cond_false]) (by omega) (i + 1) (by omega)]
   have e : firstN T.length (fun j => if (decide (keyP (pAt T j) = keyP (pAt T i)) && clashB T i j) = true then some ((i : Int), (j : Int), (0 : Int)) else none) (i + 1) = overF T i := by
    unfold overF findJ
    rw [← firstN_map, firstN_skip (m := i + 1) (by omega)]
    ·refine firstN_congr (m := T.length - (i + 1)) (by omega) (fun j h1 h2 => ?_)
     rw [decide_eq_true (show i < j by omega), Bool.true_and]
     cases (decide (keyP (pAt T j) = keyP (pAt T i)) && clashB T i j) <;> rfl
    ·intro j hj
     rw [decide_eq_false (show ¬ i < j by omega), Bool.false_and, Bool.and_false]; rfl
   rw [e]
   cases overF T i <;> rfl
def validT (T : List Prefix) : Bool := (overS T).2.2 == 3
theorem s_ValidT (hT : fitT N T) (hN : 4294967300 < N) : air_ValidTable N T = some (validT T) := by
 unfold air_ValidTable validT
 rw [s_Overlap hT hN]; rfl
theorem s_rValidT (hT : fitT N T) (hN : 4294967300 < N) : ref01_ValidTable N T = some (validT T) := by
 unfold ref01_ValidTable validT
 rw [s_rOverlap hT hN]; rfl
def Apart (T : List Prefix) : Prop := ∀ i j, i < j → j < T.length → keyP (pAt T i) = keyP (pAt T j) → ¬ ((pAt T i).From ≤ (pAt T j).To ∧ (pAt T j).From ≤ (pAt T i).To)
theorem validT_iff : validT T = true ↔ rowsB T = true ∧ Apart T := by
 unfold validT overS
 rw [beq_iff_eq]
 by_cases hr : rowsB T = true
 ·rw [if_pos hr]
  have hf : firstN T.length (overF T) 0 = none ↔ Apart T := by
   rw [firstN_none (by omega)]
   unfold overF findJ
   constructor
   ·intro h i j hij hj hk hc
    have := h i (by omega) (by omega)
    rw [Option.map_eq_none_iff, firstN_none (by omega)] at this
    have := this j (by omega) hj
    unfold clashB at this
    rw [decide_eq_true hk.symm, decide_eq_true hij, decide_eq_true hc.1, decide_eq_true hc.2] at this
    cases this
   ·intro h i _ hi
    rw [Option.map_eq_none_iff, firstN_none (by omega)]
    intro j _ hj
    have : ¬ (decide (keyP (pAt T j) = keyP (pAt T i)) && (decide (i < j) && clashB T i j)) = true := by
     unfold clashB
     simp only [Bool.and_eq_true, decide_eq_true_eq]
     rintro ⟨h1, h2, h3⟩
     exact h i j h2 hj h1.symm h3
    rw [if_neg this]
  constructor
  ·intro h
   refine ⟨hr, hf.1 ?_⟩
   cases hc : firstN T.length (overF T) 0 with
   | none => rfl
   | some r =>
    exfalso
    rw [hc] at h
    obtain ⟨i, _, _, hi, _⟩ := (firstN_some (m := T.length) (by omega)).1 hc
    unfold overF at hi
    cases hj : findJ T i with
    | none => rw [hj] at hi; cases hi
    | some j =>
     rw [hj] at hi
     injection hi with hi
     subst hi
     exact absurd (show (0 : Int) = 3 from h) (by decide)
  ·rintro ⟨_, h⟩
   rw [hf.2 h]; rfl
 ·rw [if_neg hr]
  constructor
  ·intro h; exact absurd h (by decide)
  ·rintro ⟨h, _⟩; exact absurd h hr
def bC (c : List UInt8) : List UInt8 := match callB c with
 | some t => if t.1 = [] then t.2.1 else t.1
 | none => []
def downF (T : List Prefix) (b : List UInt8) (d : Int) : Nat → Option Nat
 | 0 => none
 | k + 1 => match atK T { text_ := b.take (k + 1), whole_ := false } d with
  | some i => some i
  | none => downF T b d k
def findS (T : List Prefix) (c : List UInt8) (d : Int) : Option Nat := match atK T { text_ := c, whole_ := true } d with
 | some i => some i
 | none => downF T (bC c) d (bC c).length
def wrongT (T : List Prefix) (c : List UInt8) (d : Int) : Int := if validT T = true then (if validS c = true then (if inI d 0 99999 = true then 0 else 1) else 10) else 12
theorem bC_len (c : List UInt8) : (bC c).length ≤ 8 := by
 unfold bC
 cases h : callB c with
 | none => simp
 | some t =>
  have := ok_len (callB_some h).1
  simp only
  split <;> omega
theorem s_wrongT (hT : fitT N T) (hN : 4294967300 < N) (c : List UInt8) (d : Int) : air_wrong N T c d = some (wrongT T c d) := by
 unfold air_wrong wrongT
 rw [s_ValidT hT hN, Option.bind_some, s_Valid c hN, m_within]
 have : (decide (0 ≤ d) && decide (d ≤ 99999)) = inI d 0 99999 := rfl
 rw [this]
 cases validT T <;> cases validS c <;> cases inI d 0 99999 <;> rfl
theorem toI_neg (o : Option Nat) : decide (toI o < 0) = o.isNone := by
 cases o with
 | none => rfl
 | some i => show decide ((i : Int) < 0) = false; rw [decide_eq_false (by omega)]
theorem toI_ge (o : Option Nat) : decide (toI o ≥ 0) = o.isSome := by
 cases o with
 | none => rfl
 | some i => show decide ((i : Int) ≥ 0) = true; rw [decide_eq_true (by omega)]
theorem s_table_row {m : List (air_key × List Int)} (hm : ∀ k, mgetD m k [] = keyIdx T k T.length) (h : T.length ≤ 400) (hN : 4294967300 < N) (c : List UInt8) (d : Int) : air_table_row N m T c d = some (toI (findS T c d)) := by
 unfold air_table_row findS
 rw [s_row1 hm h hN, Option.bind_some, toI_ge]
 cases ha : atK T { text_ := c, whole_ := true } d with
 | some i => rfl
 | none =>
  simp only [Option.isSome_none, cond_false]
  rw [m_split c hN, Option.bind_some]
  have e1 : (splitR c).1.Prefix ++ (splitR c).1.Suffix = match callB c with | some t => t.2.1 | none => [] := by
   unfold splitR
   cases callB c with
   | none => rfl
   | some t => exact ps_app t
  have e2 : (splitR c).1.Area = match callB c with | some t => t.1 | none => [] := by
   unfold splitR
   cases callB c <;> rfl
  have e3 : (splitR c).1.Prefix.length + (splitR c).1.Suffix.length ≤ 100 := by
   rw [← List.length_append, e1]
   cases hc : callB c with
   | none => simp
   | some t => have := ok_len (callB_some hc).1; simp only; omega
  rw [sadd_some (by omega), Option.bind_some, m_or2 _ _ hN, Option.bind_some]
  have e4 : (if (splitR c).1.Area = [] then (splitR c).1.Prefix ++ (splitR c).1.Suffix else (splitR c).1.Area) = bC c := by
   rw [e1, e2]
   unfold bC
   cases callB c <;> rfl
  rw [e4]
  have hb := bC_len c
  generalize bC c = b at hb
  have loop : ∀ k M, k < M → k ≤ b.length → ((iter (air_table_row_L0 N m T c d (toI none) (splitR c) ((splitR c).1.Prefix ++ (splitR c).1.Suffix) b) M (k : Int)).bind fun o => o.k (fun r => some r) (fun s75 => some (-1))) = some (toI (downF T b d k)) := by
   intro k
   induction k with
   | zero =>
    intro M hM _
    obtain ⟨M, rfl⟩ : ∃ M', M = M' + 1 := ⟨M - 1, by omega⟩
    rw [iter]
    have : air_table_row_L0 N m T c d (toI none) (splitR c) ((splitR c).1.Prefix ++ (splitR c).1.Suffix) b ((0 : Nat) : Int) = some (.done ((0 : Nat) : Int)) := by
     unfold air_table_row_L0
     rw [decide_eq_false (by decide), cond_false]
    rw [this]
    rfl
   | succ k ih =>
    intro M hM hk
    obtain ⟨M, rfl⟩ : ∃ M', M = M' + 1 := ⟨M - 1, by omega⟩
    rw [iter]
    have : air_table_row_L0 N m T c d (toI none) (splitR c) ((splitR c).1.Prefix ++ (splitR c).1.Suffix) b ((k + 1 : Nat) : Int) = some (match atK T { text_ := b.take (k + 1), whole_ := false } d with | some i => .ret (i : Int) | none => .next (k : Int)) := by
     unfold air_table_row_L0
     rw [decide_eq_true (by omega), cond_true, ssub0 hk, Option.bind_some, s_row1 hm h hN, Option.bind_some, toI_ge, w64p (k + 1) (by omega) (by omega)]
     cases atK T { text_ := b.take (k + 1), whole_ := false } d <;> rfl
    rw [this]
    unfold downF
    cases atK T { text_ := b.take (k + 1), whole_ := false } d with
    | some i => rfl
    | none => exact ih M (by omega) (by omega)
  exact loop b.length N (by omega) (Nat.le_refl _)
def rowOfS (T : List Prefix) (c : List UInt8) (d : Int) : Int × Int := if wrongT T c d = 0 then (match findS T c d with | some i => ((i : Int), 0) | none => (0, 3)) else (0, wrongT T c d)
theorem wrongT_ok {c : List UInt8} {d : Int} (h : wrongT T c d = 0) : validT T = true ∧ validS c = true ∧ inI d 0 99999 = true := by
 unfold wrongT at h
 split at h
 ·split at h
  ·split at h
   ·exact ⟨by assumption, by assumption, by assumption⟩
   ·omega
  ·omega
 ·omega
theorem s_RowOf (hT : fitT N T) (hN : 4294967300 < N) (c : List UInt8) (d : Int) : air_RowOf N T c d = some (rowOfS T c d) := by
 unfold air_RowOf rowOfS
 rw [s_wrongT hT hN, Option.bind_some]
 by_cases hw : wrongT T c d = 0
 ·rw [if_pos hw, hw, show ((0 : Int) != 0) = false from rfl, cond_false]
  have hr := (validT_iff.1 (wrongT_ok hw).1).1
  obtain ⟨h400, _⟩ := rowsB_ok hr
  obtain ⟨m, hm, hk⟩ := s_tableOf (N := N) h400 hN
  rw [hm, Option.bind_some, s_table_row hk h400 hN, Option.bind_some, toI_neg]
  cases findS T c d <;> rfl
 ·rw [if_neg hw, show (wrongT T c d != 0) = true by simpa using hw, cond_true]
end
end Go.Proofs.YtlddakefmfcblaaGreatDoor
namespace Go.Proofs.YtlddakefmfcblaaGreatDoor
open Go.Proofs
def law01_awake (N : Nat)  : Option Bool :=
 ((air_Split N ([71, 51, 47, 77, 48, 65, 66, 47, 80] : List UInt8)).bind fun r1 => ((air_PrefixOf N ([87, 49, 65, 87, 47, 52] : List UInt8)).bind fun r14 => ((air_PrintTime N 1505).bind fun r22 => ((air_ParseTime N ([50, 32, 48, 49, 48, 53] : List UInt8)).bind fun r30 => ((air_Nearest N ([({ ID := 1, Lo := 1800, Hi := 2000 } : Band), ({ ID := 2, Lo := 3500, Hi := 3800 } : Band)]) 2750).bind fun r47 => ((bif (r1.2 == 0) then (bif ((r1.1.Area == ([71, 51] : List UInt8)) && ((r1.1.Prefix == ([77, 48] : List UInt8)) && ((r1.1.Suffix == ([65, 66] : List UInt8)) && ((r1.1.Stroke == ([80] : List UInt8)) && true)))) then (bif (r14.2 == 0) then (bif (r14.1 == ([87, 52] : List UInt8)) then (bif (r22.2 == 0) then (bif (r22.1 == ([50, 32, 48, 49, 48, 53] : List UInt8)) then (bif (r30.2 == 0) then (bif (r30.1 == 1505) then (bif (r47.2.2 == 0) then (bif (r47.1 == 1) then (bif (r47.2.1 == 750) then ((air_ValidCall N ([68, 76, 49, 65, 47, 87, 49, 65] : List UInt8)).bind fun r85 => some (!r85)) else some false) else some false) else some false) else some false) else some false) else some false) else some false) else some false) else some false) else some false) else some false).bind fun j58 => some j58))))))
theorem co_law01_awake : CallOk Tryz.prog 17 := fun _ _ => by kernel_rfl
set_option maxHeartbeats 4000000 in
set_option maxRecDepth 100000 in
theorem c_law01_awake (N : Nat) (w0 : World) (F0 : Mem) (hF : ∀ b o, F0 b = some o → w0.heap[b]? = some o) (hG : Glob F0)  (r : Bool) (h : law01_awake N  = some r) :
  Calls Tryz.prog 17 ([] : List Value).toArray w0 (FRet w0 F0 fun F' v => v = (.bool r)) := by
 have hs0 := HS.start hF
 refine calls_of (n := 85) (c := bodyOf Tryz.f17) Tryz.func17 (by kernel_rfl) (by kernel_rfl) (by kernel_rfl) ?_
 refine Sq (Rg [0] ?_)
 refine V 0 4 (mc (.bool false) (.bool false)) ?_
 refine Nss (Rg [0, 1, 2, 3, 4, 5, 6] ?_)
 obtain ⟨r1, hr2, h3⟩ := bind_some h
 refine Cl 14 28 19 #[(.const (.string ⟨([71, 51, 47, 77, 48, 65, 66, 47, 80] : List UInt8).toArray⟩))] #[9] co_air_Split hs0 (c_air_Split N w0 F0 hs0.pers hG (([71, 51, 47, 77, 48, 65, 66, 47, 80] : List UInt8)) _ hr2) ?_
 intro v4 F1 w5 hs6 le7 hp8
 obtain rfl := hp8
 refine V 13 28 (mv 14 (.tuple #[(.agg #[(.string ⟨(r1.1.Area).toArray⟩), (.string ⟨(r1.1.Prefix).toArray⟩), (.string ⟨(r1.1.Suffix).toArray⟩), (.string ⟨(r1.1.Stroke).toArray⟩)]), (vi r1.2)])) ?_
 refine V 15 27 (ex 13 0 (.agg #[(.string ⟨(r1.1.Area).toArray⟩), (.string ⟨(r1.1.Prefix).toArray⟩), (.string ⟨(r1.1.Suffix).toArray⟩), (.string ⟨(r1.1.Stroke).toArray⟩)]) (vs := #[(.agg #[(.string ⟨(r1.1.Area).toArray⟩), (.string ⟨(r1.1.Prefix).toArray⟩), (.string ⟨(r1.1.Suffix).toArray⟩), (.string ⟨(r1.1.Stroke).toArray⟩)]), (vi r1.2)])) ?_
 refine V 16 23 (ex 13 1 (vi r1.2) (vs := #[(.agg #[(.string ⟨(r1.1.Area).toArray⟩), (.string ⟨(r1.1.Prefix).toArray⟩), (.string ⟨(r1.1.Suffix).toArray⟩), (.string ⟨(r1.1.Stroke).toArray⟩)]), (vi r1.2)])) ?_
 refine Al 1 0 27 #[(.string ⟨(([] : List UInt8)).toArray⟩), (.string ⟨(([] : List UInt8)).toArray⟩), (.string ⟨(([] : List UInt8)).toArray⟩), (.string ⟨(([] : List UInt8)).toArray⟩)] hs6 (fun b9 w10 (hs11 : HS w0 F0 w10 F1 [(sb b9 #[(.string ⟨(([] : List UInt8)).toArray⟩), (.string ⟨(([] : List UInt8)).toArray⟩), (.string ⟨(([] : List UInt8)).toArray⟩), (.string ⟨(([] : List UInt8)).toArray⟩)] 27)]) => ?_)
 refine RWP.store (ty := 0) (g := none) (by kernel_rfl) rfl (x := (.tmp 1)) (y := (.tmp 15)) (t := 27) (gg := true) (s := 4) (v := (.agg #[(.string ⟨(r1.1.Area).toArray⟩), (.string ⟨(r1.1.Prefix).toArray⟩), (.string ⟨(r1.1.Suffix).toArray⟩), (.string ⟨(r1.1.Stroke).toArray⟩)])) (b := b9) (o := 0) (C := #[(.string ⟨(([] : List UInt8)).toArray⟩), (.string ⟨(([] : List UInt8)).toArray⟩), (.string ⟨(([] : List UInt8)).toArray⟩), (.string ⟨(([] : List UInt8)).toArray⟩)]) rfl rfl (by kernel_rfl) hs11 (k := 0) rfl rfl rfl rfl (C' := #[(.string ⟨(r1.1.Area).toArray⟩), (.string ⟨(r1.1.Prefix).toArray⟩), (.string ⟨(r1.1.Suffix).toArray⟩), (.string ⟨(r1.1.Stroke).toArray⟩)]) rfl (fun w12 (hs13 : HS w0 F0 w12 F1 [(sb b9 #[(.string ⟨(r1.1.Area).toArray⟩), (.string ⟨(r1.1.Prefix).toArray⟩), (.string ⟨(r1.1.Suffix).toArray⟩), (.string ⟨(r1.1.Stroke).toArray⟩)] 27)]) => ?_)
 refine V 2 23 (ma 16 (vi r1.2)) ?_
 refine Nss (Rg [0, 1, 2, 3, 4, 5] ?_)
 obtain ⟨r14, hr15, h16⟩ := bind_some h3
 refine Cl 18 24 18 #[(.const (.string ⟨([87, 49, 65, 87, 47, 52] : List UInt8).toArray⟩))] #[9] co_air_PrefixOf hs13 (c_air_PrefixOf N w12 F1 hs13.pers (hG.mono le7) (([87, 49, 65, 87, 47, 52] : List UInt8)) _ hr15) ?_
 intro v17 F2 w18 hs19 le20 hp21
 obtain rfl := hp21
 refine V 17 24 (mv 18 (.tuple #[(.string ⟨(r14.1).toArray⟩), (vi r14.2)])) ?_
 refine V 19 9 (ex 17 0 (.string ⟨(r14.1).toArray⟩) (vs := #[(.string ⟨(r14.1).toArray⟩), (vi r14.2)])) ?_
 refine V 20 23 (ex 17 1 (vi r14.2) (vs := #[(.string ⟨(r14.1).toArray⟩), (vi r14.2)])) ?_
 refine V 3 9 (ma 19 (.string ⟨(r14.1).toArray⟩)) ?_
 refine V 4 23 (ma 20 (vi r14.2)) ?_
 refine Nss (Rg [0, 1, 2, 3, 4, 5] ?_)
 obtain ⟨r22, hr23, h24⟩ := bind_some h16
 refine Cl 22 24 28 #[(.const (vi 1505))] #[3] co_air_PrintTime hs19 (c_air_PrintTime N w18 F2 hs19.pers (hG.mono (le7.trans le20)) (1505) _ hr23) ?_
 intro v25 F3 w26 hs27 le28 hp29
 obtain rfl := hp29
 refine V 21 24 (mv 22 (.tuple #[(.string ⟨(r22.1).toArray⟩), (vi r22.2)])) ?_
 refine V 23 9 (ex 21 0 (.string ⟨(r22.1).toArray⟩) (vs := #[(.string ⟨(r22.1).toArray⟩), (vi r22.2)])) ?_
 refine V 24 23 (ex 21 1 (vi r22.2) (vs := #[(.string ⟨(r22.1).toArray⟩), (vi r22.2)])) ?_
 refine V 5 9 (ma 23 (.string ⟨(r22.1).toArray⟩)) ?_
 refine V 6 23 (ma 24 (vi r22.2)) ?_
 refine Nss (Rg [0, 1, 2, 3, 4, 5] ?_)
 obtain ⟨r30, hr31, h32⟩ := bind_some h24
 refine Cl 26 33 30 #[(.const (.string ⟨([50, 32, 48, 49, 48, 53] : List UInt8).toArray⟩))] #[9] co_air_ParseTime hs27 (c_air_ParseTime N w26 F3 hs27.pers (hG.mono ((le7.trans le20).trans le28)) (([50, 32, 48, 49, 48, 53] : List UInt8)) _ hr31) ?_
 intro v33 F4 w34 hs35 le36 hp37
 obtain rfl := hp37
 refine V 25 33 (mv 26 (.tuple #[(vi r30.1), (vi r30.2)])) ?_
 refine V 27 3 (ex 25 0 (vi r30.1) (vs := #[(vi r30.1), (vi r30.2)])) ?_
 refine V 28 23 (ex 25 1 (vi r30.2) (vs := #[(vi r30.1), (vi r30.2)])) ?_
 refine V 7 3 (ma 27 (vi r30.1)) ?_
 refine V 8 23 (ma 28 (vi r30.2)) ?_
 refine Nss (Rg [0, 1, 2, 3] ?_)
 refine V 29 40 (run_build2 (t := 40) (parts := #[(0, (.const (vi 1))), (1, (.const (vi 1800))), (2, (.const (vi 2000)))]) (vs := [(0, (vi 1)), (1, (vi 1800)), (2, (vi 2000))]) (rfl) (cs := [(vi 1), (vi 1800), (vi 2000)]) (by kernel_rfl)) ?_
 refine V 30 40 (run_build2 (t := 40) (parts := #[(0, (.const (vi 2))), (1, (.const (vi 3500))), (2, (.const (vi 3800)))]) (vs := [(0, (vi 2)), (1, (vi 3500)), (2, (vi 3800))]) (rfl) (cs := [(vi 2), (vi 3500), (vi 3800)]) (by kernel_rfl)) ?_
 refine RWP.buildSlice (dst := (some 31)) (ty := 32) (g := none) (by kernel_rfl) rfl (t := 32) (len := 2) (parts := #[(0, (.tmp 29)), (1, (.tmp 30))]) (vs := [(0, (.agg #[(vi 1), (vi 1800), (vi 2000)])), (1, (.agg #[(vi 2), (vi 3500), (vi 3800)]))]) (rfl) (E := 40) (cs := [(vi 1), (vi 1800), (vi 2000), (vi 2), (vi 3500), (vi 3800)]) (by kernel_rfl) hs35 (fun b38 w39 (hs40 : HS w0 F0 w39 F4 [(some b38, .cells ([(vi 1), (vi 1800), (vi 2000), (vi 2), (vi 3500), (vi 3800)] : List Value).toArray 40 (0, 0)), (sb b9 #[(.string ⟨(r1.1.Area).toArray⟩), (.string ⟨(r1.1.Prefix).toArray⟩), (.string ⟨(r1.1.Suffix).toArray⟩), (.string ⟨(r1.1.Stroke).toArray⟩)] 27)]) => ?_)
 have hr42 : RowR tBand 40 F4 (some ⟨b38, 0, none⟩) 2 [({ ID := 1, Lo := 1800, Hi := 2000 } : Band), ({ ID := 2, Lo := 3500, Hi := 3800 } : Band)] (some b38, .cells ([(vi 1), (vi 1800), (vi 2000), (vi 2), (vi 3500), (vi 3800)] : List Value).toArray 40 (0, 0)) := RowR.lit ⟨rfl, ⟨rfl, rfl⟩⟩ (by simp)
 refine V 9 32 (ma 31 (.slice (some ⟨b38, 0, none⟩) [({ ID := 1, Lo := 1800, Hi := 2000 } : Band), ({ ID := 2, Lo := 3500, Hi := 3800 } : Band)].length 2)) ?_
 refine Nss (Rg [0, 1, 2, 3, 4, 5, 6, 7, 8] ?_)
 refine V 33 32 (mv 9 (.slice (some ⟨b38, 0, none⟩) [({ ID := 1, Lo := 1800, Hi := 2000 } : Band), ({ ID := 2, Lo := 3500, Hi := 3800 } : Band)].length 2)) ?_
 have hb46 := RowR.bound hr42
 obtain ⟨F5, hs43, le44, hs45⟩ : ∃ Fq, HS w0 F0 w39 Fq [(sb b9 #[(.string ⟨(r1.1.Area).toArray⟩), (.string ⟨(r1.1.Prefix).toArray⟩), (.string ⟨(r1.1.Suffix).toArray⟩), (.string ⟨(r1.1.Stroke).toArray⟩)] 27)] ∧ Mem.le F4 Fq ∧ SlA tBand Fq (some ⟨b38, 0, none⟩) [({ ID := 1, Lo := 1800, Hi := 2000 } : Band), ({ ID := 2, Lo := 3500, Hi := 3800 } : Band)] := HS.freezeRow hs40 (k := 0) rfl hr42
 obtain ⟨r47, hr48, h49⟩ := bind_some h32
 refine Cl 34 35 24 #[(.tmp 33), (.const (vi 2750))] #[32, 3] co_air_Nearest hs43 (c_air_Nearest N w39 F5 hs43.pers ([({ ID := 1, Lo := 1800, Hi := 2000 } : Band), ({ ID := 2, Lo := 3500, Hi := 3800 } : Band)]) (some ⟨b38, 0, none⟩) 2 hb46 hs45 (2750) _ hr48) ?_
 intro v50 F6 w51 hs52 le53 hp54
 obtain rfl := hp54
 refine V 32 35 (mv 34 (.tuple #[(vi r47.1), (vi r47.2.1), (vi r47.2.2)])) ?_
 refine V 35 3 (ex 32 0 (vi r47.1) (vs := #[(vi r47.1), (vi r47.2.1), (vi r47.2.2)])) ?_
 refine V 36 3 (ex 32 1 (vi r47.2.1) (vs := #[(vi r47.1), (vi r47.2.1), (vi r47.2.2)])) ?_
 refine V 37 23 (ex 32 2 (vi r47.2.2) (vs := #[(vi r47.1), (vi r47.2.1), (vi r47.2.2)])) ?_
 refine V 10 3 (ma 35 (vi r47.1)) ?_
 refine V 11 3 (ma 36 (vi r47.2.1)) ?_
 refine V 12 23 (ma 37 (vi r47.2.2)) ?_
 refine Nss (Rg [0, 1, 2, 3, 4, 5, 6, 7, 8, 9, 10, 11, 12, 13, 14, 15, 16, 17, 18, 19, 20, 21, 22, 23, 24, 25, 26, 27, 28, 29, 30, 31, 32, 33, 34, 35, 36, 37, 38, 39, 40, 41, 42, 43, 44, 45, 46, 47] ?_)
 obtain ⟨j58, hj61, h62⟩ := bind_some h49
 refine RWP.cut (fun f w => ∃ (F7 : Mem), HS w0 F0 w F7 [] ∧ Mem.le F6 F7 ∧ f.d = [] ∧ f 0 = (.bool j58)) ?_ ?_
 ·refine V 38 23 (mv 2 (vi r1.2)) ?_
  refine V 39 4 (run_eql (t := 23) (t' := 23) (x := (.tmp 38)) (y := (.const (vi 0))) (k := .i64) (a := r1.2) (b := 0) rfl rfl) ?_
  refine V 40 4 (mv 39 (.bool (r1.2 == 0))) ?_
  refine RWP.split (r1.2 == 0) (fun hb63 => ?_) (fun hb63 => ?_)
  ·have h64 := cond_t hj61 hb63
   refine Vg 41 27 2 true 40 hb63 (ld 27 1 b9 0 true 4 (.agg #[(.string ⟨(r1.1.Area).toArray⟩), (.string ⟨(r1.1.Prefix).toArray⟩), (.string ⟨(r1.1.Suffix).toArray⟩), (.string ⟨(r1.1.Stroke).toArray⟩)]) (hs52.ownAt (k := 0) rfl)) ?_
   refine Vg 42 27 2 true 40 hb63 (run_build2 (t := 27) (parts := #[(0, (.const (.string ⟨([71, 51] : List UInt8).toArray⟩))), (1, (.const (.string ⟨([77, 48] : List UInt8).toArray⟩))), (2, (.const (.string ⟨([65, 66] : List UInt8).toArray⟩))), (3, (.const (.string ⟨([80] : List UInt8).toArray⟩)))]) (vs := [(0, (.string ⟨(([71, 51] : List UInt8)).toArray⟩)), (1, (.string ⟨(([77, 48] : List UInt8)).toArray⟩)), (2, (.string ⟨(([65, 66] : List UInt8)).toArray⟩)), (3, (.string ⟨(([80] : List UInt8)).toArray⟩))]) (rfl) (cs := [(.string ⟨(([71, 51] : List UInt8)).toArray⟩), (.string ⟨(([77, 48] : List UInt8)).toArray⟩), (.string ⟨(([65, 66] : List UInt8)).toArray⟩), (.string ⟨(([80] : List UInt8)).toArray⟩)]) (by kernel_rfl)) ?_
   refine Vg 43 4 2 true 40 hb63 (run_eqs (t := 27) (t' := 27) (x := (.tmp 41)) (y := (.tmp 42)) (xs := #[(.string ⟨(r1.1.Area).toArray⟩), (.string ⟨(r1.1.Prefix).toArray⟩), (.string ⟨(r1.1.Suffix).toArray⟩), (.string ⟨(r1.1.Stroke).toArray⟩)]) (ys := #[(.string ⟨(([71, 51] : List UInt8)).toArray⟩), (.string ⟨(([77, 48] : List UInt8)).toArray⟩), (.string ⟨(([65, 66] : List UInt8)).toArray⟩), (.string ⟨(([80] : List UInt8)).toArray⟩)]) (b := ((r1.1.Area == ([71, 51] : List UInt8)) && ((r1.1.Prefix == ([77, 48] : List UInt8)) && ((r1.1.Suffix == ([65, 66] : List UInt8)) && ((r1.1.Stroke == ([80] : List UInt8)) && true))))) rfl rfl (by kernel_rfl) (by kernel_rfl)) ?_
   refine V 44 4 (p1 40 (.tmp 43) (.const (.bool false)) (.bool ((r1.1.Area == ([71, 51] : List UInt8)) && ((r1.1.Prefix == ([77, 48] : List UInt8)) && ((r1.1.Suffix == ([65, 66] : List UInt8)) && ((r1.1.Stroke == ([80] : List UInt8)) && true))))) hb63) ?_
   refine V 45 4 (mv 44 (.bool ((r1.1.Area == ([71, 51] : List UInt8)) && ((r1.1.Prefix == ([77, 48] : List UInt8)) && ((r1.1.Suffix == ([65, 66] : List UInt8)) && ((r1.1.Stroke == ([80] : List UInt8)) && true)))))) ?_
   refine RWP.split ((r1.1.Area == ([71, 51] : List UInt8)) && ((r1.1.Prefix == ([77, 48] : List UInt8)) && ((r1.1.Suffix == ([65, 66] : List UInt8)) && ((r1.1.Stroke == ([80] : List UInt8)) && true)))) (fun hb65 => ?_) (fun hb65 => ?_)
   ·have h66 := cond_t h64 hb65
    refine Vg 46 23 7 true 45 hb65 (mv 4 (vi r14.2)) ?_
    refine Vg 47 4 7 true 45 hb65 (run_eql (t := 23) (t' := 23) (x := (.tmp 46)) (y := (.const (vi 0))) (k := .i64) (a := r14.2) (b := 0) rfl rfl) ?_
    refine V 48 4 (p1 45 (.tmp 47) (.const (.bool false)) (.bool (r14.2 == 0)) hb65) ?_
    refine V 49 4 (mv 48 (.bool (r14.2 == 0))) ?_
    refine RWP.split (r14.2 == 0) (fun hb67 => ?_) (fun hb67 => ?_)
    ·have h68 := cond_t h66 hb67
     refine Vg 50 9 11 true 49 hb67 (mv 3 (.string ⟨(r14.1).toArray⟩)) ?_
     refine Vg 51 4 11 true 49 hb67 (run_scmp (t := 9) (t' := 9) (x := (.tmp 50)) (y := (.const (.string ⟨([87, 52] : List UInt8).toArray⟩))) (op := .eql) (a := r14.1) (b := ([87, 52] : List UInt8)) (v := (r14.1 == ([87, 52] : List UInt8))) rfl rfl rfl) ?_
     refine V 52 4 (p1 49 (.tmp 51) (.const (.bool false)) (.bool (r14.1 == ([87, 52] : List UInt8))) hb67) ?_
     refine V 53 4 (mv 52 (.bool (r14.1 == ([87, 52] : List UInt8)))) ?_
     refine RWP.split (r14.1 == ([87, 52] : List UInt8)) (fun hb69 => ?_) (fun hb69 => ?_)
     ·have h70 := cond_t h68 hb69
      refine Vg 54 23 15 true 53 hb69 (mv 6 (vi r22.2)) ?_
      refine Vg 55 4 15 true 53 hb69 (run_eql (t := 23) (t' := 23) (x := (.tmp 54)) (y := (.const (vi 0))) (k := .i64) (a := r22.2) (b := 0) rfl rfl) ?_
      refine V 56 4 (p1 53 (.tmp 55) (.const (.bool false)) (.bool (r22.2 == 0)) hb69) ?_
      refine V 57 4 (mv 56 (.bool (r22.2 == 0))) ?_
      refine RWP.split (r22.2 == 0) (fun hb71 => ?_) (fun hb71 => ?_)
      ·have h72 := cond_t h70 hb71
       refine Vg 58 9 19 true 57 hb71 (mv 5 (.string ⟨(r22.1).toArray⟩)) ?_
       refine Vg 59 4 19 true 57 hb71 (run_scmp (t := 9) (t' := 9) (x := (.tmp 58)) (y := (.const (.string ⟨([50, 32, 48, 49, 48, 53] : List UInt8).toArray⟩))) (op := .eql) (a := r22.1) (b := ([50, 32, 48, 49, 48, 53] : List UInt8)) (v := (r22.1 == ([50, 32, 48, 49, 48, 53] : List UInt8))) rfl rfl rfl) ?_
       refine V 60 4 (p1 57 (.tmp 59) (.const (.bool false)) (.bool (r22.1 == ([50, 32, 48, 49, 48, 53] : List UInt8))) hb71) ?_
       refine V 61 4 (mv 60 (.bool (r22.1 == ([50, 32, 48, 49, 48, 53] : List UInt8)))) ?_
       refine RWP.split (r22.1 == ([50, 32, 48, 49, 48, 53] : List UInt8)) (fun hb73 => ?_) (fun hb73 => ?_)
       ·have h74 := cond_t h72 hb73
        refine Vg 62 23 23 true 61 hb73 (mv 8 (vi r30.2)) ?_
        refine Vg 63 4 23 true 61 hb73 (run_eql (t := 23) (t' := 23) (x := (.tmp 62)) (y := (.const (vi 0))) (k := .i64) (a := r30.2) (b := 0) rfl rfl) ?_
        refine V 64 4 (p1 61 (.tmp 63) (.const (.bool false)) (.bool (r30.2 == 0)) hb73) ?_
        refine V 65 4 (mv 64 (.bool (r30.2 == 0))) ?_
        refine RWP.split (r30.2 == 0) (fun hb75 => ?_) (fun hb75 => ?_)
        ·have h76 := cond_t h74 hb75
         refine Vg 66 3 27 true 65 hb75 (mv 7 (vi r30.1)) ?_
         refine Vg 67 4 27 true 65 hb75 (run_eql (t := 3) (t' := 3) (x := (.tmp 66)) (y := (.const (vi 1505))) (k := .i64) (a := r30.1) (b := 1505) rfl rfl) ?_
         refine V 68 4 (p1 65 (.tmp 67) (.const (.bool false)) (.bool (r30.1 == 1505)) hb75) ?_
         refine V 69 4 (mv 68 (.bool (r30.1 == 1505))) ?_
         refine RWP.split (r30.1 == 1505) (fun hb77 => ?_) (fun hb77 => ?_)
         ·have h78 := cond_t h76 hb77
          refine Vg 70 23 31 true 69 hb77 (mv 12 (vi r47.2.2)) ?_
          refine Vg 71 4 31 true 69 hb77 (run_eql (t := 23) (t' := 23) (x := (.tmp 70)) (y := (.const (vi 0))) (k := .i64) (a := r47.2.2) (b := 0) rfl rfl) ?_
          refine V 72 4 (p1 69 (.tmp 71) (.const (.bool false)) (.bool (r47.2.2 == 0)) hb77) ?_
          refine V 73 4 (mv 72 (.bool (r47.2.2 == 0))) ?_
          refine RWP.split (r47.2.2 == 0) (fun hb79 => ?_) (fun hb79 => ?_)
          ·have h80 := cond_t h78 hb79
           refine Vg 74 3 35 true 73 hb79 (mv 10 (vi r47.1)) ?_
           refine Vg 75 4 35 true 73 hb79 (run_eql (t := 3) (t' := 3) (x := (.tmp 74)) (y := (.const (vi 1))) (k := .i64) (a := r47.1) (b := 1) rfl rfl) ?_
           refine V 76 4 (p1 73 (.tmp 75) (.const (.bool false)) (.bool (r47.1 == 1)) hb79) ?_
           refine V 77 4 (mv 76 (.bool (r47.1 == 1))) ?_
           refine RWP.split (r47.1 == 1) (fun hb81 => ?_) (fun hb81 => ?_)
           ·have h82 := cond_t h80 hb81
            refine Vg 78 3 39 true 77 hb81 (mv 11 (vi r47.2.1)) ?_
            refine Vg 79 4 39 true 77 hb81 (run_eql (t := 3) (t' := 3) (x := (.tmp 78)) (y := (.const (vi 750))) (k := .i64) (a := r47.2.1) (b := 750) rfl rfl) ?_
            refine V 80 4 (p1 77 (.tmp 79) (.const (.bool false)) (.bool (r47.2.1 == 750)) hb81) ?_
            refine V 81 4 (mv 80 (.bool (r47.2.1 == 750))) ?_
            refine RWP.split (r47.2.1 == 750) (fun hb83 => ?_) (fun hb83 => ?_)
            ·have h84 := cond_t h82 hb83
             obtain ⟨r85, hr86, h87⟩ := bind_some h84
             refine RWP.call (dst := (some 82)) (ty := 4) (g := (some (43, true))) (by kernel_rfl) (gd_y (d := 81) (by kernel_rfl) rfl hb83) (f0 := (.func 37)) (aos := #[(.const (.string ⟨([68, 76, 49, 65, 47, 87, 49, 65] : List UInt8).toArray⟩))]) (ats := #[9]) (fid := 37) (first := #[]) (cap := #[]) (args := [(.string ⟨(([68, 76, 49, 65, 47, 87, 49, 65] : List UInt8)).toArray⟩)]) rfl co_air_ValidCall (rfl) hs52 (c_air_ValidCall N w51 F6 hs52.pers (hG.mono (((((le7.trans le20).trans le28).trans le36).trans le44).trans le53)) (([68, 76, 49, 65, 47, 87, 49, 65] : List UInt8)) _ hr86) ?_
             intro v88 F8 w89 hs90 le91 hp92
             obtain rfl := hp92
             refine Vg 83 4 43 true 81 hb83 (run_not (t := 4) (x := (.tmp 82)) (a := r85) rfl) ?_
             refine V 84 4 (p1 81 (.tmp 83) (.const (.bool false)) (.bool (!r85)) hb83) ?_
             refine V 0 4 (ma 84 (.bool (!r85))) ?_
             obtain rfl := some_inj h87
             have hs93 : HS w0 F0 w89 F8 [] := hs90.drop 0
             exact RWP.nil ⟨rfl, F8, hs93, le91, rfl, rfl⟩
            ·have h94 := cond_f h82 hb83
             refine Sk [82, 83] 43 true 81 hb83 ?_
             refine V 84 4 (p0 81 (.tmp 83) (.const (.bool false)) (.bool false) hb83) ?_
             refine V 0 4 (ma 84 (.bool false)) ?_
             obtain rfl := some_inj h94
             have hs95 : HS w0 F0 w51 F6 [] := hs52.drop 0
             exact RWP.nil ⟨rfl, F6, hs95, (Mem.le.refl _), rfl, rfl⟩
           ·have h96 := cond_f h80 hb81
            refine Sk [78, 79] 39 true 77 hb81 ?_
            refine V 80 4 (p0 77 (.tmp 79) (.const (.bool false)) (.bool false) hb81) ?_
            refine V 81 4 (mv 80 (.bool false)) ?_
            refine Sk [82, 83] 43 true 81 rfl ?_
            refine V 84 4 (p0 81 (.tmp 83) (.const (.bool false)) (.bool false) rfl) ?_
            refine V 0 4 (ma 84 (.bool false)) ?_
            obtain rfl := some_inj h96
            have hs97 : HS w0 F0 w51 F6 [] := hs52.drop 0
            exact RWP.nil ⟨rfl, F6, hs97, (Mem.le.refl _), rfl, rfl⟩
          ·have h98 := cond_f h78 hb79
           refine Sk [74, 75] 35 true 73 hb79 ?_
           refine V 76 4 (p0 73 (.tmp 75) (.const (.bool false)) (.bool false) hb79) ?_
           refine V 77 4 (mv 76 (.bool false)) ?_
           refine Sk [78, 79] 39 true 77 rfl ?_
           refine V 80 4 (p0 77 (.tmp 79) (.const (.bool false)) (.bool false) rfl) ?_
           refine V 81 4 (mv 80 (.bool false)) ?_
           refine Sk [82, 83] 43 true 81 rfl ?_
           refine V 84 4 (p0 81 (.tmp 83) (.const (.bool false)) (.bool false) rfl) ?_
           refine V 0 4 (ma 84 (.bool false)) ?_
           obtain rfl := some_inj h98
           have hs99 : HS w0 F0 w51 F6 [] := hs52.drop 0
           exact RWP.nil ⟨rfl, F6, hs99, (Mem.le.refl _), rfl, rfl⟩
         ·have h100 := cond_f h76 hb77
          refine Sk [70, 71] 31 true 69 hb77 ?_
          refine V 72 4 (p0 69 (.tmp 71) (.const (.bool false)) (.bool false) hb77) ?_
          refine V 73 4 (mv 72 (.bool false)) ?_
          refine Sk [74, 75] 35 true 73 rfl ?_
          refine V 76 4 (p0 73 (.tmp 75) (.const (.bool false)) (.bool false) rfl) ?_
          refine V 77 4 (mv 76 (.bool false)) ?_
          refine Sk [78, 79] 39 true 77 rfl ?_
          refine V 80 4 (p0 77 (.tmp 79) (.const (.bool false)) (.bool false) rfl) ?_
          refine V 81 4 (mv 80 (.bool false)) ?_
          refine Sk [82, 83] 43 true 81 rfl ?_
          refine V 84 4 (p0 81 (.tmp 83) (.const (.bool false)) (.bool false) rfl) ?_
          refine V 0 4 (ma 84 (.bool false)) ?_
          obtain rfl := some_inj h100
          have hs101 : HS w0 F0 w51 F6 [] := hs52.drop 0
          exact RWP.nil ⟨rfl, F6, hs101, (Mem.le.refl _), rfl, rfl⟩
        ·have h102 := cond_f h74 hb75
         refine Sk [66, 67] 27 true 65 hb75 ?_
         refine V 68 4 (p0 65 (.tmp 67) (.const (.bool false)) (.bool false) hb75) ?_
         refine V 69 4 (mv 68 (.bool false)) ?_
         refine Sk [70, 71] 31 true 69 rfl ?_
         refine V 72 4 (p0 69 (.tmp 71) (.const (.bool false)) (.bool false) rfl) ?_
         refine V 73 4 (mv 72 (.bool false)) ?_
         refine Sk [74, 75] 35 true 73 rfl ?_
         refine V 76 4 (p0 73 (.tmp 75) (.const (.bool false)) (.bool false) rfl) ?_
         refine V 77 4 (mv 76 (.bool false)) ?_
         refine Sk [78, 79] 39 true 77 rfl ?_
         refine V 80 4 (p0 77 (.tmp 79) (.const (.bool false)) (.bool false) rfl) ?_
         refine V 81 4 (mv 80 (.bool false)) ?_
         refine Sk [82, 83] 43 true 81 rfl ?_
         refine V 84 4 (p0 81 (.tmp 83) (.const (.bool false)) (.bool false) rfl) ?_
         refine V 0 4 (ma 84 (.bool false)) ?_
         obtain rfl := some_inj h102
         have hs103 : HS w0 F0 w51 F6 [] := hs52.drop 0
         exact RWP.nil ⟨rfl, F6, hs103, (Mem.le.refl _), rfl, rfl⟩
       ·have h104 := cond_f h72 hb73
        refine Sk [62, 63] 23 true 61 hb73 ?_
        refine V 64 4 (p0 61 (.tmp 63) (.const (.bool false)) (.bool false) hb73) ?_
        refine V 65 4 (mv 64 (.bool false)) ?_
        refine Sk [66, 67] 27 true 65 rfl ?_
        refine V 68 4 (p0 65 (.tmp 67) (.const (.bool false)) (.bool false) rfl) ?_
        refine V 69 4 (mv 68 (.bool false)) ?_
        refine Sk [70, 71] 31 true 69 rfl ?_
        refine V 72 4 (p0 69 (.tmp 71) (.const (.bool false)) (.bool false) rfl) ?_
        refine V 73 4 (mv 72 (.bool false)) ?_
        refine Sk [74, 75] 35 true 73 rfl ?_
        refine V 76 4 (p0 73 (.tmp 75) (.const (.bool false)) (.bool false) rfl) ?_
        refine V 77 4 (mv 76 (.bool false)) ?_
        refine Sk [78, 79] 39 true 77 rfl ?_
        refine V 80 4 (p0 77 (.tmp 79) (.const (.bool false)) (.bool false) rfl) ?_
        refine V 81 4 (mv 80 (.bool false)) ?_
        refine Sk [82, 83] 43 true 81 rfl ?_
        refine V 84 4 (p0 81 (.tmp 83) (.const (.bool false)) (.bool false) rfl) ?_
        refine V 0 4 (ma 84 (.bool false)) ?_
        obtain rfl := some_inj h104
        have hs105 : HS w0 F0 w51 F6 [] := hs52.drop 0
        exact RWP.nil ⟨rfl, F6, hs105, (Mem.le.refl _), rfl, rfl⟩
      ·have h106 := cond_f h70 hb71
       refine Sk [58, 59] 19 true 57 hb71 ?_
       refine V 60 4 (p0 57 (.tmp 59) (.const (.bool false)) (.bool false) hb71) ?_
       refine V 61 4 (mv 60 (.bool false)) ?_
       refine Sk [62, 63] 23 true 61 rfl ?_
       refine V 64 4 (p0 61 (.tmp 63) (.const (.bool false)) (.bool false) rfl) ?_
       refine V 65 4 (mv 64 (.bool false)) ?_
       refine Sk [66, 67] 27 true 65 rfl ?_
       refine V 68 4 (p0 65 (.tmp 67) (.const (.bool false)) (.bool false) rfl) ?_
       refine V 69 4 (mv 68 (.bool false)) ?_
       refine Sk [70, 71] 31 true 69 rfl ?_
       refine V 72 4 (p0 69 (.tmp 71) (.const (.bool false)) (.bool false) rfl) ?_
       refine V 73 4 (mv 72 (.bool false)) ?_
       refine Sk [74, 75] 35 true 73 rfl ?_
       refine V 76 4 (p0 73 (.tmp 75) (.const (.bool false)) (.bool false) rfl) ?_
       refine V 77 4 (mv 76 (.bool false)) ?_
       refine Sk [78, 79] 39 true 77 rfl ?_
       refine V 80 4 (p0 77 (.tmp 79) (.const (.bool false)) (.bool false) rfl) ?_
       refine V 81 4 (mv 80 (.bool false)) ?_
       refine Sk [82, 83] 43 true 81 rfl ?_
       refine V 84 4 (p0 81 (.tmp 83) (.const (.bool false)) (.bool false) rfl) ?_
       refine V 0 4 (ma 84 (.bool false)) ?_
       obtain rfl := some_inj h106
       have hs107 : HS w0 F0 w51 F6 [] := hs52.drop 0
       exact RWP.nil ⟨rfl, F6, hs107, (Mem.le.refl _), rfl, rfl⟩
     ·have h108 := cond_f h68 hb69
      refine Sk [54, 55] 15 true 53 hb69 ?_
      refine V 56 4 (p0 53 (.tmp 55) (.const (.bool false)) (.bool false) hb69) ?_
      refine V 57 4 (mv 56 (.bool false)) ?_
      refine Sk [58, 59] 19 true 57 rfl ?_
      refine V 60 4 (p0 57 (.tmp 59) (.const (.bool false)) (.bool false) rfl) ?_
      refine V 61 4 (mv 60 (.bool false)) ?_
      refine Sk [62, 63] 23 true 61 rfl ?_
      refine V 64 4 (p0 61 (.tmp 63) (.const (.bool false)) (.bool false) rfl) ?_
      refine V 65 4 (mv 64 (.bool false)) ?_
      refine Sk [66, 67] 27 true 65 rfl ?_
      refine V 68 4 (p0 65 (.tmp 67) (.const (.bool false)) (.bool false) rfl) ?_
      refine V 69 4 (mv 68 (.bool false)) ?_
      refine Sk [70, 71] 31 true 69 rfl ?_
      refine V 72 4 (p0 69 (.tmp 71) (.const (.bool false)) (.bool false) rfl) ?_
      refine V 73 4 (mv 72 (.bool false)) ?_
      refine Sk [74, 75] 35 true 73 rfl ?_
      refine V 76 4 (p0 73 (.tmp 75) (.const (.bool false)) (.bool false) rfl) ?_
      refine V 77 4 (mv 76 (.bool false)) ?_
      refine Sk [78, 79] 39 true 77 rfl ?_
      refine V 80 4 (p0 77 (.tmp 79) (.const (.bool false)) (.bool false) rfl) ?_
      refine V 81 4 (mv 80 (.bool false)) ?_
      refine Sk [82, 83] 43 true 81 rfl ?_
      refine V 84 4 (p0 81 (.tmp 83) (.const (.bool false)) (.bool false) rfl) ?_
      refine V 0 4 (ma 84 (.bool false)) ?_
      obtain rfl := some_inj h108
      have hs109 : HS w0 F0 w51 F6 [] := hs52.drop 0
      exact RWP.nil ⟨rfl, F6, hs109, (Mem.le.refl _), rfl, rfl⟩
    ·have h110 := cond_f h66 hb67
     refine Sk [50, 51] 11 true 49 hb67 ?_
     refine V 52 4 (p0 49 (.tmp 51) (.const (.bool false)) (.bool false) hb67) ?_
     refine V 53 4 (mv 52 (.bool false)) ?_
     refine Sk [54, 55] 15 true 53 rfl ?_
     refine V 56 4 (p0 53 (.tmp 55) (.const (.bool false)) (.bool false) rfl) ?_
     refine V 57 4 (mv 56 (.bool false)) ?_
     refine Sk [58, 59] 19 true 57 rfl ?_
     refine V 60 4 (p0 57 (.tmp 59) (.const (.bool false)) (.bool false) rfl) ?_
     refine V 61 4 (mv 60 (.bool false)) ?_
     refine Sk [62, 63] 23 true 61 rfl ?_
     refine V 64 4 (p0 61 (.tmp 63) (.const (.bool false)) (.bool false) rfl) ?_
     refine V 65 4 (mv 64 (.bool false)) ?_
     refine Sk [66, 67] 27 true 65 rfl ?_
     refine V 68 4 (p0 65 (.tmp 67) (.const (.bool false)) (.bool false) rfl) ?_
     refine V 69 4 (mv 68 (.bool false)) ?_
     refine Sk [70, 71] 31 true 69 rfl ?_
     refine V 72 4 (p0 69 (.tmp 71) (.const (.bool false)) (.bool false) rfl) ?_
     refine V 73 4 (mv 72 (.bool false)) ?_
     refine Sk [74, 75] 35 true 73 rfl ?_
     refine V 76 4 (p0 73 (.tmp 75) (.const (.bool false)) (.bool false) rfl) ?_
     refine V 77 4 (mv 76 (.bool false)) ?_
     refine Sk [78, 79] 39 true 77 rfl ?_
     refine V 80 4 (p0 77 (.tmp 79) (.const (.bool false)) (.bool false) rfl) ?_
     refine V 81 4 (mv 80 (.bool false)) ?_
     refine Sk [82, 83] 43 true 81 rfl ?_
     refine V 84 4 (p0 81 (.tmp 83) (.const (.bool false)) (.bool false) rfl) ?_
     refine V 0 4 (ma 84 (.bool false)) ?_
     obtain rfl := some_inj h110
     have hs111 : HS w0 F0 w51 F6 [] := hs52.drop 0
     exact RWP.nil ⟨rfl, F6, hs111, (Mem.le.refl _), rfl, rfl⟩
   ·have h112 := cond_f h64 hb65
    refine Sk [46, 47] 7 true 45 hb65 ?_
    refine V 48 4 (p0 45 (.tmp 47) (.const (.bool false)) (.bool false) hb65) ?_
    refine V 49 4 (mv 48 (.bool false)) ?_
    refine Sk [50, 51] 11 true 49 rfl ?_
    refine V 52 4 (p0 49 (.tmp 51) (.const (.bool false)) (.bool false) rfl) ?_
    refine V 53 4 (mv 52 (.bool false)) ?_
    refine Sk [54, 55] 15 true 53 rfl ?_
    refine V 56 4 (p0 53 (.tmp 55) (.const (.bool false)) (.bool false) rfl) ?_
    refine V 57 4 (mv 56 (.bool false)) ?_
    refine Sk [58, 59] 19 true 57 rfl ?_
    refine V 60 4 (p0 57 (.tmp 59) (.const (.bool false)) (.bool false) rfl) ?_
    refine V 61 4 (mv 60 (.bool false)) ?_
    refine Sk [62, 63] 23 true 61 rfl ?_
    refine V 64 4 (p0 61 (.tmp 63) (.const (.bool false)) (.bool false) rfl) ?_
    refine V 65 4 (mv 64 (.bool false)) ?_
    refine Sk [66, 67] 27 true 65 rfl ?_
    refine V 68 4 (p0 65 (.tmp 67) (.const (.bool false)) (.bool false) rfl) ?_
    refine V 69 4 (mv 68 (.bool false)) ?_
    refine Sk [70, 71] 31 true 69 rfl ?_
    refine V 72 4 (p0 69 (.tmp 71) (.const (.bool false)) (.bool false) rfl) ?_
    refine V 73 4 (mv 72 (.bool false)) ?_
    refine Sk [74, 75] 35 true 73 rfl ?_
    refine V 76 4 (p0 73 (.tmp 75) (.const (.bool false)) (.bool false) rfl) ?_
    refine V 77 4 (mv 76 (.bool false)) ?_
    refine Sk [78, 79] 39 true 77 rfl ?_
    refine V 80 4 (p0 77 (.tmp 79) (.const (.bool false)) (.bool false) rfl) ?_
    refine V 81 4 (mv 80 (.bool false)) ?_
    refine Sk [82, 83] 43 true 81 rfl ?_
    refine V 84 4 (p0 81 (.tmp 83) (.const (.bool false)) (.bool false) rfl) ?_
    refine V 0 4 (ma 84 (.bool false)) ?_
    obtain rfl := some_inj h112
    have hs113 : HS w0 F0 w51 F6 [] := hs52.drop 0
    exact RWP.nil ⟨rfl, F6, hs113, (Mem.le.refl _), rfl, rfl⟩
  ·have h114 := cond_f hj61 hb63
   refine Sk [41, 42, 43] 2 true 40 hb63 ?_
   refine V 44 4 (p0 40 (.tmp 43) (.const (.bool false)) (.bool false) hb63) ?_
   refine V 45 4 (mv 44 (.bool false)) ?_
   refine Sk [46, 47] 7 true 45 rfl ?_
   refine V 48 4 (p0 45 (.tmp 47) (.const (.bool false)) (.bool false) rfl) ?_
   refine V 49 4 (mv 48 (.bool false)) ?_
   refine Sk [50, 51] 11 true 49 rfl ?_
   refine V 52 4 (p0 49 (.tmp 51) (.const (.bool false)) (.bool false) rfl) ?_
   refine V 53 4 (mv 52 (.bool false)) ?_
   refine Sk [54, 55] 15 true 53 rfl ?_
   refine V 56 4 (p0 53 (.tmp 55) (.const (.bool false)) (.bool false) rfl) ?_
   refine V 57 4 (mv 56 (.bool false)) ?_
   refine Sk [58, 59] 19 true 57 rfl ?_
   refine V 60 4 (p0 57 (.tmp 59) (.const (.bool false)) (.bool false) rfl) ?_
   refine V 61 4 (mv 60 (.bool false)) ?_
   refine Sk [62, 63] 23 true 61 rfl ?_
   refine V 64 4 (p0 61 (.tmp 63) (.const (.bool false)) (.bool false) rfl) ?_
   refine V 65 4 (mv 64 (.bool false)) ?_
   refine Sk [66, 67] 27 true 65 rfl ?_
   refine V 68 4 (p0 65 (.tmp 67) (.const (.bool false)) (.bool false) rfl) ?_
   refine V 69 4 (mv 68 (.bool false)) ?_
   refine Sk [70, 71] 31 true 69 rfl ?_
   refine V 72 4 (p0 69 (.tmp 71) (.const (.bool false)) (.bool false) rfl) ?_
   refine V 73 4 (mv 72 (.bool false)) ?_
   refine Sk [74, 75] 35 true 73 rfl ?_
   refine V 76 4 (p0 73 (.tmp 75) (.const (.bool false)) (.bool false) rfl) ?_
   refine V 77 4 (mv 76 (.bool false)) ?_
   refine Sk [78, 79] 39 true 77 rfl ?_
   refine V 80 4 (p0 77 (.tmp 79) (.const (.bool false)) (.bool false) rfl) ?_
   refine V 81 4 (mv 80 (.bool false)) ?_
   refine Sk [82, 83] 43 true 81 rfl ?_
   refine V 84 4 (p0 81 (.tmp 83) (.const (.bool false)) (.bool false) rfl) ?_
   refine V 0 4 (ma 84 (.bool false)) ?_
   obtain rfl := some_inj h114
   have hs115 : HS w0 F0 w51 F6 [] := hs52.drop 0
   exact RWP.nil ⟨rfl, F6, hs115, (Mem.le.refl _), rfl, rfl⟩
 ·rintro f w55 ⟨F7, hs56, le57, e59, e60⟩
  refine thenQ_nrm ?_
  refine CWP.ret (by kernel_rfl) ?_
  have hfin := some_inj h62
  subst hfin
  exact ⟨e59, (.bool j58), res_of (l := [.tmp 0]) (by kernel_rfl) (vs := [(.bool j58)]) ⟨e60, trivial⟩, (.bool j58), F7, rfl, hs56.clear, rfl⟩
end Go.Proofs.YtlddakefmfcblaaGreatDoor
namespace Go.Proofs.YtlddakefmfcblaaGreatDoor
open Go.Lib (decDigits)
theorem aw1 : splitS [71, 51, 47, 77, 48, 65, 66, 47, 80] = ({ Area := [71, 51], Prefix := [77, 48], Suffix := [65, 66], Stroke := [80] }, 0) := by rfl
theorem aw2 : prefixS [87, 49, 65, 87, 47, 52] = ([87, 52], 0) := by rfl
theorem aw3 : tText 1505 = [50, 32, 48, 49, 48, 53] := by
 unfold tText dP
 rw [show 1505 / 1440 + 1 = 2 from rfl, show 1505 / 60 % 24 = 1 from rfl, show 1505 % 60 = 5 from rfl, dd_small (by decide), dd_small (by decide), dd_small (by decide)]
 rfl
theorem aw4 : printT 1505 = ([50, 32, 48, 49, 48, 53], 0) := by
 unfold printT
 rw [if_pos (by decide)]
 show (tText 1505, (0 : Int)) = _
 rw [aw3]
theorem aw5 : parseT [50, 32, 48, 49, 48, 53] = (1505, 0) := by
 rw [← aw3, parse_text (by decide)]; rfl
theorem aw6 : validS [68, 76, 49, 65, 47, 87, 49, 65] = false := by rfl
theorem aw7 : nearestS [{ ID := 1, Lo := 1800, Hi := 2000 }, { ID := 2, Lo := 3500, Hi := 3800 }] 2750 = (1, 750, 0) := by decide
theorem awake_true {N : Nat} (hN : 4294967300 < N) : law01_awake N = some true := by
 unfold law01_awake
 rw [s_Split _ hN, aw1, Option.bind_some, s_PrefixOf _ hN, aw2, Option.bind_some, s_PrintTime, aw4, Option.bind_some, s_ParseTime _ (by simp) hN, aw5, Option.bind_some, s_Nearest (by simp) hN, aw7, Option.bind_some]
 simp only [s_Valid _ hN, aw6]
 rfl
end Go.Proofs.YtlddakefmfcblaaGreatDoor
namespace Go.Proofs.YtlddakefmfcblaaGreatDoor
open Go.Proofs
end Go.Proofs.YtlddakefmfcblaaGreatDoor
namespace Go.Proofs.YtlddakefmfcblaaGreatDoor
def beginsB (b t : List UInt8) : Bool := decide (t.length ≤ b.length) && (b.take t.length == t)
theorem begins_iff {b t : List UInt8} : beginsB b t = true ↔ t.length ≤ b.length ∧ b.take t.length = t := by
 unfold beginsB
 rw [Bool.and_eq_true, decide_eq_true_eq, beq_iff_eq]
section
variable {N : Nat} {T : List Prefix}
theorem atK_some {k : air_key} {d : Int} {i : Nat} : atK T k d = some i ↔ i < T.length ∧ keyP (pAt T i) = k ∧ dayIn (pAt T i) d = true ∧ ∀ j, j < i → ¬ (keyP (pAt T j) = k ∧ dayIn (pAt T j) d = true) := by
 unfold atK
 rw [firstN_some (m := T.length) (by omega)]
 constructor
 ·rintro ⟨j, _, h2, h3, h4⟩
  split at h3
  ·rename_i hc
   injection h3 with h3
   subst h3
   simp only [Bool.and_eq_true, decide_eq_true_eq] at hc
   refine ⟨h2, hc.1, hc.2, fun q hq hh => ?_⟩
   have := h4 q (by omega) hq
   rw [if_pos (by simp only [Bool.and_eq_true, decide_eq_true_eq]; exact hh)] at this
   cases this
  ·cases h3
 ·rintro ⟨h1, h2, h3, h4⟩
  refine ⟨i, by omega, h1, if_pos (by simp only [Bool.and_eq_true, decide_eq_true_eq]; exact ⟨h2, h3⟩), fun j _ hj => ?_⟩
  rw [if_neg (by simp only [Bool.and_eq_true, decide_eq_true_eq]; exact h4 j hj)]
theorem atK_none {k : air_key} {d : Int} : atK T k d = none ↔ ∀ i, i < T.length → ¬ (keyP (pAt T i) = k ∧ dayIn (pAt T i) d = true) := by
 unfold atK
 rw [firstN_none (by omega)]
 constructor
 ·intro h i hi hh
  have := h i (by omega) hi
  rw [if_pos (by simp only [Bool.and_eq_true, decide_eq_true_eq]; exact hh)] at this
  cases this
 ·intro h i _ hi
  rw [if_neg (by simp only [Bool.and_eq_true, decide_eq_true_eq]; exact h i hi)]
theorem downF_spec (b : List UInt8) (d : Int) : ∀ k, (downF T b d k = none → ∀ l, 1 ≤ l → l ≤ k → atK T { text_ := b.take l, whole_ := false } d = none) ∧ ∀ m, downF T b d k = some m → ∃ l, 1 ≤ l ∧ l ≤ k ∧ atK T { text_ := b.take l, whole_ := false } d = some m ∧ ∀ q, l < q → q ≤ k → atK T { text_ := b.take q, whole_ := false } d = none := by
 intro k
 induction k with
 | zero => exact ⟨fun _ l h1 h2 => by omega, fun m h => by cases h⟩
 | succ k ih =>
  unfold downF
  cases ha : atK T { text_ := b.take (k + 1), whole_ := false } d with
  | some i =>
   refine ⟨fun h => (by cases h), fun m h => ?_⟩
   injection h with h
   subst h
   exact ⟨k + 1, by omega, Nat.le_refl _, ha, fun q h1 h2 => by omega⟩
  | none =>
   refine ⟨fun h l h1 h2 => ?_, fun m h => ?_⟩
   ·by_cases hl : l = k + 1
    ·subst hl; exact ha
    ·exact ih.1 h l h1 (by omega)
   ·obtain ⟨l, h1, h2, h3, h4⟩ := ih.2 m h
    refine ⟨l, h1, by omega, h3, fun q h5 h6 => ?_⟩
    by_cases hq : q = k + 1
    ·subst hq; exact ha
    ·exact h4 q h5 (by omega)
theorem downF_lt {b : List UInt8} {d : Int} {k i : Nat} (h : downF T b d k = some i) : i < T.length ∧ dayIn (pAt T i) d = true := by
 obtain ⟨l, _, _, h3, _⟩ := (downF_spec (T := T) b d k).2 i h
 exact ⟨(atK_some.1 h3).1, (atK_some.1 h3).2.2.1⟩
theorem findS_lt {c : List UInt8} {d : Int} {i : Nat} (h : findS T c d = some i) : i < T.length ∧ dayIn (pAt T i) d = true := by
 unfold findS at h
 cases ha : atK T { text_ := c, whole_ := true } d with
 | some j =>
  rw [ha] at h
  injection h with h
  subst h
  exact ⟨(atK_some.1 ha).1, (atK_some.1 ha).2.2.1⟩
 | none =>
  rw [ha] at h
  exact downF_lt h
def plOf (p : Prefix) : Place := { Country := p.Country, Zone := p.Zone, Continent := p.Continent }
def zPl : Place := { Country := 0, Zone := 0, Continent := 0 }
def placeS (T : List Prefix) (c : List UInt8) (d : Int) : Place × Int := if wrongT T c d = 0 then (match findS T c d with | some i => (plOf (pAt T i), 0) | none => (zPl, 3)) else (zPl, wrongT T c d)
theorem s_PlaceOf (hT : fitT N T) (hN : 4294967300 < N) (c : List UInt8) (d : Int) : air_PlaceOf N T c d = some (placeS T c d) := by
 unfold air_PlaceOf placeS
 rw [s_RowOf hT hN, Option.bind_some]
 unfold rowOfS
 by_cases hw : wrongT T c d = 0
 ·rw [if_pos hw, if_pos hw]
  cases hf : findS T c d with
  | none => rfl
  | some i =>
   simp only
   rw [show ((0 : Int) != 0) = false from rfl, cond_false, idx_p (findS_lt hf).1]
   rfl
 ·rw [if_neg hw, if_neg hw, show ((((0 : Int), wrongT T c d).2) != 0) = true by simpa using hw, cond_true]
  rfl
end
theorem fitT_q {T : List Prefix} (q : T.length < 9223372036854775808 ∧ ∀ x, x ∈ T → qPrefix x) (h : T.length < 4000000000) : fitT 9223372036854775808 T := ⟨h, fun p hp => by
 have := (q.2 p hp).1
 unfold rS at this
 omega⟩
end Go.Proofs.YtlddakefmfcblaaGreatDoor
namespace Go.Proofs.YtlddakefmfcblaaGreatDoor
open Go.Proofs
def law01_begins (N : Nat) (x0 : (List UInt8)) (x1 : (List UInt8)) : Option Bool :=
 ((bif (decide ((x1.length : Int) ≤ (x0.length : Int))) then ((ssub x0 0 (x1.length : Int)).bind fun r11 => some (r11 == x1)) else some false).bind fun j4 => some j4)
theorem co_law01_begins : CallOk Tryz.prog 58 := fun _ _ => by kernel_rfl
set_option maxHeartbeats 4000000 in
set_option maxRecDepth 100000 in
theorem c_law01_begins (N : Nat) (w0 : World) (F0 : Mem) (hF : ∀ b o, F0 b = some o → w0.heap[b]? = some o) (x0 : (List UInt8)) (x1 : (List UInt8)) (r : Bool) (h : law01_begins N x0 x1 = some r) :
  Calls Tryz.prog 58 ([(.string ⟨(x0).toArray⟩), (.string ⟨(x1).toArray⟩)] : List Value).toArray w0 (FRet w0 F0 fun F' v => v = (.bool r)) := by
 have hs0 := HS.start hF
 refine calls_of (n := 18) (c := bodyOf Tryz.f58) Tryz.func58 (by kernel_rfl) (by kernel_rfl) (by kernel_rfl) ?_
 refine Sq (Rg [0] ?_)
 refine V 4 4 (mc (.bool false) (.bool false)) ?_
 refine Nss (Rg [0, 1, 2, 3, 4, 5, 6, 7, 8, 9, 10, 11, 12, 13] ?_)
 obtain ⟨j4, hj7, h8⟩ := bind_some h
 refine RWP.cut (fun f w => ∃ (F1 : Mem), HS w0 F0 w F1 [] ∧ Mem.le F0 F1 ∧ f.d = [] ∧ f 4 = (.bool j4)) ?_ ?_
 ·refine V 5 9 (mv 1 (.string ⟨(x1).toArray⟩)) ?_
  refine V 6 3 (run_slen (x := (.tmp 5)) (ats := #[9]) (t := 9) (a := x1) rfl rfl (by kernel_rfl)) ?_
  refine V 7 9 (mv 0 (.string ⟨(x0).toArray⟩)) ?_
  refine V 8 3 (run_slen (x := (.tmp 7)) (ats := #[9]) (t := 9) (a := x0) rfl rfl (by kernel_rfl)) ?_
  refine V 9 4 (run_leq (t := 3) (t' := 3) (x := (.tmp 6)) (y := (.tmp 8)) (k := .i64) (a := (x1.length : Int)) (b := (x0.length : Int)) rfl rfl) ?_
  refine V 10 4 (mv 9 (.bool (decide ((x1.length : Int) ≤ (x0.length : Int))))) ?_
  refine RWP.split (decide ((x1.length : Int) ≤ (x0.length : Int))) (fun hb9 => ?_) (fun hb9 => ?_)
  ·have h10 := cond_t hj7 hb9
   refine Vg 11 9 5 true 10 hb9 (mv 0 (.string ⟨(x0).toArray⟩)) ?_
   refine Vg 12 9 5 true 10 hb9 (mv 1 (.string ⟨(x1).toArray⟩)) ?_
   refine Vg 13 3 5 true 10 hb9 (run_slen (x := (.tmp 12)) (ats := #[9]) (t := 9) (a := x1) rfl rfl (by kernel_rfl)) ?_
   obtain ⟨r11, hr12, h13⟩ := bind_some h10
   refine Vg 14 9 5 true 10 hb9 (run_ssub (t := 9) (x := (.tmp 11)) (lo := none) (hi := (some (.tmp 13))) (a := x0) (il := 0) (ih := (x1.length : Int)) (v := r11) rfl (by kernel_rfl) rfl rfl hr12) ?_
   refine Vg 15 9 5 true 10 hb9 (mv 1 (.string ⟨(x1).toArray⟩)) ?_
   refine Vg 16 4 5 true 10 hb9 (run_scmp (t := 9) (t' := 9) (x := (.tmp 14)) (y := (.tmp 15)) (op := .eql) (a := r11) (b := x1) (v := (r11 == x1)) rfl rfl rfl) ?_
   refine V 17 4 (p1 10 (.tmp 16) (.const (.bool false)) (.bool (r11 == x1)) hb9) ?_
   refine V 4 4 (ma 17 (.bool (r11 == x1))) ?_
   obtain rfl := some_inj h13
   exact RWP.nil ⟨rfl, F0, hs0, (Mem.le.refl _), rfl, rfl⟩
  ·have h14 := cond_f hj7 hb9
   refine Sk [11, 12, 13, 14, 15, 16] 5 true 10 hb9 ?_
   refine V 17 4 (p0 10 (.tmp 16) (.const (.bool false)) (.bool false) hb9) ?_
   refine V 4 4 (ma 17 (.bool false)) ?_
   obtain rfl := some_inj h14
   exact RWP.nil ⟨rfl, F0, hs0, (Mem.le.refl _), rfl, rfl⟩
 ·rintro f w1 ⟨F1, hs2, le3, e5, e6⟩
  refine thenQ_nrm ?_
  refine CWP.ret (by kernel_rfl) ?_
  have hfin := some_inj h8
  subst hfin
  exact ⟨e5, (.bool j4), res_of (l := [.tmp 4]) (by kernel_rfl) (vs := [(.bool j4)]) ⟨e6, trivial⟩, (.bool j4), F1, rfl, hs2.clear, rfl⟩
end Go.Proofs.YtlddakefmfcblaaGreatDoor
namespace Go.Proofs.YtlddakefmfcblaaGreatDoor
open Go.Proofs
def law01_AirRows_L0 (N : Nat) (x0 : (List Prefix)) (x1 : (List UInt8)) (x2 : Int) (r1 : Bool) (j12 : (Bool)) (r38 : (Int × Int)) (r46 : (Place × Int)) (r62 : (Parts × Int)) (j106 : (List UInt8)) : (List Prefix × Int × Bool × Int) → Option (Flow Bool (List Prefix × Int × Bool × Int)) := fun s131 =>
 (bif (decide (s131.2.2.2 < (x0.length : Int))) then ((idx x0 s131.2.2.2).bind fun x172 => ((bif (decide (x172.From > x2)) then some true else (bif (decide (x172.To < x2)) then some true else (bif x172.Whole then (bif (x172.Text != x1) then some true else (bif (!x172.Whole) then ((law01_begins N j106 x172.Text).bind fun r225 => some (!r225)) else some false)) else (bif (!x172.Whole) then ((law01_begins N j106 x172.Text).bind fun r237 => some (!r237)) else some false)))).bind fun j194 => (bif j194 then some (.next (s131.1, s131.2.1, s131.2.2.1, (W64 (s131.2.2.2 + 1)))) else ((apnd s131.1 [x172]).bind fun r256 => some (.next (r256, (bif (!x172.Whole) then (max s131.2.1 (x172.Text.length : Int)) else s131.2.1), (s131.2.2.1 || x172.Whole), (W64 (s131.2.2.2 + 1)))))))) else some (.done (s131.1, s131.2.1, s131.2.2.1, s131.2.2.2)))
def law01_AirRows (N : Nat) (x0 : (List Prefix)) (x1 : (List UInt8)) (x2 : Int) : Option Bool :=
 ((law01_awake N ).bind fun r1 => ((bif (decide ((x0.length : Int) > 60)) then some true else (bif (decide ((x1.length : Int) > 1000)) then some true else ((ref01_ValidTable N x0).bind fun r27 => some (!r27)))).bind fun j12 => (bif j12 then some r1 else ((air_RowOf N x0 x1 x2).bind fun r38 => ((air_PlaceOf N x0 x1 x2).bind fun r46 => (bif (r38.2 != r46.2) then some false else ((air_Split N x1).bind fun r62 => (bif ((r62.2 != 0) || ((decide (x2 < 0)) || (decide (x2 > 99999)))) then some (r1 && (r38.2 != 0)) else ((bif (r62.1.Area == ([] : List UInt8)) then ((sadd r62.1.Prefix r62.1.Suffix).bind fun r120 => some r120) else some r62.1.Area).bind fun j106 => ((iter (law01_AirRows_L0 N x0 x1 x2 r1 j12 r38 r46 r62 j106) N (([] : List Prefix), (-1), false, 0)).bind fun o => o.k (fun r => some r) (fun s148 => (bif ((s148.1.length : Int) == 0) then some (r1 && (r38.2 == 3)) else (bif ((r38.2 != 0) || ((decide (r38.1 < 0)) || (decide (r38.1 ≥ (x0.length : Int))))) then some false else ((idx x0 r38.1).bind fun x341 => ((bif (decide (x341.From > x2)) then some true else (bif (decide (x341.To < x2)) then some true else (bif (!(x341.Whole == s148.2.2.1)) then some true else (bif (!s148.2.2.1) then (bif ((x341.Text.length : Int) != s148.2.1) then some true else ((law01_begins N j106 x341.Text).bind fun r388 => (bif (!r388) then some true else (bif s148.2.2.1 then some (x341.Text != x1) else some false)))) else (bif s148.2.2.1 then some (x341.Text != x1) else some false))))).bind fun j363 => (bif j363 then some false else ((air_PlaceOf N s148.1 x1 x2).bind fun r413 => some (r1 && ((r413.2 == 0) && (((r46.1.Country == r413.1.Country) && ((r46.1.Zone == r413.1.Zone) && ((r46.1.Continent == r413.1.Continent) && true))) && ((r46.1.Country == x341.Country) && ((r46.1.Zone == x341.Zone) && ((r46.1.Continent == x341.Continent) && true)))))))))))))))))))))))
set_option maxHeartbeats 4000000 in
set_option maxRecDepth 100000 in
theorem c_law01_AirRows (N : Nat) (w0 : World) (F0 : Mem) (hF : ∀ b o, F0 b = some o → w0.heap[b]? = some o) (hG : Glob F0) (x0 : (List Prefix)) (a0_0 : Option Addr) (n0_0 : Nat) (hb0_0 : LC x0.length n0_0) (hs0_0 : SlA tPrefix F0 a0_0 x0) (x1 : (List UInt8)) (x2 : Int) (r : Bool) (h : law01_AirRows N x0 x1 x2 = some r) :
  Calls Tryz.prog 13 ([(.slice a0_0 x0.length n0_0), (.string ⟨(x1).toArray⟩), (vi x2)] : List Value).toArray w0 (FRet w0 F0 fun F' v => v = (.bool r)) := by
 have hs0 := HS.start hF
 refine calls_of (n := 238) (c := bodyOf Tryz.f13) Tryz.func13 (by kernel_rfl) (by kernel_rfl) (by kernel_rfl) ?_
 refine Sq (Rg [0] ?_)
 refine V 6 4 (mc (.bool false) (.bool false)) ?_
 refine Nss (Rg [0, 1] ?_)
 obtain ⟨r1, hr2, h3⟩ := bind_some h
 refine Cl 23 4 17 #[] #[] co_law01_awake hs0 (c_law01_awake N w0 F0 hs0.pers hG  _ hr2) ?_
 intro v4 F1 w5 hs6 le7 hp8
 obtain rfl := hp8
 refine V 7 4 (ma 23 (.bool r1)) ?_
 refine Nss ?_
 refine Sq (Rg [0, 1, 2, 3, 4, 5, 6, 7, 8, 9, 10, 11, 12] ?_)
 obtain ⟨j12, hj19, h20⟩ := bind_some h3
 refine RWP.cut (fun f w => ∃ (F2 : Mem), HS w0 F0 w F2 [] ∧ Mem.le F1 F2 ∧ f.d = [] ∧ f 0 = (.slice a0_0 x0.length n0_0) ∧ f 1 = (.string ⟨(x1).toArray⟩) ∧ f 2 = (vi x2) ∧ f 7 = (.bool r1) ∧ f 36 = (.bool j12)) ?_ ?_
 ·refine V 24 61 (mv 0 (.slice a0_0 x0.length n0_0)) ?_
  refine V 25 3 (ln 24 61 a0_0 x0.length n0_0 71 7 64) ?_
  refine V 26 4 (run_gtr (t := 3) (t' := 3) (x := (.tmp 25)) (y := (.const (vi 60))) (k := .i64) (a := (x0.length : Int)) (b := 60) rfl rfl) ?_
  refine V 27 4 (mv 26 (.bool (decide ((x0.length : Int) > 60)))) ?_
  refine RWP.split (decide ((x0.length : Int) > 60)) (fun hb21 => ?_) (fun hb21 => ?_)
  ·have h22 := cond_t hj19 hb21
   refine Sk [28, 29, 30] 3 false 27 hb21 ?_
   refine V 31 4 (p1 27 (.const (.bool true)) (.tmp 30) (.bool true) hb21) ?_
   refine V 32 4 (mv 31 (.bool true)) ?_
   refine Sk [33, 34, 35] 8 false 32 rfl ?_
   refine V 36 4 (p1 32 (.const (.bool true)) (.tmp 35) (.bool true) rfl) ?_
   obtain rfl := some_inj h22
   exact RWP.nil ⟨rfl, F1, hs6, (Mem.le.refl _), rfl, rfl, rfl, rfl, rfl, rfl⟩
  ·have h23 := cond_f hj19 hb21
   refine Vg 28 9 3 false 27 hb21 (mv 1 (.string ⟨(x1).toArray⟩)) ?_
   refine Vg 29 3 3 false 27 hb21 (run_slen (x := (.tmp 28)) (ats := #[9]) (t := 9) (a := x1) rfl rfl (by kernel_rfl)) ?_
   refine Vg 30 4 3 false 27 hb21 (run_gtr (t := 3) (t' := 3) (x := (.tmp 29)) (y := (.const (vi 1000))) (k := .i64) (a := (x1.length : Int)) (b := 1000) rfl rfl) ?_
   refine V 31 4 (p0 27 (.const (.bool true)) (.tmp 30) (.bool (decide ((x1.length : Int) > 1000))) hb21) ?_
   refine V 32 4 (mv 31 (.bool (decide ((x1.length : Int) > 1000)))) ?_
   refine RWP.split (decide ((x1.length : Int) > 1000)) (fun hb24 => ?_) (fun hb24 => ?_)
   ·have h25 := cond_t h23 hb24
    refine Sk [33, 34, 35] 8 false 32 hb24 ?_
    refine V 36 4 (p1 32 (.const (.bool true)) (.tmp 35) (.bool true) hb24) ?_
    obtain rfl := some_inj h25
    exact RWP.nil ⟨rfl, F1, hs6, (Mem.le.refl _), rfl, rfl, rfl, rfl, rfl, rfl⟩
   ·have h26 := cond_f h23 hb24
    refine Vg 33 61 8 false 32 hb24 (mv 0 (.slice a0_0 x0.length n0_0)) ?_
    obtain ⟨r27, hr28, h29⟩ := bind_some h26
    refine RWP.call (dst := (some 34)) (ty := 4) (g := (some (8, false))) (by kernel_rfl) (gd_y (d := 32) (by kernel_rfl) rfl hb24) (f0 := (.func 57)) (aos := #[(.tmp 33)]) (ats := #[61]) (fid := 57) (first := #[]) (cap := #[]) (args := [(.slice a0_0 x0.length n0_0)]) rfl co_ref01_ValidTable (rfl) hs6 (c_ref01_ValidTable N w5 F1 hs6.pers (x0) a0_0 n0_0 hb0_0 (SlA.mono hs0_0 le7) _ hr28) ?_
    intro v30 F3 w31 hs32 le33 hp34
    obtain rfl := hp34
    refine Vg 35 4 8 false 32 hb24 (run_not (t := 4) (x := (.tmp 34)) (a := r27) rfl) ?_
    refine V 36 4 (p0 32 (.const (.bool true)) (.tmp 35) (.bool (!r27)) hb24) ?_
    obtain rfl := some_inj h29
    exact RWP.nil ⟨rfl, F3, hs32, le33, rfl, rfl, rfl, rfl, rfl, rfl⟩
 ·rintro f w9 ⟨F2, hs10, le11, e13, e14, e15, e16, e17, e18⟩
  refine thenQ_nrm ?_
  refine CWP.cond (t := j12) (by kernel_rfl) e18 (fun hb35 => ?_) (fun hb35 => ?_)
  ·have h36 := cond_t h20 hb35
   refine Sq (Rg [0, 1] ?_)
   refine V 37 4 (mv 7 (.bool r1) e17) ?_
   refine V 6 4 (ma 37 (.bool r1)) ?_
   refine Nt ?_
   refine CWP.ret (by kernel_rfl) ?_
   refine thenQ_ret ?_
   have hfin := some_inj h36
   subst hfin
   exact ⟨e13, (.bool r1), res_of (l := [.tmp 6]) (by kernel_rfl) (vs := [(.bool r1)]) ⟨rfl, trivial⟩, (.bool r1), F2, rfl, hs10.clear, rfl⟩
  ·have h37 := cond_f h20 hb35
   refine Sc ?_
   refine thenQ_nrm ?_
   refine Sq (Rg [0, 1, 2, 3, 4, 5, 6, 7, 8] ?_)
   refine V 39 61 (mv 0 (.slice a0_0 x0.length n0_0) e14) ?_
   refine V 40 9 (mv 1 (.string ⟨(x1).toArray⟩) e15) ?_
   refine V 41 3 (mv 2 (vi x2) e16) ?_
   obtain ⟨r38, hr39, h40⟩ := bind_some h37
   refine Cl 42 33 52 #[(.tmp 39), (.tmp 40), (.tmp 41)] #[61, 9, 3] co_air_RowOf hs10 (c_air_RowOf N w9 F2 hs10.pers (hG.mono (le7.trans le11)) (x0) a0_0 n0_0 hb0_0 (SlA.mono hs0_0 (le7.trans le11)) (x1) (x2) _ hr39) ?_
   intro v41 F4 w42 hs43 le44 hp45
   obtain rfl := hp45
   refine V 38 33 (mv 42 (.tuple #[(vi r38.1), (vi r38.2)])) ?_
   refine V 43 3 (ex 38 0 (vi r38.1) (vs := #[(vi r38.1), (vi r38.2)])) ?_
   refine V 44 23 (ex 38 1 (vi r38.2) (vs := #[(vi r38.1), (vi r38.2)])) ?_
   refine V 8 3 (ma 43 (vi r38.1)) ?_
   refine V 9 23 (ma 44 (vi r38.2)) ?_
   refine Nss (Rg [0, 1, 2, 3, 4, 5, 6, 7, 8, 9] ?_)
   refine V 46 61 (mv 0 (.slice a0_0 x0.length n0_0) e14) ?_
   refine V 47 9 (mv 1 (.string ⟨(x1).toArray⟩) e15) ?_
   refine V 48 3 (mv 2 (vi x2) e16) ?_
   obtain ⟨r46, hr47, h48⟩ := bind_some h40
   refine Cl 49 66 54 #[(.tmp 46), (.tmp 47), (.tmp 48)] #[61, 9, 3] co_air_PlaceOf hs43 (c_air_PlaceOf N w42 F4 hs43.pers (hG.mono ((le7.trans le11).trans le44)) (x0) a0_0 n0_0 hb0_0 (SlA.mono hs0_0 ((le7.trans le11).trans le44)) (x1) (x2) _ hr47) ?_
   intro v49 F5 w50 hs51 le52 hp53
   obtain rfl := hp53
   refine V 45 66 (mv 49 (.tuple #[(.agg #[(vi r46.1.Country), (vi r46.1.Zone), (vi r46.1.Continent)]), (vi r46.2)])) ?_
   refine V 50 65 (ex 45 0 (.agg #[(vi r46.1.Country), (vi r46.1.Zone), (vi r46.1.Continent)]) (vs := #[(.agg #[(vi r46.1.Country), (vi r46.1.Zone), (vi r46.1.Continent)]), (vi r46.2)])) ?_
   refine V 51 23 (ex 45 1 (vi r46.2) (vs := #[(.agg #[(vi r46.1.Country), (vi r46.1.Zone), (vi r46.1.Continent)]), (vi r46.2)])) ?_
   refine Al 10 0 65 #[(vi 0), (vi 0), (vi 0)] hs51 (fun b54 w55 (hs56 : HS w0 F0 w55 F5 [(sb b54 #[(vi 0), (vi 0), (vi 0)] 65)]) => ?_)
   refine RWP.store (ty := 0) (g := none) (by kernel_rfl) rfl (x := (.tmp 10)) (y := (.tmp 50)) (t := 65) (gg := true) (s := 3) (v := (.agg #[(vi r46.1.Country), (vi r46.1.Zone), (vi r46.1.Continent)])) (b := b54) (o := 0) (C := #[(vi 0), (vi 0), (vi 0)]) rfl rfl (by kernel_rfl) hs56 (k := 0) rfl rfl rfl rfl (C' := #[(vi r46.1.Country), (vi r46.1.Zone), (vi r46.1.Continent)]) rfl (fun w57 (hs58 : HS w0 F0 w57 F5 [(sb b54 #[(vi r46.1.Country), (vi r46.1.Zone), (vi r46.1.Continent)] 65)]) => ?_)
   refine V 11 23 (ma 51 (vi r46.2)) ?_
   refine Nss ?_
   refine Sq (Rg [0, 1, 2] ?_)
   refine V 52 23 (mv 9 (vi r38.2)) ?_
   refine V 53 23 (mv 11 (vi r46.2)) ?_
   refine V 54 4 (run_neq (t := 23) (t' := 23) (x := (.tmp 52)) (y := (.tmp 53)) (k := .i64) (a := r38.2) (b := r46.2) rfl rfl) ?_
   refine Nt ?_
   refine CWP.cond (t := (r38.2 != r46.2)) (by kernel_rfl) rfl (fun hb59 => ?_) (fun hb59 => ?_)
   ·have h60 := cond_t h48 hb59
    refine Sq (Rg [0] ?_)
    refine V 6 4 (mc (.bool false) (.bool false)) ?_
    refine Nt ?_
    refine CWP.ret (by kernel_rfl) ?_
    refine thenQ_ret ?_
    have hfin := some_inj h60
    subst hfin
    exact ⟨e13, (.bool false), res_of (l := [.tmp 6]) (by kernel_rfl) (vs := [(.bool false)]) ⟨rfl, trivial⟩, (.bool false), F5, rfl, hs58.clear, rfl⟩
   ·have h61 := cond_f h48 hb59
    refine Sc ?_
    refine thenQ_nrm ?_
    refine Sq (Rg [0, 1, 2, 3, 4, 5, 6, 7] ?_)
    refine V 56 9 (mv 1 (.string ⟨(x1).toArray⟩) e15) ?_
    obtain ⟨r62, hr63, h64⟩ := bind_some h61
    refine Cl 57 28 19 #[(.tmp 56)] #[9] co_air_Split hs58 (c_air_Split N w57 F5 hs58.pers (hG.mono (((le7.trans le11).trans le44).trans le52)) (x1) _ hr63) ?_
    intro v65 F6 w66 hs67 le68 hp69
    obtain rfl := hp69
    refine V 55 28 (mv 57 (.tuple #[(.agg #[(.string ⟨(r62.1.Area).toArray⟩), (.string ⟨(r62.1.Prefix).toArray⟩), (.string ⟨(r62.1.Suffix).toArray⟩), (.string ⟨(r62.1.Stroke).toArray⟩)]), (vi r62.2)])) ?_
    refine V 58 27 (ex 55 0 (.agg #[(.string ⟨(r62.1.Area).toArray⟩), (.string ⟨(r62.1.Prefix).toArray⟩), (.string ⟨(r62.1.Suffix).toArray⟩), (.string ⟨(r62.1.Stroke).toArray⟩)]) (vs := #[(.agg #[(.string ⟨(r62.1.Area).toArray⟩), (.string ⟨(r62.1.Prefix).toArray⟩), (.string ⟨(r62.1.Suffix).toArray⟩), (.string ⟨(r62.1.Stroke).toArray⟩)]), (vi r62.2)])) ?_
    refine V 59 23 (ex 55 1 (vi r62.2) (vs := #[(.agg #[(.string ⟨(r62.1.Area).toArray⟩), (.string ⟨(r62.1.Prefix).toArray⟩), (.string ⟨(r62.1.Suffix).toArray⟩), (.string ⟨(r62.1.Stroke).toArray⟩)]), (vi r62.2)])) ?_
    refine Al 12 0 27 #[(.string ⟨(([] : List UInt8)).toArray⟩), (.string ⟨(([] : List UInt8)).toArray⟩), (.string ⟨(([] : List UInt8)).toArray⟩), (.string ⟨(([] : List UInt8)).toArray⟩)] hs67 (fun b70 w71 (hs72 : HS w0 F0 w71 F6 [(sb b70 #[(.string ⟨(([] : List UInt8)).toArray⟩), (.string ⟨(([] : List UInt8)).toArray⟩), (.string ⟨(([] : List UInt8)).toArray⟩), (.string ⟨(([] : List UInt8)).toArray⟩)] 27), (sb b54 #[(vi r46.1.Country), (vi r46.1.Zone), (vi r46.1.Continent)] 65)]) => ?_)
    refine RWP.store (ty := 0) (g := none) (by kernel_rfl) rfl (x := (.tmp 12)) (y := (.tmp 58)) (t := 27) (gg := true) (s := 4) (v := (.agg #[(.string ⟨(r62.1.Area).toArray⟩), (.string ⟨(r62.1.Prefix).toArray⟩), (.string ⟨(r62.1.Suffix).toArray⟩), (.string ⟨(r62.1.Stroke).toArray⟩)])) (b := b70) (o := 0) (C := #[(.string ⟨(([] : List UInt8)).toArray⟩), (.string ⟨(([] : List UInt8)).toArray⟩), (.string ⟨(([] : List UInt8)).toArray⟩), (.string ⟨(([] : List UInt8)).toArray⟩)]) rfl rfl (by kernel_rfl) hs72 (k := 0) rfl rfl rfl rfl (C' := #[(.string ⟨(r62.1.Area).toArray⟩), (.string ⟨(r62.1.Prefix).toArray⟩), (.string ⟨(r62.1.Suffix).toArray⟩), (.string ⟨(r62.1.Stroke).toArray⟩)]) rfl (fun w73 (hs74 : HS w0 F0 w73 F6 [(sb b70 #[(.string ⟨(r62.1.Area).toArray⟩), (.string ⟨(r62.1.Prefix).toArray⟩), (.string ⟨(r62.1.Suffix).toArray⟩), (.string ⟨(r62.1.Stroke).toArray⟩)] 27), (sb b54 #[(vi r46.1.Country), (vi r46.1.Zone), (vi r46.1.Continent)] 65)]) => ?_)
    refine V 13 23 (ma 59 (vi r62.2)) ?_
    refine Nss ?_
    refine Sq (Rg [0, 1, 2, 3, 4, 5, 6, 7, 8, 9] ?_)
    refine RWP.cut (fun f w => ∃ (F7 : Mem), HS w0 F0 w F7 [(sb b70 #[(.string ⟨(r62.1.Area).toArray⟩), (.string ⟨(r62.1.Prefix).toArray⟩), (.string ⟨(r62.1.Suffix).toArray⟩), (.string ⟨(r62.1.Stroke).toArray⟩)] 27), (sb b54 #[(vi r46.1.Country), (vi r46.1.Zone), (vi r46.1.Continent)] 65)] ∧ Mem.le F6 F7 ∧ f.d = [] ∧ f 0 = (.slice a0_0 x0.length n0_0) ∧ f 1 = (.string ⟨(x1).toArray⟩) ∧ f 2 = (vi x2) ∧ f 7 = (.bool r1) ∧ f 8 = (vi r38.1) ∧ f 9 = (vi r38.2) ∧ f 10 = (.pointer (some ⟨b54, 0, none⟩)) ∧ f 12 = (.pointer (some ⟨b70, 0, none⟩)) ∧ f 69 = (.bool ((r62.2 != 0) || ((decide (x2 < 0)) || (decide (x2 > 99999)))))) ?_ ?_
    ·refine V 60 23 (mv 13 (vi r62.2)) ?_
     refine V 61 4 (run_neq (t := 23) (t' := 23) (x := (.tmp 60)) (y := (.const (vi 0))) (k := .i64) (a := r62.2) (b := 0) rfl rfl) ?_
     refine V 62 4 (mv 61 (.bool (r62.2 != 0))) ?_
     refine RWP.split (r62.2 != 0) (fun hb88 => ?_) (fun hb88 => ?_)
     ·refine Sk [63, 64] 2 false 62 hb88 ?_
      refine V 65 4 (p1 62 (.const (.bool true)) (.tmp 64) (.bool true) hb88) ?_
      refine V 66 4 (mv 65 (.bool true)) ?_
      refine Sk [67, 68] 6 false 66 rfl ?_
      refine V 69 4 (p1 66 (.const (.bool true)) (.tmp 68) (.bool true) rfl) ?_
      exact RWP.nil ⟨rfl, F6, hs74, (Mem.le.refl _), e13, e14, e15, e16, e17, rfl, rfl, rfl, rfl, (congrArg Value.bool (or_t hb88 (rfl)))⟩
     ·refine Vg 63 3 2 false 62 hb88 (mv 2 (vi x2) e16) ?_
      refine Vg 64 4 2 false 62 hb88 (run_lss (t := 3) (t' := 3) (x := (.tmp 63)) (y := (.const (vi 0))) (k := .i64) (a := x2) (b := 0) rfl rfl) ?_
      refine V 65 4 (p0 62 (.const (.bool true)) (.tmp 64) (.bool (decide (x2 < 0))) hb88) ?_
      refine V 66 4 (mv 65 (.bool (decide (x2 < 0)))) ?_
      refine RWP.split (decide (x2 < 0)) (fun hb89 => ?_) (fun hb89 => ?_)
      ·refine Sk [67, 68] 6 false 66 hb89 ?_
       refine V 69 4 (p1 66 (.const (.bool true)) (.tmp 68) (.bool true) hb89) ?_
       exact RWP.nil ⟨rfl, F6, hs74, (Mem.le.refl _), e13, e14, e15, e16, e17, rfl, rfl, rfl, rfl, (congrArg Value.bool (or_f hb88 (or_t hb89 (rfl))))⟩
      ·refine Vg 67 3 6 false 66 hb89 (mv 2 (vi x2) e16) ?_
       refine Vg 68 4 6 false 66 hb89 (run_gtr (t := 3) (t' := 3) (x := (.tmp 67)) (y := (.const (vi 99999))) (k := .i64) (a := x2) (b := 99999) rfl rfl) ?_
       refine V 69 4 (p0 66 (.const (.bool true)) (.tmp 68) (.bool (decide (x2 > 99999))) hb89) ?_
       exact RWP.nil ⟨rfl, F6, hs74, (Mem.le.refl _), e13, e14, e15, e16, e17, rfl, rfl, rfl, rfl, (congrArg Value.bool (or_f hb88 (or_f hb89 (rfl))))⟩
    ·rintro f w75 ⟨F7, hs76, le77, e78, e79, e80, e81, e82, e83, e84, e85, e86, e87⟩
     refine thenQ_nrm ?_
     refine CWP.cond (t := ((r62.2 != 0) || ((decide (x2 < 0)) || (decide (x2 > 99999))))) (by kernel_rfl) e87 (fun hb90 => ?_) (fun hb90 => ?_)
     ·have h91 := cond_t h64 hb90
      refine Sq (Rg [0, 1, 2, 3, 4, 5] ?_)
      refine RWP.cut (fun f w => ∃ (F8 : Mem), HS w0 F0 w F8 [] ∧ Mem.le F7 F8 ∧ f.d = [] ∧ f 6 = (.bool (r1 && (r38.2 != 0)))) ?_ ?_
      ·refine V 70 4 (mv 7 (.bool r1) e82) ?_
       refine V 71 4 (mv 70 (.bool r1)) ?_
       refine RWP.split r1 (fun hb97 => ?_) (fun hb97 => ?_)
       ·refine Vg 72 23 1 true 71 hb97 (mv 9 (vi r38.2) e84) ?_
        refine Vg 73 4 1 true 71 hb97 (run_neq (t := 23) (t' := 23) (x := (.tmp 72)) (y := (.const (vi 0))) (k := .i64) (a := r38.2) (b := 0) rfl rfl) ?_
        refine V 74 4 (p1 71 (.tmp 73) (.const (.bool false)) (.bool (r38.2 != 0)) hb97) ?_
        refine V 6 4 (ma 74 (.bool (r38.2 != 0))) ?_
        have hs98 : HS w0 F0 w75 F7 [(sb b54 #[(vi r46.1.Country), (vi r46.1.Zone), (vi r46.1.Continent)] 65)] := hs76.drop 0
        have hs99 : HS w0 F0 w75 F7 [] := hs98.drop 0
        exact RWP.nil ⟨rfl, F7, hs99, (Mem.le.refl _), e78, (congrArg Value.bool (and_t hb97 (rfl)))⟩
       ·refine Sk [72, 73] 1 true 71 hb97 ?_
        refine V 74 4 (p0 71 (.tmp 73) (.const (.bool false)) (.bool false) hb97) ?_
        refine V 6 4 (ma 74 (.bool false)) ?_
        have hs100 : HS w0 F0 w75 F7 [(sb b54 #[(vi r46.1.Country), (vi r46.1.Zone), (vi r46.1.Continent)] 65)] := hs76.drop 0
        have hs101 : HS w0 F0 w75 F7 [] := hs100.drop 0
        exact RWP.nil ⟨rfl, F7, hs101, (Mem.le.refl _), e78, (congrArg Value.bool (and_f hb97 (rfl)))⟩
      ·rintro f w92 ⟨F8, hs93, le94, e95, e96⟩
       refine thenQ_nrm ?_
       refine CWP.ret (by kernel_rfl) ?_
       refine thenQ_ret ?_
       have hfin := some_inj h91
       subst hfin
       exact ⟨e95, (.bool (r1 && (r38.2 != 0))), res_of (l := [.tmp 6]) (by kernel_rfl) (vs := [(.bool (r1 && (r38.2 != 0)))]) ⟨e96, trivial⟩, (.bool (r1 && (r38.2 != 0))), F8, rfl, hs93.clear, rfl⟩
     ·have h102 := cond_f h64 hb90
      refine Sc ?_
      refine thenQ_nrm ?_
      refine Sq (Rg [0, 1, 2] ?_)
      refine V 75 0 (fa 27 12 0 0 1 b70 0 0 e86) ?_
      refine V 76 9 (ld 9 75 b70 0 false 1 (.string ⟨(r62.1.Area).toArray⟩) (hs76.ownAt (k := 0) rfl)) ?_
      refine V 14 9 (ma 76 (.string ⟨(r62.1.Area).toArray⟩)) ?_
      refine Nss ?_
      refine Sq (Rg [0, 1] ?_)
      refine V 77 9 (mv 14 (.string ⟨(r62.1.Area).toArray⟩)) ?_
      refine V 78 4 (run_scmp (t := 9) (t' := 9) (x := (.tmp 77)) (y := (.const (.string ⟨([] : List UInt8).toArray⟩))) (op := .eql) (a := r62.1.Area) (b := ([] : List UInt8)) (v := (r62.1.Area == ([] : List UInt8))) rfl rfl rfl) ?_
      refine Nt ?_
      obtain ⟨j106, hj116, h117⟩ := bind_some h102
      refine CWP.cut (fun f w => ∃ (F9 : Mem), HS w0 F0 w F9 [(sb b54 #[(vi r46.1.Country), (vi r46.1.Zone), (vi r46.1.Continent)] 65)] ∧ Mem.le F7 F9 ∧ f.d = [] ∧ f 0 = (.slice a0_0 x0.length n0_0) ∧ f 1 = (.string ⟨(x1).toArray⟩) ∧ f 2 = (vi x2) ∧ f 7 = (.bool r1) ∧ f 8 = (vi r38.1) ∧ f 9 = (vi r38.2) ∧ f 10 = (.pointer (some ⟨b54, 0, none⟩)) ∧ f 14 = (.string ⟨(j106).toArray⟩)) ?_ ?_
      ·refine CWP.cond (t := (r62.1.Area == ([] : List UInt8))) (by kernel_rfl) rfl (fun hb118 => ?_) (fun hb118 => ?_)
       ·have h119 := cond_t hj116 hb118
        refine Rg [0, 1, 2, 3, 4, 5] ?_
        refine V 79 0 (fa 27 12 1 1 1 b70 0 1 e86) ?_
        refine V 80 9 (ld 9 79 b70 1 false 1 (.string ⟨(r62.1.Prefix).toArray⟩) (hs76.ownAt (k := 0) rfl)) ?_
        refine V 81 0 (fa 27 12 2 2 1 b70 0 2 e86) ?_
        refine V 82 9 (ld 9 81 b70 2 false 1 (.string ⟨(r62.1.Suffix).toArray⟩) (hs76.ownAt (k := 0) rfl)) ?_
        obtain ⟨r120, hr121, h122⟩ := bind_some h119
        refine V 83 9 (run_sadd (t := 9) (t' := 9) (x := (.tmp 80)) (y := (.tmp 82)) (a := r62.1.Prefix) (b := r62.1.Suffix) (v := r120) rfl rfl hr121) ?_
        refine V 14 9 (ma 83 (.string ⟨(r120).toArray⟩)) ?_
        refine RWP.nil ?_
        obtain rfl := some_inj h122
        have hs123 : HS w0 F0 w75 F7 [(sb b54 #[(vi r46.1.Country), (vi r46.1.Zone), (vi r46.1.Continent)] 65)] := hs76.drop 0
        exact .inl ⟨rfl, F7, hs123, (Mem.le.refl _), e78, e79, e80, e81, e82, e83, e84, e85, rfl⟩
       ·have h124 := cond_f hj116 hb118
        refine Sc ?_
        obtain rfl := some_inj h124
        have hs125 : HS w0 F0 w75 F7 [(sb b54 #[(vi r46.1.Country), (vi r46.1.Zone), (vi r46.1.Continent)] 65)] := hs76.drop 0
        exact .inl ⟨rfl, F7, hs125, (Mem.le.refl _), e78, e79, e80, e81, e82, e83, e84, e85, rfl⟩
      ·rintro f w103 ⟨F9, hs104, le105, e107, e108, e109, e110, e111, e112, e113, e114, e115⟩
       refine thenQ_nrm ?_
       refine Sq (Rg [0] ?_)
       refine V 15 61 (mc (.slice none 0 0) (.slice none ([] : List Prefix).length 0)) ?_
       refine Nss (Rg [0] ?_)
       refine V 16 3 (mc (vi (-1)) (vi (-1))) ?_
       refine Nss (Rg [0] ?_)
       refine V 17 4 (mc (.bool false) (.bool false)) ?_
       refine Nss ?_
       refine Sq (Rg [0] ?_)
       refine V 18 3 (mc (vi 0) (vi 0)) ?_
       refine Nt ?_
       have hs126 : HS w0 F0 w103 F9 [(none, .cells #[] 0 (0, 0)), (sb b54 #[(vi r46.1.Country), (vi r46.1.Zone), (vi r46.1.Continent)] 65)] := hs104.dummy _
       obtain ⟨o128, ho129, h130⟩ := bind_some h117
       refine CWP.cut (fun f w => ∃ (s148 : (List Prefix × Int × Bool × Int)) (F11 : Mem) (as148_0 : Option Addr) (ns148_0 : Nat) (es148_0 : Option Nat × Obj), o128 = .done s148 ∧ HS w0 F0 w F11 [es148_0, (sb b54 #[(vi r46.1.Country), (vi r46.1.Zone), (vi r46.1.Continent)] 65)] ∧ Mem.le F9 F11 ∧ f.d = [] ∧ f 0 = (.slice a0_0 x0.length n0_0) ∧ f 1 = (.string ⟨(x1).toArray⟩) ∧ f 2 = (vi x2) ∧ f 7 = (.bool r1) ∧ f 8 = (vi r38.1) ∧ f 9 = (vi r38.2) ∧ f 10 = (.pointer (some ⟨b54, 0, none⟩)) ∧ f 14 = (.string ⟨(j106).toArray⟩) ∧ f 15 = (.slice as148_0 s148.1.length ns148_0) ∧ f 16 = (vi s148.2.1) ∧ f 17 = (.bool s148.2.2.1) ∧ RowR tPrefix 71 F11 as148_0 ns148_0 s148.1 es148_0) ?_ ?_
       ·refine Bk ?_
        refine CWP.loop (by kernel_rfl) (fun m f w => ∃ (s131 : (List Prefix × Int × Bool × Int)) (F10 : Mem) (as131_0 : Option Addr) (ns131_0 : Nat) (es131_0 : Option Nat × Obj), iter (law01_AirRows_L0 N x0 x1 x2 r1 j12 r38 r46 r62 j106) m s131 = some o128 ∧ HS w0 F0 w F10 [es131_0, (sb b54 #[(vi r46.1.Country), (vi r46.1.Zone), (vi r46.1.Continent)] 65)] ∧ Mem.le F9 F10 ∧ f.d = [] ∧ f 0 = (.slice a0_0 x0.length n0_0) ∧ f 1 = (.string ⟨(x1).toArray⟩) ∧ f 2 = (vi x2) ∧ f 7 = (.bool r1) ∧ f 8 = (vi r38.1) ∧ f 9 = (vi r38.2) ∧ f 10 = (.pointer (some ⟨b54, 0, none⟩)) ∧ f 14 = (.string ⟨(j106).toArray⟩) ∧ f 15 = (.slice as131_0 s131.1.length ns131_0) ∧ f 16 = (vi s131.2.1) ∧ f 17 = (.bool s131.2.2.1) ∧ f 18 = (vi s131.2.2.2) ∧ RowR tPrefix 71 F10 as131_0 ns131_0 s131.1 es131_0) N ⟨(([] : List Prefix), (-1), false, 0), F9, none, 0, (none, .cells #[] 0 (0, 0)), ho129, hs126, (Mem.le.refl _), e107, e108, e109, e110, e111, e112, e113, e114, e115, rfl, rfl, rfl, rfl, (RowR.nil tPrefix 71 F9 _)⟩ ?_
        rintro m164 f w132 ⟨s131, F10, as131_0, ns131_0, es131_0, hit165, hs133, le134, e135, e136, e137, e138, e139, e140, e141, e142, e143, e144, e145, e146, e147, hrs131_0⟩
        obtain ⟨m166, fl167, rfl, hb168, hnx169⟩ := iter_step hit165
        refine Sq ?_
        refine Sq (Rg [0, 1, 2, 3] ?_)
        refine V 84 3 (mv 18 (vi s131.2.2.2) e147) ?_
        refine V 85 61 (mv 0 (.slice a0_0 x0.length n0_0) e136) ?_
        refine V 86 3 (ln 85 61 a0_0 x0.length n0_0 71 7 64) ?_
        refine V 87 4 (run_lss (t := 3) (t' := 3) (x := (.tmp 84)) (y := (.tmp 86)) (k := .i64) (a := s131.2.2.2) (b := (x0.length : Int)) rfl rfl) ?_
        refine Nt ?_
        refine CWP.cond (t := (decide (s131.2.2.2 < (x0.length : Int)))) (by kernel_rfl) rfl (fun hb170 => ?_) (fun hb170 => ?_)
        ·have h171 := cond_t hb168 hb170
         refine Sc ?_
         refine thenQ_nrm ?_
         refine Sq ?_
         refine Bk ?_
         refine Sq (Rg [0, 1, 2, 3, 4, 5] ?_)
         refine V 90 61 (mv 0 (.slice a0_0 x0.length n0_0) e136) ?_
         refine V 91 3 (mv 18 (vi s131.2.2.2) e147) ?_
         obtain ⟨x172, hx173, h175⟩ := bind_some h171
         obtain ⟨hi174, hx173'⟩ := idx_spec hx173
         obtain ⟨b176, o177, C178, E179, fz180, rfl, hF182, hE183⟩ := SlA.open (SlA.mono hs0_0 (((((((le7.trans le11).trans le44).trans le52).trans le68).trans le77).trans le105).trans le134)) hx173'
         have hc185 := hE183 _ _ hx173'
         refine V 92 0 (ix 61 90 91 b176 o177 71 7 64 hi174) ?_
         refine V 93 71 (lx 71 92 0 7 true 7 (.agg #[(.string ⟨(x172.Text).toArray⟩), (vi x172.Country), (vi x172.Zone), (vi x172.Continent), (vi x172.From), (vi x172.To), (.bool x172.Whole)]) (hs133.pers _ _ hF182) hc185) ?_
         refine Al 19 0 71 #[(.string ⟨(([] : List UInt8)).toArray⟩), (vi 0), (vi 0), (vi 0), (vi 0), (vi 0), (.bool false)] hs133 (fun b186 w187 (hs188 : HS w0 F0 w187 F10 [(sb b186 #[(.string ⟨(([] : List UInt8)).toArray⟩), (vi 0), (vi 0), (vi 0), (vi 0), (vi 0), (.bool false)] 71), es131_0, (sb b54 #[(vi r46.1.Country), (vi r46.1.Zone), (vi r46.1.Continent)] 65)]) => ?_)
         refine RWP.store (ty := 0) (g := none) (by kernel_rfl) rfl (x := (.tmp 19)) (y := (.tmp 93)) (t := 71) (gg := true) (s := 7) (v := (.agg #[(.string ⟨(x172.Text).toArray⟩), (vi x172.Country), (vi x172.Zone), (vi x172.Continent), (vi x172.From), (vi x172.To), (.bool x172.Whole)])) (b := b186) (o := 0) (C := #[(.string ⟨(([] : List UInt8)).toArray⟩), (vi 0), (vi 0), (vi 0), (vi 0), (vi 0), (.bool false)]) rfl rfl (by kernel_rfl) hs188 (k := 0) rfl rfl rfl rfl (C' := #[(.string ⟨(x172.Text).toArray⟩), (vi x172.Country), (vi x172.Zone), (vi x172.Continent), (vi x172.From), (vi x172.To), (.bool x172.Whole)]) rfl (fun w189 (hs190 : HS w0 F0 w189 F10 [(sb b186 #[(.string ⟨(x172.Text).toArray⟩), (vi x172.Country), (vi x172.Zone), (vi x172.Continent), (vi x172.From), (vi x172.To), (.bool x172.Whole)] 71), es131_0, (sb b54 #[(vi r46.1.Country), (vi r46.1.Zone), (vi r46.1.Continent)] 65)]) => ?_)
         refine Nss ?_
         refine Sq (Rg [0, 1, 2, 3, 4, 5, 6, 7, 8, 9, 10, 11, 12, 13, 14, 15, 16, 17, 18, 19, 20, 21, 22, 23, 24, 25, 26, 27, 28, 29, 30, 31] ?_)
         obtain ⟨j194, hj210, h211⟩ := bind_some h175
         refine RWP.cut (fun f w => ∃ (F12 : Mem), HS w0 F0 w F12 [(sb b186 #[(.string ⟨(x172.Text).toArray⟩), (vi x172.Country), (vi x172.Zone), (vi x172.Continent), (vi x172.From), (vi x172.To), (.bool x172.Whole)] 71), es131_0, (sb b54 #[(vi r46.1.Country), (vi r46.1.Zone), (vi r46.1.Continent)] 65)] ∧ Mem.le F10 F12 ∧ f.d = [] ∧ f 0 = (.slice (some ⟨b176, o177, none⟩) x0.length n0_0) ∧ f 1 = (.string ⟨(x1).toArray⟩) ∧ f 2 = (vi x2) ∧ f 7 = (.bool r1) ∧ f 8 = (vi r38.1) ∧ f 9 = (vi r38.2) ∧ f 10 = (.pointer (some ⟨b54, 0, none⟩)) ∧ f 14 = (.string ⟨(j106).toArray⟩) ∧ f 15 = (.slice as131_0 s131.1.length ns131_0) ∧ f 16 = (vi s131.2.1) ∧ f 17 = (.bool s131.2.2.1) ∧ f 18 = (vi s131.2.2.2) ∧ f 19 = (.pointer (some ⟨b186, 0, none⟩)) ∧ f 125 = (.bool j194)) ?_ ?_
         ·refine V 94 0 (fa 71 19 4 4 1 b186 0 4) ?_
          refine V 95 3 (ld 3 94 b186 4 false 1 (vi x172.From) (hs190.ownAt (k := 0) rfl)) ?_
          refine V 96 3 (mv 2 (vi x2) e138) ?_
          refine V 97 4 (run_gtr (t := 3) (t' := 3) (x := (.tmp 95)) (y := (.tmp 96)) (k := .i64) (a := x172.From) (b := x2) rfl rfl) ?_
          refine V 98 4 (mv 97 (.bool (decide (x172.From > x2)))) ?_
          refine RWP.split (decide (x172.From > x2)) (fun hb212 => ?_) (fun hb212 => ?_)
          ·have h213 := cond_t hj210 hb212
           refine Sk [99, 100, 101, 102] 4 false 98 hb212 ?_
           refine V 103 4 (p1 98 (.const (.bool true)) (.tmp 102) (.bool true) hb212) ?_
           refine V 104 4 (mv 103 (.bool true)) ?_
           refine Sk [105, 106, 107] 10 false 104 rfl ?_
           refine Su [108, 109, 110, 111] 13 true 107 ?_
           refine Sk [112] 10 false 104 rfl ?_
           refine V 113 4 (p1 104 (.const (.bool true)) (.tmp 112) (.bool true) rfl) ?_
           refine V 114 4 (mv 113 (.bool true)) ?_
           refine Sk [115, 116, 117, 118] 20 false 114 rfl ?_
           refine Su [119, 120, 121, 122, 123] 24 true 118 ?_
           refine Sk [124] 20 false 114 rfl ?_
           refine V 125 4 (p1 114 (.const (.bool true)) (.tmp 124) (.bool true) rfl) ?_
           obtain rfl := some_inj h213
           exact RWP.nil ⟨rfl, F10, hs190, (Mem.le.refl _), e135, e136, e137, e138, e139, e140, e141, e142, e143, e144, e145, e146, e147, rfl, rfl⟩
          ·have h214 := cond_f hj210 hb212
           refine Vg 99 0 4 false 98 hb212 (fa 71 19 5 5 1 b186 0 5) ?_
           refine Vg 100 3 4 false 98 hb212 (ld 3 99 b186 5 false 1 (vi x172.To) (hs190.ownAt (k := 0) rfl)) ?_
           refine Vg 101 3 4 false 98 hb212 (mv 2 (vi x2) e138) ?_
           refine Vg 102 4 4 false 98 hb212 (run_lss (t := 3) (t' := 3) (x := (.tmp 100)) (y := (.tmp 101)) (k := .i64) (a := x172.To) (b := x2) rfl rfl) ?_
           refine V 103 4 (p0 98 (.const (.bool true)) (.tmp 102) (.bool (decide (x172.To < x2))) hb212) ?_
           refine V 104 4 (mv 103 (.bool (decide (x172.To < x2)))) ?_
           refine RWP.split (decide (x172.To < x2)) (fun hb215 => ?_) (fun hb215 => ?_)
           ·have h216 := cond_t h214 hb215
            refine Sk [105, 106, 107] 10 false 104 hb215 ?_
            refine Su [108, 109, 110, 111] 13 true 107 ?_
            refine Sk [112] 10 false 104 hb215 ?_
            refine V 113 4 (p1 104 (.const (.bool true)) (.tmp 112) (.bool true) hb215) ?_
            refine V 114 4 (mv 113 (.bool true)) ?_
            refine Sk [115, 116, 117, 118] 20 false 114 rfl ?_
            refine Su [119, 120, 121, 122, 123] 24 true 118 ?_
            refine Sk [124] 20 false 114 rfl ?_
            refine V 125 4 (p1 114 (.const (.bool true)) (.tmp 124) (.bool true) rfl) ?_
            obtain rfl := some_inj h216
            exact RWP.nil ⟨rfl, F10, hs190, (Mem.le.refl _), e135, e136, e137, e138, e139, e140, e141, e142, e143, e144, e145, e146, e147, rfl, rfl⟩
           ·have h217 := cond_f h214 hb215
            refine Vg 105 0 10 false 104 hb215 (fa 71 19 6 6 1 b186 0 6) ?_
            refine Vg 106 4 10 false 104 hb215 (ld 4 105 b186 6 false 1 (.bool x172.Whole) (hs190.ownAt (k := 0) rfl)) ?_
            refine Vg 107 4 10 false 104 hb215 (mv 106 (.bool x172.Whole)) ?_
            refine RWP.split x172.Whole (fun hb218 => ?_) (fun hb218 => ?_)
            ·have h219 := cond_t h217 hb218
             refine Vg 108 0 13 true 107 hb218 (fa 71 19 0 0 1 b186 0 0) ?_
             refine Vg 109 9 13 true 107 hb218 (ld 9 108 b186 0 false 1 (.string ⟨(x172.Text).toArray⟩) (hs190.ownAt (k := 0) rfl)) ?_
             refine Vg 110 9 13 true 107 hb218 (mv 1 (.string ⟨(x1).toArray⟩) e137) ?_
             refine Vg 111 4 13 true 107 hb218 (run_scmp (t := 9) (t' := 9) (x := (.tmp 109)) (y := (.tmp 110)) (op := .neq) (a := x172.Text) (b := x1) (v := (x172.Text != x1)) rfl rfl rfl) ?_
             refine Vg 112 4 10 false 104 hb215 (p1 107 (.tmp 111) (.const (.bool false)) (.bool (x172.Text != x1)) hb218) ?_
             refine V 113 4 (p0 104 (.const (.bool true)) (.tmp 112) (.bool (x172.Text != x1)) hb215) ?_
             refine V 114 4 (mv 113 (.bool (x172.Text != x1))) ?_
             refine RWP.split (x172.Text != x1) (fun hb220 => ?_) (fun hb220 => ?_)
             ·have h221 := cond_t h219 hb220
              refine Sk [115, 116, 117, 118] 20 false 114 hb220 ?_
              refine Su [119, 120, 121, 122, 123] 24 true 118 ?_
              refine Sk [124] 20 false 114 hb220 ?_
              refine V 125 4 (p1 114 (.const (.bool true)) (.tmp 124) (.bool true) hb220) ?_
              obtain rfl := some_inj h221
              exact RWP.nil ⟨rfl, F10, hs190, (Mem.le.refl _), e135, e136, e137, e138, e139, e140, e141, e142, e143, e144, e145, e146, e147, rfl, rfl⟩
             ·have h222 := cond_f h219 hb220
              refine Vg 115 0 20 false 114 hb220 (fa 71 19 6 6 1 b186 0 6) ?_
              refine Vg 116 4 20 false 114 hb220 (ld 4 115 b186 6 false 1 (.bool x172.Whole) (hs190.ownAt (k := 0) rfl)) ?_
              refine Vg 117 4 20 false 114 hb220 (run_not (t := 4) (x := (.tmp 116)) (a := x172.Whole) rfl) ?_
              refine Vg 118 4 20 false 114 hb220 (mv 117 (.bool (!x172.Whole))) ?_
              refine RWP.split (!x172.Whole) (fun hb223 => ?_) (fun hb223 => ?_)
              ·have h224 := cond_t h222 hb223
               refine Vg 119 9 24 true 118 hb223 (mv 14 (.string ⟨(j106).toArray⟩) e143) ?_
               refine Vg 120 0 24 true 118 hb223 (fa 71 19 0 0 1 b186 0 0) ?_
               refine Vg 121 9 24 true 118 hb223 (ld 9 120 b186 0 false 1 (.string ⟨(x172.Text).toArray⟩) (hs190.ownAt (k := 0) rfl)) ?_
               obtain ⟨r225, hr226, h227⟩ := bind_some h224
               refine RWP.call (dst := (some 122)) (ty := 4) (g := (some (24, true))) (by kernel_rfl) (gd_y (d := 118) (by kernel_rfl) rfl hb223) (f0 := (.func 58)) (aos := #[(.tmp 119), (.tmp 121)]) (ats := #[9, 9]) (fid := 58) (first := #[]) (cap := #[]) (args := [(.string ⟨(j106).toArray⟩), (.string ⟨(x172.Text).toArray⟩)]) rfl co_law01_begins (rfl) hs190 (c_law01_begins N w189 F10 hs190.pers (j106) (x172.Text) _ hr226) ?_
               intro v228 F13 w229 hs230 le231 hp232
               obtain rfl := hp232
               refine Vg 123 4 24 true 118 hb223 (run_not (t := 4) (x := (.tmp 122)) (a := r225) rfl) ?_
               refine Vg 124 4 20 false 114 hb220 (p1 118 (.tmp 123) (.const (.bool false)) (.bool (!r225)) hb223) ?_
               refine V 125 4 (p0 114 (.const (.bool true)) (.tmp 124) (.bool (!r225)) hb220) ?_
               obtain rfl := some_inj h227
               exact RWP.nil ⟨rfl, F13, hs230, le231, e135, e136, e137, e138, e139, e140, e141, e142, e143, e144, e145, e146, e147, rfl, rfl⟩
              ·have h233 := cond_f h222 hb223
               refine Sk [119, 120, 121, 122, 123] 24 true 118 hb223 ?_
               refine Vg 124 4 20 false 114 hb220 (p0 118 (.tmp 123) (.const (.bool false)) (.bool false) hb223) ?_
               refine V 125 4 (p0 114 (.const (.bool true)) (.tmp 124) (.bool false) hb220) ?_
               obtain rfl := some_inj h233
               exact RWP.nil ⟨rfl, F10, hs190, (Mem.le.refl _), e135, e136, e137, e138, e139, e140, e141, e142, e143, e144, e145, e146, e147, rfl, rfl⟩
            ·have h234 := cond_f h217 hb218
             refine Sk [108, 109, 110, 111] 13 true 107 hb218 ?_
             refine Vg 112 4 10 false 104 hb215 (p0 107 (.tmp 111) (.const (.bool false)) (.bool false) hb218) ?_
             refine V 113 4 (p0 104 (.const (.bool true)) (.tmp 112) (.bool false) hb215) ?_
             refine V 114 4 (mv 113 (.bool false)) ?_
             refine Vg 115 0 20 false 114 rfl (fa 71 19 6 6 1 b186 0 6) ?_
             refine Vg 116 4 20 false 114 rfl (ld 4 115 b186 6 false 1 (.bool x172.Whole) (hs190.ownAt (k := 0) rfl)) ?_
             refine Vg 117 4 20 false 114 rfl (run_not (t := 4) (x := (.tmp 116)) (a := x172.Whole) rfl) ?_
             refine Vg 118 4 20 false 114 rfl (mv 117 (.bool (!x172.Whole))) ?_
             refine RWP.split (!x172.Whole) (fun hb235 => ?_) (fun hb235 => ?_)
             ·have h236 := cond_t h234 hb235
              refine Vg 119 9 24 true 118 hb235 (mv 14 (.string ⟨(j106).toArray⟩) e143) ?_
              refine Vg 120 0 24 true 118 hb235 (fa 71 19 0 0 1 b186 0 0) ?_
              refine Vg 121 9 24 true 118 hb235 (ld 9 120 b186 0 false 1 (.string ⟨(x172.Text).toArray⟩) (hs190.ownAt (k := 0) rfl)) ?_
              obtain ⟨r237, hr238, h239⟩ := bind_some h236
              refine RWP.call (dst := (some 122)) (ty := 4) (g := (some (24, true))) (by kernel_rfl) (gd_y (d := 118) (by kernel_rfl) rfl hb235) (f0 := (.func 58)) (aos := #[(.tmp 119), (.tmp 121)]) (ats := #[9, 9]) (fid := 58) (first := #[]) (cap := #[]) (args := [(.string ⟨(j106).toArray⟩), (.string ⟨(x172.Text).toArray⟩)]) rfl co_law01_begins (rfl) hs190 (c_law01_begins N w189 F10 hs190.pers (j106) (x172.Text) _ hr238) ?_
              intro v240 F14 w241 hs242 le243 hp244
              obtain rfl := hp244
              refine Vg 123 4 24 true 118 hb235 (run_not (t := 4) (x := (.tmp 122)) (a := r237) rfl) ?_
              refine Vg 124 4 20 false 114 rfl (p1 118 (.tmp 123) (.const (.bool false)) (.bool (!r237)) hb235) ?_
              refine V 125 4 (p0 114 (.const (.bool true)) (.tmp 124) (.bool (!r237)) rfl) ?_
              obtain rfl := some_inj h239
              exact RWP.nil ⟨rfl, F14, hs242, le243, e135, e136, e137, e138, e139, e140, e141, e142, e143, e144, e145, e146, e147, rfl, rfl⟩
             ·have h245 := cond_f h234 hb235
              refine Sk [119, 120, 121, 122, 123] 24 true 118 hb235 ?_
              refine Vg 124 4 20 false 114 rfl (p0 118 (.tmp 123) (.const (.bool false)) (.bool false) hb235) ?_
              refine V 125 4 (p0 114 (.const (.bool true)) (.tmp 124) (.bool false) rfl) ?_
              obtain rfl := some_inj h245
              exact RWP.nil ⟨rfl, F10, hs190, (Mem.le.refl _), e135, e136, e137, e138, e139, e140, e141, e142, e143, e144, e145, e146, e147, rfl, rfl⟩
         ·rintro f w191 ⟨F12, hs192, le193, e195, e196, e197, e198, e199, e200, e201, e202, e203, e204, e205, e206, e207, e208, e209⟩
          refine thenQ_nrm ?_
          refine CWP.cond (t := j194) (by kernel_rfl) e209 (fun hb246 => ?_) (fun hb246 => ?_)
          ·have h247 := cond_t h211 hb246
           refine CWP.exit (by kernel_rfl) ?_
           refine thenQ_ex ?_
           refine blockQ_hit rfl ?_
           refine thenQ_nrm ?_
           refine Rg [0, 1, 2] ?_
           refine V 88 3 (mv 18 (vi s131.2.2.2) e207) ?_
           refine V 89 3 (run_add (t := 3) (t' := 3) (x := (.tmp 88)) (y := (.const (vi 1))) (k := .i64) (a := s131.2.2.2) (b := 1) rfl rfl) ?_
           refine V 18 3 (ma 89 (vi (W64 (s131.2.2.2 + 1)))) ?_
           refine RWP.nil ?_
           have hs248 : HS w0 F0 w191 F12 [es131_0, (sb b54 #[(vi r46.1.Country), (vi r46.1.Zone), (vi r46.1.Continent)] 65)] := hs192.drop 0
           have hn249 := iter_next h247 hnx169
           exact ⟨m166, Nat.lt_succ_self _, (s131.1, s131.2.1, s131.2.2.1, (W64 (s131.2.2.2 + 1))), F12, as131_0, ns131_0, es131_0, hn249, hs248, (le134.trans le193), e195, e196, e197, e198, e199, e200, e201, e202, e203, e204, e205, e206, rfl, (hrs131_0.mono le193)⟩
          ·have h250 := cond_f h211 hb246
           refine Sc ?_
           refine thenQ_nrm ?_
           refine Sq (Rg [0, 1, 2, 3, 4] ?_)
           refine V 126 61 (mv 15 (.slice as131_0 s131.1.length ns131_0) e204) ?_
           refine V 127 71 (ld 71 19 b186 0 true 7 (.agg #[(.string ⟨(x172.Text).toArray⟩), (vi x172.Country), (vi x172.Zone), (vi x172.Continent), (vi x172.From), (vi x172.To), (.bool x172.Whole)]) (hs192.ownAt (k := 0) rfl) e208) ?_
           refine RWP.buildSlice (dst := (some 128)) (ty := 61) (g := none) (by kernel_rfl) rfl (t := 61) (len := 1) (parts := #[(0, (.tmp 127))]) (vs := [(0, (.agg #[(.string ⟨(x172.Text).toArray⟩), (vi x172.Country), (vi x172.Zone), (vi x172.Continent), (vi x172.From), (vi x172.To), (.bool x172.Whole)]))]) (rfl) (E := 71) (cs := [(.string ⟨(x172.Text).toArray⟩), (vi x172.Country), (vi x172.Zone), (vi x172.Continent), (vi x172.From), (vi x172.To), (.bool x172.Whole)]) (by kernel_rfl) hs192 (fun b251 w252 (hs253 : HS w0 F0 w252 F12 [(some b251, .cells ([(.string ⟨(x172.Text).toArray⟩), (vi x172.Country), (vi x172.Zone), (vi x172.Continent), (vi x172.From), (vi x172.To), (.bool x172.Whole)] : List Value).toArray 71 (0, 0)), (sb b186 #[(.string ⟨(x172.Text).toArray⟩), (vi x172.Country), (vi x172.Zone), (vi x172.Continent), (vi x172.From), (vi x172.To), (.bool x172.Whole)] 71), es131_0, (sb b54 #[(vi r46.1.Country), (vi r46.1.Zone), (vi r46.1.Continent)] 65)]) => ?_)
           have hr255 : RowR tPrefix 71 F12 (some ⟨b251, 0, none⟩) 1 [x172] (some b251, .cells ([(.string ⟨(x172.Text).toArray⟩), (vi x172.Country), (vi x172.Zone), (vi x172.Continent), (vi x172.From), (vi x172.To), (.bool x172.Whole)] : List Value).toArray 71 (0, 0)) := RowR.lit ⟨rfl, rfl⟩ (by simp)
           obtain ⟨r256, hap257, h258⟩ := bind_some h250
           refine RWP.append (dst := (some 129)) (ty := 61) (g := none) (by kernel_rfl) rfl (x := (.tmp 126)) (y := (.tmp 128)) (t := 61) (t2 := 61) (by_ := 64) (z := (.agg #[(.string ⟨(([] : List UInt8)).toArray⟩), (vi 0), (vi 0), (vi 0), (vi 0), (vi 0), (.bool false)])) (a2 := (some ⟨b251, 0, none⟩)) (c2 := 1) (m := [x172]) (T := tPrefix) (E := 71) (a := as131_0) (cap := ns131_0) (l := s131.1) rfl rfl (by kernel_rfl) (by decide) (by kernel_rfl) (by kernel_rfl) rfl oPrefix hs253 (k := 2) rfl (hrs131_0.mono le193) (RowR.rd hs253 (k := 0) rfl hr255) (r := r256) hap257 (fun a259 n260 e261 w262 (hs263 : HS w0 F0 w262 F12 [(some b251, .cells ([(.string ⟨(x172.Text).toArray⟩), (vi x172.Country), (vi x172.Zone), (vi x172.Continent), (vi x172.From), (vi x172.To), (.bool x172.Whole)] : List Value).toArray 71 (0, 0)), (sb b186 #[(.string ⟨(x172.Text).toArray⟩), (vi x172.Country), (vi x172.Zone), (vi x172.Continent), (vi x172.From), (vi x172.To), (.bool x172.Whole)] 71), e261, (sb b54 #[(vi r46.1.Country), (vi r46.1.Zone), (vi r46.1.Continent)] 65)]) hr264 => ?_)
           refine V 15 61 (ma 129 (.slice a259 r256.length n260)) ?_
           refine Nss (Rg [0, 1, 2, 3, 4, 5] ?_)
           refine RWP.cut (fun f w => ∃ (F15 : Mem), HS w0 F0 w F15 [(sb b186 #[(.string ⟨(x172.Text).toArray⟩), (vi x172.Country), (vi x172.Zone), (vi x172.Continent), (vi x172.From), (vi x172.To), (.bool x172.Whole)] 71), e261, (sb b54 #[(vi r46.1.Country), (vi r46.1.Zone), (vi r46.1.Continent)] 65)] ∧ Mem.le F12 F15 ∧ f.d = [] ∧ f 0 = (.slice (some ⟨b176, o177, none⟩) x0.length n0_0) ∧ f 1 = (.string ⟨(x1).toArray⟩) ∧ f 2 = (vi x2) ∧ f 7 = (.bool r1) ∧ f 8 = (vi r38.1) ∧ f 9 = (vi r38.2) ∧ f 10 = (.pointer (some ⟨b54, 0, none⟩)) ∧ f 14 = (.string ⟨(j106).toArray⟩) ∧ f 15 = (.slice a259 r256.length n260) ∧ f 16 = (vi s131.2.1) ∧ f 17 = (.bool (s131.2.2.1 || x172.Whole)) ∧ f 18 = (vi s131.2.2.2) ∧ f 19 = (.pointer (some ⟨b186, 0, none⟩))) ?_ ?_
           ·refine V 130 4 (mv 17 (.bool s131.2.2.1) e206) ?_
            refine V 131 4 (mv 130 (.bool s131.2.2.1)) ?_
            refine RWP.split s131.2.2.1 (fun hb282 => ?_) (fun hb282 => ?_)
            ·refine Sk [132, 133] 1 false 131 hb282 ?_
             refine V 134 4 (p1 131 (.const (.bool true)) (.tmp 133) (.bool true) hb282) ?_
             refine V 17 4 (ma 134 (.bool true)) ?_
             have hs283 : HS w0 F0 w262 F12 [(sb b186 #[(.string ⟨(x172.Text).toArray⟩), (vi x172.Country), (vi x172.Zone), (vi x172.Continent), (vi x172.From), (vi x172.To), (.bool x172.Whole)] 71), e261, (sb b54 #[(vi r46.1.Country), (vi r46.1.Zone), (vi r46.1.Continent)] 65)] := hs263.drop 0
             exact RWP.nil ⟨rfl, F12, hs283, (Mem.le.refl _), e195, e196, e197, e198, e199, e200, e201, e202, e203, rfl, e205, (congrArg Value.bool (or_t hb282 (rfl))), e207, e208⟩
            ·refine Vg 132 0 1 false 131 hb282 (fa 71 19 6 6 1 b186 0 6 e208) ?_
             refine Vg 133 4 1 false 131 hb282 (ld 4 132 b186 6 false 1 (.bool x172.Whole) (hs263.ownAt (k := 1) rfl)) ?_
             refine V 134 4 (p0 131 (.const (.bool true)) (.tmp 133) (.bool x172.Whole) hb282) ?_
             refine V 17 4 (ma 134 (.bool x172.Whole)) ?_
             have hs284 : HS w0 F0 w262 F12 [(sb b186 #[(.string ⟨(x172.Text).toArray⟩), (vi x172.Country), (vi x172.Zone), (vi x172.Continent), (vi x172.From), (vi x172.To), (.bool x172.Whole)] 71), e261, (sb b54 #[(vi r46.1.Country), (vi r46.1.Zone), (vi r46.1.Continent)] 65)] := hs263.drop 0
             exact RWP.nil ⟨rfl, F12, hs284, (Mem.le.refl _), e195, e196, e197, e198, e199, e200, e201, e202, e203, rfl, e205, (congrArg Value.bool (or_f hb282 (rfl))), e207, e208⟩
           ·rintro f w265 ⟨F15, hs266, le267, e268, e269, e270, e271, e272, e273, e274, e275, e276, e277, e278, e279, e280, e281⟩
            refine thenQ_nrm ?_
            refine Sq (Rg [0, 1, 2] ?_)
            refine V 135 0 (fa 71 19 6 6 1 b186 0 6 e281) ?_
            refine V 136 4 (ld 4 135 b186 6 false 1 (.bool x172.Whole) (hs266.ownAt (k := 0) rfl)) ?_
            refine V 137 4 (run_not (t := 4) (x := (.tmp 136)) (a := x172.Whole) rfl) ?_
            refine Nt ?_
            refine CWP.cut (fun f w => ∃ (F16 : Mem), HS w0 F0 w F16 [e261, (sb b54 #[(vi r46.1.Country), (vi r46.1.Zone), (vi r46.1.Continent)] 65)] ∧ Mem.le F15 F16 ∧ f.d = [] ∧ f 0 = (.slice (some ⟨b176, o177, none⟩) x0.length n0_0) ∧ f 1 = (.string ⟨(x1).toArray⟩) ∧ f 2 = (vi x2) ∧ f 7 = (.bool r1) ∧ f 8 = (vi r38.1) ∧ f 9 = (vi r38.2) ∧ f 10 = (.pointer (some ⟨b54, 0, none⟩)) ∧ f 14 = (.string ⟨(j106).toArray⟩) ∧ f 15 = (.slice a259 r256.length n260) ∧ f 16 = (vi (bif (!x172.Whole) then (max s131.2.1 (x172.Text.length : Int)) else s131.2.1)) ∧ f 17 = (.bool (s131.2.2.1 || x172.Whole)) ∧ f 18 = (vi s131.2.2.2)) ?_ ?_
            ·refine CWP.cond (t := (!x172.Whole)) (by kernel_rfl) rfl (fun hb301 => ?_) (fun hb301 => ?_)
             ·refine Rg [0, 1, 2, 3, 4, 5] ?_
              refine V 138 3 (mv 16 (vi s131.2.1) e278) ?_
              refine V 139 0 (fa 71 19 0 0 1 b186 0 0 e281) ?_
              refine V 140 9 (ld 9 139 b186 0 false 1 (.string ⟨(x172.Text).toArray⟩) (hs266.ownAt (k := 0) rfl)) ?_
              refine V 141 3 (run_slen (x := (.tmp 140)) (ats := #[9]) (t := 9) (a := x172.Text) rfl rfl (by kernel_rfl)) ?_
              refine V 142 3 (run_max2 (x := (.tmp 138)) (y := (.tmp 141)) (ats := #[3, 3]) (a := s131.2.1) (b := (x172.Text.length : Int)) rfl rfl) ?_
              refine V 16 3 (ma 142 (vi (max s131.2.1 (x172.Text.length : Int)))) ?_
              refine RWP.nil ?_
              have hs302 : HS w0 F0 w265 F15 [e261, (sb b54 #[(vi r46.1.Country), (vi r46.1.Zone), (vi r46.1.Continent)] 65)] := hs266.drop 0
              exact .inl ⟨rfl, F15, hs302, (Mem.le.refl _), e268, e269, e270, e271, e272, e273, e274, e275, e276, e277, (congrArg (Value.int .i64) (bif_t hb301 (rfl))), e279, e280⟩
             ·refine Sc ?_
              have hs303 : HS w0 F0 w265 F15 [e261, (sb b54 #[(vi r46.1.Country), (vi r46.1.Zone), (vi r46.1.Continent)] 65)] := hs266.drop 0
              exact .inl ⟨rfl, F15, hs303, (Mem.le.refl _), e268, e269, e270, e271, e272, e273, e274, e275, e276, e277, (e278.trans (congrArg (Value.int .i64) (bif_f hb301 (rfl)))), e279, e280⟩
            ·rintro f w285 ⟨F16, hs286, le287, e288, e289, e290, e291, e292, e293, e294, e295, e296, e297, e298, e299, e300⟩
             refine blockQ_nrm ?_
             refine thenQ_nrm ?_
             refine Rg [0, 1, 2] ?_
             refine V 88 3 (mv 18 (vi s131.2.2.2) e300) ?_
             refine V 89 3 (run_add (t := 3) (t' := 3) (x := (.tmp 88)) (y := (.const (vi 1))) (k := .i64) (a := s131.2.2.2) (b := 1) rfl rfl) ?_
             refine V 18 3 (ma 89 (vi (W64 (s131.2.2.2 + 1)))) ?_
             refine RWP.nil ?_
             have hn304 := iter_next h258 hnx169
             exact ⟨m166, Nat.lt_succ_self _, (r256, (bif (!x172.Whole) then (max s131.2.1 (x172.Text.length : Int)) else s131.2.1), (s131.2.2.1 || x172.Whole), (W64 (s131.2.2.2 + 1))), F16, a259, n260, e261, hn304, hs286, (((le134.trans le193).trans le267).trans le287), e288, e289, e290, e291, e292, e293, e294, e295, e296, e297, e298, e299, rfl, (hr264.mono (le267.trans le287))⟩
        ·have h305 := cond_f hb168 hb170
         refine CWP.exit (by kernel_rfl) ?_
         refine thenQ_ex ?_
         refine thenQ_ex ?_
         refine blockQ_hit rfl ?_
         have ho306 := iter_done h305 hnx169
         exact .inl ⟨rfl, (s131.1, s131.2.1, s131.2.2.1, s131.2.2.2), F10, as131_0, ns131_0, es131_0, ho306, hs133, le134, e135, e136, e137, e138, e139, e140, e141, e142, e143, e144, e145, e146, hrs131_0⟩
       ·rintro f w149 ⟨s148, F11, as148_0, ns148_0, es148_0, rfl, hs150, le151, e152, e153, e154, e155, e156, e157, e158, e159, e160, e161, e162, e163, hrs148_0⟩
        have h307 := k_done h130
        refine thenQ_nrm ?_
        refine Sq ?_
        refine Sq (Rg [0, 1, 2] ?_)
        refine V 143 61 (mv 15 (.slice as148_0 s148.1.length ns148_0) e161) ?_
        refine V 144 3 (ln 143 61 as148_0 s148.1.length ns148_0 71 7 64) ?_
        refine V 145 4 (run_eql (t := 3) (t' := 3) (x := (.tmp 144)) (y := (.const (vi 0))) (k := .i64) (a := (s148.1.length : Int)) (b := 0) rfl rfl) ?_
        refine Nt ?_
        refine CWP.cond (t := ((s148.1.length : Int) == 0)) (by kernel_rfl) rfl (fun hb308 => ?_) (fun hb308 => ?_)
        ·have h309 := cond_t h307 hb308
         refine Sq (Rg [0, 1, 2, 3, 4, 5] ?_)
         refine RWP.cut (fun f w => ∃ (F17 : Mem), HS w0 F0 w F17 [] ∧ Mem.le F11 F17 ∧ f.d = [] ∧ f 6 = (.bool (r1 && (r38.2 == 3)))) ?_ ?_
         ·refine V 146 4 (mv 7 (.bool r1) e156) ?_
          refine V 147 4 (mv 146 (.bool r1)) ?_
          refine RWP.split r1 (fun hb315 => ?_) (fun hb315 => ?_)
          ·refine Vg 148 23 1 true 147 hb315 (mv 9 (vi r38.2) e158) ?_
           refine Vg 149 4 1 true 147 hb315 (run_eql (t := 23) (t' := 23) (x := (.tmp 148)) (y := (.const (vi 3))) (k := .i64) (a := r38.2) (b := 3) rfl rfl) ?_
           refine V 150 4 (p1 147 (.tmp 149) (.const (.bool false)) (.bool (r38.2 == 3)) hb315) ?_
           refine V 6 4 (ma 150 (.bool (r38.2 == 3))) ?_
           have hs316 : HS w0 F0 w149 F11 [(sb b54 #[(vi r46.1.Country), (vi r46.1.Zone), (vi r46.1.Continent)] 65)] := hs150.drop 0
           have hs317 : HS w0 F0 w149 F11 [] := hs316.drop 0
           exact RWP.nil ⟨rfl, F11, hs317, (Mem.le.refl _), e152, (congrArg Value.bool (and_t hb315 (rfl)))⟩
          ·refine Sk [148, 149] 1 true 147 hb315 ?_
           refine V 150 4 (p0 147 (.tmp 149) (.const (.bool false)) (.bool false) hb315) ?_
           refine V 6 4 (ma 150 (.bool false)) ?_
           have hs318 : HS w0 F0 w149 F11 [(sb b54 #[(vi r46.1.Country), (vi r46.1.Zone), (vi r46.1.Continent)] 65)] := hs150.drop 0
           have hs319 : HS w0 F0 w149 F11 [] := hs318.drop 0
           exact RWP.nil ⟨rfl, F11, hs319, (Mem.le.refl _), e152, (congrArg Value.bool (and_f hb315 (rfl)))⟩
         ·rintro f w310 ⟨F17, hs311, le312, e313, e314⟩
          refine thenQ_nrm ?_
          refine CWP.ret (by kernel_rfl) ?_
          refine thenQ_ret ?_
          have hfin := some_inj h309
          subst hfin
          exact ⟨e313, (.bool (r1 && (r38.2 == 3))), res_of (l := [.tmp 6]) (by kernel_rfl) (vs := [(.bool (r1 && (r38.2 == 3)))]) ⟨e314, trivial⟩, (.bool (r1 && (r38.2 == 3))), F17, rfl, hs311.clear, rfl⟩
        ·have h320 := cond_f h307 hb308
         refine Sc ?_
         refine thenQ_nrm ?_
         refine Sq ?_
         refine Sq (Rg [0, 1, 2, 3, 4, 5, 6, 7, 8, 9, 10, 11] ?_)
         refine RWP.cut (fun f w => ∃ (F18 : Mem), HS w0 F0 w F18 [es148_0, (sb b54 #[(vi r46.1.Country), (vi r46.1.Zone), (vi r46.1.Continent)] 65)] ∧ Mem.le F11 F18 ∧ f.d = [] ∧ f 0 = (.slice a0_0 x0.length n0_0) ∧ f 1 = (.string ⟨(x1).toArray⟩) ∧ f 2 = (vi x2) ∧ f 7 = (.bool r1) ∧ f 8 = (vi r38.1) ∧ f 10 = (.pointer (some ⟨b54, 0, none⟩)) ∧ f 14 = (.string ⟨(j106).toArray⟩) ∧ f 15 = (.slice as148_0 s148.1.length ns148_0) ∧ f 16 = (vi s148.2.1) ∧ f 17 = (.bool s148.2.2.1) ∧ f 162 = (.bool ((r38.2 != 0) || ((decide (r38.1 < 0)) || (decide (r38.1 ≥ (x0.length : Int))))))) ?_ ?_
         ·refine V 151 23 (mv 9 (vi r38.2) e158) ?_
          refine V 152 4 (run_neq (t := 23) (t' := 23) (x := (.tmp 151)) (y := (.const (vi 0))) (k := .i64) (a := r38.2) (b := 0) rfl rfl) ?_
          refine V 153 4 (mv 152 (.bool (r38.2 != 0))) ?_
          refine RWP.split (r38.2 != 0) (fun hb336 => ?_) (fun hb336 => ?_)
          ·refine Sk [154, 155] 2 false 153 hb336 ?_
           refine V 156 4 (p1 153 (.const (.bool true)) (.tmp 155) (.bool true) hb336) ?_
           refine V 157 4 (mv 156 (.bool true)) ?_
           refine Sk [158, 159, 160, 161] 6 false 157 rfl ?_
           refine V 162 4 (p1 157 (.const (.bool true)) (.tmp 161) (.bool true) rfl) ?_
           exact RWP.nil ⟨rfl, F11, hs150, (Mem.le.refl _), e152, e153, e154, e155, e156, e157, e159, e160, e161, e162, e163, (congrArg Value.bool (or_t hb336 (rfl)))⟩
          ·refine Vg 154 3 2 false 153 hb336 (mv 8 (vi r38.1) e157) ?_
           refine Vg 155 4 2 false 153 hb336 (run_lss (t := 3) (t' := 3) (x := (.tmp 154)) (y := (.const (vi 0))) (k := .i64) (a := r38.1) (b := 0) rfl rfl) ?_
           refine V 156 4 (p0 153 (.const (.bool true)) (.tmp 155) (.bool (decide (r38.1 < 0))) hb336) ?_
           refine V 157 4 (mv 156 (.bool (decide (r38.1 < 0)))) ?_
           refine RWP.split (decide (r38.1 < 0)) (fun hb337 => ?_) (fun hb337 => ?_)
           ·refine Sk [158, 159, 160, 161] 6 false 157 hb337 ?_
            refine V 162 4 (p1 157 (.const (.bool true)) (.tmp 161) (.bool true) hb337) ?_
            exact RWP.nil ⟨rfl, F11, hs150, (Mem.le.refl _), e152, e153, e154, e155, e156, e157, e159, e160, e161, e162, e163, (congrArg Value.bool (or_f hb336 (or_t hb337 (rfl))))⟩
           ·refine Vg 158 3 6 false 157 hb337 (mv 8 (vi r38.1) e157) ?_
            refine Vg 159 61 6 false 157 hb337 (mv 0 (.slice a0_0 x0.length n0_0) e153) ?_
            refine Vg 160 3 6 false 157 hb337 (ln 159 61 a0_0 x0.length n0_0 71 7 64) ?_
            refine Vg 161 4 6 false 157 hb337 (run_geq (t := 3) (t' := 3) (x := (.tmp 158)) (y := (.tmp 160)) (k := .i64) (a := r38.1) (b := (x0.length : Int)) rfl rfl) ?_
            refine V 162 4 (p0 157 (.const (.bool true)) (.tmp 161) (.bool (decide (r38.1 ≥ (x0.length : Int)))) hb337) ?_
            exact RWP.nil ⟨rfl, F11, hs150, (Mem.le.refl _), e152, e153, e154, e155, e156, e157, e159, e160, e161, e162, e163, (congrArg Value.bool (or_f hb336 (or_f hb337 (rfl))))⟩
         ·rintro f w321 ⟨F18, hs322, le323, e324, e325, e326, e327, e328, e329, e330, e331, e332, e333, e334, e335⟩
          refine thenQ_nrm ?_
          refine CWP.cond (t := ((r38.2 != 0) || ((decide (r38.1 < 0)) || (decide (r38.1 ≥ (x0.length : Int)))))) (by kernel_rfl) e335 (fun hb338 => ?_) (fun hb338 => ?_)
          ·have h339 := cond_t h320 hb338
           refine Sq (Rg [0] ?_)
           refine V 6 4 (mc (.bool false) (.bool false)) ?_
           refine Nt ?_
           refine CWP.ret (by kernel_rfl) ?_
           refine thenQ_ret ?_
           have hfin := some_inj h339
           subst hfin
           exact ⟨e324, (.bool false), res_of (l := [.tmp 6]) (by kernel_rfl) (vs := [(.bool false)]) ⟨rfl, trivial⟩, (.bool false), F18, rfl, hs322.clear, rfl⟩
          ·have h340 := cond_f h320 hb338
           refine Sc ?_
           refine thenQ_nrm ?_
           refine Sq (Rg [0, 1, 2, 3, 4, 5] ?_)
           refine V 163 61 (mv 0 (.slice a0_0 x0.length n0_0) e325) ?_
           refine V 164 3 (mv 8 (vi r38.1) e329) ?_
           obtain ⟨x341, hx342, h344⟩ := bind_some h340
           obtain ⟨hi343, hx342'⟩ := idx_spec hx342
           obtain ⟨b345, o346, C347, E348, fz349, rfl, hF351, hE352⟩ := SlA.open (SlA.mono hs0_0 ((((((((le7.trans le11).trans le44).trans le52).trans le68).trans le77).trans le105).trans le151).trans le323)) hx342'
           have hc354 := hE352 _ _ hx342'
           refine V 165 0 (ix 61 163 164 b345 o346 71 7 64 hi343) ?_
           refine V 166 71 (lx 71 165 0 7 true 7 (.agg #[(.string ⟨(x341.Text).toArray⟩), (vi x341.Country), (vi x341.Zone), (vi x341.Continent), (vi x341.From), (vi x341.To), (.bool x341.Whole)]) (hs322.pers _ _ hF351) hc354) ?_
           refine Al 20 0 71 #[(.string ⟨(([] : List UInt8)).toArray⟩), (vi 0), (vi 0), (vi 0), (vi 0), (vi 0), (.bool false)] hs322 (fun b355 w356 (hs357 : HS w0 F0 w356 F18 [(sb b355 #[(.string ⟨(([] : List UInt8)).toArray⟩), (vi 0), (vi 0), (vi 0), (vi 0), (vi 0), (.bool false)] 71), es148_0, (sb b54 #[(vi r46.1.Country), (vi r46.1.Zone), (vi r46.1.Continent)] 65)]) => ?_)
           refine RWP.store (ty := 0) (g := none) (by kernel_rfl) rfl (x := (.tmp 20)) (y := (.tmp 166)) (t := 71) (gg := true) (s := 7) (v := (.agg #[(.string ⟨(x341.Text).toArray⟩), (vi x341.Country), (vi x341.Zone), (vi x341.Continent), (vi x341.From), (vi x341.To), (.bool x341.Whole)])) (b := b355) (o := 0) (C := #[(.string ⟨(([] : List UInt8)).toArray⟩), (vi 0), (vi 0), (vi 0), (vi 0), (vi 0), (.bool false)]) rfl rfl (by kernel_rfl) hs357 (k := 0) rfl rfl rfl rfl (C' := #[(.string ⟨(x341.Text).toArray⟩), (vi x341.Country), (vi x341.Zone), (vi x341.Continent), (vi x341.From), (vi x341.To), (.bool x341.Whole)]) rfl (fun w358 (hs359 : HS w0 F0 w358 F18 [(sb b355 #[(.string ⟨(x341.Text).toArray⟩), (vi x341.Country), (vi x341.Zone), (vi x341.Continent), (vi x341.From), (vi x341.To), (.bool x341.Whole)] 71), es148_0, (sb b54 #[(vi r46.1.Country), (vi r46.1.Zone), (vi r46.1.Continent)] 65)]) => ?_)
           refine Nss ?_
           refine Sq (Rg [0, 1, 2, 3, 4, 5, 6, 7, 8, 9, 10, 11, 12, 13, 14, 15, 16, 17, 18, 19, 20, 21, 22, 23, 24, 25, 26, 27, 28, 29, 30, 31, 32, 33, 34, 35, 36, 37, 38, 39, 40, 41, 42] ?_)
           obtain ⟨j363, hj372, h373⟩ := bind_some h344
           refine RWP.cut (fun f w => ∃ (F19 : Mem), HS w0 F0 w F19 [(sb b355 #[(.string ⟨(x341.Text).toArray⟩), (vi x341.Country), (vi x341.Zone), (vi x341.Continent), (vi x341.From), (vi x341.To), (.bool x341.Whole)] 71), es148_0, (sb b54 #[(vi r46.1.Country), (vi r46.1.Zone), (vi r46.1.Continent)] 65)] ∧ Mem.le F18 F19 ∧ f.d = [] ∧ f 1 = (.string ⟨(x1).toArray⟩) ∧ f 2 = (vi x2) ∧ f 7 = (.bool r1) ∧ f 10 = (.pointer (some ⟨b54, 0, none⟩)) ∧ f 15 = (.slice as148_0 s148.1.length ns148_0) ∧ f 20 = (.pointer (some ⟨b355, 0, none⟩)) ∧ f 209 = (.bool j363)) ?_ ?_
           ·refine V 167 0 (fa 71 20 4 4 1 b355 0 4) ?_
            refine V 168 3 (ld 3 167 b355 4 false 1 (vi x341.From) (hs359.ownAt (k := 0) rfl)) ?_
            refine V 169 3 (mv 2 (vi x2) e327) ?_
            refine V 170 4 (run_gtr (t := 3) (t' := 3) (x := (.tmp 168)) (y := (.tmp 169)) (k := .i64) (a := x341.From) (b := x2) rfl rfl) ?_
            refine V 171 4 (mv 170 (.bool (decide (x341.From > x2)))) ?_
            refine RWP.split (decide (x341.From > x2)) (fun hb374 => ?_) (fun hb374 => ?_)
            ·have h375 := cond_t hj372 hb374
             refine Sk [172, 173, 174, 175] 4 false 171 hb374 ?_
             refine V 176 4 (p1 171 (.const (.bool true)) (.tmp 175) (.bool true) hb374) ?_
             refine V 177 4 (mv 176 (.bool true)) ?_
             refine Sk [178, 179, 180, 181] 10 false 177 rfl ?_
             refine V 182 4 (p1 177 (.const (.bool true)) (.tmp 181) (.bool true) rfl) ?_
             refine V 183 4 (mv 182 (.bool true)) ?_
             refine Sk [184, 185, 186] 16 false 183 rfl ?_
             refine Su [187, 188, 189, 190, 191, 192] 19 true 186 ?_
             refine Su [193, 194, 195, 196, 197] 25 false 192 ?_
             refine Su [198] 19 true 186 ?_
             refine Sk [199] 16 false 183 rfl ?_
             refine V 200 4 (p1 183 (.const (.bool true)) (.tmp 199) (.bool true) rfl) ?_
             refine V 201 4 (mv 200 (.bool true)) ?_
             refine Sk [202, 203] 34 false 201 rfl ?_
             refine Su [204, 205, 206, 207] 36 true 203 ?_
             refine Sk [208] 34 false 201 rfl ?_
             refine V 209 4 (p1 201 (.const (.bool true)) (.tmp 208) (.bool true) rfl) ?_
             obtain rfl := some_inj h375
             exact RWP.nil ⟨rfl, F18, hs359, (Mem.le.refl _), e324, e326, e327, e328, e330, e332, rfl, rfl⟩
            ·have h376 := cond_f hj372 hb374
             refine Vg 172 0 4 false 171 hb374 (fa 71 20 5 5 1 b355 0 5) ?_
             refine Vg 173 3 4 false 171 hb374 (ld 3 172 b355 5 false 1 (vi x341.To) (hs359.ownAt (k := 0) rfl)) ?_
             refine Vg 174 3 4 false 171 hb374 (mv 2 (vi x2) e327) ?_
             refine Vg 175 4 4 false 171 hb374 (run_lss (t := 3) (t' := 3) (x := (.tmp 173)) (y := (.tmp 174)) (k := .i64) (a := x341.To) (b := x2) rfl rfl) ?_
             refine V 176 4 (p0 171 (.const (.bool true)) (.tmp 175) (.bool (decide (x341.To < x2))) hb374) ?_
             refine V 177 4 (mv 176 (.bool (decide (x341.To < x2)))) ?_
             refine RWP.split (decide (x341.To < x2)) (fun hb377 => ?_) (fun hb377 => ?_)
             ·have h378 := cond_t h376 hb377
              refine Sk [178, 179, 180, 181] 10 false 177 hb377 ?_
              refine V 182 4 (p1 177 (.const (.bool true)) (.tmp 181) (.bool true) hb377) ?_
              refine V 183 4 (mv 182 (.bool true)) ?_
              refine Sk [184, 185, 186] 16 false 183 rfl ?_
              refine Su [187, 188, 189, 190, 191, 192] 19 true 186 ?_
              refine Su [193, 194, 195, 196, 197] 25 false 192 ?_
              refine Su [198] 19 true 186 ?_
              refine Sk [199] 16 false 183 rfl ?_
              refine V 200 4 (p1 183 (.const (.bool true)) (.tmp 199) (.bool true) rfl) ?_
              refine V 201 4 (mv 200 (.bool true)) ?_
              refine Sk [202, 203] 34 false 201 rfl ?_
              refine Su [204, 205, 206, 207] 36 true 203 ?_
              refine Sk [208] 34 false 201 rfl ?_
              refine V 209 4 (p1 201 (.const (.bool true)) (.tmp 208) (.bool true) rfl) ?_
              obtain rfl := some_inj h378
              exact RWP.nil ⟨rfl, F18, hs359, (Mem.le.refl _), e324, e326, e327, e328, e330, e332, rfl, rfl⟩
             ·have h379 := cond_f h376 hb377
              refine Vg 178 0 10 false 177 hb377 (fa 71 20 6 6 1 b355 0 6) ?_
              refine Vg 179 4 10 false 177 hb377 (ld 4 178 b355 6 false 1 (.bool x341.Whole) (hs359.ownAt (k := 0) rfl)) ?_
              refine Vg 180 4 10 false 177 hb377 (mv 17 (.bool s148.2.2.1) e334) ?_
              refine Vg 181 4 10 false 177 hb377 (run_neb (t := 4) (t' := 4) (x := (.tmp 179)) (y := (.tmp 180)) (a := x341.Whole) (b := s148.2.2.1) rfl rfl (by kernel_rfl)) ?_
              refine V 182 4 (p0 177 (.const (.bool true)) (.tmp 181) (.bool (!(x341.Whole == s148.2.2.1))) hb377) ?_
              refine V 183 4 (mv 182 (.bool (!(x341.Whole == s148.2.2.1)))) ?_
              refine RWP.split (!(x341.Whole == s148.2.2.1)) (fun hb380 => ?_) (fun hb380 => ?_)
              ·have h381 := cond_t h379 hb380
               refine Sk [184, 185, 186] 16 false 183 hb380 ?_
               refine Su [187, 188, 189, 190, 191, 192] 19 true 186 ?_
               refine Su [193, 194, 195, 196, 197] 25 false 192 ?_
               refine Su [198] 19 true 186 ?_
               refine Sk [199] 16 false 183 hb380 ?_
               refine V 200 4 (p1 183 (.const (.bool true)) (.tmp 199) (.bool true) hb380) ?_
               refine V 201 4 (mv 200 (.bool true)) ?_
               refine Sk [202, 203] 34 false 201 rfl ?_
               refine Su [204, 205, 206, 207] 36 true 203 ?_
               refine Sk [208] 34 false 201 rfl ?_
               refine V 209 4 (p1 201 (.const (.bool true)) (.tmp 208) (.bool true) rfl) ?_
               obtain rfl := some_inj h381
               exact RWP.nil ⟨rfl, F18, hs359, (Mem.le.refl _), e324, e326, e327, e328, e330, e332, rfl, rfl⟩
              ·have h382 := cond_f h379 hb380
               refine Vg 184 4 16 false 183 hb380 (mv 17 (.bool s148.2.2.1) e334) ?_
               refine Vg 185 4 16 false 183 hb380 (run_not (t := 4) (x := (.tmp 184)) (a := s148.2.2.1) rfl) ?_
               refine Vg 186 4 16 false 183 hb380 (mv 185 (.bool (!s148.2.2.1))) ?_
               refine RWP.split (!s148.2.2.1) (fun hb383 => ?_) (fun hb383 => ?_)
               ·have h384 := cond_t h382 hb383
                refine Vg 187 0 19 true 186 hb383 (fa 71 20 0 0 1 b355 0 0) ?_
                refine Vg 188 9 19 true 186 hb383 (ld 9 187 b355 0 false 1 (.string ⟨(x341.Text).toArray⟩) (hs359.ownAt (k := 0) rfl)) ?_
                refine Vg 189 3 19 true 186 hb383 (run_slen (x := (.tmp 188)) (ats := #[9]) (t := 9) (a := x341.Text) rfl rfl (by kernel_rfl)) ?_
                refine Vg 190 3 19 true 186 hb383 (mv 16 (vi s148.2.1) e333) ?_
                refine Vg 191 4 19 true 186 hb383 (run_neq (t := 3) (t' := 3) (x := (.tmp 189)) (y := (.tmp 190)) (k := .i64) (a := (x341.Text.length : Int)) (b := s148.2.1) rfl rfl) ?_
                refine Vg 192 4 19 true 186 hb383 (mv 191 (.bool ((x341.Text.length : Int) != s148.2.1))) ?_
                refine RWP.split ((x341.Text.length : Int) != s148.2.1) (fun hb385 => ?_) (fun hb385 => ?_)
                ·have h386 := cond_t h384 hb385
                 refine Sk [193, 194, 195, 196, 197] 25 false 192 hb385 ?_
                 refine Vg 198 4 19 true 186 hb383 (p1 192 (.const (.bool true)) (.tmp 197) (.bool true) hb385) ?_
                 refine Vg 199 4 16 false 183 hb380 (p1 186 (.tmp 198) (.const (.bool false)) (.bool true) hb383) ?_
                 refine V 200 4 (p0 183 (.const (.bool true)) (.tmp 199) (.bool true) hb380) ?_
                 refine V 201 4 (mv 200 (.bool true)) ?_
                 refine Sk [202, 203] 34 false 201 rfl ?_
                 refine Su [204, 205, 206, 207] 36 true 203 ?_
                 refine Sk [208] 34 false 201 rfl ?_
                 refine V 209 4 (p1 201 (.const (.bool true)) (.tmp 208) (.bool true) rfl) ?_
                 obtain rfl := some_inj h386
                 exact RWP.nil ⟨rfl, F18, hs359, (Mem.le.refl _), e324, e326, e327, e328, e330, e332, rfl, rfl⟩
                ·have h387 := cond_f h384 hb385
                 refine Vg 193 9 25 false 192 hb385 (mv 14 (.string ⟨(j106).toArray⟩) e331) ?_
                 refine Vg 194 0 25 false 192 hb385 (fa 71 20 0 0 1 b355 0 0) ?_
                 refine Vg 195 9 25 false 192 hb385 (ld 9 194 b355 0 false 1 (.string ⟨(x341.Text).toArray⟩) (hs359.ownAt (k := 0) rfl)) ?_
                 obtain ⟨r388, hr389, h390⟩ := bind_some h387
                 refine RWP.call (dst := (some 196)) (ty := 4) (g := (some (25, false))) (by kernel_rfl) (gd_y (d := 192) (by kernel_rfl) rfl hb385) (f0 := (.func 58)) (aos := #[(.tmp 193), (.tmp 195)]) (ats := #[9, 9]) (fid := 58) (first := #[]) (cap := #[]) (args := [(.string ⟨(j106).toArray⟩), (.string ⟨(x341.Text).toArray⟩)]) rfl co_law01_begins (rfl) hs359 (c_law01_begins N w358 F18 hs359.pers (j106) (x341.Text) _ hr389) ?_
                 intro v391 F20 w392 hs393 le394 hp395
                 obtain rfl := hp395
                 refine Vg 197 4 25 false 192 hb385 (run_not (t := 4) (x := (.tmp 196)) (a := r388) rfl) ?_
                 refine Vg 198 4 19 true 186 hb383 (p0 192 (.const (.bool true)) (.tmp 197) (.bool (!r388)) hb385) ?_
                 refine Vg 199 4 16 false 183 hb380 (p1 186 (.tmp 198) (.const (.bool false)) (.bool (!r388)) hb383) ?_
                 refine V 200 4 (p0 183 (.const (.bool true)) (.tmp 199) (.bool (!r388)) hb380) ?_
                 refine V 201 4 (mv 200 (.bool (!r388))) ?_
                 refine RWP.split (!r388) (fun hb396 => ?_) (fun hb396 => ?_)
                 ·have h397 := cond_t h390 hb396
                  refine Sk [202, 203] 34 false 201 hb396 ?_
                  refine Su [204, 205, 206, 207] 36 true 203 ?_
                  refine Sk [208] 34 false 201 hb396 ?_
                  refine V 209 4 (p1 201 (.const (.bool true)) (.tmp 208) (.bool true) hb396) ?_
                  obtain rfl := some_inj h397
                  exact RWP.nil ⟨rfl, F20, hs393, le394, e324, e326, e327, e328, e330, e332, rfl, rfl⟩
                 ·have h398 := cond_f h390 hb396
                  refine Vg 202 4 34 false 201 hb396 (mv 17 (.bool s148.2.2.1) e334) ?_
                  refine Vg 203 4 34 false 201 hb396 (mv 202 (.bool s148.2.2.1)) ?_
                  refine RWP.split s148.2.2.1 (fun hb399 => ?_) (fun hb399 => ?_)
                  ·have h400 := cond_t h398 hb399
                   refine Vg 204 0 36 true 203 hb399 (fa 71 20 0 0 1 b355 0 0) ?_
                   refine Vg 205 9 36 true 203 hb399 (ld 9 204 b355 0 false 1 (.string ⟨(x341.Text).toArray⟩) (hs393.ownAt (k := 0) rfl)) ?_
                   refine Vg 206 9 36 true 203 hb399 (mv 1 (.string ⟨(x1).toArray⟩) e326) ?_
                   refine Vg 207 4 36 true 203 hb399 (run_scmp (t := 9) (t' := 9) (x := (.tmp 205)) (y := (.tmp 206)) (op := .neq) (a := x341.Text) (b := x1) (v := (x341.Text != x1)) rfl rfl rfl) ?_
                   refine Vg 208 4 34 false 201 hb396 (p1 203 (.tmp 207) (.const (.bool false)) (.bool (x341.Text != x1)) hb399) ?_
                   refine V 209 4 (p0 201 (.const (.bool true)) (.tmp 208) (.bool (x341.Text != x1)) hb396) ?_
                   obtain rfl := some_inj h400
                   exact RWP.nil ⟨rfl, F20, hs393, le394, e324, e326, e327, e328, e330, e332, rfl, rfl⟩
                  ·have h401 := cond_f h398 hb399
                   refine Sk [204, 205, 206, 207] 36 true 203 hb399 ?_
                   refine Vg 208 4 34 false 201 hb396 (p0 203 (.tmp 207) (.const (.bool false)) (.bool false) hb399) ?_
                   refine V 209 4 (p0 201 (.const (.bool true)) (.tmp 208) (.bool false) hb396) ?_
                   obtain rfl := some_inj h401
                   exact RWP.nil ⟨rfl, F20, hs393, le394, e324, e326, e327, e328, e330, e332, rfl, rfl⟩
               ·have h402 := cond_f h382 hb383
                refine Sk [187, 188, 189, 190, 191, 192] 19 true 186 hb383 ?_
                refine Su [193, 194, 195, 196, 197] 25 false 192 ?_
                refine Sk [198] 19 true 186 hb383 ?_
                refine Vg 199 4 16 false 183 hb380 (p0 186 (.tmp 198) (.const (.bool false)) (.bool false) hb383) ?_
                refine V 200 4 (p0 183 (.const (.bool true)) (.tmp 199) (.bool false) hb380) ?_
                refine V 201 4 (mv 200 (.bool false)) ?_
                refine Vg 202 4 34 false 201 rfl (mv 17 (.bool s148.2.2.1) e334) ?_
                refine Vg 203 4 34 false 201 rfl (mv 202 (.bool s148.2.2.1)) ?_
                refine RWP.split s148.2.2.1 (fun hb403 => ?_) (fun hb403 => ?_)
                ·have h404 := cond_t h402 hb403
                 refine Vg 204 0 36 true 203 hb403 (fa 71 20 0 0 1 b355 0 0) ?_
                 refine Vg 205 9 36 true 203 hb403 (ld 9 204 b355 0 false 1 (.string ⟨(x341.Text).toArray⟩) (hs359.ownAt (k := 0) rfl)) ?_
                 refine Vg 206 9 36 true 203 hb403 (mv 1 (.string ⟨(x1).toArray⟩) e326) ?_
                 refine Vg 207 4 36 true 203 hb403 (run_scmp (t := 9) (t' := 9) (x := (.tmp 205)) (y := (.tmp 206)) (op := .neq) (a := x341.Text) (b := x1) (v := (x341.Text != x1)) rfl rfl rfl) ?_
                 refine Vg 208 4 34 false 201 rfl (p1 203 (.tmp 207) (.const (.bool false)) (.bool (x341.Text != x1)) hb403) ?_
                 refine V 209 4 (p0 201 (.const (.bool true)) (.tmp 208) (.bool (x341.Text != x1)) rfl) ?_
                 obtain rfl := some_inj h404
                 exact RWP.nil ⟨rfl, F18, hs359, (Mem.le.refl _), e324, e326, e327, e328, e330, e332, rfl, rfl⟩
                ·have h405 := cond_f h402 hb403
                 refine Sk [204, 205, 206, 207] 36 true 203 hb403 ?_
                 refine Vg 208 4 34 false 201 rfl (p0 203 (.tmp 207) (.const (.bool false)) (.bool false) hb403) ?_
                 refine V 209 4 (p0 201 (.const (.bool true)) (.tmp 208) (.bool false) rfl) ?_
                 obtain rfl := some_inj h405
                 exact RWP.nil ⟨rfl, F18, hs359, (Mem.le.refl _), e324, e326, e327, e328, e330, e332, rfl, rfl⟩
           ·rintro f w360 ⟨F19, hs361, le362, e364, e365, e366, e367, e368, e369, e370, e371⟩
            refine thenQ_nrm ?_
            refine CWP.cond (t := j363) (by kernel_rfl) e371 (fun hb406 => ?_) (fun hb406 => ?_)
            ·have h407 := cond_t h373 hb406
             refine Sq (Rg [0] ?_)
             refine V 6 4 (mc (.bool false) (.bool false)) ?_
             refine Nt ?_
             refine CWP.ret (by kernel_rfl) ?_
             refine thenQ_ret ?_
             have hfin := some_inj h407
             subst hfin
             exact ⟨e364, (.bool false), res_of (l := [.tmp 6]) (by kernel_rfl) (vs := [(.bool false)]) ⟨rfl, trivial⟩, (.bool false), F19, rfl, hs361.clear, rfl⟩
            ·have h408 := cond_f h373 hb406
             refine Sc ?_
             refine thenQ_nrm ?_
             refine Sq (Rg [0, 1, 2, 3, 4, 5, 6, 7, 8, 9] ?_)
             refine V 211 61 (mv 15 (.slice as148_0 s148.1.length ns148_0) e369) ?_
             refine V 212 9 (mv 1 (.string ⟨(x1).toArray⟩) e365) ?_
             refine V 213 3 (mv 2 (vi x2) e366) ?_
             have hb412 := RowR.bound (hrs148_0.mono (le323.trans le362))
             obtain ⟨F21, hs409, le410, hs411⟩ : ∃ Fq, HS w0 F0 w360 Fq [(sb b355 #[(.string ⟨(x341.Text).toArray⟩), (vi x341.Country), (vi x341.Zone), (vi x341.Continent), (vi x341.From), (vi x341.To), (.bool x341.Whole)] 71), (sb b54 #[(vi r46.1.Country), (vi r46.1.Zone), (vi r46.1.Continent)] 65)] ∧ Mem.le F19 Fq ∧ SlA tPrefix Fq as148_0 s148.1 := HS.freezeRow hs361 (k := 1) rfl (hrs148_0.mono (le323.trans le362))
             obtain ⟨r413, hr414, h415⟩ := bind_some h408
             refine Cl 214 66 54 #[(.tmp 211), (.tmp 212), (.tmp 213)] #[61, 9, 3] co_air_PlaceOf hs409 (c_air_PlaceOf N w360 F21 hs409.pers (hG.mono ((((((((((le7.trans le11).trans le44).trans le52).trans le68).trans le77).trans le105).trans le151).trans le323).trans le362).trans le410)) (s148.1) as148_0 ns148_0 hb412 hs411 (x1) (x2) _ hr414) ?_
             intro v416 F22 w417 hs418 le419 hp420
             obtain rfl := hp420
             refine V 210 66 (mv 214 (.tuple #[(.agg #[(vi r413.1.Country), (vi r413.1.Zone), (vi r413.1.Continent)]), (vi r413.2)])) ?_
             refine V 215 65 (ex 210 0 (.agg #[(vi r413.1.Country), (vi r413.1.Zone), (vi r413.1.Continent)]) (vs := #[(.agg #[(vi r413.1.Country), (vi r413.1.Zone), (vi r413.1.Continent)]), (vi r413.2)])) ?_
             refine V 216 23 (ex 210 1 (vi r413.2) (vs := #[(.agg #[(vi r413.1.Country), (vi r413.1.Zone), (vi r413.1.Continent)]), (vi r413.2)])) ?_
             refine Al 21 0 65 #[(vi 0), (vi 0), (vi 0)] hs418 (fun b421 w422 (hs423 : HS w0 F0 w422 F22 [(sb b421 #[(vi 0), (vi 0), (vi 0)] 65), (sb b355 #[(.string ⟨(x341.Text).toArray⟩), (vi x341.Country), (vi x341.Zone), (vi x341.Continent), (vi x341.From), (vi x341.To), (.bool x341.Whole)] 71), (sb b54 #[(vi r46.1.Country), (vi r46.1.Zone), (vi r46.1.Continent)] 65)]) => ?_)
             refine RWP.store (ty := 0) (g := none) (by kernel_rfl) rfl (x := (.tmp 21)) (y := (.tmp 215)) (t := 65) (gg := true) (s := 3) (v := (.agg #[(vi r413.1.Country), (vi r413.1.Zone), (vi r413.1.Continent)])) (b := b421) (o := 0) (C := #[(vi 0), (vi 0), (vi 0)]) rfl rfl (by kernel_rfl) hs423 (k := 0) rfl rfl rfl rfl (C' := #[(vi r413.1.Country), (vi r413.1.Zone), (vi r413.1.Continent)]) rfl (fun w424 (hs425 : HS w0 F0 w424 F22 [(sb b421 #[(vi r413.1.Country), (vi r413.1.Zone), (vi r413.1.Continent)] 65), (sb b355 #[(.string ⟨(x341.Text).toArray⟩), (vi x341.Country), (vi x341.Zone), (vi x341.Continent), (vi x341.From), (vi x341.To), (.bool x341.Whole)] 71), (sb b54 #[(vi r46.1.Country), (vi r46.1.Zone), (vi r46.1.Continent)] 65)]) => ?_)
             refine V 22 23 (ma 216 (vi r413.2)) ?_
             refine Nss (Rg [0, 1, 2, 3, 4, 5, 6, 7, 8, 9, 10, 11, 12, 13, 14, 15, 16, 17, 18, 19, 20, 21] ?_)
             refine RWP.cut (fun f w => ∃ (F23 : Mem), HS w0 F0 w F23 [] ∧ Mem.le F22 F23 ∧ f.d = [] ∧ f 6 = (.bool (r1 && ((r413.2 == 0) && (((r46.1.Country == r413.1.Country) && ((r46.1.Zone == r413.1.Zone) && ((r46.1.Continent == r413.1.Continent) && true))) && ((r46.1.Country == x341.Country) && ((r46.1.Zone == x341.Zone) && ((r46.1.Continent == x341.Continent) && true)))))))) ?_ ?_
             ·refine V 217 4 (mv 7 (.bool r1) e367) ?_
              refine V 218 4 (mv 217 (.bool r1)) ?_
              refine RWP.split r1 (fun hb431 => ?_) (fun hb431 => ?_)
              ·refine Vg 219 23 1 true 218 hb431 (mv 22 (vi r413.2)) ?_
               refine Vg 220 4 1 true 218 hb431 (run_eql (t := 23) (t' := 23) (x := (.tmp 219)) (y := (.const (vi 0))) (k := .i64) (a := r413.2) (b := 0) rfl rfl) ?_
               refine V 221 4 (p1 218 (.tmp 220) (.const (.bool false)) (.bool (r413.2 == 0)) hb431) ?_
               refine V 222 4 (mv 221 (.bool (r413.2 == 0))) ?_
               refine RWP.split (r413.2 == 0) (fun hb432 => ?_) (fun hb432 => ?_)
               ·refine Vg 223 65 5 true 222 hb432 (ld 65 10 b54 0 true 3 (.agg #[(vi r46.1.Country), (vi r46.1.Zone), (vi r46.1.Continent)]) (hs425.ownAt (k := 2) rfl) e368) ?_
                refine Vg 224 65 5 true 222 hb432 (ld 65 21 b421 0 true 3 (.agg #[(vi r413.1.Country), (vi r413.1.Zone), (vi r413.1.Continent)]) (hs425.ownAt (k := 0) rfl)) ?_
                refine Vg 225 4 5 true 222 hb432 (run_eqs (t := 65) (t' := 65) (x := (.tmp 223)) (y := (.tmp 224)) (xs := #[(vi r46.1.Country), (vi r46.1.Zone), (vi r46.1.Continent)]) (ys := #[(vi r413.1.Country), (vi r413.1.Zone), (vi r413.1.Continent)]) (b := ((r46.1.Country == r413.1.Country) && ((r46.1.Zone == r413.1.Zone) && ((r46.1.Continent == r413.1.Continent) && true)))) rfl rfl (by kernel_rfl) (by kernel_rfl)) ?_
                refine V 226 4 (p1 222 (.tmp 225) (.const (.bool false)) (.bool ((r46.1.Country == r413.1.Country) && ((r46.1.Zone == r413.1.Zone) && ((r46.1.Continent == r413.1.Continent) && true)))) hb432) ?_
                refine V 227 4 (mv 226 (.bool ((r46.1.Country == r413.1.Country) && ((r46.1.Zone == r413.1.Zone) && ((r46.1.Continent == r413.1.Continent) && true))))) ?_
                refine RWP.split ((r46.1.Country == r413.1.Country) && ((r46.1.Zone == r413.1.Zone) && ((r46.1.Continent == r413.1.Continent) && true))) (fun hb433 => ?_) (fun hb433 => ?_)
                ·refine Vg 228 65 10 true 227 hb433 (ld 65 10 b54 0 true 3 (.agg #[(vi r46.1.Country), (vi r46.1.Zone), (vi r46.1.Continent)]) (hs425.ownAt (k := 2) rfl) e368) ?_
                 refine Vg 229 0 10 true 227 hb433 (fa 71 20 1 1 1 b355 0 1 e370) ?_
                 refine Vg 230 3 10 true 227 hb433 (ld 3 229 b355 1 false 1 (vi x341.Country) (hs425.ownAt (k := 1) rfl)) ?_
                 refine Vg 231 0 10 true 227 hb433 (fa 71 20 2 2 1 b355 0 2 e370) ?_
                 refine Vg 232 3 10 true 227 hb433 (ld 3 231 b355 2 false 1 (vi x341.Zone) (hs425.ownAt (k := 1) rfl)) ?_
                 refine Vg 233 0 10 true 227 hb433 (fa 71 20 3 3 1 b355 0 3 e370) ?_
                 refine Vg 234 3 10 true 227 hb433 (ld 3 233 b355 3 false 1 (vi x341.Continent) (hs425.ownAt (k := 1) rfl)) ?_
                 refine Vg 235 65 10 true 227 hb433 (run_build2 (t := 65) (parts := #[(0, (.tmp 230)), (1, (.tmp 232)), (2, (.tmp 234))]) (vs := [(0, (vi x341.Country)), (1, (vi x341.Zone)), (2, (vi x341.Continent))]) (rfl) (cs := [(vi x341.Country), (vi x341.Zone), (vi x341.Continent)]) (by kernel_rfl)) ?_
                 refine Vg 236 4 10 true 227 hb433 (run_eqs (t := 65) (t' := 65) (x := (.tmp 228)) (y := (.tmp 235)) (xs := #[(vi r46.1.Country), (vi r46.1.Zone), (vi r46.1.Continent)]) (ys := #[(vi x341.Country), (vi x341.Zone), (vi x341.Continent)]) (b := ((r46.1.Country == x341.Country) && ((r46.1.Zone == x341.Zone) && ((r46.1.Continent == x341.Continent) && true)))) rfl rfl (by kernel_rfl) (by kernel_rfl)) ?_
                 refine V 237 4 (p1 227 (.tmp 236) (.const (.bool false)) (.bool ((r46.1.Country == x341.Country) && ((r46.1.Zone == x341.Zone) && ((r46.1.Continent == x341.Continent) && true)))) hb433) ?_
                 refine V 6 4 (ma 237 (.bool ((r46.1.Country == x341.Country) && ((r46.1.Zone == x341.Zone) && ((r46.1.Continent == x341.Continent) && true))))) ?_
                 have hs434 : HS w0 F0 w424 F22 [(sb b355 #[(.string ⟨(x341.Text).toArray⟩), (vi x341.Country), (vi x341.Zone), (vi x341.Continent), (vi x341.From), (vi x341.To), (.bool x341.Whole)] 71), (sb b54 #[(vi r46.1.Country), (vi r46.1.Zone), (vi r46.1.Continent)] 65)] := hs425.drop 0
                 have hs435 : HS w0 F0 w424 F22 [(sb b54 #[(vi r46.1.Country), (vi r46.1.Zone), (vi r46.1.Continent)] 65)] := hs434.drop 0
                 have hs436 : HS w0 F0 w424 F22 [] := hs435.drop 0
                 exact RWP.nil ⟨rfl, F22, hs436, (Mem.le.refl _), e364, (congrArg Value.bool (and_t hb431 (and_t hb432 (and_t hb433 (rfl)))))⟩
                ·refine Sk [228, 229, 230, 231, 232, 233, 234, 235, 236] 10 true 227 hb433 ?_
                 refine V 237 4 (p0 227 (.tmp 236) (.const (.bool false)) (.bool false) hb433) ?_
                 refine V 6 4 (ma 237 (.bool false)) ?_
                 have hs437 : HS w0 F0 w424 F22 [(sb b355 #[(.string ⟨(x341.Text).toArray⟩), (vi x341.Country), (vi x341.Zone), (vi x341.Continent), (vi x341.From), (vi x341.To), (.bool x341.Whole)] 71), (sb b54 #[(vi r46.1.Country), (vi r46.1.Zone), (vi r46.1.Continent)] 65)] := hs425.drop 0
                 have hs438 : HS w0 F0 w424 F22 [(sb b54 #[(vi r46.1.Country), (vi r46.1.Zone), (vi r46.1.Continent)] 65)] := hs437.drop 0
                 have hs439 : HS w0 F0 w424 F22 [] := hs438.drop 0
                 exact RWP.nil ⟨rfl, F22, hs439, (Mem.le.refl _), e364, (congrArg Value.bool (and_t hb431 (and_t hb432 (and_f hb433 (rfl)))))⟩
               ·refine Sk [223, 224, 225] 5 true 222 hb432 ?_
                refine V 226 4 (p0 222 (.tmp 225) (.const (.bool false)) (.bool false) hb432) ?_
                refine V 227 4 (mv 226 (.bool false)) ?_
                refine Sk [228, 229, 230, 231, 232, 233, 234, 235, 236] 10 true 227 rfl ?_
                refine V 237 4 (p0 227 (.tmp 236) (.const (.bool false)) (.bool false) rfl) ?_
                refine V 6 4 (ma 237 (.bool false)) ?_
                have hs440 : HS w0 F0 w424 F22 [(sb b355 #[(.string ⟨(x341.Text).toArray⟩), (vi x341.Country), (vi x341.Zone), (vi x341.Continent), (vi x341.From), (vi x341.To), (.bool x341.Whole)] 71), (sb b54 #[(vi r46.1.Country), (vi r46.1.Zone), (vi r46.1.Continent)] 65)] := hs425.drop 0
                have hs441 : HS w0 F0 w424 F22 [(sb b54 #[(vi r46.1.Country), (vi r46.1.Zone), (vi r46.1.Continent)] 65)] := hs440.drop 0
                have hs442 : HS w0 F0 w424 F22 [] := hs441.drop 0
                exact RWP.nil ⟨rfl, F22, hs442, (Mem.le.refl _), e364, (congrArg Value.bool (and_t hb431 (and_f hb432 (rfl))))⟩
              ·refine Sk [219, 220] 1 true 218 hb431 ?_
               refine V 221 4 (p0 218 (.tmp 220) (.const (.bool false)) (.bool false) hb431) ?_
               refine V 222 4 (mv 221 (.bool false)) ?_
               refine Sk [223, 224, 225] 5 true 222 rfl ?_
               refine V 226 4 (p0 222 (.tmp 225) (.const (.bool false)) (.bool false) rfl) ?_
               refine V 227 4 (mv 226 (.bool false)) ?_
               refine Sk [228, 229, 230, 231, 232, 233, 234, 235, 236] 10 true 227 rfl ?_
               refine V 237 4 (p0 227 (.tmp 236) (.const (.bool false)) (.bool false) rfl) ?_
               refine V 6 4 (ma 237 (.bool false)) ?_
               have hs443 : HS w0 F0 w424 F22 [(sb b355 #[(.string ⟨(x341.Text).toArray⟩), (vi x341.Country), (vi x341.Zone), (vi x341.Continent), (vi x341.From), (vi x341.To), (.bool x341.Whole)] 71), (sb b54 #[(vi r46.1.Country), (vi r46.1.Zone), (vi r46.1.Continent)] 65)] := hs425.drop 0
               have hs444 : HS w0 F0 w424 F22 [(sb b54 #[(vi r46.1.Country), (vi r46.1.Zone), (vi r46.1.Continent)] 65)] := hs443.drop 0
               have hs445 : HS w0 F0 w424 F22 [] := hs444.drop 0
               exact RWP.nil ⟨rfl, F22, hs445, (Mem.le.refl _), e364, (congrArg Value.bool (and_f hb431 (rfl)))⟩
             ·rintro f w426 ⟨F23, hs427, le428, e429, e430⟩
              refine thenQ_nrm ?_
              refine CWP.ret (by kernel_rfl) ?_
              have hfin := some_inj h415
              subst hfin
              exact ⟨e429, (.bool (r1 && ((r413.2 == 0) && (((r46.1.Country == r413.1.Country) && ((r46.1.Zone == r413.1.Zone) && ((r46.1.Continent == r413.1.Continent) && true))) && ((r46.1.Country == x341.Country) && ((r46.1.Zone == x341.Zone) && ((r46.1.Continent == x341.Continent) && true))))))), res_of (l := [.tmp 6]) (by kernel_rfl) (vs := [(.bool (r1 && ((r413.2 == 0) && (((r46.1.Country == r413.1.Country) && ((r46.1.Zone == r413.1.Zone) && ((r46.1.Continent == r413.1.Continent) && true))) && ((r46.1.Country == x341.Country) && ((r46.1.Zone == x341.Zone) && ((r46.1.Continent == x341.Continent) && true)))))))]) ⟨e430, trivial⟩, (.bool (r1 && ((r413.2 == 0) && (((r46.1.Country == r413.1.Country) && ((r46.1.Zone == r413.1.Zone) && ((r46.1.Continent == r413.1.Continent) && true))) && ((r46.1.Country == x341.Country) && ((r46.1.Zone == x341.Zone) && ((r46.1.Continent == x341.Continent) && true))))))), F23, rfl, hs427.clear, rfl⟩
end Go.Proofs.YtlddakefmfcblaaGreatDoor
namespace Go.Proofs.YtlddakefmfcblaaGreatDoor
def fitB (c b : List UInt8) (d : Int) (p : Prefix) : Bool := dayIn p d && (bif p.Whole then (p.Text == c) else beginsB b p.Text)
def Fit (c : List UInt8) (d : Int) (p : Prefix) : Prop := fitB c (bC c) d p = true
structure IsAns (T : List Prefix) (c : List UInt8) (d : Int) (r : Prefix) : Prop where
 mem : r ∈ T
 fit : Fit c d r
 best : r.Whole = true ∨ ∀ q, q ∈ T → Fit c d q → q.Whole = false ∧ q.Text.length ≤ r.Text.length
theorem fit_whole {c : List UInt8} {d : Int} {p : Prefix} (h : p.Whole = true) : Fit c d p ↔ dayIn p d = true ∧ p.Text = c := by
 unfold Fit fitB
 rw [h, cond_true, Bool.and_eq_true, beq_iff_eq]
theorem fit_part {c : List UInt8} {d : Int} {p : Prefix} (h : p.Whole = false) : Fit c d p ↔ dayIn p d = true ∧ p.Text.length ≤ (bC c).length ∧ (bC c).take p.Text.length = p.Text := by
 unfold Fit fitB
 rw [h, cond_false, Bool.and_eq_true, begins_iff]
theorem key_eq {p q : Prefix} : keyP p = keyP q ↔ p.Text = q.Text ∧ p.Whole = q.Whole := by
 unfold keyP
 constructor
 ·intro h; injection h with h1 h2; exact ⟨h1, h2⟩
 ·rintro ⟨h1, h2⟩; rw [h1, h2]
theorem dayIn_iff {p : Prefix} {d : Int} : dayIn p d = true ↔ p.From ≤ d ∧ d ≤ p.To := by
 unfold dayIn; rw [Bool.and_eq_true, decide_eq_true_eq, decide_eq_true_eq]
section
variable {T : List Prefix} {c : List UInt8} {d : Int}
theorem findS_ans (hR : ∀ p, p ∈ T → PreR p) {i : Nat} (h : findS T c d = some i) : i < T.length ∧ IsAns T c d (pAt T i) := by
 unfold findS at h
 cases ha : atK T { text_ := c, whole_ := true } d with
 | some j =>
  rw [ha] at h
  injection h with h
  subst h
  obtain ⟨h1, h2, h3, _⟩ := atK_some.1 ha
  unfold keyP at h2
  injection h2 with h2 h2'
  exact ⟨h1, pAt_mem h1, (fit_whole h2').2 ⟨h3, h2⟩, .inl h2'⟩
 | none =>
  rw [ha] at h
  have hno := atK_none.1 ha
  obtain ⟨l, h1, h2, h3, h4⟩ := (downF_spec (T := T) (bC c) d _).2 i h
  obtain ⟨g1, g2, g3, g4⟩ := atK_some.1 h3
  have hk := g2
  unfold keyP at g2
  injection g2 with g2 g2'
  have hl : (pAt T i).Text.length = l := by rw [g2, List.length_take]; omega
  refine ⟨g1, pAt_mem g1, (fit_part g2').2 ⟨g3, by omega, by rw [hl]; exact g2.symm⟩, .inr fun q hq hf => ?_⟩
  obtain ⟨j, hj, rfl⟩ := mem_pAt hq
  cases hw : (pAt T j).Whole with
  | true =>
   obtain ⟨f1, f2⟩ := (fit_whole hw).1 hf
   exact absurd ⟨by unfold keyP; rw [f2, hw], f1⟩ (hno j hj)
  | false =>
   obtain ⟨f1, f2, f3⟩ := (fit_part hw).1 hf
   refine ⟨rfl, ?_⟩
   rw [hl]
   rcases Nat.lt_or_ge l (pAt T j).Text.length with hlt | hge
   ·exact absurd ⟨by unfold keyP; rw [hw, f3], f1⟩ (atK_none.1 (h4 _ hlt f2) j hj)
   ·exact hge
theorem findS_none (hR : ∀ p, p ∈ T → PreR p) (h : findS T c d = none) : ∀ q, q ∈ T → ¬ Fit c d q := by
 unfold findS at h
 cases ha : atK T { text_ := c, whole_ := true } d with
 | some j => rw [ha] at h; cases h
 | none =>
  rw [ha] at h
  have hno := atK_none.1 ha
  have hdn := (downF_spec (T := T) (bC c) d _).1 h
  intro q hq hf
  have hlen := (hR q hq).l1
  obtain ⟨j, hj, rfl⟩ := mem_pAt hq
  cases hw : (pAt T j).Whole with
  | true =>
   obtain ⟨f1, f2⟩ := (fit_whole hw).1 hf
   exact absurd ⟨by unfold keyP; rw [f2, hw], f1⟩ (hno j hj)
  | false =>
   obtain ⟨f1, f2, f3⟩ := (fit_part hw).1 hf
   exact absurd ⟨by unfold keyP; rw [hw, f3], f1⟩ (atK_none.1 (hdn _ hlen f2) j hj)
theorem ans_one (hA : Apart T) {r q : Prefix} (hr : IsAns T c d r) (hq : IsAns T c d q) : r = q := by
 have hk : keyP r = keyP q := by
  rw [key_eq]
  rcases hr.best with h1 | h1
  ·rcases hq.best with h2 | h2
   ·exact ⟨by rw [((fit_whole h1).1 hr.fit).2, ((fit_whole h2).1 hq.fit).2], by rw [h1, h2]⟩
   ·have := (h2 r hr.mem hr.fit).1
    rw [h1] at this; cases this
  ·have hqw := (h1 q hq.mem hq.fit).1
   rcases hq.best with h2 | h2
   ·rw [hqw] at h2; cases h2
   ·have hrw := (h2 r hr.mem hr.fit).1
    have e : r.Text.length = q.Text.length := by have := (h1 q hq.mem hq.fit).2; have := (h2 r hr.mem hr.fit).2; omega
    refine ⟨?_, by rw [hqw, hrw]⟩
    rw [← ((fit_part hrw).1 hr.fit).2.2, ← ((fit_part hqw).1 hq.fit).2.2, e]
 have hdr : dayIn r d = true := by
  have := hr.fit; unfold Fit fitB at this; rw [Bool.and_eq_true] at this; exact this.1
 have hdq : dayIn q d = true := by
  have := hq.fit; unfold Fit fitB at this; rw [Bool.and_eq_true] at this; exact this.1
 rw [dayIn_iff] at hdr hdq
 obtain ⟨i, hi, rfl⟩ := mem_pAt hr.mem
 obtain ⟨j, hj, rfl⟩ := mem_pAt hq.mem
 rcases Nat.lt_trichotomy i j with h | h | h
 ·exact absurd ⟨by omega, by omega⟩ (hA i j h hj hk)
 ·rw [h]
 ·exact absurd ⟨by omega, by omega⟩ (hA j i h hi hk.symm)
theorem findS_of_ans (hR : ∀ p, p ∈ T → PreR p) (hA : Apart T) {r : Prefix} (hr : IsAns T c d r) : ∃ i, findS T c d = some i ∧ i < T.length ∧ pAt T i = r := by
 cases h : findS T c d with
 | none => exact absurd hr.fit (findS_none hR h r hr.mem)
 | some i =>
  obtain ⟨h1, h2⟩ := findS_ans hR h
  exact ⟨i, rfl, h1, ans_one hA h2 hr⟩
def Sep (p q : Prefix) : Prop := keyP p = keyP q → ¬ (p.From ≤ q.To ∧ q.From ≤ p.To)
theorem apart_iff : Apart T ↔ T.Pairwise Sep := by
 rw [List.pairwise_iff_getElem]
 constructor
 ·intro h i j hi hj hij
  have := h i j hij hj
  rw [pAt_get hi, pAt_get hj] at this
  exact this
 ·intro h i j hij hj
  have := h i j (by omega) hj hij
  rw [pAt_get (show i < T.length by omega), pAt_get hj]
  exact this
theorem valid_sub {T' : List Prefix} (hv : validT T = true) (hs : T'.Sublist T) : validT T' = true := by
 rw [validT_iff] at hv ⊢
 obtain ⟨h1, h2⟩ := hv
 have h1' := h1
 unfold rowsB at h1 ⊢
 rw [Bool.and_eq_true, decide_eq_true_eq, List.all_eq_true] at h1 ⊢
 refine ⟨⟨Nat.le_trans hs.length_le h1.1, fun p hp => h1.2 p (hs.subset hp)⟩, ?_⟩
 rw [apart_iff] at h2 ⊢
 exact h2.sublist hs
theorem valid_R (hv : validT T = true) : T.length ≤ 400 ∧ (∀ p, p ∈ T → PreR p) ∧ Apart T := by
 have h := validT_iff.1 hv
 exact ⟨(rowsB_ok h.1).1, (rowsB_ok h.1).2, h.2⟩
theorem part_len' {t : Tri} (h : okT t = true) : (partsOf t).Prefix.length ≤ 8 ∧ (partsOf t).Suffix.length ≤ 8 := by
 have hl := ok_len h
 refine ⟨?_, ?_⟩ <;> simp only [partsOf]
 ·rw [List.length_take]; omega
 ·rw [List.length_drop]; omega
theorem law_begins (N : Nat) (b t : List UInt8) : law01_begins N b t = some (beginsB b t) := by
 unfold law01_begins beginsB
 have : decide ((t.length : Int) ≤ (b.length : Int)) = decide (t.length ≤ b.length) := by rw [decide_eq_decide]; omega
 rw [this]
 by_cases hl : t.length ≤ b.length
 ·rw [decide_eq_true hl, cond_true, ssub0 hl]; rfl
 ·rw [decide_eq_false hl]; rfl
structure Seen (c : List UInt8) (d : Int) (L : List Prefix) (s : List Prefix × Int × Bool) : Prop where
 fits : s.1 = L.filter (fitB c (bC c) d)
 le : ∀ q, q ∈ L → Fit c d q → q.Whole = false → (q.Text.length : Int) ≤ s.2.1
 at' : s.2.1 = -1 ∨ ∃ q, q ∈ L ∧ Fit c d q ∧ q.Whole = false ∧ (q.Text.length : Int) = s.2.1
 any : s.2.2 = true ↔ ∃ q, q ∈ L ∧ Fit c d q ∧ q.Whole = true
variable {N : Nat}
theorem rows_step {r1 j12 : Bool} {r38 : Int × Int} {r46 : Place × Int} {r62 : Parts × Int} {i : Nat} (h : i < T.length) (h400 : T.length ≤ 400) {s : List Prefix × Int × Bool} (hs : Seen c d (T.take i) s) : ∃ s', law01_AirRows_L0 N T c d r1 j12 r38 r46 r62 (bC c) (s.1, s.2.1, s.2.2, (i : Int)) = some (.next (s'.1, s'.2.1, s'.2.2, ((i + 1 : Nat) : Int))) ∧ Seen c d (T.take (i + 1)) s' := by
 have htake : T.take (i + 1) = T.take i ++ [pAt T i] := by rw [List.take_add_one, List.getElem?_eq_getElem h, pAt_get h]; rfl
 have hmem : ∀ q, q ∈ T.take (i + 1) ↔ q ∈ T.take i ∨ q = pAt T i := fun q => by rw [htake]; simp
 have hcond : (bif (decide ((pAt T i).From > d)) then some true else (bif (decide ((pAt T i).To < d)) then some true else (bif (pAt T i).Whole then (bif ((pAt T i).Text != c) then some true else (bif (!(pAt T i).Whole) then ((law01_begins N (bC c) (pAt T i).Text).bind fun r225 => some (!r225)) else some false)) else (bif (!(pAt T i).Whole) then ((law01_begins N (bC c) (pAt T i).Text).bind fun r237 => some (!r237)) else some false)))) = some (!fitB c (bC c) d (pAt T i)) := by
  rw [law_begins, gt_dec, lt_dec2 (pAt T i).To]
  unfold fitB dayIn
  have : ((pAt T i).Text != c) = !((pAt T i).Text == c) := rfl
  rw [this]
  simp only [Option.bind_some]
  cases decide ((pAt T i).From ≤ d) <;> cases decide (d ≤ (pAt T i).To) <;> cases (pAt T i).Whole <;> cases ((pAt T i).Text == c) <;> cases beginsB (bC c) (pAt T i).Text <;> rfl
 have hflen : s.1.length ≤ i := by
  rw [hs.fits]
  exact Nat.le_trans (List.length_filter_le _ _) (by rw [List.length_take]; omega)
 cases hf : fitB c (bC c) d (pAt T i) with
 | false =>
  refine ⟨s, ?_, ?_, ?_, ?_, ?_⟩
  ·unfold law01_AirRows_L0
   simp only
   rw [lt_dec h, cond_true, idx_p h, Option.bind_some, hcond, hf, Option.bind_some, w64s i (by omega)]
   rfl
  ·rw [hs.fits, htake, List.filter_append]; simp [hf]
  ·intro q hq hfit hw
   rcases (hmem q).1 hq with h1 | rfl
   ·exact hs.le q h1 hfit hw
   ·unfold Fit at hfit; rw [hf] at hfit; cases hfit
  ·rcases hs.at' with h1 | ⟨q, h1, h2⟩
   ·exact .inl h1
   ·exact .inr ⟨q, (hmem q).2 (.inl h1), h2⟩
  ·rw [hs.any]
   constructor
   ·rintro ⟨q, h1, h2⟩; exact ⟨q, (hmem q).2 (.inl h1), h2⟩
   ·rintro ⟨q, h1, h2, h3⟩
    rcases (hmem q).1 h1 with h4 | rfl
    ·exact ⟨q, h4, h2, h3⟩
    ·unfold Fit at h2; rw [hf] at h2; cases h2
 | true =>
  have hnew : ∀ q, q ∈ T.take (i + 1) → q ∈ T.take i ∨ q = pAt T i := fun q => (hmem q).1
  refine ⟨(s.1 ++ [pAt T i], (bif (!(pAt T i).Whole) then (max s.2.1 ((pAt T i).Text.length : Int)) else s.2.1), (s.2.2 || (pAt T i).Whole)), ?_, ?_, ?_, ?_, ?_⟩
  ·unfold law01_AirRows_L0
   simp only
   rw [lt_dec h, cond_true, idx_p h, Option.bind_some, hcond, hf, Option.bind_some, Bool.not_true, cond_false, apnd_ok (by simp; omega), Option.bind_some, w64s i (by omega)]
  ·show s.1 ++ [pAt T i] = _
   rw [hs.fits, htake, List.filter_append]; simp [hf]
  ·intro q hq hfit hw
   simp only
   rcases hnew q hq with h1 | rfl
   ·have := hs.le q h1 hfit hw
    cases (pAt T i).Whole
    ·show _ ≤ max s.2.1 _; omega
    ·exact this
   ·rw [hw]; show _ ≤ max s.2.1 _; omega
  ·simp only
   cases hw : (pAt T i).Whole with
   | true =>
    rcases hs.at' with h1 | ⟨q, h1, h2⟩
    ·exact .inl h1
    ·exact .inr ⟨q, (hmem q).2 (.inl h1), h2⟩
   | false =>
    simp only [Bool.not_false, cond_true]
    by_cases hm : s.2.1 ≤ ((pAt T i).Text.length : Int)
    ·exact .inr ⟨pAt T i, (hmem _).2 (.inr rfl), hf, hw, by omega⟩
    ·rcases hs.at' with h1 | ⟨q, h1, h2, h3, h4⟩
     ·omega
     ·exact .inr ⟨q, (hmem q).2 (.inl h1), h2, h3, by omega⟩
  ·simp only
   rw [Bool.or_eq_true, hs.any]
   constructor
   ·rintro (⟨q, h1, h2⟩ | hw)
    ·exact ⟨q, (hmem q).2 (.inl h1), h2⟩
    ·exact ⟨pAt T i, (hmem _).2 (.inr rfl), hf, hw⟩
   ·rintro ⟨q, h1, h2, h3⟩
    rcases hnew q h1 with h4 | rfl
    ·exact .inl ⟨q, h4, h2, h3⟩
    ·exact .inr h3
theorem rows_loop {r1 j12 : Bool} {r38 : Int × Int} {r46 : Place × Int} {r62 : Parts × Int} (h400 : T.length ≤ 400) (hN : 4294967300 < N) : ∃ s, Seen c d T s ∧ iter (law01_AirRows_L0 N T c d r1 j12 r38 r46 r62 (bC c)) N (([] : List Prefix), (-1), false, 0) = some (.done (s.1, s.2.1, s.2.2, (T.length : Int))) := by
 obtain ⟨o, ho, s, hs, rfl⟩ := iter_ex (body := law01_AirRows_L0 N T c d r1 j12 r38 r46 r62 (bC c)) T.length (fun i st => ∃ s, Seen c d (T.take i) s ∧ st = (s.1, s.2.1, s.2.2, (i : Int))) (fun o => ∃ s, Seen c d T s ∧ o = .done (s.1, s.2.1, s.2.2, (T.length : Int))) (by
  rintro i st hi ⟨s, hs, rfl⟩
  by_cases h : i < T.length
  ·obtain ⟨s', h1, h2⟩ := rows_step (N := N) (r1 := r1) (j12 := j12) (r38 := r38) (r46 := r46) (r62 := r62) h h400 hs
   exact .inl ⟨_, h1, ⟨s', h2, rfl⟩, h⟩
  ·have : i = T.length := by omega
   subst this
   rw [List.take_length] at hs
   refine .inr ⟨_, ?_, (fun _ h => by cases h), s, hs, rfl⟩
   unfold law01_AirRows_L0
   simp only [lt_dec', cond_false]) T.length N 0 ([], -1, false, 0) (by omega) ⟨([], -1, false), ⟨rfl, (fun q hq => by cases hq), .inl rfl, ⟨(fun h => by cases h), fun ⟨q, hq, _⟩ => by cases hq⟩⟩, rfl⟩ (by omega)
 exact ⟨s, hs, ho⟩
theorem bC_model (hN : 4294967300 < N) {r : Parts × Int} (h : splitS c = r) (hr : r.2 = 0) : (bif (r.1.Area == ([] : List UInt8)) then ((sadd r.1.Prefix r.1.Suffix).bind fun r120 => some r120) else some r.1.Area) = some (bC c) := by
 subst h
 unfold splitS at hr ⊢
 unfold bC
 cases hc : callB c with
 | none => rw [hc] at hr; exact absurd hr (by decide)
 | some t =>
  simp only
  have hl := part_len' (callB_some hc).1
  rw [eq_dec, sadd_some (by omega), ps_app]
  have eA : (partsOf t).Area = t.1 := rfl
  rw [eA]
  by_cases ht : t.1 = []
  ·rw [decide_eq_true ht, if_pos ht]; rfl
  ·rw [decide_eq_false ht, if_neg ht]; rfl
theorem rows_holds (hT : fitT N T) (hN : 4294967300 < N) : law01_AirRows N T c d = some true := by
 unfold law01_AirRows
 rw [awake_true hN, Option.bind_some]
 rw [s_rValidT hT hN, Option.bind_some]
 have hj : (bif (decide ((T.length : Int) > 60)) then some true else (bif (decide ((c.length : Int) > 1000)) then some true else some (!validT T))) = some (decide ((T.length : Int) > 60) || (decide ((c.length : Int) > 1000) || !validT T)) := by
  cases decide ((T.length : Int) > 60) <;> cases decide ((c.length : Int) > 1000) <;> rfl
 rw [hj, Option.bind_some]
 cases hg : (decide ((T.length : Int) > 60) || (decide ((c.length : Int) > 1000) || !validT T)) with
 | true => rfl
 | false =>
  rw [Bool.or_eq_false_iff, Bool.or_eq_false_iff, Bool.not_eq_false'] at hg
  have hv := hg.2.2
  obtain ⟨h400, hR, hA⟩ := valid_R hv
  rw [cond_false, s_RowOf hT hN, Option.bind_some, s_PlaceOf hT hN, Option.bind_some]
  have e0 : ((rowOfS T c d).2 != (placeS T c d).2) = false := by
   unfold rowOfS placeS
   by_cases hw : wrongT T c d = 0
   ·rw [if_pos hw, if_pos hw]; cases findS T c d <;> rfl
   ·rw [if_neg hw, if_neg hw]; simp
  rw [e0, cond_false, s_Split c hN, Option.bind_some]
  by_cases hw : wrongT T c d = 0
  ·obtain ⟨_, hc, hd⟩ := wrongT_ok hw
   unfold inI at hd
   rw [Bool.and_eq_true, decide_eq_true_eq, decide_eq_true_eq] at hd
   have hsp : (splitS c).2 = 0 := by
    unfold validS at hc; unfold splitS
    cases h : callB c with
    | none => rw [h] at hc; cases hc
    | some t => rfl
   rw [hsp, decide_eq_false (show ¬ d < 0 by omega), decide_eq_false (show ¬ d > 99999 by omega), show (((0 : Int) != 0) || (false || false)) = false from rfl, cond_false, bC_model hN rfl hsp, Option.bind_some]
   obtain ⟨s, hs, hit⟩ := rows_loop (T := T) (c := c) (d := d) (N := N) (r1 := true) (j12 := false) (r38 := rowOfS T c d) (r46 := placeS T c d) (r62 := splitS c) h400 hN
   rw [hit, Option.bind_some]
   show (bif ((s.1.length : Int) == 0) then _ else _) = _
   cases hf : findS T c d with
   | none =>
    have hno := findS_none hR hf
    have : s.1 = [] := by
     rw [hs.fits, List.filter_eq_nil_iff]
     intro q hq; exact hno q hq
    rw [this]
    have er : rowOfS T c d = (0, 3) := by unfold rowOfS; rw [if_pos hw, hf]
    rw [er]; rfl
   | some i =>
    obtain ⟨hi, ans⟩ := findS_ans hR hf
    have hin : pAt T i ∈ s.1 := by rw [hs.fits, List.mem_filter]; exact ⟨ans.mem, ans.fit⟩
    have hne : ((s.1.length : Int) == 0) = false := by
     rw [beq_eq_false_iff_ne]
     have := List.length_pos_of_mem hin
     omega
    have er : rowOfS T c d = ((i : Int), 0) := by unfold rowOfS; rw [if_pos hw, hf]
    have ep : placeS T c d = (plOf (pAt T i), 0) := by unfold placeS; rw [if_pos hw, hf]
    rw [hne, cond_false, er, ep]
    simp only
    rw [decide_eq_false (show ¬ (i : Int) < 0 by omega), decide_eq_false (show ¬ (i : Int) ≥ (T.length : Int) by omega), show (((0 : Int) != 0) || (false || false)) = false from rfl, cond_false, idx_p hi, Option.bind_some]
    have hday : dayIn (pAt T i) d = true := by
     have := ans.fit; unfold Fit fitB at this; rw [Bool.and_eq_true] at this; exact this.1
    rw [dayIn_iff] at hday
    have hany : s.2.2 = (pAt T i).Whole := by
     cases hwh : (pAt T i).Whole with
     | true => exact hs.any.2 ⟨_, ans.mem, ans.fit, hwh⟩
     | false =>
      cases ha : s.2.2 with
      | false => rfl
      | true =>
       obtain ⟨q, q1, q2, q3⟩ := hs.any.1 ha
       rcases ans.best with hb | hb
       ·rw [hwh] at hb; cases hb
       ·have := (hb q q1 q2).1
        rw [q3] at this; cases this
    have hchk : (bif (decide ((pAt T i).From > d)) then some true else (bif (decide ((pAt T i).To < d)) then some true else (bif (!((pAt T i).Whole == s.2.2)) then some true else (bif (!s.2.2) then (bif (((pAt T i).Text.length : Int) != s.2.1) then some true else ((law01_begins N (bC c) (pAt T i).Text).bind fun r388 => (bif (!r388) then some true else (bif s.2.2 then some ((pAt T i).Text != c) else some false)))) else (bif s.2.2 then some ((pAt T i).Text != c) else some false))))) = some false := by
     rw [decide_eq_false (show ¬ (pAt T i).From > d by omega), decide_eq_false (show ¬ (pAt T i).To < d by omega), cond_false, cond_false, hany, beq_self_eq_true, Bool.not_true, cond_false, law_begins]
     cases hwh : (pAt T i).Whole with
     | true =>
      have := ((fit_whole hwh).1 ans.fit).2
      rw [this]; simp
     | false =>
      obtain ⟨_, f2, f3⟩ := (fit_part hwh).1 ans.fit
      have hb : beginsB (bC c) (pAt T i).Text = true := begins_iff.2 ⟨f2, f3⟩
      have hlen : ((pAt T i).Text.length : Int) = s.2.1 := by
       have h1 := hs.le _ ans.mem ans.fit hwh
       rcases hs.at' with h2 | ⟨q, q1, q2, q3, q4⟩
       ·omega
       ·rcases ans.best with hb | hb
        ·rw [hwh] at hb; cases hb
        ·have := (hb q q1 q2).2
         omega
      rw [hb, hlen]; simp
    show ((bif (decide ((pAt T i).From > d)) then some true else (bif (decide ((pAt T i).To < d)) then some true else (bif (!((pAt T i).Whole == s.2.2)) then some true else (bif (!s.2.2) then (bif (((pAt T i).Text.length : Int) != s.2.1) then some true else ((law01_begins N (bC c) (pAt T i).Text).bind fun r388 => (bif (!r388) then some true else (bif s.2.2 then some ((pAt T i).Text != c) else some false)))) else (bif s.2.2 then some ((pAt T i).Text != c) else some false))))).bind fun j363 => (bif j363 then some false else ((air_PlaceOf N s.1 c d).bind _))) = _
    rw [hchk, Option.bind_some, cond_false]
    have hsub : s.1.Sublist T := by rw [hs.fits]; exact List.filter_sublist
    have hv' := valid_sub hv hsub
    have hT' : fitT N s.1 := ⟨Nat.lt_of_le_of_lt hsub.length_le hT.1, fun p hp => hT.2 p (hsub.subset hp)⟩
    rw [s_PlaceOf hT' hN, Option.bind_some]
    obtain ⟨_, hR', hA'⟩ := valid_R hv'
    have ans' : IsAns s.1 c d (pAt T i) := ⟨hin, ans.fit, by
     rcases ans.best with hb | hb
     ·exact .inl hb
     ·exact .inr fun q hq hfq => hb q (hsub.subset hq) hfq⟩
    obtain ⟨k, hk, _, hkr⟩ := findS_of_ans hR' hA' ans'
    have ep' : placeS s.1 c d = (plOf (pAt T i), 0) := by
     unfold placeS
     have : wrongT s.1 c d = 0 := by
      unfold wrongT
      rw [if_pos hv', if_pos hc, if_pos]
      unfold inI
      rw [decide_eq_true hd.1, decide_eq_true hd.2]; rfl
     rw [if_pos this, hk]
     simp only
     rw [hkr]
    rw [ep']
    unfold plOf
    simp
  ·have hrow : (rowOfS T c d).2 ≠ 0 := by unfold rowOfS; rw [if_neg hw]; exact hw
   have hgd : (((splitS c).2 != 0) || ((decide (d < 0)) || (decide (d > 99999)))) = true := by
    unfold wrongT at hw
    rw [if_pos hv] at hw
    by_cases hc : validS c = true
    ·rw [if_pos hc] at hw
     have : ¬ inI d 0 99999 = true := fun h => hw (by rw [if_pos h])
     unfold inI at this
     rw [Bool.and_eq_true, decide_eq_true_eq, decide_eq_true_eq] at this
     rw [Bool.or_eq_true, Bool.or_eq_true, decide_eq_true_eq, decide_eq_true_eq]
     omega
    ·have : (splitS c).2 = 10 := by
      unfold validS at hc; unfold splitS
      cases h : callB c with
      | none => rfl
      | some t => rw [h] at hc; exact absurd rfl hc
     rw [this]; rfl
   rw [hgd, cond_true]
   have : ((rowOfS T c d).2 != 0) = true := by simpa using hrow
   rw [this]; rfl
end
theorem airRows_row (x0 : List Prefix) (x1 : List UInt8) (x2 : Int) (q : x0.length < 9223372036854775808 ∧ ∀ x, x ∈ x0 → qPrefix x) (_ : rS x1) (_ : rI x2) : law01_AirRows 9223372036854775808 x0 x1 x2 = some true := by
 by_cases h : x0.length < 4000000000
 ·exact rows_holds (fitT_q q h) (by omega)
 ·unfold law01_AirRows
  rw [awake_true (by omega), Option.bind_some, decide_eq_true (show (x0.length : Int) > 60 by omega)]
  rfl
end Go.Proofs.YtlddakefmfcblaaGreatDoor
namespace Go.Proofs.YtlddakefmfcblaaGreatDoor
open Go.ChangeShapes Go.WideShapes Go.ChangeAt Go.RowKit
set_option maxRecDepth 100000 in
theorem lifted_airRows (os : Os) (started : os.Started) (H : Type) (enc : TypeId × Value → H) :
  ReturnsInHanded {} Tryz.checked os 13 .any (fun w args => (Rows.airRowsSpec.pre enc Tryz.prog Tryz.f13 Rows.airRowsRow.domain false w args ∧ laidMetH Tryz.prog Rows.airRowsRow.laid w) ∧ sizedMet enc Tryz.prog Tryz.f13 (OpenSpec.ofChange Rows.airRowsSpec) false w args) (Rows.airRowsSpec.post enc Tryz.prog Tryz.f13 false true false false) := by
 refine handed_laid (C := Tryz.checked) (X := fun w _ => laidMetH Tryz.prog laid7 w) (fun _ _ _ hh h => h.of_heap hh) own_knob started (by kernel_rfl) Tryz.func13
  (ChangeSpec.witness_shaped (enc := enc) (C := Tryz.checked) (os := os) (X := fun w _ => laidMetH Tryz.prog laid7 w) false (World.laidAll Tryz.prog os laid7) #[.slice none 0 0, .string ByteArray.empty, .int .i64 0] 8 (World.laidAll_os _ _ _)
   (World.shaped_of_ZipB (by kernel_rfl) (by kernel_rfl)) (by kernel_rfl) (by kernel_rfl) (by kernel_rfl) (door_met7 os _)) ?_
 intro W base args ds gs before hval0 hW hsz hL hsh
 have hval : ∀ (j : Nat) t v, Tryz.f13.params[j]? = some t → args[j]? = some v → Value.okWide Tryz.prog W .any base t v := hval0
 have hW' := hW
 obtain ⟨p, q, hA0, hV, rfl, hfz, hnd⟩ := hW
 have hA : DataW.TrodAll enc Tryz.prog W 0 (fun _ => true) true Tryz.f13.params.toList args.toList ds p := hA0
 rw [Tryz.params13] at hA hval
 obtain ⟨v0, vs0, d0, ds0, p0, q0, hargs, rfl, rfl, h0, r0⟩ := trodAll_cons hA
 obtain ⟨v1, vs1, d1, ds1, p1, q1, rfl, rfl, rfl, h1, r1⟩ := trodAll_cons r0
 obtain ⟨v2, vs2, d2, ds2, p2, q2, rfl, rfl, rfl, h2, r2⟩ := trodAll_cons r1
 obtain ⟨rfl, rfl, rfl⟩ := trodAll_nil r2
 obtain rfl : args = #[v0, v1, v2] := by cases args; simp_all
 have z0 : SzW Tryz.prog 61 d0 := SzW.each hsz (j := 0) (by kernel_rfl) rfl
 obtain ⟨x0, R0, Q0⟩ := Opens.one (opens_slice (t := 61) opens_Prefix_71 (by decide) (by kernel_rfl) (by kernel_rfl) : Opens Tryz.prog 61 (tSl tPrefix) _) (by kernel_rfl) (hval 0 61 v0 rfl rfl) h0 z0
 obtain ⟨a0_0, n0_0, e0, hb0_0, hs0_0⟩ := R0
 obtain rfl : v0 = .slice a0_0 x0.length n0_0 := by cases e0; rfl
 have z1 : SzW Tryz.prog 9 d1 := SzW.each hsz (j := 1) (by kernel_rfl) rfl
 obtain ⟨x1, R1, Q1⟩ := Opens.one (opens_str (t := 9) (by kernel_rfl) (by kernel_rfl) : Opens Tryz.prog 9 tStr rS) (by kernel_rfl) (hval 1 9 v1 rfl rfl) h1 z1
 have e1 : [v1] = [.string ⟨x1.toArray⟩] := R1
 cases e1
 have z2 : SzW Tryz.prog 3 d2 := SzW.each hsz (j := 2) (by kernel_rfl) rfl
 obtain ⟨x2, R2, Q2⟩ := Opens.one (opens_int (t := 3) (by kernel_rfl) (by kernel_rfl) : Opens Tryz.prog 3 tInt rI) (by kernel_rfl) (hval 2 3 v2 rfl rfl) h2 z2
 have e2 : [v2] = [.int .i64 x2] := R2
 cases e2
 refine (c_law01_AirRows 9223372036854775808 W (memOf W) (fun _ _ h => h) (glob_of hL hsh) x0 a0_0 n0_0 hb0_0 hs0_0 x1 x2 true (airRows_row x0 x1 x2 Q0 Q1 Q2)).mono fun e W' he => ?_
 obtain ⟨r, F', rfl, hs, rfl⟩ := he
 refine ⟨_, rfl, post_grown (by kernel_rfl) (tb := 4) ?_ rfl hW' (by kernel_rfl) (by kernel_rfl) ?_ hs⟩
 ·intro t ht
  rw [Tryz.params13] at ht
  simp only [List.mem_cons, List.not_mem_nil, or_false] at ht
  rcases ht with rfl | rfl | rfl <;> exact ⟨by kernel_rfl, by decide +kernel⟩
 ·intro _; rfl
theorem airRows_row_holds : Rows.AirRowsSaid :=
 OpenClaim.holds_of_wide 13 Tryz.f13 rfl rfl rfl rfl rfl rfl rfl ⟨rfl, rfl, rfl, rfl, rfl⟩ rfl rfl rfl rfl rfl (by kernel_rfl) Tryz.func13 (by kernel_rfl)
  (of_decide_eq_true (by kernel_rfl)) (by unfold Func.isWrapper; first | (rw [if_pos (by decide +kernel)]; kernel_rfl) | (rw [if_neg (by decide +kernel)]; exact ⟨rfl, rfl⟩))
  (fun os started H enc _ => lifted_airRows os started H enc)
theorem airRows_proved : Rows.AirRowsCardSaid :=
 Claim7.holds_tied_plain_at .later [] [.data, .data, .data, .data, .sentinel, .sentinel, .pinned] true (true, "e13dca8d4619a64a69fa99222db8f18b16b74485258a6a257541940742401f67") true airRows_row_holds (fun _ h => by cases h) (by kernel_rfl) (fun _ h => by cases h) airRows_row_tie rfl ⟨rfl, rfl⟩ (by kernel_rfl) rfl
  (fun f fn hf hfn => by
   obtain rfl : f = 13 := Option.some.inj ((show Tryz.prog.funcNamed Tryz.f13.name = some 13 by kernel_rfl).symm.trans hf) |>.symm
   obtain rfl : fn = Tryz.f13 := (Option.some.inj (Tryz.func13.symm.trans hfn)).symm
   exact ⟨by kernel_rfl, fun j t ht => by
    rw [Tryz.params13] at ht
    have hm : t ∈ [61, 9, 3] := by simpa using Array.mem_of_getElem? ht
    have hall : ([61, 9, 3].all fun u => !Tryz.prog.wantsStandIn u) = true := by kernel_rfl
    exact (show Tryz.prog.wantsStandIn t = false by simpa using List.all_eq_true.1 hall t hm)⟩)
  (by kernel_rfl)
end Go.Proofs.YtlddakefmfcblaaGreatDoor
